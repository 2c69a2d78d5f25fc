/-
  What arctan, pi and Pi return. Conditions: the numbers are at most 1 of the grid; the precisions are those that the program uses.
  Contracts of package elem: whole parts of quotients; numbers of a remainder modulo 4 in a range; Turns. Conditions: the sizes are those that the program uses.
  What Turns returns. Conditions: the ends are numbers as they come in.
  Quarter turns in a range: a wide range has them; a wider one has what a narrower one has. Plain. Conditions: none.
  The reference's helpers of layer 2: natural numbers, quotients rounded, numbers of a grid; its domains and exact values. Conditions: the values are natural numbers (N16) and numbers (Qr).
  The reference of layer 2: its grid, the series of the arctangent, pi. Conditions: the values are natural numbers (N16) and numbers (Qr).
  The statements' helper right; the reference's domains and exact values. Conditions: the values are numbers (Cn, Qr).
  Contracts of package elem: the argument of exp made ready; what Exp returns. Conditions: the argument is small enough, the value is not exact.
  The statements' check of one bracket (sane); the statement ElemPi. Conditions: none.
-/
import Derived.Test.YtmibfkpalmmheaaGreatDoorK24f055PkD
import Derived.Test.YtmibfkpalmmheaaGreatDoorK49590aPkK
import Derived.Test.YtmibfkpalmmheaaGreatDoorKc0316bPkJ
set_option linter.unusedVariables false
set_option linter.unusedSimpArgs false
namespace Go.Q
open Go.Proofs
set_option maxRecDepth 100000
set_option maxHeartbeats 8000000
theorem at1 {h : PH} {b : Nat} {v : Value} (hb : h b = some #[v]) : h.at ⟨b, 0, none⟩ = some v := by simp [PH.at, hb]
theorem pow_2w (w : Nat) : 2 ^ (2 * w) = 2 ^ w * 2 ^ w := by rw [Nat.two_mul, Nat.pow_add]
theorem EArctan_spec {h0 h : PH} [Le h0 h] {v : Value} {a b w : Nat} (hv : Pr h0 v a b) (la : a ≤ 2 ^ w) (lb : b ≤ 2 ^ w) (hw : 20 ≤ w) (hw' : w ≤ 1000) : Spec mach 65 #[v, .int .i64 w] h (fun v h' => Pr h' v (arcL a b w) (arcH a b w)) NP := by
  have hv0 := hv
  obtain ⟨x, m, c, y, n, d, rfl, k1, k2⟩ := hv
  have ba : bl a ≤ w + 2 := bl_pow_le (by omega)
  have bb : bl b ≤ w + 2 := bl_pow_le (by omega)
  obtain ⟨bs, bt⟩ := bl_sq (a := a) la
  obtain ⟨bs', bt'⟩ := bl_sq (a := b) lb
  have hs := sqL_le la
  have ht := sqH_le lb
  have u1 := bl_pow2 w
  have u2 := bl_pow2 (2 * w)
  have u3 := bl_mul (2 ^ w) 81
  have u4 := bl_mul (sqH b w) 79
  have u5 : bl (2 ^ w * 81 - sqH b w * 79) ≤ bl (2 ^ w * 81) := bl_mono (Nat.sub_le _ _)
  have u6 : bl 81 = 7 := by decide
  have u7 : bl 79 = 7 := by decide
  have u8 : bl 6399 = 13 := by decide
  have bA : ∀ {j c}, j ≤ 39 → bl (arcV w (sqL a w) (sqH b w) c j) ≤ w + 2 := fun hj => bl_arcV hj
  have sA : ∀ {j}, j < 39 → _ := fun {j} hj => arcV_sub (j := j) hw hs ht hj
  have h79 : sqH b w * 79 ≤ 2 ^ w * 81 := by omega
  clear hs la lb
  have F := Hid.mk (And.intro ba (And.intro bb (And.intro bs (And.intro bt (And.intro bs' (And.intro bt' (And.intro ht (And.intro u1 (And.intro u2 (And.intro u3 (And.intro u4 (And.intro u5 (And.intro u6 (And.intro u7 (And.intro u8 h79))))))))))))))); clear ba bb bs bt bs' bt' ht u1 u2 u3 u4 u5 u6 u7 u8 h79
  refine Spec.go [(3, .o [0, 4, 5, 6, 1, 2, 3, 7, 8, 9]), (9, .o [0, 1, 3, 4, 5, 7, 2, 6, 8, 9, 10]), (10, .o [0, 1, 3, 4, 5, 7, 2, 6, 8, 9, 10]), (12, .o [0, 1, 2, 4, 6, 7, 8, 10, 3, 5, 9, 11, 12, 13])] Tryz.func65 rfl rfl (by kernel_rfl) fun C _ => ?_
  try simp (disch := omega) only [go_sem, Nat.reduceBEq, Nat.reduceAdd]
  refine caN (by exact PSquare_spec hv0 (by have := F.out; omega) (by have := F.out; omega) (by have := F.out; omega)) ?_; rintro v1 h1 s1 ⟨x1, m1, c1, y1, n1, d1, rfl, q1, q2⟩; have q1 : N32 h1 (.slice x1 m1 c1) (sqL a w) := q1; have q2 : N32 h1 (.slice y1 n1 d1) (sqH b w) := q2
  try simp (disch := omega) only [go_sem, Nat.reduceBEq, Nat.reduceAdd]
  refine caN (by exact Small_spec (n := 79) (by decide)) ?_; rintro _ h2 _ q3; obtain ⟨v2, _, _, rfl, q3⟩ := q3.sl
  try simp (disch := omega) only [go_sem, Nat.reduceBEq, Nat.reduceAdd]
  refine caN (by exact Unit_spec (w := w) (by have := F.out; omega)) ?_; rintro _ h3 _ q4; obtain ⟨v3, _, _, rfl, q4⟩ := q4.sl
  try simp (disch := omega) only [go_sem, Nat.reduceBEq, Nat.reduceAdd]
  refine caN (by exact Small_spec (n := 81) (by decide)) ?_; rintro _ h4 _ q5; obtain ⟨v4, _, _, rfl, q5⟩ := q5.sl
  try simp (disch := omega) only [go_sem, Nat.reduceBEq, Nat.reduceAdd]
  refine caN (by exact Mul_spec (q4.to (h' := h4)) q5 (by have := F.out; omega) (by have := F.out; omega)) ?_; rintro _ h5 _ q6; obtain ⟨v5, _, _, rfl, q6⟩ := q6.sl
  try simp (disch := omega) only [go_sem, Nat.reduceBEq, Nat.reduceAdd]
  refine caN (by exact Mul_spec (q2.to (h' := h5)) (q3.to (h' := h5)) (show bl (sqH b w) ≤ 2 ^ 40 by have := F.out; omega) (by have := F.out; omega)) ?_; rintro _ h6 _ q7; obtain ⟨v6, _, _, rfl, q7⟩ := q7.sl
  try simp (disch := omega) only [go_sem, Nat.reduceBEq, Nat.reduceAdd]
  refine caN (by exact Sub_spec (q6.to (h' := h6)) q7 (show sqH b w * 79 ≤ 2 ^ w * 81 by have := F.out; omega) (by have := F.out; omega)) ?_; rintro _ h7 _ q8; obtain ⟨v7, _, _, rfl, q8⟩ := q8.sl
  try simp (disch := omega) only [go_sem, Nat.reduceBEq, Nat.reduceAdd]
  refine caN (by exact Small_spec (n := 6399) (by decide)) ?_; rintro _ h8 _ q9; obtain ⟨_, _, _, rfl, q9⟩ := q9.sl
  try simp (disch := omega) only [go_sem, Nat.reduceBEq, Nat.reduceAdd]
  refine caN (by exact EOver_spec (c := false) (q8.to (h' := h8)) q9 (by decide) (show bl (2 ^ w * 81 - sqH b w * 79) ≤ 2 ^ 36 by have := F.out; omega) (by have := F.out; omega)) ?_; rintro _ h9 _ q10; obtain ⟨v9, v9_l, v9_c, rfl, q10⟩ := q10.sl
  try simp (disch := omega) only [go_sem, Nat.reduceBEq, Nat.reduceAdd]
  refine caN (by exact Unit_spec (w := w) (by have := F.out; omega)) ?_; rintro _ h10 _ q11; obtain ⟨v10, _, _, rfl, q11⟩ := q11.sl
  try simp (disch := omega) only [go_sem, Nat.reduceBEq, Nat.reduceAdd]
  refine caN (by exact EOver_spec (c := true) q11 (q3.to (h' := h10)) (by decide) (by have := F.out; omega) (by have := F.out; omega)) ?_; rintro _ h11 _ q12; obtain ⟨v11, v11_l, v11_c, rfl, q12⟩ := q12.sl
  try simp (disch := omega) only [go_sem, Nat.reduceBEq, Nat.reduceAdd]
  refine lp [(3, .o [0, 4, 5, 6, 1, 2, 3, 7, 8, 9]), (9, .o [0, 1, 3, 4, 5, 7, 2, 6, 8, 9, 10]), (10, .o [0, 1, 3, 4, 5, 7, 2, 6, 8, 9, 10]), (12, .o [0, 1, 2, 4, 6, 7, 8, 10, 3, 5, 9, 11, 12, 13])] (fun x' : Value × Value × Nat => ⟨[(1, .v (.int .i64 w)), (2, .p 0 0), (4, .p 1 0), (5, .p 2 0), (8, .v x'.1), (9, .v x'.2.1), (10, .v (.int .i64 ((x'.2.2 : Int) - 1)))], [[.slice x m c, .slice y n d], [.slice none 0 0, .slice none 0 0], [.slice x1 m1 c1, .slice y1 n1 d1]]⟩) (fun x' h' => Le h1 h' ∧ x'.2.2 ≤ 39 ∧ N32 h' x'.1 (arcV w (sqL a w) (sqH b w) false (39 - x'.2.2)) ∧ N32 h' x'.2.1 (arcV w (sqL a w) (sqH b w) true (39 - x'.2.2))) (fun x' => x'.2.2) (.slice v9 v9_l v9_c, .slice v11 v11_l v11_c, 39) ?_ ⟨inferInstance, Nat.le_refl _, by show N32 _ _ (arcV _ _ _ _ (39 - 39)); rw [Nat.sub_self, arcV_0]; exact q10.to, by show N32 _ _ (arcV _ _ _ _ (39 - 39)); rw [Nat.sub_self, arcV_0']; exact q12⟩ (by kernel_rfl) ?_
  · try simp (disch := omega) only [go_sem, Nat.reduceBEq, Nat.reduceAdd]
    all_goals rfl
  rintro ⟨va, vb, i⟩ g0 ⟨le0, hi, hl, hh⟩
  dsimp only at hi hl hh ⊢
  cases i with
  | zero =>
    rw [Nat.sub_zero] at hl hh
    have b1 := bA (j := 39) (c := false) (Nat.le_refl _)
    have b2 := bA (j := 39) (c := true) (Nat.le_refl _)
    have b3 := bl_mul a (arcV w (sqL a w) (sqH b w) false 39)
    have b4 := bl_mul b (arcV w (sqL a w) (sqH b w) true 39)
    have le1 : Le h0 g0 := Le.trn inferInstance le0
    obtain ⟨_, _, _, rfl, hl⟩ := hl.sl
    obtain ⟨_, _, _, rfl, hh⟩ := hh.sl
    have F := Hid.mk (And.intro F.out (And.intro b1 (And.intro b2 (And.intro b3 b4)))); clear b1 b2 b3 b4
    try simp (disch := omega) only [go_sem, Nat.reduceBEq, Nat.reduceAdd]
    refine caN (by exact Mul_spec (k1.to (h' := g0)) hl (by have := F.out; omega) (show bl (arcV w (sqL a w) (sqH b w) false 39) ≤ 2 ^ 40 by have := F.out; omega)) ?_; rintro _ g1 _ r1; obtain ⟨w1, _, _, rfl, r1⟩ := r1.sl
    try simp (disch := omega) only [go_sem, Nat.reduceBEq, Nat.reduceAdd]
    refine caN (by exact Shr_spec (n := w) r1 (show bl (a * arcV w (sqL a w) (sqH b w) false 39) ≤ 2 ^ 40 by have := F.out; omega) (by have := F.out; omega)) ?_; rintro _ g2 _ r2; obtain ⟨w2, _, _, rfl, r2⟩ := r2.sl
    try simp (disch := omega) only [go_sem, Nat.reduceBEq, Nat.reduceAdd]
    refine caN (by exact Mul_spec (k2.to (h' := g2)) (hh.to (h' := g2)) (by have := F.out; omega) (show bl (arcV w (sqL a w) (sqH b w) true 39) ≤ 2 ^ 40 by have := F.out; omega)) ?_; rintro _ g3 _ r3; obtain ⟨w3, _, _, rfl, r3⟩ := r3.sl
    try simp (disch := omega) only [go_sem, Nat.reduceBEq, Nat.reduceAdd]
    refine caN (by exact EUp_spec (n := w) r3 (show bl (b * arcV w (sqL a w) (sqH b w) true 39) ≤ 2 ^ 39 by have := F.out; omega) (by have := F.out; omega)) ?_; rintro _ g4 _ r4; obtain ⟨w4, _, _, rfl, r4⟩ := r4.sl
    try simp (disch := omega) only [go_sem, Nat.reduceBEq, Nat.reduceAdd]
    exact ⟨_, _, _, _, _, _, rfl, r2.to, r4⟩
  | succ i =>
    obtain ⟨j, hj, ej⟩ : ∃ j, j < 39 ∧ 39 - (i + 1) = j := ⟨_, by have := F.out; omega, rfl⟩
    have en : 39 - i = j + 1 := by have := F.out; omega
    have eo : 77 - 2 * j = 2 * i + 1 := by have := F.out; omega
    rw [ej] at hl hh
    obtain ⟨s1', s2'⟩ := sA hj
    rw [eo] at s1' s2'
    have b1 := bA (j := j) (c := false) (by have := F.out; omega)
    have b2 := bA (j := j) (c := true) (by have := F.out; omega)
    have b3 : bl (2 * i + 1) ≤ 7 := bl_le.2 (by have := F.out; omega)
    have b4 := bl_mul (sqH b w) (arcV w (sqL a w) (sqH b w) true j)
    have b5 := bl_mul (sqL a w) (arcV w (sqL a w) (sqH b w) false j)
    have b6 := bl_mul (sqH b w * arcV w (sqL a w) (sqH b w) true j) (2 * i + 1)
    have b7 := bl_mul (sqL a w * arcV w (sqL a w) (sqH b w) false j) (2 * i + 1)
    have b8 : bl (2 ^ (2 * w) - sqH b w * arcV w (sqL a w) (sqH b w) true j * (2 * i + 1)) ≤ _ := bl_mono (Nat.sub_le _ _)
    have b9 : bl (2 ^ (2 * w) - sqL a w * arcV w (sqL a w) (sqH b w) false j * (2 * i + 1)) ≤ _ := bl_mono (Nat.sub_le _ _)
    have b10 := bl_shl (2 * i + 1) w
    have n0 : Hid ((2 * i + 1) * 2 ^ w ≠ 0) := ⟨Nat.mul_ne_zero (by have := F.out; omega) (pow2_ne w)⟩
    have s1' := Hid.mk s1'
    have s2' := Hid.mk s2'
    have eo := Hid.mk eo
    have en := Hid.mk en
    clear ej hj
    have F := Hid.mk (And.intro F.out (And.intro b1 (And.intro b2 (And.intro b3 (And.intro b4 (And.intro b5 (And.intro b6 (And.intro b7 (And.intro b8 (And.intro b9 b10)))))))))); clear b1 b2 b3 b4 b5 b6 b7 b8 b9 b10
    try simp (disch := omega) only [go_sem, Nat.reduceBEq, Nat.reduceAdd]
    refine caN (by exact Small_spec (n := 2 * i + 1) (by have := F.out; omega)) ?_; rintro _ g1 _ r1; obtain ⟨w1, _, _, rfl, r1⟩ := r1.sl
    try simp (disch := omega) only [go_sem, Nat.reduceBEq, Nat.reduceAdd]
    refine caN (by exact Unit_spec (w := 2 * w) (by have := F.out; omega)) ?_; rintro _ g2 _ r2; obtain ⟨w2, _, _, rfl, r2⟩ := r2.sl
    try simp (disch := omega) only [go_sem, Nat.reduceBEq, Nat.reduceAdd]
    refine caN (by exact Mul_spec (q2.to (h' := g2)) (hh.to (h' := g2)) (show bl (sqH b w) ≤ 2 ^ 40 by have := F.out; omega) (by have := F.out; omega)) ?_; rintro _ g3 _ r3; obtain ⟨w3, _, _, rfl, r3⟩ := r3.sl
    try simp (disch := omega) only [go_sem, Nat.reduceBEq, Nat.reduceAdd]
    refine caN (by exact Mul_spec r3 (r1.to (h' := g3)) (show bl (sqH b w * arcV w (sqL a w) (sqH b w) true j) ≤ 2 ^ 40 by have := F.out; omega) (by have := F.out; omega)) ?_; rintro _ g4 _ r4; obtain ⟨w4, _, _, rfl, r4⟩ := r4.sl
    try simp (disch := omega) only [go_sem, Nat.reduceBEq, Nat.reduceAdd]
    refine caN (by exact Sub_spec (r2.to (h' := g4)) r4 (by rw [pow_2w]; exact s1'.out) (by have := F.out; omega)) ?_; rintro _ g5 _ r5; obtain ⟨w5, _, _, rfl, r5⟩ := r5.sl
    try simp (disch := omega) only [go_sem, Nat.reduceBEq, Nat.reduceAdd]
    refine caN (by exact Unit_spec (w := 2 * w) (by have := F.out; omega)) ?_; rintro _ g6 _ r6; obtain ⟨w6, _, _, rfl, r6⟩ := r6.sl
    try simp (disch := omega) only [go_sem, Nat.reduceBEq, Nat.reduceAdd]
    refine caN (by exact Mul_spec (q1.to (h' := g6)) (hl.to (h' := g6)) (show bl (sqL a w) ≤ 2 ^ 40 by have := F.out; omega) (by have := F.out; omega)) ?_; rintro _ g7 _ r7; obtain ⟨w7, _, _, rfl, r7⟩ := r7.sl
    try simp (disch := omega) only [go_sem, Nat.reduceBEq, Nat.reduceAdd]
    refine caN (by exact Mul_spec r7 (r1.to (h' := g7)) (show bl (sqL a w * arcV w (sqL a w) (sqH b w) false j) ≤ 2 ^ 40 by have := F.out; omega) (by have := F.out; omega)) ?_; rintro _ g8 _ r8; obtain ⟨w8, _, _, rfl, r8⟩ := r8.sl
    try simp (disch := omega) only [go_sem, Nat.reduceBEq, Nat.reduceAdd]
    refine caN (by exact Sub_spec (r6.to (h' := g8)) r8 (by rw [pow_2w]; exact s2'.out) (by have := F.out; omega)) ?_; rintro _ g9 _ r9; obtain ⟨w9, _, _, rfl, r9⟩ := r9.sl
    try simp (disch := omega) only [go_sem, Nat.reduceBEq, Nat.reduceAdd]
    refine caN (by exact Shl_spec (n := w) (r1.to (h' := g9)) (by have := F.out; omega)) ?_; rintro _ g10 _ r10; obtain ⟨w10, _, _, rfl, r10⟩ := r10.sl
    try simp (disch := omega) only [go_sem, Nat.reduceBEq, Nat.reduceAdd]
    refine caN (by exact EOver_spec (c := false) (r5.to (h' := g10)) r10 n0.out (show bl (2 ^ (2 * w) - sqH b w * arcV w (sqL a w) (sqH b w) true j * (2 * i + 1)) ≤ 2 ^ 36 by have := F.out; omega) (by have := F.out; omega)) ?_; rintro _ g11 _ r11; obtain ⟨w11, w11_l, w11_c, rfl, r11⟩ := r11.sl
    try simp (disch := omega) only [go_sem, Nat.reduceBEq, Nat.reduceAdd]
    refine caN (by exact Shl_spec (n := w) (r1.to (h' := g11)) (by have := F.out; omega)) ?_; rintro _ g12 _ r12; obtain ⟨w12, _, _, rfl, r12⟩ := r12.sl
    try simp (disch := omega) only [go_sem, Nat.reduceBEq, Nat.reduceAdd]
    refine caN (by exact EOver_spec (c := true) (r9.to (h' := g12)) r12 n0.out (show bl (2 ^ (2 * w) - sqL a w * arcV w (sqL a w) (sqH b w) false j * (2 * i + 1)) ≤ 2 ^ 36 by have := F.out; omega) (by have := F.out; omega)) ?_; rintro _ g13 _ r13; obtain ⟨w13, w13_l, w13_c, rfl, r13⟩ := r13.sl
    try simp (disch := omega) only [go_sem, Nat.reduceBEq, Nat.reduceAdd]
    dsimp only [lpE]; refine ⟨(.slice w11 w11_l w11_c, .slice w13 w13_l w13_c, i), ?_, ⟨Le.trn le0 inferInstance, (show i ≤ 39 by have := F.out; omega), ?_, ?_⟩, (show i < i + 1 by have := F.out; omega)⟩
    · try simp (disch := omega) only [go_sem, Nat.reduceBEq, Nat.reduceAdd]
      all_goals rfl
    · show N32 _ _ (arcV _ _ _ false (39 - i))
      rw [en.out, arcV_s, eo.out, ← pow_2w]
      exact r11.to
    · show N32 _ _ (arcV _ _ _ true (39 - i))
      rw [en.out, arcV_s', eo.out, ← pow_2w]
      exact r13
theorem Pi1_spec {h : PH} {n w b : Nat} (hb : h b = some #[.int .i64 w]) (hn : n ≠ 0) (hn' : n < 2 ^ 60) (hw : 20 ≤ w) (hw' : w ≤ 1000) : Spec mach 64 #[.int .u64 n, .pointer (some ⟨b, 0, none⟩)] h (fun v h' => Pr h' v (fifL n w) (fifH n w)) NP := by
  obtain ⟨l1, l2⟩ := fif_le n (w := w) hn
  have u1 := bl_pow2 w
  have u2 : bl n ≤ 60 := bl_le.2 hn'
  have l1 := Hid.mk l1
  have l2 := Hid.mk l2
  have hn := Hid.mk hn
  have F := Hid.mk (And.intro u1 u2); clear u1 u2
  refine Spec.go [(1, .o [0, 2, 5, 7, 11, 1, 3, 4, 6, 8, 9, 10, 12, 13])] Tryz.func64 rfl rfl (by kernel_rfl) fun C _ => ?_
  try simp (disch := omega) only [go_sem, Nat.reduceBEq, Nat.reduceAdd]
  refine ld1_of (at1 hb) ?_
  try simp (disch := omega) only [go_sem, Nat.reduceBEq, Nat.reduceAdd]
  refine ld1_of (at1 hb) ?_
  try simp (disch := omega) only [go_sem, Nat.reduceBEq, Nat.reduceAdd]
  refine ld1_of (at1 hb) ?_
  try simp (disch := omega) only [go_sem, Nat.reduceBEq, Nat.reduceAdd]
  refine caN (by exact Unit_spec (w := w) (by have := F.out; omega)) ?_; rintro _ h1 _ q1; obtain ⟨v1, _, _, rfl, q1⟩ := q1.sl
  try simp (disch := omega) only [go_sem, Nat.reduceBEq, Nat.reduceAdd]
  refine caN (by exact Small_spec (n := n) (by have := F.out; omega)) ?_; rintro _ h2 _ q2; obtain ⟨v2, _, _, rfl, q2⟩ := q2.sl
  try simp (disch := omega) only [go_sem, Nat.reduceBEq, Nat.reduceAdd]
  refine caN (by exact EOver_spec (c := false) (q1.to (h' := h2)) q2 hn.out (by have := F.out; omega) (by have := F.out; omega)) ?_; rintro _ h3 _ q3; obtain ⟨v3, _, _, rfl, q3⟩ := q3.sl
  try simp (disch := omega) only [go_sem, Nat.reduceBEq, Nat.reduceAdd]
  refine caN (by exact Unit_spec (w := w) (by have := F.out; omega)) ?_; rintro _ h4 _ q4; obtain ⟨v4, _, _, rfl, q4⟩ := q4.sl
  try simp (disch := omega) only [go_sem, Nat.reduceBEq, Nat.reduceAdd]
  refine caN (by exact Small_spec (n := n) (by have := F.out; omega)) ?_; rintro _ h5 _ q5; obtain ⟨v5, _, _, rfl, q5⟩ := q5.sl
  try simp (disch := omega) only [go_sem, Nat.reduceBEq, Nat.reduceAdd]
  refine caN (by exact EOver_spec (c := true) (q4.to (h' := h5)) q5 hn.out (by have := F.out; omega) (by have := F.out; omega)) ?_; rintro _ h6 _ q6; obtain ⟨v6, _, _, rfl, q6⟩ := q6.sl
  try simp (disch := omega) only [go_sem, Nat.reduceBEq, Nat.reduceAdd]
  refine caN (by exact EArctan_spec (a := 2 ^ w / n) (b := cdiv (2 ^ w) n) (w := w) ⟨_, _, _, _, _, _, rfl, q3.to (h' := h6), q6⟩ l1.out l2.out hw hw') ?_; rintro v7 h7 s7 ⟨_, _, _, _, _, _, rfl, r1, r2⟩
  try simp (disch := omega) only [go_sem, Nat.reduceBEq, Nat.reduceAdd]
  exact ⟨_, _, _, _, _, _, rfl, r1, r2⟩
theorem EPi_spec {h : PH} {w : Nat} (hw : 32 ≤ w) (hw' : w ≤ 192) : Spec mach 19 #[.int .i64 w] h (fun v h' => Pr h' v (piL w) (piH w)) NP := by
  obtain ⟨z1, z2, _, _⟩ := pi_sub hw hw'
  obtain ⟨b1, b2⟩ := bl_fif (n := 5) (w := w) (by decide)
  obtain ⟨b3, b4⟩ := bl_fif (n := 239) (w := w) (by decide)
  have b5 := bl_shl (fifL 5 w) 4
  have b6 := bl_shl (fifH 5 w) 4
  have F := Hid.mk (And.intro z1 (And.intro z2 (And.intro b1 (And.intro b2 (And.intro b3 (And.intro b4 (And.intro b5 b6))))))); clear z1 z2 b1 b2 b3 b4 b5 b6
  refine Spec.go [(3, .o [0, 1, 2, 3, 5, 6, 7, 8, 4, 9, 10, 11]), (1, .t (.p 0 (.s [0, 1] .d)))] Tryz.func19 rfl rfl (by kernel_rfl) fun C _ => ?_
  try simp (disch := omega) only [go_sem, Nat.reduceBEq, Nat.reduceAdd]
  intro b h1 st1 hb
  try simp (disch := omega) only [go_sem, Nat.reduceBEq, Nat.reduceAdd]
  have hb := hb (by simp)
  try simp (disch := omega) only [go_sem, Nat.reduceBEq, Nat.reduceAdd]
  refine caN (by exact Pi1_spec (n := 5) (w := w) hb (by decide) (by decide) (by have := F.out; omega) (by have := F.out; omega)) ?_; rintro v2 h2 st2 ⟨_, _, _, _, _, _, rfl, q1, q2⟩
  try simp (disch := omega) only [go_sem, Nat.reduceBEq, Nat.reduceAdd]
  refine caN (by exact PTimes_spec (n := 4) ⟨_, _, _, _, _, _, rfl, q1, q2⟩ (by have := F.out; omega) (by have := F.out; omega) (by decide)) ?_; rintro v3 h3 st3 ⟨_, _, _, _, _, _, rfl, q3, q4⟩
  try simp (disch := omega) only [go_sem, Nat.reduceBEq, Nat.reduceAdd]
  refine caN (by exact Pi1_spec (n := 239) (w := w) (st3.sub _ _ (st2.sub _ _ hb)) (by decide) (by decide) (by have := F.out; omega) (by have := F.out; omega)) ?_; rintro v4 h4 st4 ⟨_, _, _, _, _, _, rfl, q5, q6⟩
  try simp (disch := omega) only [go_sem, Nat.reduceBEq, Nat.reduceAdd]
  refine caN (by exact PTimes_spec (n := 2) ⟨_, _, _, _, _, _, rfl, q5, q6⟩ (by have := F.out; omega) (by have := F.out; omega) (by decide)) ?_; rintro v5 h5 st5 ⟨_, _, _, _, _, _, rfl, q7, q8⟩
  try simp (disch := omega) only [go_sem, Nat.reduceBEq, Nat.reduceAdd]
  refine caN (by exact Sub_spec (q3.to (h' := h5)) q8 (by have := F.out; omega) (by have := F.out; omega)) ?_; rintro _ h6 _ q9; obtain ⟨v6, _, _, rfl, q9⟩ := q9.sl
  try simp (disch := omega) only [go_sem, Nat.reduceBEq, Nat.reduceAdd]
  refine caN (by exact Sub_spec (q4.to (h' := h6)) (q7.to (h' := h6)) (by have := F.out; omega) (by have := F.out; omega)) ?_; rintro _ h7 _ q10; obtain ⟨v7, _, _, rfl, q10⟩ := q10.sl
  try simp (disch := omega) only [go_sem, Nat.reduceBEq, Nat.reduceAdd]
  exact ⟨_, _, _, _, _, _, rfl, q9.to, q10⟩
end Go.Q
namespace Go.Q
open Go.Proofs
set_option maxRecDepth 100000
set_option maxHeartbeats 8000000
theorem sz_whole {z : Int} (hz : z.natAbs < 2 ^ 62) : sz (z : Rat) ≤ 2048 := by
  unfold sz
  have e1 : bl ((z : Rat).num.natAbs) ≤ 64 := bl_le.2 (by simp; omega)
  have e2 : bl ((z : Rat).den) ≤ 64 := bl_le.2 (by simp)
  omega
theorem orI_0 {m : Nat} (h : m < 4294967296) : orI .i64 0 (m : Int) = (m : Int) := by
  unfold orI
  rw [BitVec.toNat_or]
  rw [show IntKind.i64.bits = 64 from rfl, ofInt_toNat 64 m (by omega)]
  have : (BitVec.ofInt 64 0).toNat = 0 := by decide
  rw [this, Nat.zero_or, wi64 (by omega) (by omega)]
def qt (x y : Rat) (u : Bool) : Int := if u then (x * y⁻¹).ceil else (x * y⁻¹).floor
theorem W_1 {m : Nat} (h0 : m ≠ 0) (h : m < 4294967296) : W 4294967296 m = [m] := by
  rw [W_pos (by decide) h0, Nat.mod_eq_of_lt h, Nat.div_eq_of_lt h, W_zero]
theorem N32.one {h : PH} {a : Option Addr} {l c m : Nat} (r : N32 h (.slice a l c) m) (h0 : m ≠ 0) (hm : m < 4294967296) : ∃ ad, a = some ad ∧ l = 1 ∧ h.at (ad.add 0) = some (.int .u32 m) := by
  obtain ⟨a', c', e, r⟩ := r
  cases e
  rw [W_1 h0 hm] at r ⊢
  obtain ⟨ad, rfl, e⟩ := r.get (i := 0) (by simp)
  exact ⟨ad, rfl, rfl, e⟩
theorem EQuot_spec {h0 h : PH} [Le h0 h] {v w : Value} {x y : Rat} {u : Bool} (hx : Cn h0 v x) (hy : Cn h0 w y) (sx : sz x ≤ 1024) (sy : sz y ≤ 400) (y0 : y ≠ 0) (hb : (qt x y u).natAbs < 4294967296) :
    Spec mach 34 #[v, w, .bool u] h (fun r _ => r = .int .i64 (qt x y u)) NP := by
  have kD := fun {h} [Le h0 h] => NumDiv (h := h) (Rv.of hx (by omega)) (Rv.of hy (by omega)) y0
  have sq : sz (x * y⁻¹) ≤ 2048 := by have := sz_mul x y⁻¹; have := sz_inv y; omega
  have kF : ∀ {h1 h : PH} {q : Value} [Le h1 h], Cn h1 q (x * y⁻¹) → (u = false → Spec mach 95 #[q] h (fun r h' => ∃ b na nl nc da dl dc, r = .tuple #[.agg #[.bool b, .slice na nl nc, .slice da dl dc], .int .i64 0] ∧ Cn h' (.agg #[.bool b, .slice na nl nc, .slice da dl dc]) ((qt x y u : Int) : Rat)) NP) ∧ (u = true → Spec mach 94 #[q] h (fun r h' => ∃ b na nl nc da dl dc, r = .tuple #[.agg #[.bool b, .slice na nl nc, .slice da dl dc], .int .i64 0] ∧ Cn h' (.agg #[.bool b, .slice na nl nc, .slice da dl dc]) ((qt x y u : Int) : Rat)) NP) := by
    intro h1 h q _ hq
    refine ⟨?_, ?_⟩ <;> rintro rfl
    · exact (NumFloor (Rv.of hq sq)).mono (fun r h' _ k => Nc.ok k (sz_whole (z := qt x y false) (by omega))) (fun _ _ _ k => k)
    · exact (NumCeil (Rv.of hq sq)).mono (fun r h' _ k => Nc.ok k (sz_whole (z := qt x y true) (by omega))) (fun _ _ _ k => k)
  generalize qt x y u = z at hb kF ⊢
  have en : ((z : Rat)).num = z := Rat.num_intCast z
  obtain ⟨x1, x2, x3, x4, x5, x6, x7, rfl, _⟩ := hx.sa
  obtain ⟨y1, y2, y3, y4, y5, y6, y7, rfl, _⟩ := hy.sa
  clear hx hy sx sy
  cases u
  all_goals
    refine Spec.go [] Tryz.func34 rfl rfl (by kernel_rfl) fun C _ => ?_
    try simp (disch := omega) only [go_sem, Nat.reduceBEq, Nat.reduceAdd]
    refine caN (by exact kD) ?_; rintro v1 h1 s1 q1; obtain ⟨_, _, _, _, _, _, _, rfl, c1⟩ := q1.ok sq
    try simp (disch := omega) only [go_sem, Nat.reduceBEq, Nat.reduceAdd]
    first
      | (refine caN (by exact (kF c1).1 rfl) ?_; rintro v2 h2 s2 ⟨_, na, nl, nc, da, dl, dc, rfl, c2⟩)
      | (refine caN (by exact (kF c1).2 rfl) ?_; rintro v2 h2 s2 ⟨_, na, nl, nc, da, dl, dc, rfl, c2⟩)
    obtain ⟨_, _, _, _, _, _, e, hn, _, e1, _⟩ := c2.parts
    cases e
    rw [en] at hn ⊢
    clear kF kD c1 c2
    by_cases h0 : z = 0
    · subst h0
      obtain rfl : nl = 0 := e1.2 rfl
      rw [show decide ((0 : Int) < 0) = false from rfl]
      try simp (disch := omega) only [go_sem, Nat.reduceBEq, Nat.reduceAdd]
      refine lp [] (fun _ : Nat => ⟨[(7, .p 2 0), (9, .v (.int .i64 0)), (10, .v (.int .i64 (-1)))], [[.bool x1, .slice x2 x3 x4, .slice x5 x6 x7], [.bool y1, .slice y2 y3 y4, .slice y5 y6 y7], [.bool false, .slice na 0 nc, .slice da dl dc]]⟩) (fun _ _ => True) id 0 ?_ trivial (by kernel_rfl) ?_
      · try simp (disch := omega) only [go_sem, Nat.reduceBEq, Nat.reduceAdd]
        all_goals rfl
      · intro x' h3 _
        try simp (disch := omega) only [go_sem, Nat.reduceBEq, Nat.reduceAdd]
    · obtain ⟨m, em⟩ : ∃ m, z.natAbs = m := ⟨_, rfl⟩
      rw [em] at hn hb
      have m0 : m ≠ 0 := by omega
      obtain ⟨ad, rfl, rfl, hat⟩ := hn.one m0 hb
      have ez : z = (if decide (z < 0) = true then -(m : Int) else (m : Int)) := by
        by_cases hz : z < 0
        · rw [decide_eq_true hz, if_pos rfl]; omega
        · rw [decide_eq_false hz, if_neg (by decide)]; omega
      generalize decide (z < 0) = s at ez ⊢
      rw [ez]
      clear ez en hn e1 em h0
      try simp (disch := omega) only [go_sem, Nat.reduceBEq, Nat.reduceAdd]
      refine lp [] (fun k : Nat => ⟨[(7, .p 2 0), (9, .v (.int .i64 (if k = 1 then 0 else (m : Int)))), (10, .v (.int .i64 ((k : Int) - 1)))], [[.bool x1, .slice x2 x3 x4, .slice x5 x6 x7], [.bool y1, .slice y2 y3 y4, .slice y5 y6 y7], [.bool s, .slice (some ad) 1 nc, .slice da dl dc]]⟩) (fun k h' => Le h2 h' ∧ k ≤ 1) id 1 ?_ ⟨inferInstance, Nat.le_refl _⟩ (by kernel_rfl) ?_
      · try simp (disch := omega) only [go_sem, Nat.reduceBEq, Nat.reduceAdd]
        all_goals rfl
      · rintro k h3 ⟨le3, hk⟩
        rcases (show k = 0 ∨ k = 1 by omega) with rfl | rfl
        · have ei : (if (0 : Nat) = 1 then (0 : Int) else (m : Int)) = (m : Int) := rfl
          cases s
          all_goals (try simp (disch := omega) only [go_sem, Nat.reduceBEq, Nat.reduceAdd, ei, Int.zero_sub])
          all_goals rfl
        · have hat3 := le3.sub.at hat
          rw [if_pos rfl]
          try simp (disch := omega) only [go_sem, Nat.reduceBEq, Nat.reduceAdd]
          refine ld1_of hat3 ?_
          try simp (disch := omega) only [go_sem, Nat.reduceBEq, Nat.reduceAdd, Int.zero_mul, orI_0 hb]
          dsimp only [lpE]; refine ⟨0, ?_, ⟨le3, by decide⟩, by decide⟩
          try simp (disch := omega) only [go_sem, Nat.reduceBEq, Nat.reduceAdd]
          all_goals (first | rfl | exact ⟨rfl, rfl⟩)
theorem tm4 (x : Int) : (x.tmod 4 + 4).tmod 4 = x % 4 ∧ -4 < x.tmod 4 ∧ x.tmod 4 < 4 := by
  have e := Int.tmod_eq_emod (a := x) (b := 4)
  have h1 := Int.emod_nonneg x (b := 4) (by decide)
  have h2 := Int.emod_lt_of_pos x (b := 4) (by decide)
  have h3 : (4 : Int).natAbs = 4 := rfl
  rw [h3] at e
  have h4 : -4 < x.tmod 4 ∧ x.tmod 4 < 4 := by rw [e]; split <;> omega
  refine ⟨?_, h4⟩
  rw [Int.tmod_eq_emod_of_nonneg (by omega), e]
  split <;> omega
def mt (a b r : Int) : Bool := decide (a + (r - a) % 4 ≤ b)
theorem Meets_spec {h : PH} {a b r : Int} (ha : -8589934592 ≤ a ∧ a ≤ 8589934592) (hr : 0 ≤ r ∧ r ≤ 3) : Spec mach 35 #[.int .i64 a, .int .i64 b, .int .i64 r] h (fun v _ => v = .bool (mt a b r)) NP := by
  obtain ⟨e1, l1, l2⟩ := tm4 (r - a)
  have m1 := Int.emod_nonneg (r - a) (b := 4) (by decide)
  have m2 := Int.emod_lt_of_pos (r - a) (b := 4) (by decide)
  unfold mt
  generalize (r - a) % 4 = z at *
  generalize et : (r - a).tmod 4 = t at *
  refine Spec.go [] Tryz.func35 rfl rfl (by kernel_rfl) fun C _ => ?_
  try simp (disch := omega) only [go_sem, Nat.reduceBEq, Nat.reduceAdd, et, e1]
def fP : Rat := sgn false (piL 192) (2 ^ 193)
def gP : Rat := sgn false (piH 192) (2 ^ 193)
theorem fP_ge : 3 / 2 ≤ fP := by
  unfold fP sgn
  rw [Rat.mkRat_eq_div]
  have := (piL_ge (w := 192) (by decide) (by decide)).1
  decide +kernel
theorem gP_ge : 3 / 2 ≤ gP := by decide +kernel
theorem fP_lt : fP < gP := by decide +kernel
theorem fP_sz : sz fP ≤ 400 := by decide +kernel
theorem gP_sz : sz gP ≤ 400 := by decide +kernel
theorem num_bd {x : Rat} (h : ¬ x.den * 4294967296 < x.num.natAbs) : -4294967296 ≤ x ∧ x ≤ 4294967296 := by
  have e : x = mkRat x.num x.den := (Rat.mkRat_self x).symm
  have hd : (0 : Rat) < (x.den : Rat) := by exact_mod_cast x.den_pos
  have e2 : x * (x.den : Rat) = (x.num : Rat) := by
    have key : ∀ (d n y : Rat), d ≠ 0 → y = n / d → y * d = n := fun d n y hd hy => by rw [hy]; exact Rat.div_mul_cancel hd
    have := Rat.mkRat_eq_div x.num x.den
    rw [← e] at this
    exact key _ _ _ (Rat.ne_of_gt hd) this
  have k1 : (x.num : Rat) ≤ 4294967296 * (x.den : Rat) := by
    have h1 : x.num ≤ 4294967296 * (x.den : Int) := by omega
    have h2 := Rat.intCast_le_intCast.2 h1
    rw [Rat.intCast_mul] at h2
    exact h2
  have k2 : -(4294967296 * (x.den : Rat)) ≤ (x.num : Rat) := by
    have h1 : -(4294967296 * (x.den : Int)) ≤ x.num := by omega
    have h2 := Rat.intCast_le_intCast.2 h1
    rw [Rat.intCast_neg, Rat.intCast_mul] at h2
    exact h2
  rw [← e2] at k1 k2
  constructor
  · refine Decidable.byContradiction fun hc => ?_
    have := Rat.mul_lt_mul_of_pos_right (show x < -4294967296 by grind) hd
    grind
  · refine Decidable.byContradiction fun hc => ?_
    have := Rat.mul_lt_mul_of_pos_right (show 4294967296 < x by grind) hd
    grind
theorem quo_bd {x y : Rat} (hx : -4294967296 ≤ x ∧ x ≤ 4294967296) (hy : 3 / 2 ≤ y) : -2863311531 ≤ x * y⁻¹ ∧ x * y⁻¹ ≤ 2863311531 := by
  have y0 : y ≠ 0 := by grind
  have e : x * y⁻¹ * y = x := by rw [Rat.mul_assoc, Rat.inv_mul_cancel _ y0, Rat.mul_one]
  generalize x * y⁻¹ = q at *
  have key : ∀ p : Rat, 2863311531 < p → ¬ p * y ≤ 4294967296 := by
    intro p hp hc
    have h1 : p * (3 / 2) ≤ p * y := Rat.mul_le_mul_of_nonneg_left hy (by grind)
    have h2 : 2863311531 * (3 / 2) ≤ p * (3 / 2) := Rat.mul_le_mul_of_nonneg_right (by grind) (by decide +kernel)
    grind
  constructor
  · refine Decidable.byContradiction fun hc => key (-q) (by grind) (by rw [Rat.neg_mul, e]; grind)
  · refine Decidable.byContradiction fun hc => key q (by grind) (by rw [e]; exact hx.2)
theorem floor_bd {q : Rat} {c : Int} (h : -(c : Rat) ≤ q ∧ q ≤ (c : Rat)) : -c ≤ q.floor ∧ q.floor ≤ c := by
  constructor
  · rw [Rat.le_floor_iff]
    exact_mod_cast h.1
  · have := Rat.le_trans (Rat.floor_le q) h.2
    exact_mod_cast this
theorem qt_bd {x y : Rat} {u : Bool} (hx : ¬ x.den * 4294967296 < x.num.natAbs) (hy : 3 / 2 ≤ y) : -2863311531 ≤ qt x y u ∧ qt x y u ≤ 2863311531 := by
  have h := quo_bd (num_bd hx) hy
  unfold qt
  cases u with
  | false => exact floor_bd (c := 2863311531) h
  | true =>
    have := floor_bd (q := -(x * y⁻¹)) (c := 2863311531) (by have e : ((2863311531 : Int) : Rat) = 2863311531 := rfl; rw [e]; grind)
    rw [if_pos rfl, Rat.ceil_eq_neg_floor_neg]
    omega
end Go.Q
namespace Go.Q
open Go.Proofs
set_option maxRecDepth 100000
set_option maxHeartbeats 16000000
def wideB (x : Rat) : Prop := 1024 < sz x ∨ x.den * 4294967296 < x.num.natAbs
instance (x : Rat) : Decidable (wideB x) := inferInstanceAs (Decidable (_ ∨ _))
def turnE (x y : Rat) (r : Int) : Int := if r < 0 ∨ 3 < r then 2 else if wideB x ∨ wideB y then 20 else 0
def tv1 (x y : Rat) (r : Int) : Bool := mt (if qt x gP true > 0 then qt x gP true else 0) (qt y fP false) r
def tv2 (x y : Rat) (r : Int) : Bool := mt (qt x fP true) (if qt y gP false < -1 then qt y gP false else -1) r
def turnB (x y : Rat) (r : Int) : Bool := if turnE x y r ≠ 0 ∨ y < x then false else tv1 x y r || tv2 x y r
theorem cmpQ_gt (x y : Rat) : decide (cmpQ x y > 0) = decide (y < x) := by unfold cmpQ; grind
theorem turn_r {x y : Rat} {r : Int} (h : r < 0 ∨ 3 < r) : turnE x y r = 2 ∧ turnB x y r = false := by
  have e : turnE x y r = 2 := by unfold turnE; rw [if_pos h]
  exact ⟨e, by unfold turnB; rw [if_pos (.inl (by rw [e]; decide))]⟩
theorem turn_w {x y : Rat} {r : Int} (h : ¬ (r < 0 ∨ 3 < r)) (hw : wideB x ∨ wideB y) : turnE x y r = 20 ∧ turnB x y r = false := by
  have e : turnE x y r = 20 := by unfold turnE; rw [if_neg h, if_pos hw]
  exact ⟨e, by unfold turnB; rw [if_pos (.inl (by rw [e]; decide))]⟩
theorem turn_0 {x y : Rat} {r : Int} (h : ¬ (r < 0 ∨ 3 < r)) (hw : ¬ (wideB x ∨ wideB y)) : turnE x y r = 0 ∧ (y < x → turnB x y r = false) ∧ (¬ y < x → turnB x y r = (tv1 x y r || tv2 x y r)) := by
  have e : turnE x y r = 0 := by unfold turnE; rw [if_neg h, if_neg hw]
  refine ⟨e, fun k => ?_, fun k => ?_⟩
  · unfold turnB; rw [if_pos (.inr k)]
  · unfold turnB; rw [if_neg (by rintro (c | c); exact c e; exact k c)]
theorem FTurns_ok {h0 h : PH} [Le h0 h] {v w : Value} {x y : Rat} {r : Int} (hx : Rv h0 v x) (hy : Rv h0 w y) : Spec mach 10 #[v, w, .int .i64 r] h (fun q _ => q = .tuple #[.bool (turnB x y r), .int .i64 (turnE x y r)]) NP := by
  have kC := fun {h} [Le h0 h] => NumCanon (h := h) hx
  have kD := fun {h} [Le h0 h] => NumCanon (h := h) hy
  have bx := Hid.mk hx.sz
  have by_ := Hid.mk hy.sz
  obtain ⟨_, _, _, _, _, _, _, rfl, _⟩ := hx.sa
  obtain ⟨_, _, _, _, _, _, _, rfl, _⟩ := hy.sa
  clear hx hy
  by_cases hr : r < 0 ∨ 3 < r
  · obtain ⟨eE, eB⟩ := turn_r (x := x) (y := y) hr
    rw [eE, eB]
    rcases hr with g | g
    all_goals
      refine Spec.go [(14, .t (.s [0, 1, 2, 3, 5, 6, 7, 8] (.a 4 (.a 9 (.a 10 (.a 11 (.a 12 (.a 13 .d .n) .n) .n) (.a 11 (.a 10 (.a 12 (.a 13 .d .n) .n) .n) .n)) (.a 10 (.a 9 (.a 11 (.a 12 (.a 13 .d .n) .n) .n) (.a 11 (.a 9 (.a 12 (.a 13 .d .n) .n) .n) .n)) (.a 11 (.a 9 (.a 10 (.a 12 (.a 13 .d .n) .n) .n) (.a 10 (.a 9 (.a 12 (.a 13 .d .n) .n) .n) .n)) .n))) (.a 10 (.a 4 (.a 9 (.a 11 (.a 12 (.a 13 .d .n) .n) .n) (.a 11 (.a 9 (.a 12 (.a 13 .d .n) .n) .n) .n)) (.a 11 (.a 4 (.a 9 (.a 12 (.a 13 .d .n) .n) .n) .n) .n)) (.a 11 (.a 4 (.a 9 (.a 10 (.a 12 (.a 13 .d .n) .n) .n) (.a 10 (.a 9 (.a 12 (.a 13 .d .n) .n) .n) .n)) (.a 10 (.a 4 (.a 9 (.a 12 (.a 13 .d .n) .n) .n) .n) .n)) .n))))), (15, .o [0, 1, 4, 5, 2, 3, 6, 7, 8]), (18, .o [0, 1, 3, 4, 7, 2, 5, 6, 8, 9, 10])] Tryz.func10 rfl rfl (by kernel_rfl) fun C _ => ?_
      try simp (maxSteps := 999999) (disch := omega) only [go_sem, Nat.reduceBEq, Nat.reduceAdd]
      refine caN (by exact kC) ?_; rintro v1 h1 s1 ⟨_, _, _, _, _, _, _, rfl, c1⟩
      try simp (maxSteps := 999999) (disch := omega) only [go_sem, Nat.reduceBEq, Nat.reduceAdd]
      refine caN (by exact kD) ?_; rintro v2 h2 s2 ⟨_, _, _, _, _, _, _, rfl, c2⟩
      try simp (maxSteps := 999999) (disch := omega) only [go_sem, Nat.reduceBEq, Nat.reduceAdd]
  · have T : wideB x ∨ wideB y → turnE x y r = 20 ∧ turnB x y r = false := turn_w hr
    have Z := turn_0 (x := x) (y := y) hr
    have r1 : 0 ≤ r := by omega
    have r2 : r ≤ 3 := by omega
    clear hr
    obtain ⟨bX, hX⟩ : ∃ b, b = decide (x.den * 4294967296 < x.num.natAbs) := ⟨_, rfl⟩
    obtain ⟨bY, hY⟩ : ∃ b, b = decide (y.den * 4294967296 < y.num.natAbs) := ⟨_, rfl⟩
    have kX : ∀ {h1 h : PH} {v : Value} [Le h1 h], Cn h1 v x → Spec mach 31 #[v, .int .u64 (4294967296 : Nat)] h (fun v _ => v = .bool bX) NP := fun c => by
      rw [hX]
      exact Beyond_spec (n := 4294967296) c (Nat.le_trans bx.out (by decide)) (by decide)
    have kY : ∀ {h1 h : PH} {v : Value} [Le h1 h], Cn h1 v y → Spec mach 31 #[v, .int .u64 (4294967296 : Nat)] h (fun v _ => v = .bool bY) NP := fun c => by
      rw [hY]
      exact Beyond_spec (n := 4294967296) c (Nat.le_trans by_.out (by decide)) (by decide)
    have hX := Hid.mk hX
    have hY := Hid.mk hY
    refine Spec.go [(14, .t (.s [0, 1, 2, 3, 5, 6, 7, 8] (.a 4 (.a 9 (.a 10 (.a 11 (.a 12 (.a 13 .d .n) .n) .n) (.a 11 (.a 10 (.a 12 (.a 13 .d .n) .n) .n) .n)) (.a 10 (.a 9 (.a 11 (.a 12 (.a 13 .d .n) .n) .n) (.a 11 (.a 9 (.a 12 (.a 13 .d .n) .n) .n) .n)) (.a 11 (.a 9 (.a 10 (.a 12 (.a 13 .d .n) .n) .n) (.a 10 (.a 9 (.a 12 (.a 13 .d .n) .n) .n) .n)) .n))) (.a 10 (.a 4 (.a 9 (.a 11 (.a 12 (.a 13 .d .n) .n) .n) (.a 11 (.a 9 (.a 12 (.a 13 .d .n) .n) .n) .n)) (.a 11 (.a 4 (.a 9 (.a 12 (.a 13 .d .n) .n) .n) .n) .n)) (.a 11 (.a 4 (.a 9 (.a 10 (.a 12 (.a 13 .d .n) .n) .n) (.a 10 (.a 9 (.a 12 (.a 13 .d .n) .n) .n) .n)) (.a 10 (.a 4 (.a 9 (.a 12 (.a 13 .d .n) .n) .n) .n) .n)) .n))))), (15, .o [0, 1, 4, 5, 2, 3, 6, 7, 8]), (18, .o [0, 1, 3, 4, 7, 2, 5, 6, 8, 9, 10])] Tryz.func10 rfl rfl (by kernel_rfl) fun C _ => ?_
    try simp (maxSteps := 999999) (disch := omega) only [go_sem, Nat.reduceBEq, Nat.reduceAdd]
    refine caN (by exact kC) ?_; rintro v1 h1 s1 ⟨_, _, _, _, _, _, _, rfl, c1⟩
    try simp (maxSteps := 999999) (disch := omega) only [go_sem, Nat.reduceBEq, Nat.reduceAdd]
    refine caN (by exact kD) ?_; rintro v2 h2 s2 ⟨_, _, _, _, _, _, _, rfl, c2⟩
    try simp (maxSteps := 999999) (disch := omega) only [go_sem, Nat.reduceBEq, Nat.reduceAdd]
    refine caN (by exact TooLong_spec (c1.to (h' := h2))) ?_; rintro v3 h3 s3 rfl
    try simp (maxSteps := 999999) (disch := omega) only [go_sem, Nat.reduceBEq, Nat.reduceAdd]
    by_cases A : 1024 < sz x
    · obtain ⟨eE, eB⟩ := T (.inl (.inl A))
      rw [eE, eB]
      try simp (maxSteps := 999999) (disch := omega) only [go_sem, Nat.reduceBEq, Nat.reduceAdd]
    try simp (maxSteps := 999999) (disch := omega) only [go_sem, Nat.reduceBEq, Nat.reduceAdd]
    refine caN (by exact TooLong_spec (c2.to (h' := h3))) ?_; rintro v4 h4 s4 rfl
    try simp (maxSteps := 999999) (disch := omega) only [go_sem, Nat.reduceBEq, Nat.reduceAdd]
    by_cases B : 1024 < sz y
    · obtain ⟨eE, eB⟩ := T (.inr (.inl B))
      rw [eE, eB]
      try simp (maxSteps := 999999) (disch := omega) only [go_sem, Nat.reduceBEq, Nat.reduceAdd]
    try simp (maxSteps := 999999) (disch := omega) only [go_sem, Nat.reduceBEq, Nat.reduceAdd]
    refine caN (by exact kX (c1.to (h' := h4))) ?_; rintro v5 h5 s5 rfl
    try simp (maxSteps := 999999) (disch := omega) only [go_sem, Nat.reduceBEq, Nat.reduceAdd]
    cases bX with
    | true =>
      obtain ⟨eE, eB⟩ := T (.inl (.inr (of_decide_eq_true hX.out.symm)))
      rw [eE, eB]
      clear hX hY T Z
      try simp (maxSteps := 999999) (disch := omega) only [go_sem, Nat.reduceBEq, Nat.reduceAdd]
    | false =>
    have C' := Hid.mk (of_decide_eq_false hX.out.symm)
    clear hX
    try simp (maxSteps := 999999) (disch := omega) only [go_sem, Nat.reduceBEq, Nat.reduceAdd]
    refine caN (by exact kY (c2.to (h' := h5))) ?_; rintro v6 h6 s6 rfl
    try simp (maxSteps := 999999) (disch := omega) only [go_sem, Nat.reduceBEq, Nat.reduceAdd]
    cases bY with
    | true =>
      obtain ⟨eE, eB⟩ := T (.inr (.inr (of_decide_eq_true hY.out.symm)))
      rw [eE, eB]
      clear hY T Z
      try simp (maxSteps := 999999) (disch := omega) only [go_sem, Nat.reduceBEq, Nat.reduceAdd]
    | false =>
    have D := Hid.mk (of_decide_eq_false hY.out.symm)
    clear hY kX kY
    try simp (maxSteps := 999999) (disch := omega) only [go_sem, Nat.reduceBEq, Nat.reduceAdd]
    refine caN (by exact NumCompare (Rv.of (c1.to (h' := h6)) bx.out) (Rv.of c2.to by_.out)) ?_; rintro v7 h7 s7 rfl
    try simp (maxSteps := 999999) (disch := omega) only [go_sem, Nat.reduceBEq, Nat.reduceAdd]
    obtain ⟨eE, z1, z2⟩ := Z (by have k1 := C'.out; have k2 := D.out; unfold wideB; omega)
    clear T Z kC kD
    have e3 := cmpQ_gt x y
    rw [eE]
    by_cases hc : y < x
    · rw [z1 hc]
      rw [decide_eq_true hc] at e3
      try simp (maxSteps := 999999) (disch := omega) only [go_sem, Nat.reduceBEq, Nat.reduceAdd, e3]
    rw [z2 hc]
    rw [decide_eq_false hc] at e3
    clear z1 z2
    obtain ⟨l1, l2⟩ := qt_bd (u := true) C'.out gP_ge
    obtain ⟨l3, l4⟩ := qt_bd (u := false) D.out fP_ge
    obtain ⟨l5, l6⟩ := qt_bd (u := true) C'.out fP_ge
    obtain ⟨l7, l8⟩ := qt_bd (u := false) D.out gP_ge
    have f0 : fP ≠ 0 := by have := fP_ge; grind
    have g0 : gP ≠ 0 := by have := gP_ge; grind
    have n1 : (qt x gP true).natAbs < 4294967296 := by omega
    have n2 : (qt y fP false).natAbs < 4294967296 := by omega
    have n3 : (qt x fP true).natAbs < 4294967296 := by omega
    have n4 : (qt y gP false).natAbs < 4294967296 := by omega
    have m1 : -8589934592 ≤ (if qt x gP true > 0 then qt x gP true else 0) ∧ (if qt x gP true > 0 then qt x gP true else 0) ≤ 8589934592 := by split <;> omega
    have m2 : -8589934592 ≤ qt x fP true ∧ qt x fP true ≤ 8589934592 := by omega
    have A := Hid.mk (show sz x ≤ 1024 by omega)
    have B := Hid.mk (show sz y ≤ 1024 by omega)
    have n1 := Hid.mk n1
    have n2 := Hid.mk n2
    have n3 := Hid.mk n3
    have n4 := Hid.mk n4
    have m1 := Hid.mk m1
    have m2 := Hid.mk m2
    obtain ⟨u1, u2⟩ := bl_pi (w := 192)
    have u1 := Hid.mk (show bl (piL 192) ≤ 2048 by omega)
    have u2 := Hid.mk (show bl (piH 192) ≤ 2048 by omega)
    clear l1 l2 l3 l4 l5 l6 l7 l8 C' D hc
    have kM : ∀ {h : PH}, Spec mach 35 #[.int .i64 (if qt x gP true > 0 then qt x gP true else 0), .int .i64 (qt y fP false), .int .i64 r] h (fun v _ => v = .bool (tv1 x y r)) NP := Meets_spec m1.out ⟨r1, r2⟩
    have kN : ∀ {h : PH}, Spec mach 35 #[.int .i64 (qt x fP true), .int .i64 (if qt y gP false < -1 then qt y gP false else -1), .int .i64 r] h (fun v _ => v = .bool (tv2 x y r)) NP := Meets_spec m2.out ⟨r1, r2⟩
    have kQ1 := fun {h1 h : PH} {v w : Value} [Le h1 h] (hx : Cn h1 v x) (hg : Cn h1 w gP) => EQuot_spec (h := h) (u := true) hx hg A.out gP_sz g0 n1.out
    have kQ2 := fun {h1 h : PH} {v w : Value} [Le h1 h] (hy : Cn h1 v y) (hf : Cn h1 w fP) => EQuot_spec (h := h) (u := false) hy hf B.out fP_sz f0 n2.out
    have kQ3 := fun {h1 h : PH} {v w : Value} [Le h1 h] (hx : Cn h1 v x) (hf : Cn h1 w fP) => EQuot_spec (h := h) (u := true) hx hf A.out fP_sz f0 n3.out
    have kQ4 := fun {h1 h : PH} {v w : Value} [Le h1 h] (hy : Cn h1 v y) (hg : Cn h1 w gP) => EQuot_spec (h := h) (u := false) hy hg B.out gP_sz g0 n4.out
    have kR1 : ∀ {h1 h : PH} {v : Value} [Le h1 h], N32 h1 v (piL 192) → Spec mach 33 #[v, .int .i64 (193 : Nat), .bool false] h (fun v h' => Cn h' v fP) NP := fun hv => Rational_spec (n := 193) hv u1.out (by decide)
    have kR2 : ∀ {h1 h : PH} {v : Value} [Le h1 h], N32 h1 v (piH 192) → Spec mach 33 #[v, .int .i64 (193 : Nat), .bool false] h (fun v h' => Cn h' v gP) NP := fun hv => Rational_spec (n := 193) hv u2.out (by decide)
    generalize tv1 x y r = t1 at kM ⊢
    generalize tv2 x y r = t2 at kN ⊢
    generalize qt x gP true = a1 at *
    generalize qt y fP false = a2 at *
    generalize qt x fP true = a3 at *
    generalize qt y gP false = a4 at *
    clear A B n1 n2 n3 n4 m1 m2 u1 u2 f0 g0
    try simp (maxSteps := 999999) (disch := omega) only [go_sem, Nat.reduceBEq, Nat.reduceAdd, e3]
    refine caN (by exact EPi_spec (w := 192) (by decide) (by decide)) ?_; rintro v8 h8 s8 ⟨_, _, _, _, _, _, rfl, p1, p2⟩
    try simp (maxSteps := 999999) (disch := omega) only [go_sem, Nat.reduceBEq, Nat.reduceAdd]
    clear e3
    generalize piL 192 = A1 at *
    generalize piH 192 = A2 at *
    generalize fP = f at *
    generalize gP = g at *
    (repeat' refine And.intro ?_ ?_)
    all_goals
      refine caN (by exact kR1 p1) ?_; rintro v9 h9 s9 q9; obtain ⟨_, _, _, _, _, _, _, rfl, q9⟩ := q9.sa
      try simp (maxSteps := 999999) (disch := omega) only [go_sem, Nat.reduceBEq, Nat.reduceAdd]
      (repeat' refine And.intro ?_ ?_)
      all_goals
        refine caN (by exact kR2 (p2.to (h' := h9))) ?_; rintro v10 h10 s10 q10; obtain ⟨_, _, _, _, _, _, _, rfl, q10⟩ := q10.sa
        try simp (maxSteps := 999999) (disch := omega) only [go_sem, Nat.reduceBEq, Nat.reduceAdd]
        (repeat' refine And.intro ?_ ?_)
        all_goals
          try simp (maxSteps := 999999) (disch := omega) only [go_sem, Nat.reduceBEq, Nat.reduceAdd]
          refine caN (by exact kQ1 (c1.to (h' := h10)) q10) ?_; rintro v11 h11 s11 rfl
          try simp (maxSteps := 999999) (disch := omega) only [go_sem, Nat.reduceBEq, Nat.reduceAdd]
          refine caN (by exact kQ2 (c2.to (h' := h11)) (q9.to (h' := h11))) ?_; rintro v12 h12 s12 rfl
          try simp (maxSteps := 999999) (disch := omega) only [go_sem, Nat.reduceBEq, Nat.reduceAdd]
          refine caN (by exact kM) ?_; rintro v13 h13 s13 rfl
          try simp (maxSteps := 999999) (disch := omega) only [go_sem, Nat.reduceBEq, Nat.reduceAdd]
          cases t1
          · try simp (maxSteps := 999999) (disch := omega) only [go_sem, Nat.reduceBEq, Nat.reduceAdd]
            refine caN (by exact kQ3 (c1.to (h' := h13)) (q9.to (h' := h13))) ?_; rintro v14 h14 s14 rfl
            try simp (maxSteps := 999999) (disch := omega) only [go_sem, Nat.reduceBEq, Nat.reduceAdd]
            refine caN (by exact kQ4 (c2.to (h' := h14)) (q10.to (h' := h14))) ?_; rintro v15 h15 s15 rfl
            try simp (maxSteps := 999999) (disch := omega) only [go_sem, Nat.reduceBEq, Nat.reduceAdd]
            refine caN (by exact kN) ?_; rintro v16 h16 s16 rfl
            try simp (maxSteps := 999999) (disch := omega) only [go_sem, Nat.reduceBEq, Nat.reduceAdd]
          · try simp (maxSteps := 999999) (disch := omega) only [go_sem, Nat.reduceBEq, Nat.reduceAdd]
            all_goals rfl
end Go.Q
namespace Go.Q
open Go.Proofs
set_option maxRecDepth 100000
theorem ceil_le {q : Rat} {z : Int} : q.ceil ≤ z ↔ q ≤ (z : Rat) := by
  rw [Rat.ceil_eq_neg_floor_neg]
  have h : (-z ≤ (-q).floor) ↔ ((-z : Int) : Rat) ≤ -q := Rat.le_floor_iff
  rw [Rat.intCast_neg] at h
  constructor
  · intro k
    have := h.1 (by omega)
    grind
  · intro k
    have := h.2 (by grind)
    omega
theorem inv_le {x y z : Rat} (hy : 0 < y) : (x * y⁻¹ ≤ z ↔ x ≤ z * y) ∧ (z ≤ x * y⁻¹ ↔ z * y ≤ x) := by
  have y0 : y ≠ 0 := by grind
  have e : x * y⁻¹ * y = x := by rw [Rat.mul_assoc, Rat.inv_mul_cancel _ y0, Rat.mul_one]
  generalize x * y⁻¹ = q at *
  subst e
  have k : ∀ a b : Rat, a ≤ b → a * y ≤ b * y := fun a b h => Rat.mul_le_mul_of_nonneg_right h (Rat.le_of_lt hy)
  have k2 : ∀ a b : Rat, a < b → a * y < b * y := fun a b h => Rat.mul_lt_mul_of_pos_right h hy
  refine ⟨⟨k _ _, fun h => Decidable.byContradiction fun hc => ?_⟩, ⟨k _ _, fun h => Decidable.byContradiction fun hc => ?_⟩⟩
  · have := k2 z q (by grind); grind
  · have := k2 q z (by grind); grind
theorem qt_up {x y : Rat} (hy : 0 < y) {z : Int} : qt x y true ≤ z ↔ x ≤ (z : Rat) * y := by
  unfold qt
  rw [if_pos rfl, ceil_le, (inv_le hy).1]
theorem qt_dn {x y : Rat} (hy : 0 < y) {z : Int} : z ≤ qt x y false ↔ (z : Rat) * y ≤ x := by
  unfold qt
  rw [if_neg (by decide), Rat.le_floor_iff, (inv_le hy).2]
theorem f_pos : 0 < fP := by have := fP_ge; grind
theorem g_pos : 0 < gP := by have := gP_ge; grind
end Go.Q
namespace Go.Q
open Go.Proofs
set_option maxRecDepth 100000
set_option maxHeartbeats 8000000
theorem RNat_spec {h : PH} {k : Int} {n : Nat} (ek : IntKind.u64.wrap k = (n : Int)) (hn : n < 2 ^ 64) : Spec mach 81 #[.int .i64 k] h (fun v h' => N16 h' v n) NP := by
  refine Spec.go [] Tryz.func81 rfl rfl (by kernel_rfl) fun C _ => ?_
  try simp (disch := omega) only [go_sem, Nat.reduceBEq, Nat.reduceAdd, ek]
  refine caN (by exact NatOf_spec (n := n) hn) ?_; rintro _ g1 _ q1; obtain ⟨v1, _, _, rfl, q1⟩ := q1.sl
  try simp (disch := omega) only [go_sem, Nat.reduceBEq, Nat.reduceAdd]
  exact q1
theorem RDown_spec {h0 h : PH} [Le h0 h] {v w : Value} {a d : Nat} (hv : N16 h0 v a) (hw : N16 h0 w d) (hd : d ≠ 0) (ba : bl a ≤ 2 ^ 36) (bd : bl d ≤ 2 ^ 36) : Spec mach 135 #[v, w] h (fun v h' => N16 h' v (a / d)) NP := by
  have kD := fun {h} [Le h0 h] => NatDiv_spec (h := h) hv hw hd (by omega) (by omega)
  obtain ⟨_, _, _, rfl, _⟩ := hv.sl
  obtain ⟨_, _, _, rfl, _⟩ := hw.sl
  refine Spec.go [] Tryz.func135 rfl rfl (by kernel_rfl) fun C _ => ?_
  try simp (disch := omega) only [go_sem, Nat.reduceBEq, Nat.reduceAdd]
  refine caN (by exact kD) ?_; rintro v1 h1 s1 ⟨q, r, rfl, hq, hr⟩; obtain ⟨_, _, _, rfl, hq⟩ := hq.sl; obtain ⟨_, _, _, rfl, hr⟩ := hr.sl
  try simp (disch := omega) only [go_sem, Nat.reduceBEq, Nat.reduceAdd]
  exact hq
theorem RUp_spec {h0 h : PH} [Le h0 h] {v w : Value} {a d : Nat} (hv : N16 h0 v a) (hw : N16 h0 w d) (hd : d ≠ 0) (ba : bl a ≤ 2 ^ 36) (bd : bl d ≤ 2 ^ 36) : Spec mach 133 #[v, w] h (fun v h' => N16 h' v (cdiv a d)) NP := by
  have b1 := bl_div_le a d
  have kD := fun {h} [Le h0 h] => NatDiv_spec (h := h) hv hw hd (by omega) (by omega)
  obtain ⟨_, _, _, rfl, _⟩ := hv.sl
  obtain ⟨_, _, _, rfl, _⟩ := hw.sl
  have e0 : decide (cmp3 (a % d) 0 > 0) = decide (a % d ≠ 0) := by unfold cmp3; grind
  by_cases he : a % d = 0
  · rw [cdiv_0 hd he]
    rw [decide_eq_false (show ¬ a % d ≠ 0 from fun k => k he)] at e0
    refine Spec.go [] Tryz.func133 rfl rfl (by kernel_rfl) fun C _ => ?_
    try simp (disch := omega) only [go_sem, Nat.reduceBEq, Nat.reduceAdd]
    refine caN (by exact kD) ?_; rintro v1 h1 s1 ⟨q, r, rfl, hq, hr⟩; obtain ⟨_, _, _, rfl, hq⟩ := hq.sl; obtain ⟨_, _, _, rfl, hr⟩ := hr.sl
    try simp (disch := omega) only [go_sem, Nat.reduceBEq, Nat.reduceAdd]
    refine caN (by exact RNat_spec (k := 0) (n := 0) (by decide) (by decide)) ?_; rintro _ g2 _ q2; obtain ⟨v2, _, _, rfl, q2⟩ := q2.sl
    try simp (disch := omega) only [go_sem, Nat.reduceBEq, Nat.reduceAdd]
    refine caN (by exact NatCmp_spec (hr.to (h' := g2)) q2) ?_; rintro v3 h3 s3 rfl
    try simp (disch := omega) only [go_sem, Nat.reduceBEq, Nat.reduceAdd, e0]
    exact hq.to
  · rw [cdiv_1 hd he]
    rw [decide_eq_true he] at e0
    refine Spec.go [] Tryz.func133 rfl rfl (by kernel_rfl) fun C _ => ?_
    try simp (disch := omega) only [go_sem, Nat.reduceBEq, Nat.reduceAdd]
    refine caN (by exact kD) ?_; rintro v1 h1 s1 ⟨q, r, rfl, hq, hr⟩; obtain ⟨_, _, _, rfl, hq⟩ := hq.sl; obtain ⟨_, _, _, rfl, hr⟩ := hr.sl
    try simp (disch := omega) only [go_sem, Nat.reduceBEq, Nat.reduceAdd]
    refine caN (by exact RNat_spec (k := 0) (n := 0) (by decide) (by decide)) ?_; rintro _ g2 _ q2; obtain ⟨v2, _, _, rfl, q2⟩ := q2.sl
    try simp (disch := omega) only [go_sem, Nat.reduceBEq, Nat.reduceAdd]
    refine caN (by exact NatCmp_spec (hr.to (h' := g2)) q2) ?_; rintro v3 h3 s3 rfl
    try simp (disch := omega) only [go_sem, Nat.reduceBEq, Nat.reduceAdd, e0]
    refine caN (by exact RNat_spec (k := 1) (n := 1) (by decide) (by decide)) ?_; rintro _ g4 _ q4; obtain ⟨v4, _, _, rfl, q4⟩ := q4.sl
    try simp (disch := omega) only [go_sem, Nat.reduceBEq, Nat.reduceAdd]
    refine caN (by exact NatAdd_spec (hq.to (h' := g4)) q4 (by omega) (by decide)) ?_; rintro _ g5 _ q5; obtain ⟨v5, _, _, rfl, q5⟩ := q5.sl
    try simp (disch := omega) only [go_sem, Nat.reduceBEq, Nat.reduceAdd]
    exact q5
theorem ROne_spec {h : PH} {w : Nat} (hw : w ≤ 2 ^ 30) : Spec mach 131 #[.int .i64 w] h (fun v h' => N16 h' v (2 ^ w)) NP := by
  have e := Nat.one_mul (2 ^ w)
  refine Spec.go [] Tryz.func131 rfl rfl (by kernel_rfl) fun C _ => ?_
  try simp (disch := omega) only [go_sem, Nat.reduceBEq, Nat.reduceAdd]
  refine caN (by exact RNat_spec (k := 1) (n := 1) (by decide) (by decide)) ?_; rintro _ g1 _ q1; obtain ⟨v1, _, _, rfl, q1⟩ := q1.sl
  try simp (disch := omega) only [go_sem, Nat.reduceBEq, Nat.reduceAdd]
  refine caN (by exact NatShl_spec (n := w) q1 (by have := bl_one; omega)) ?_; rintro _ g2 _ q2; obtain ⟨v2, _, _, rfl, q2⟩ := q2.sl
  try simp (disch := omega) only [go_sem, Nat.reduceBEq, Nat.reduceAdd]
  rw [e] at q2
  exact q2
theorem RTimes_spec {h0 h : PH} [Le h0 h] {v w : Value} {a b n : Nat} {u : Bool} (hv : N16 h0 v a) (hw : N16 h0 w b) (ba : bl a ≤ 2 ^ 30) (bb : bl b ≤ 2 ^ 30) (hn : n ≤ 2 ^ 30) : Spec mach 129 #[v, w, .int .i64 n, .bool u] h (fun v h' => N16 h' v (odiv (a * b) (2 ^ n) u)) NP := by
  have b1 := bl_mul a b
  have b2 := bl_pow2 n
  have kM := fun {h} [Le h0 h] => NatMul_spec (h := h) hv hw (by omega) (by omega)
  obtain ⟨_, _, _, rfl, _⟩ := hv.sl
  obtain ⟨_, _, _, rfl, _⟩ := hw.sl
  cases u with
  | true =>
    refine Spec.go [] Tryz.func129 rfl rfl (by kernel_rfl) fun C _ => ?_
    try simp (disch := omega) only [go_sem, Nat.reduceBEq, Nat.reduceAdd]
    refine caN (by exact kM) ?_; rintro _ g1 _ q1; obtain ⟨v1, _, _, rfl, q1⟩ := q1.sl
    try simp (disch := omega) only [go_sem, Nat.reduceBEq, Nat.reduceAdd]
    refine caN (by exact ROne_spec (w := n) (by omega)) ?_; rintro _ g2 _ q2; obtain ⟨v2, _, _, rfl, q2⟩ := q2.sl
    try simp (disch := omega) only [go_sem, Nat.reduceBEq, Nat.reduceAdd]
    refine caN (by exact RUp_spec (q1.to (h' := g2)) q2 (pow2_ne n) (by omega) (by omega)) ?_; rintro _ g3 _ q3; obtain ⟨v3, _, _, rfl, q3⟩ := q3.sl
    try simp (disch := omega) only [go_sem, Nat.reduceBEq, Nat.reduceAdd]
    exact q3
  | false =>
    refine Spec.go [] Tryz.func129 rfl rfl (by kernel_rfl) fun C _ => ?_
    try simp (disch := omega) only [go_sem, Nat.reduceBEq, Nat.reduceAdd]
    refine caN (by exact kM) ?_; rintro _ g1 _ q1; obtain ⟨v1, _, _, rfl, q1⟩ := q1.sl
    try simp (disch := omega) only [go_sem, Nat.reduceBEq, Nat.reduceAdd]
    refine caN (by exact ROne_spec (w := n) (by omega)) ?_; rintro _ g2 _ q2; obtain ⟨v2, _, _, rfl, q2⟩ := q2.sl
    try simp (disch := omega) only [go_sem, Nat.reduceBEq, Nat.reduceAdd]
    refine caN (by exact RDown_spec (q1.to (h' := g2)) q2 (pow2_ne n) (by omega) (by omega)) ?_; rintro _ g3 _ q3; obtain ⟨v3, _, _, rfl, q3⟩ := q3.sl
    try simp (disch := omega) only [go_sem, Nat.reduceBEq, Nat.reduceAdd]
    exact q3
def altN (k x y d w : Nat) (u : Bool) : Nat := odiv (2 ^ w * d - k * (x * y)) (k * d) u
theorem RAlternating_spec {h0 h : PH} [Le h0 h] {vx vy vd : Value} {x y d w k : Nat} {u : Bool} (hx : N16 h0 vx x) (hy : N16 h0 vy y) (hd : N16 h0 vd d) (hk : 0 < k) (hk' : k < 2 ^ 60) (hd0 : d ≠ 0) (hs : k * (x * y) ≤ 2 ^ w * d) (bx : bl x ≤ 2 ^ 30) (by_ : bl y ≤ 2 ^ 30) (bd : bl d ≤ 2 ^ 30) (hw : w ≤ 2 ^ 30) :
    Spec mach 130 #[.int .i64 k, vx, vy, vd, .int .i64 w, .bool u] h (fun v h' => N16 h' v (altN k x y d w u)) NP := by
  have b1 := bl_mul x y
  have b2 := bl_pow2 w
  have b3 := bl_mul (2 ^ w) d
  have b4 := bl_mul k (x * y)
  have b5 : bl k ≤ 60 := bl_le.2 hk'
  have b6 := bl_mul k d
  have b7 : bl (2 ^ w * d - k * (x * y)) ≤ bl (2 ^ w * d) := bl_mono (Nat.sub_le _ _)
  have ek : IntKind.u64.wrap (k : Int) = (k : Int) := wu64 (by omega) (by omega)
  have hkd : k * d ≠ 0 := Nat.mul_ne_zero (by omega) hd0
  obtain ⟨_, _, _, rfl, _⟩ := hx.sl
  obtain ⟨_, _, _, rfl, _⟩ := hy.sl
  obtain ⟨_, _, _, rfl, _⟩ := hd.sl
  cases u
  all_goals
    refine Spec.go [] Tryz.func130 rfl rfl (by kernel_rfl) fun C _ => ?_
    try simp (disch := omega) only [go_sem, Nat.reduceBEq, Nat.reduceAdd]
    refine caN (by exact ROne_spec (w := w) (by omega)) ?_; rintro _ g1 _ q1; obtain ⟨v1, _, _, rfl, q1⟩ := q1.sl
    try simp (disch := omega) only [go_sem, Nat.reduceBEq, Nat.reduceAdd]
    refine caN (by exact NatMul_spec q1 (hd.to (h' := g1)) (by omega) (by omega)) ?_; rintro _ g2 _ q2; obtain ⟨v2, _, _, rfl, q2⟩ := q2.sl
    try simp (disch := omega) only [go_sem, Nat.reduceBEq, Nat.reduceAdd]
    refine caN (by exact RNat_spec (n := k) ek (by omega)) ?_; rintro _ g3 _ q3; obtain ⟨v3, _, _, rfl, q3⟩ := q3.sl
    try simp (disch := omega) only [go_sem, Nat.reduceBEq, Nat.reduceAdd]
    refine caN (by exact NatMul_spec (hx.to (h' := g3)) (hy.to (h' := g3)) (by omega) (by omega)) ?_; rintro _ g4 _ q4; obtain ⟨v4, _, _, rfl, q4⟩ := q4.sl
    try simp (disch := omega) only [go_sem, Nat.reduceBEq, Nat.reduceAdd]
    refine caN (by exact NatMul_spec (q3.to (h' := g4)) q4 (by omega) (by omega)) ?_; rintro _ g5 _ q5; obtain ⟨v5, _, _, rfl, q5⟩ := q5.sl
    try simp (disch := omega) only [go_sem, Nat.reduceBEq, Nat.reduceAdd]
    refine caN (by exact NatSub_spec (q2.to (h' := g5)) q5 hs (by omega)) ?_; rintro _ g6 _ q6; obtain ⟨_, _, _, rfl, q6⟩ := q6.sl
    try simp (disch := omega) only [go_sem, Nat.reduceBEq, Nat.reduceAdd]
    refine caN (by exact RNat_spec (n := k) ek (by omega)) ?_; rintro _ g7 _ q7; obtain ⟨_, _, _, rfl, q7⟩ := q7.sl
    try simp (disch := omega) only [go_sem, Nat.reduceBEq, Nat.reduceAdd]
    refine caN (by exact NatMul_spec q7 (hd.to (h' := g7)) (by omega) (by omega)) ?_; rintro _ g8 _ q8; obtain ⟨_, _, _, rfl, q8⟩ := q8.sl
    try simp (disch := omega) only [go_sem, Nat.reduceBEq, Nat.reduceAdd]
  · refine caN (by exact RDown_spec (q6.to (h' := g8)) q8 hkd (by omega) (by omega)) ?_; rintro _ g9 _ q9; obtain ⟨v9, _, _, rfl, q9⟩ := q9.sl
    try simp (disch := omega) only [go_sem, Nat.reduceBEq, Nat.reduceAdd]
    exact q9
  · refine caN (by exact RUp_spec (q6.to (h' := g8)) q8 hkd (by omega) (by omega)) ?_; rintro _ g9 _ q9; obtain ⟨v9, _, _, rfl, q9⟩ := q9.sl
    try simp (disch := omega) only [go_sem, Nat.reduceBEq, Nat.reduceAdd]
    exact q9
end Go.Q
namespace Go.Q
open Go.Proofs
set_option maxRecDepth 100000
set_option maxHeartbeats 8000000
theorem RDen_spec {h0 h : PH} [Le h0 h] {v : Value} {x : Rat} (hx : Qr h0 v x) : Spec mach 134 #[v] h (fun v h' => N16 h' v x.den) NP := by
  obtain ⟨na, nl, nc, da, dl, dc, e, rfl, hn, hd, he⟩ := hx.sl
  have ld := hd.len0
  by_cases h0 : e = 0
  · have e3 : ((dl : Int) == 0) = true := by simp; omega
    refine Spec.go [] Tryz.func134 rfl rfl (by kernel_rfl) fun C _ => ?_
    try simp (disch := omega) only [go_sem, Nat.reduceBEq, Nat.reduceAdd, e3]
    refine caN (by exact RNat_spec (k := 1) (n := 1) (by decide) (by decide)) ?_; rintro _ g1 _ q1; obtain ⟨v1, v1_l, v1_c, rfl, q1⟩ := q1.sl
    try simp (disch := omega) only [go_sem, Nat.reduceBEq, Nat.reduceAdd]
    rw [← he, h0]; exact q1
  · have e3 : ((dl : Int) == 0) = false := by simp; omega
    refine Spec.go [] Tryz.func134 rfl rfl (by kernel_rfl) fun C _ => ?_
    try simp (disch := omega) only [go_sem, Nat.reduceBEq, Nat.reduceAdd, e3]
    rw [← he, dz_self h0]; exact hd.to
theorem RGrid_spec {h0 h : PH} [Le h0 h] {v : Value} {x : Rat} {w : Nat} {u : Bool} (hx : Qr h0 v x) (bx : sz x ≤ 2 ^ 30) (hw : w ≤ 2 ^ 30) : Spec mach 78 #[v, .int .i64 w, .bool u] h (fun v h' => N16 h' v (odiv (x.num.natAbs * 2 ^ w) x.den u)) NP := by
  have b1 := sz_num x
  have b2 := sz_den x
  have b3 := bl_shl x.num.natAbs w
  have hd0 : x.den ≠ 0 := x.den_nz
  have kD := fun {h} [Le h0 h] => RDen_spec (h := h) hx
  obtain ⟨na, nl, nc, da, dl, dc, e, rfl, hn, hd, he⟩ := hx.sl
  cases u with
  | true =>
    refine Spec.go [] Tryz.func78 rfl rfl (by kernel_rfl) fun C _ => ?_
    try simp (disch := omega) only [go_sem, Nat.reduceBEq, Nat.reduceAdd]
    refine caN (by exact NatShl_spec (n := w) hn (by omega)) ?_; rintro _ g1 _ q1; obtain ⟨v1, v1_l, v1_c, rfl, q1⟩ := q1.sl
    try simp (disch := omega) only [go_sem, Nat.reduceBEq, Nat.reduceAdd]
    refine caN (by exact kD) ?_; rintro _ g2 _ q2; obtain ⟨v2, v2_l, v2_c, rfl, q2⟩ := q2.sl
    try simp (disch := omega) only [go_sem, Nat.reduceBEq, Nat.reduceAdd]
    refine caN (by exact RUp_spec (q1.to (h' := g2)) q2 hd0 (by omega) (by omega)) ?_; rintro _ g3 _ q3; obtain ⟨v3, v3_l, v3_c, rfl, q3⟩ := q3.sl
    try simp (disch := omega) only [go_sem, Nat.reduceBEq, Nat.reduceAdd]
    exact q3
  | false =>
    refine Spec.go [] Tryz.func78 rfl rfl (by kernel_rfl) fun C _ => ?_
    try simp (disch := omega) only [go_sem, Nat.reduceBEq, Nat.reduceAdd]
    refine caN (by exact NatShl_spec (n := w) hn (by omega)) ?_; rintro _ g1 _ q1; obtain ⟨v1, v1_l, v1_c, rfl, q1⟩ := q1.sl
    try simp (disch := omega) only [go_sem, Nat.reduceBEq, Nat.reduceAdd]
    refine caN (by exact kD) ?_; rintro _ g2 _ q2; obtain ⟨v2, v2_l, v2_c, rfl, q2⟩ := q2.sl
    try simp (disch := omega) only [go_sem, Nat.reduceBEq, Nat.reduceAdd]
    refine caN (by exact RDown_spec (q1.to (h' := g2)) q2 hd0 (by omega) (by omega)) ?_; rintro _ g3 _ q3; obtain ⟨v3, v3_l, v3_c, rfl, q3⟩ := q3.sl
    try simp (disch := omega) only [go_sem, Nat.reduceBEq, Nat.reduceAdd]
    exact q3
theorem sgn_div_pow (n w : Nat) : sgn false n 1 / 2 ^ w = sgn false n (2 ^ w) := by
  have e1 : (1 : Rat)⁻¹ = 1 := by grind
  simp [sgn, Rat.mkRat_eq_div, Rat.natCast_pow, Rat.div_def, e1]
theorem sz_sgn1 (n : Nat) : sz (sgn false n 1) ≤ bl n + 1 := by
  have := sz_sgn false n (d := 1) (by decide)
  have := bl_one
  omega
theorem RBack_spec {h0 h : PH} [Le h0 h] {v : Value} {n w : Nat} (hv : N16 h0 v n) (bn : bl n ≤ 2 ^ 20) (hw : w ≤ 2 ^ 20) : Spec mach 27 #[v, .int .i64 w] h (fun v h' => Qr h' v (sgn false n (2 ^ w))) NP := by
  have ew : IntKind.i64.wrap (0 - (w : Int)) = -(w : Int) := by rw [wi64 (by omega) (by omega)]; omega
  have b1 := sz_sgn1 n
  have kM := fun {h1 h2 : PH} {d : Value} [Le h0 h1] [Le h1 h2] (hd : N16 h1 d 1) => Make_1 (h0 := h1) (h := h2) (neg := false) (hv.to (h' := h1)) hd (by omega)
  obtain ⟨_, _, _, rfl, _⟩ := hv.sl
  refine Spec.go [] Tryz.func27 rfl rfl (by kernel_rfl) fun C _ => ?_
  try simp (disch := omega) only [go_sem, Nat.reduceBEq, Nat.reduceAdd]
  refine caN (by exact RNat_spec (k := 1) (n := 1) (by decide) (by decide)) ?_; rintro _ g1 _ q1; obtain ⟨v1, v1_l, v1_c, rfl, q1⟩ := q1.sl
  try simp (disch := omega) only [go_sem, Nat.reduceBEq, Nat.reduceAdd]
  refine caN (by exact kM q1) ?_; rintro v2 g2 s2 q2; obtain ⟨_, _, _, _, _, _, _, rfl, q2⟩ := q2.sa
  try simp (disch := omega) only [go_sem, Nat.reduceBEq, Nat.reduceAdd, ew]
  refine caN (by exact Unscaled_spec (p := w) q2 rfl (by omega) (by omega)) ?_; rintro v3 g3 s3 q3; rw [sgn_div_pow] at q3; obtain ⟨_, _, _, _, _, _, _, rfl, q3⟩ := q3.sa
  try simp (disch := omega) only [go_sem, Nat.reduceBEq, Nat.reduceAdd]
  exact q3
theorem RFrac_spec {h : PH} {n : Nat} (hn : n < 2 ^ 20) : Spec mach 24 #[.int .i64 1, .int .i64 n] h (fun v h' => Qr h' v (1 / (n : Rat))) NP := by
  have b1 : sz ((1 : Int) : Rat) ≤ 2 ^ 35 := by decide
  have b2 : sz (((n : Int)) : Rat) ≤ 2 ^ 35 := by
    unfold sz
    have e1 : bl ((((n : Int)) : Rat).num.natAbs) ≤ 64 := bl_le.2 (by simp; omega)
    have e2 : bl ((((n : Int)) : Rat).den) ≤ 64 := bl_le.2 (by simp)
    omega
  have e : (((1 : Int) : Rat) / (((n : Int)) : Rat)) = 1 / (n : Rat) := rfl
  refine Spec.go [] Tryz.func24 rfl rfl (by kernel_rfl) fun C _ => ?_
  try simp (disch := omega) only [go_sem, Nat.reduceBEq, Nat.reduceAdd]
  refine caN (by exact QInt_spec (n := 1) (by decide) (by decide)) ?_; rintro v1 g1 s1 q1; obtain ⟨_, _, _, _, _, _, _, rfl, q1⟩ := q1.sa
  try simp (disch := omega) only [go_sem, Nat.reduceBEq, Nat.reduceAdd]
  refine caN (by exact QInt_spec (n := n) (by omega) (by omega)) ?_; rintro v2 g2 s2 q2; obtain ⟨_, _, _, _, _, _, _, rfl, q2⟩ := q2.sa
  try simp (disch := omega) only [go_sem, Nat.reduceBEq, Nat.reduceAdd]
  refine caN (by exact QDiv_spec (q1.to (h' := g2)) q2 b1 b2) ?_; rintro v3 g3 s3 q3; rw [e] at q3; obtain ⟨_, _, _, _, _, _, _, rfl, q3⟩ := q3.sa
  try simp (disch := omega) only [go_sem, Nat.reduceBEq, Nat.reduceAdd]
  exact q3
theorem frac_num {n : Nat} (hn : n ≠ 0) : (1 / (n : Rat)).num.natAbs = 1 ∧ (1 / (n : Rat)).den = n := by
  obtain ⟨h1, h2⟩ := sgn_num (neg := false) hn (Nat.gcd_one_left n)
  have e : 1 / (n : Rat) = sgn false 1 n := by simp [sgn, Rat.mkRat_eq_div]
  rw [e, h1, h2]
  exact ⟨rfl, rfl⟩
theorem arc_first {w t : Nat} : altN 79 t 1 81 w false = (2 ^ w * 81 - t * 79) / (79 * 81) := by
  show (2 ^ w * 81 - 79 * (t * 1)) / (79 * 81) = _
  rw [Nat.mul_one, Nat.mul_comm 79 t]
theorem arc_firstU {w s : Nat} : altN 79 s 0 1 w true = cdiv (2 ^ w) 79 := by
  show cdiv (2 ^ w * 1 - 79 * (s * 0)) (79 * 1) = _
  rw [Nat.mul_zero, Nat.mul_zero, Nat.mul_one, Nat.sub_zero, Nat.mul_one]
theorem alt_arc {w k x y : Nat} {u : Bool} : altN k x y (2 ^ w) w u = odiv (2 ^ w * 2 ^ w - x * y * k) (k * 2 ^ w) u := by
  unfold altN
  rw [Nat.mul_comm k (x * y)]
theorem RArc_spec {h0 h : PH} [Le h0 h] {va vb : Value} {a b w : Nat} (hva : N16 h0 va a) (hvb : N16 h0 vb b) (la : a ≤ 2 ^ w) (lb : b ≤ 2 ^ w) (hw : 20 ≤ w) (hw' : w ≤ 1000) : Spec mach 77 #[va, vb, .int .i64 w] h (fun v h' => ∃ x m c y n d, v = .tuple #[.slice x m c, .slice y n d] ∧ N16 h' (.slice x m c) (arcL a b w) ∧ N16 h' (.slice y n d) (arcH a b w)) NP := by
  have ba : bl a ≤ w + 2 := bl_pow_le (by omega)
  have bb : bl b ≤ w + 2 := bl_pow_le (by omega)
  obtain ⟨bs, _⟩ := bl_sq (a := a) la
  obtain ⟨_, bt⟩ := bl_sq (a := b) lb
  have hs := sqL_le la
  have ht := sqH_le lb
  have bA : ∀ {j c}, j ≤ 39 → bl (arcV w (sqL a w) (sqH b w) c j) ≤ w + 2 := fun hj => bl_arcV hj
  have sA : ∀ {j}, j < 39 → _ := fun {j} hj => arcV_sub (j := j) hw hs ht hj
  have u1 := bl_pow2 w
  have u2 : bl 0 ≤ 2 ^ 30 := by decide
  have u3 : bl 1 ≤ 2 ^ 30 := by decide
  have u4 : bl 81 ≤ 2 ^ 30 := by decide
  have w0 := pow2_ne w
  obtain ⟨xa, ma, ca, rfl, hva⟩ := hva.sl
  obtain ⟨xb, mb, cb, rfl, hvb⟩ := hvb.sl
  have w0 := Hid.mk w0
  have u3' := Hid.mk u3
  have u2' := Hid.mk u2
  have u4' := Hid.mk u4
  have h79 : 79 * (sqH b w * 1) ≤ 2 ^ w * 81 := by omega
  have h79' : 79 * (sqL a w * 0) ≤ 2 ^ w * 1 := by omega
  clear hs la lb
  have F := Hid.mk (And.intro ba (And.intro bb (And.intro bs (And.intro bt (And.intro ht (And.intro u1 (And.intro u2 (And.intro u3 (And.intro u4 (And.intro h79 h79')))))))))); clear ba bb bs bt ht u1 u2 u3 u4 h79 h79'
  refine Spec.go [] Tryz.func77 rfl rfl (by kernel_rfl) fun C _ => ?_
  try simp (disch := omega) only [go_sem, Nat.reduceBEq, Nat.reduceAdd]
  refine caN (by exact RTimes_spec (u := false) hva hva (by have := F.out; omega) (by have := F.out; omega) (by have := F.out; omega)) ?_; rintro _ h1 _ q1; obtain ⟨v1, v1_l, v1_c, rfl, q1⟩ := q1.sl
  try simp (disch := omega) only [go_sem, Nat.reduceBEq, Nat.reduceAdd]
  have q1 : N16 h1 (.slice v1 v1_l v1_c) (sqL a w) := q1
  refine caN (by exact RTimes_spec (u := true) (hvb.to (h' := h1)) (hvb.to (h' := h1)) (by have := F.out; omega) (by have := F.out; omega) (by have := F.out; omega)) ?_; rintro _ h2 _ q2; obtain ⟨v2, v2_l, v2_c, rfl, q2⟩ := q2.sl
  try simp (disch := omega) only [go_sem, Nat.reduceBEq, Nat.reduceAdd]
  have q2 : N16 h2 (.slice v2 v2_l v2_c) (sqH b w) := q2
  have q1 := q1.to (h' := h2)
  refine caN (by exact RNat_spec (k := 0) (n := 0) (by decide) (by decide)) ?_; rintro _ h3 _ q3; obtain ⟨v3, v3_l, v3_c, rfl, q3⟩ := q3.sl
  try simp (disch := omega) only [go_sem, Nat.reduceBEq, Nat.reduceAdd]
  refine caN (by exact RNat_spec (k := 1) (n := 1) (by decide) (by decide)) ?_; rintro _ h4 _ q4; obtain ⟨v4, v4_l, v4_c, rfl, q4⟩ := q4.sl
  try simp (disch := omega) only [go_sem, Nat.reduceBEq, Nat.reduceAdd]
  refine caN (by exact RNat_spec (k := 1) (n := 1) (by decide) (by decide)) ?_; rintro _ h5 _ q5; obtain ⟨v5, v5_l, v5_c, rfl, q5⟩ := q5.sl
  try simp (disch := omega) only [go_sem, Nat.reduceBEq, Nat.reduceAdd]
  refine caN (by exact RNat_spec (k := 81) (n := 81) (by decide) (by decide)) ?_; rintro _ h6 _ q6; obtain ⟨v6, v6_l, v6_c, rfl, q6⟩ := q6.sl
  try simp (disch := omega) only [go_sem, Nat.reduceBEq, Nat.reduceAdd]
  refine lp [] (fun x' : Value × Value × Value × Value × Nat => ⟨[(0, .v (.slice xa ma ca)), (1, .v (.slice xb mb cb)), (2, .v (.int .i64 w)), (8, .v (.slice v1 v1_l v1_c)), (9, .v (.slice v2 v2_l v2_c)), (10, .v x'.1), (11, .v x'.2.1), (12, .v x'.2.2.1), (13, .v x'.2.2.2.1), (14, .v (.int .i64 ((x'.2.2.2.2 : Int) - 1)))], []⟩) (fun x' h' => Le h2 h' ∧ (x'.2.2.2.2 = 40 ∧ N16 h' x'.1 0 ∧ N16 h' x'.2.1 1 ∧ N16 h' x'.2.2.1 1 ∧ N16 h' x'.2.2.2.1 81 ∨ x'.2.2.2.2 ≤ 39 ∧ N16 h' x'.1 (arcV w (sqL a w) (sqH b w) false (39 - x'.2.2.2.2)) ∧ N16 h' x'.2.1 (2 ^ w) ∧ N16 h' x'.2.2.1 (arcV w (sqL a w) (sqH b w) true (39 - x'.2.2.2.2)) ∧ N16 h' x'.2.2.2.1 (2 ^ w))) (fun x' => x'.2.2.2.2) (.slice v3 v3_l v3_c, .slice v4 v4_l v4_c, .slice v5 v5_l v5_c, .slice v6 v6_l v6_c, 40) ?_ ⟨inferInstance, .inl ⟨rfl, q3.to, q4.to, q5.to, q6⟩⟩ (by kernel_rfl) ?_
  · try simp (disch := omega) only [go_sem, Nat.reduceBEq, Nat.reduceAdd]
    all_goals rfl
  rintro ⟨vl, vld, vu, vud, i⟩ g0 ⟨le0, hi⟩
  dsimp only at hi ⊢
  rcases hi with ⟨rfl, hl, hld, hu, hud⟩ | ⟨hi, hl, hld, hu, hud⟩
  · try simp (disch := omega) only [go_sem, Nat.reduceBEq, Nat.reduceAdd]
    refine caN (by exact RAlternating_spec (k := 79) (w := w) (u := false) (q2.to (h' := g0)) hu hud (by decide) (by decide) (by decide) (by have := F.out; omega) (show bl (sqH b w) ≤ 2 ^ 30 by have := F.out; omega) u3'.out u4'.out (by have := F.out; omega)) ?_; rintro _ g1 _ r1; obtain ⟨w1, w1_l, w1_c, rfl, r1⟩ := r1.sl
    try simp (disch := omega) only [go_sem, Nat.reduceBEq, Nat.reduceAdd]
    refine caN (by exact RAlternating_spec (k := 79) (w := w) (u := true) (q1.to (h' := g1)) (hl.to (h' := g1)) (hld.to (h' := g1)) (by decide) (by decide) (by decide) (by have := F.out; omega) (show bl (sqL a w) ≤ 2 ^ 30 by have := F.out; omega) u2'.out u3'.out (by have := F.out; omega)) ?_; rintro _ g2 _ r2; obtain ⟨w2, w2_l, w2_c, rfl, r2⟩ := r2.sl
    try simp (disch := omega) only [go_sem, Nat.reduceBEq, Nat.reduceAdd]
    rw [arc_first] at r1
    rw [arc_firstU] at r2
    try simp (disch := omega) only [go_sem, Nat.reduceBEq, Nat.reduceAdd]
    refine caN (by exact ROne_spec (w := w) (by have := F.out; omega)) ?_; rintro _ g3 _ r3; obtain ⟨w3, w3_l, w3_c, rfl, r3⟩ := r3.sl
    try simp (disch := omega) only [go_sem, Nat.reduceBEq, Nat.reduceAdd]
    refine caN (by exact ROne_spec (w := w) (by have := F.out; omega)) ?_; rintro _ g4 _ r4; obtain ⟨w4, w4_l, w4_c, rfl, r4⟩ := r4.sl
    try simp (disch := omega) only [go_sem, Nat.reduceBEq, Nat.reduceAdd]
    dsimp only [lpE]; refine ⟨(_, _, _, _, 39), ?_, ⟨Le.trn le0 inferInstance, .inr ⟨(show 39 ≤ 39 by decide), by show N16 _ _ (arcV _ _ _ _ (39 - 39)); rw [Nat.sub_self, arcV_0]; exact r1.to, r3.to, by show N16 _ _ (arcV _ _ _ _ (39 - 39)); rw [Nat.sub_self, arcV_0']; exact r2.to, r4⟩⟩, (show 39 < 40 by decide)⟩
    try simp (disch := omega) only [go_sem, Nat.reduceBEq, Nat.reduceAdd]
    all_goals rfl
  · cases i with
    | zero =>
      rw [Nat.sub_zero] at hl hu
      have b1 := bA (j := 39) (c := false) (Nat.le_refl _)
      have b2 := bA (j := 39) (c := true) (Nat.le_refl _)
      have le1 : Le h0 g0 := Le.trn inferInstance le0
      obtain ⟨_, _, _, rfl, hl⟩ := hl.sl
      obtain ⟨_, _, _, rfl, hu⟩ := hu.sl
      have F := Hid.mk (And.intro F.out (And.intro b1 b2)); clear b1 b2
      try simp (disch := omega) only [go_sem, Nat.reduceBEq, Nat.reduceAdd]
      refine caN (by exact RTimes_spec (u := false) (hva.to (h' := g0)) hl (by have := F.out; omega) (show bl (arcV w (sqL a w) (sqH b w) false 39) ≤ 2 ^ 30 by have := F.out; omega) (by have := F.out; omega)) ?_; rintro _ g1 _ r1; obtain ⟨w1, w1_l, w1_c, rfl, r1⟩ := r1.sl
      try simp (disch := omega) only [go_sem, Nat.reduceBEq, Nat.reduceAdd]
      refine caN (by exact RTimes_spec (u := true) (hvb.to (h' := g1)) (hu.to (h' := g1)) (by have := F.out; omega) (show bl (arcV w (sqL a w) (sqH b w) true 39) ≤ 2 ^ 30 by have := F.out; omega) (by have := F.out; omega)) ?_; rintro _ g2 _ r2; obtain ⟨w2, w2_l, w2_c, rfl, r2⟩ := r2.sl
      try simp (disch := omega) only [go_sem, Nat.reduceBEq, Nat.reduceAdd]
      exact ⟨_, _, _, _, _, _, rfl, r1.to, r2⟩
    | succ i =>
      obtain ⟨j, hj, ej⟩ : ∃ j, j < 39 ∧ 39 - (i + 1) = j := ⟨_, by have := F.out; omega, rfl⟩
      have en : 39 - i = j + 1 := by have := F.out; omega
      have eo : 77 - 2 * j = 2 * i + 1 := by have := F.out; omega
      rw [ej] at hl hu
      obtain ⟨s1, s2⟩ := sA hj
      rw [eo] at s1 s2
      rw [Nat.mul_comm _ (2 * i + 1)] at s1 s2
      have b1 := bA (j := j) (c := false) (by have := F.out; omega)
      have b2 := bA (j := j) (c := true) (by have := F.out; omega)
      have s1 := Hid.mk s1
      have s2 := Hid.mk s2
      have eo := Hid.mk eo
      have en := Hid.mk en
      clear ej hj
      have F := Hid.mk (And.intro F.out (And.intro b1 b2)); clear b1 b2
      try simp (disch := omega) only [go_sem, Nat.reduceBEq, Nat.reduceAdd]
      refine caN (by exact RAlternating_spec (k := 2 * i + 1) (w := w) (u := false) (q2.to (h' := g0)) hu hud (by have := F.out; omega) (by have := F.out; omega) w0.out s1.out (show bl (sqH b w) ≤ 2 ^ 30 by have := F.out; omega) (by have := F.out; omega) (by have := F.out; omega) (by have := F.out; omega)) ?_; rintro _ g1 _ r1; obtain ⟨w1, w1_l, w1_c, rfl, r1⟩ := r1.sl
      try simp (disch := omega) only [go_sem, Nat.reduceBEq, Nat.reduceAdd]
      refine caN (by exact RAlternating_spec (k := 2 * i + 1) (w := w) (u := true) (q1.to (h' := g1)) (hl.to (h' := g1)) (hld.to (h' := g1)) (by have := F.out; omega) (by have := F.out; omega) w0.out s2.out (show bl (sqL a w) ≤ 2 ^ 30 by have := F.out; omega) (by have := F.out; omega) (by have := F.out; omega) (by have := F.out; omega)) ?_; rintro _ g2 _ r2; obtain ⟨w2, w2_l, w2_c, rfl, r2⟩ := r2.sl
      try simp (disch := omega) only [go_sem, Nat.reduceBEq, Nat.reduceAdd]
      rw [alt_arc] at r1 r2
      try simp (disch := omega) only [go_sem, Nat.reduceBEq, Nat.reduceAdd]
      refine caN (by exact ROne_spec (w := w) (by have := F.out; omega)) ?_; rintro _ g3 _ r3; obtain ⟨w3, w3_l, w3_c, rfl, r3⟩ := r3.sl
      try simp (disch := omega) only [go_sem, Nat.reduceBEq, Nat.reduceAdd]
      refine caN (by exact ROne_spec (w := w) (by have := F.out; omega)) ?_; rintro _ g4 _ r4; obtain ⟨w4, w4_l, w4_c, rfl, r4⟩ := r4.sl
      try simp (disch := omega) only [go_sem, Nat.reduceBEq, Nat.reduceAdd]
      dsimp only [lpE]; refine ⟨(.slice w1 w1_l w1_c, .slice w3 w3_l w3_c, .slice w2 w2_l w2_c, .slice w4 w4_l w4_c, i), ?_, ⟨Le.trn le0 inferInstance, .inr ⟨(show i ≤ 39 by have := F.out; omega), ?_, r3.to, ?_, r4⟩⟩, (show i < i + 1 by have := F.out; omega)⟩
      · try simp (disch := omega) only [go_sem, Nat.reduceBEq, Nat.reduceAdd]
        all_goals rfl
      · show N16 _ _ (arcV _ _ _ false (39 - i))
        rw [en.out, arcV_s, eo.out]
        exact r1.to
      · show N16 _ _ (arcV _ _ _ true (39 - i))
        rw [en.out, arcV_s', eo.out]
        exact r2.to
theorem RPi_spec {h : PH} {w : Nat} (hw : 32 ≤ w) (hw' : w ≤ 192) : Spec mach 25 #[.int .i64 w] h (fun v h' => ∃ x m c y n d, v = .tuple #[.slice x m c, .slice y n d] ∧ N16 h' (.slice x m c) (piL w) ∧ N16 h' (.slice y n d) (piH w)) NP := by
  obtain ⟨z1, z2, _, _⟩ := pi_sub hw hw'
  obtain ⟨b1, b2⟩ := bl_fif (n := 5) (w := w) (by decide)
  obtain ⟨b3, b4⟩ := bl_fif (n := 239) (w := w) (by decide)
  have b5 := bl_mul 16 (fifL 5 w)
  have b6 := bl_mul 16 (fifH 5 w)
  have u1 : bl 16 = 5 := by decide
  have u2 : bl 4 = 3 := by decide
  obtain ⟨l1, l2⟩ := fif_le 5 (w := w) (by decide)
  obtain ⟨l3, l4⟩ := fif_le 239 (w := w) (by decide)
  have s5 : sz (1 / ((5 : Nat) : Rat)) ≤ 2 ^ 30 := by unfold sz; rw [(frac_num (n := 5) (by decide)).1, (frac_num (n := 5) (by decide)).2]; decide
  have s9 : sz (1 / ((239 : Nat) : Rat)) ≤ 2 ^ 30 := by unfold sz; rw [(frac_num (n := 239) (by decide)).1, (frac_num (n := 239) (by decide)).2]; decide
  have G : ∀ {n : Nat} {u : Bool} {h0 h : PH} {v : Value} [Le h0 h], n ≠ 0 → sz (1 / (n : Rat)) ≤ 2 ^ 30 → Qr h0 v (1 / (n : Rat)) → Spec mach 78 #[v, .int .i64 w, .bool u] h (fun v h' => N16 h' v (odiv (2 ^ w) n u)) NP := by
    intro n u h0 h v _ hn hs hq
    have := RGrid_spec (h := h) (w := w) (u := u) hq hs (by omega)
    rw [(frac_num hn).1, (frac_num hn).2, Nat.one_mul] at this
    exact this
  have e1 : 16 * fifL 5 w - 4 * fifH 239 w = piL w := by unfold piL; omega
  have e2 : 16 * fifH 5 w - 4 * fifL 239 w = piH w := by unfold piH; omega
  have e1 := Hid.mk e1
  have e2 := Hid.mk e2
  have s5 := Hid.mk s5
  have s9 := Hid.mk s9
  have l1 := Hid.mk l1
  have l2 := Hid.mk l2
  have l3 := Hid.mk l3
  have l4 := Hid.mk l4
  have z1' : 4 * fifH 239 w ≤ 16 * fifL 5 w := by omega
  have z2' : 4 * fifL 239 w ≤ 16 * fifH 5 w := by omega
  clear z1 z2
  have F := Hid.mk (And.intro z1' (And.intro z2' (And.intro b1 (And.intro b2 (And.intro b3 (And.intro b4 (And.intro b5 (And.intro b6 (And.intro u1 u2))))))))); clear z1' z2' b1 b2 b3 b4 b5 b6 u1 u2
  refine Spec.go [] Tryz.func25 rfl rfl (by kernel_rfl) fun C _ => ?_
  try simp (disch := omega) only [go_sem, Nat.reduceBEq, Nat.reduceAdd]
  refine caN (by exact RFrac_spec (n := 5) (by decide)) ?_; rintro v1 h1 s1 q1; obtain ⟨_, _, _, _, _, _, _, rfl, q1⟩ := q1.sa
  try simp (disch := omega) only [go_sem, Nat.reduceBEq, Nat.reduceAdd]
  refine caN (by exact G (u := false) (by decide) s5.out q1) ?_; rintro _ h2 _ q2; obtain ⟨v2, v2_l, v2_c, rfl, q2⟩ := q2.sl
  try simp (disch := omega) only [go_sem, Nat.reduceBEq, Nat.reduceAdd]
  refine caN (by exact RFrac_spec (n := 5) (by decide)) ?_; rintro v3 h3 s3 q3; obtain ⟨_, _, _, _, _, _, _, rfl, q3⟩ := q3.sa
  try simp (disch := omega) only [go_sem, Nat.reduceBEq, Nat.reduceAdd]
  refine caN (by exact G (u := true) (by decide) s5.out q3) ?_; rintro _ h4 _ q4; obtain ⟨v4, v4_l, v4_c, rfl, q4⟩ := q4.sl
  try simp (disch := omega) only [go_sem, Nat.reduceBEq, Nat.reduceAdd]
  refine caN (by exact RArc_spec (a := 2 ^ w / 5) (b := cdiv (2 ^ w) 5) (w := w) (q2.to (h' := h4)) q4 l1.out l2.out (by have := F.out; omega) (by have := F.out; omega)) ?_; rintro v5 h5 s5' ⟨_, _, _, _, _, _, rfl, q5, q6⟩
  try simp (disch := omega) only [go_sem, Nat.reduceBEq, Nat.reduceAdd]
  refine caN (by exact RFrac_spec (n := 239) (by decide)) ?_; rintro v6 h6 s6 q7; obtain ⟨_, _, _, _, _, _, _, rfl, q7⟩ := q7.sa
  try simp (disch := omega) only [go_sem, Nat.reduceBEq, Nat.reduceAdd]
  refine caN (by exact G (u := false) (by decide) s9.out q7) ?_; rintro _ h7 _ q8; obtain ⟨_, _, _, rfl, q8⟩ := q8.sl
  try simp (disch := omega) only [go_sem, Nat.reduceBEq, Nat.reduceAdd]
  refine caN (by exact RFrac_spec (n := 239) (by decide)) ?_; rintro v8 h8 s8 q9; obtain ⟨_, _, _, _, _, _, _, rfl, q9⟩ := q9.sa
  try simp (disch := omega) only [go_sem, Nat.reduceBEq, Nat.reduceAdd]
  refine caN (by exact G (u := true) (by decide) s9.out q9) ?_; rintro _ h9 _ q10; obtain ⟨_, _, _, rfl, q10⟩ := q10.sl
  try simp (disch := omega) only [go_sem, Nat.reduceBEq, Nat.reduceAdd]
  refine caN (by exact RArc_spec (a := 2 ^ w / 239) (b := cdiv (2 ^ w) 239) (w := w) (q8.to (h' := h9)) q10 l3.out l4.out (by have := F.out; omega) (by have := F.out; omega)) ?_; rintro v10 h10 s10 ⟨_, _, _, _, _, _, rfl, q11, q12⟩
  try simp (disch := omega) only [go_sem, Nat.reduceBEq, Nat.reduceAdd]
  have q5 : N16 h5 _ (fifL 5 w) := q5
  have q6 : N16 h5 _ (fifH 5 w) := q6
  have q11 : N16 h10 _ (fifL 239 w) := q11
  have q12 : N16 h10 _ (fifH 239 w) := q12
  try simp (disch := omega) only [go_sem, Nat.reduceBEq, Nat.reduceAdd]
  refine caN (by exact RNat_spec (k := 16) (n := 16) (by decide) (by decide)) ?_; rintro _ h11 _ q13; obtain ⟨_, _, _, rfl, q13⟩ := q13.sl
  try simp (disch := omega) only [go_sem, Nat.reduceBEq, Nat.reduceAdd]
  refine caN (by exact NatMul_spec q13 (q5.to (h' := h11)) (by have := F.out; omega) (by have := F.out; omega)) ?_; rintro _ h12 _ q14; obtain ⟨v12, _, _, rfl, q14⟩ := q14.sl
  try simp (disch := omega) only [go_sem, Nat.reduceBEq, Nat.reduceAdd]
  refine caN (by exact RNat_spec (k := 4) (n := 4) (by decide) (by decide)) ?_; rintro _ h13 _ q15; obtain ⟨_, _, _, rfl, q15⟩ := q15.sl
  try simp (disch := omega) only [go_sem, Nat.reduceBEq, Nat.reduceAdd]
  refine caN (by exact NatMul_spec q15 (q12.to (h' := h13)) (by have := F.out; omega) (by have := F.out; omega)) ?_; rintro _ h14 _ q16; obtain ⟨v14, _, _, rfl, q16⟩ := q16.sl
  try simp (disch := omega) only [go_sem, Nat.reduceBEq, Nat.reduceAdd]
  refine caN (by exact NatSub_spec (q14.to (h' := h14)) q16 (by have := F.out; omega) (by have := F.out; omega)) ?_; rintro _ h15 _ q17; obtain ⟨v15, _, _, rfl, q17⟩ := q17.sl
  try simp (disch := omega) only [go_sem, Nat.reduceBEq, Nat.reduceAdd]
  refine caN (by exact RNat_spec (k := 16) (n := 16) (by decide) (by decide)) ?_; rintro _ h16 _ q18; obtain ⟨_, _, _, rfl, q18⟩ := q18.sl
  try simp (disch := omega) only [go_sem, Nat.reduceBEq, Nat.reduceAdd]
  refine caN (by exact NatMul_spec q18 (q6.to (h' := h16)) (by have := F.out; omega) (by have := F.out; omega)) ?_; rintro _ h17 _ q19; obtain ⟨v17, _, _, rfl, q19⟩ := q19.sl
  try simp (disch := omega) only [go_sem, Nat.reduceBEq, Nat.reduceAdd]
  refine caN (by exact RNat_spec (k := 4) (n := 4) (by decide) (by decide)) ?_; rintro _ h18 _ q20; obtain ⟨_, _, _, rfl, q20⟩ := q20.sl
  try simp (disch := omega) only [go_sem, Nat.reduceBEq, Nat.reduceAdd]
  refine caN (by exact NatMul_spec q20 (q11.to (h' := h18)) (by have := F.out; omega) (by have := F.out; omega)) ?_; rintro _ h19 _ q21; obtain ⟨v19, _, _, rfl, q21⟩ := q21.sl
  try simp (disch := omega) only [go_sem, Nat.reduceBEq, Nat.reduceAdd]
  refine caN (by exact NatSub_spec (q19.to (h' := h19)) q21 (by have := F.out; omega) (by have := F.out; omega)) ?_; rintro _ h20 _ q22; obtain ⟨v20, _, _, rfl, q22⟩ := q22.sl
  try simp (disch := omega) only [go_sem, Nat.reduceBEq, Nat.reduceAdd]
  rw [e1.out] at q17
  rw [e2.out] at q22
  exact ⟨_, _, _, _, _, _, rfl, q17.to, q22⟩
end Go.Q
namespace Go.Q
open Go.Proofs
set_option maxRecDepth 100000
set_option maxHeartbeats 8000000
theorem Right_spec {h0 h : PH} [Le h0 h] {v w : Value} {x y : Rat} (hx : Cn h0 v x) (hy : Qr h0 w y) (bx : sz x ≤ 2 ^ 30) (by_ : sz y ≤ 2 ^ 30) : Spec mach 7 #[v, w] h (fun r _ => r = .bool (decide (x = y))) NP := by
  have kC := fun {h} [Le h0 h] => Canonical_cn (h := h) hx bx
  have hw := hx.rw bx
  have kO := fun {h} [Le h0 h] => QOf_spec (h := h) hw
  rw [qof_cn] at kO
  have e3 : (cmpQ x y == 0) = decide (x = y) := by unfold cmpQ; grind
  obtain ⟨_, _, _, _, _, _, _, rfl, _⟩ := hx.sa
  have hy0 := hy
  obtain ⟨_, _, _, _, _, _, _, rfl, _⟩ := hy.sl
  refine Spec.go [(1, .o [0, 1, 2, 3, 5, 4, 6, 7, 8, 9])] Tryz.func7 rfl rfl (by kernel_rfl) fun C _ => ?_
  try simp (disch := omega) only [go_sem, Nat.reduceBEq, Nat.reduceAdd]
  refine caN (by exact kC) ?_; rintro v1 h1 s1 rfl
  try simp (disch := omega) only [go_sem, Nat.reduceBEq, Nat.reduceAdd]
  refine caN (by exact kO) ?_; rintro v2 h2 s2 q2; have q2' := q2; obtain ⟨_, _, _, _, _, _, _, rfl, _⟩ := q2'.sl
  try simp (disch := omega) only [go_sem, Nat.reduceBEq, Nat.reduceAdd]
  refine caN (by exact QCmp_spec q2 (hy0.to (h' := h2)) (Nat.le_trans bx (by decide)) (Nat.le_trans by_ (by decide))) ?_; rintro v3 h3 s3 rfl
  try simp (disch := omega) only [go_sem, Nat.reduceBEq, Nat.reduceAdd, e3]
theorem Mag_spec {h0 h : PH} [Le h0 h] {v : Value} {x : Rat} (hx : Qr h0 v x) : Spec mach 97 #[v] h (fun v h' => Qr h' v (sgn false x.num.natAbs x.den)) NP := by
  obtain ⟨_, _, _, _, _, _, e, rfl, k1, k2, k3⟩ := hx.sl
  obtain ⟨e1, e2⟩ := sgn_num (neg := false) x.den_nz x.reduced
  refine Spec.go [] Tryz.func97 rfl rfl (by kernel_rfl) fun C _ => ?_
  try simp (disch := omega) only [go_sem, Nat.reduceBEq, Nat.reduceAdd]
  exact ⟨_, _, e, by rw [show decide ((sgn false x.num.natAbs x.den).num < 0) = false from decide_eq_false (by rw [e1]; exact Int.not_lt.2 (Int.natCast_nonneg _))], by rw [e1]; exact k1.to, k2.to, by rw [e2]; exact k3⟩
theorem sgn_mul_den (a : Nat) {d : Nat} (hd : d ≠ 0) : sgn false a d * (d : Rat) = (a : Rat) := by
  have h : (d : Rat) ≠ 0 := by exact_mod_cast hd
  unfold sgn
  rw [Rat.mkRat_eq_div]
  exact Rat.div_mul_cancel h
end Go.Q
namespace Go.Q
open Go.Proofs
set_option maxRecDepth 100000
set_option maxHeartbeats 8000000
theorem EReady_exp {h0 h : PH} [Le h0 h] {v : Value} {x : Rat} {p : Int} (hx : Rv h0 v x) (hp : 0 ≤ p ∧ p ≤ 128) (hl : ¬ 1024 < sz x) (hb : ¬ x.den * 64 < x.num.natAbs) : Spec mach 120 #[.int .i64 1, v, .int .i64 p] h (fun r h' => ∃ b na nl nc da dl dc, r = .tuple #[.agg #[.bool b, .slice na nl nc, .slice da dl dc], .int .i64 0] ∧ Cn h' (.agg #[.bool b, .slice na nl nc, .slice da dl dc]) x) NP := by
  have kK := fun {h} [Le h0 h] => EKnown_ok (h := h) (fn := 1) hx (by decide)
  have bx := hx.sz
  obtain ⟨_, _, _, _, _, _, _, rfl, _⟩ := hx.sa
  have d1 : defB 1 x = true := rfl
  refine Spec.go [] Tryz.func120 rfl rfl (by kernel_rfl) fun C _ => ?_
  try simp (disch := omega) only [go_sem, Nat.reduceBEq, Nat.reduceAdd]
  refine caN (by exact kK) ?_; rintro v1 h1 s1 ⟨_, _, _, _, _, _, _, rfl, c⟩
  try simp (disch := omega) only [go_sem, Nat.reduceBEq, Nat.reduceAdd]
  refine caN (by exact EDefined_spec (fn := 1) c) ?_; rintro v2 h2 s2 rfl
  try simp (disch := omega) only [go_sem, Nat.reduceBEq, Nat.reduceAdd]
  rw [d1]
  try simp (disch := omega) only [go_sem, Nat.reduceBEq, Nat.reduceAdd]
  refine caN (by exact TooLong_spec (c.to (h' := h2))) ?_; rintro v3 h3 s3 rfl
  try simp (disch := omega) only [go_sem, Nat.reduceBEq, Nat.reduceAdd]
  try rw [decide_eq_false hl]
  try simp (disch := omega) only [go_sem, Nat.reduceBEq, Nat.reduceAdd]
  refine caN (by exact Beyond_spec (n := 64) (c.to (h' := h3)) (by omega) (by decide)) ?_; rintro v4 h4 s4 rfl
  try simp (disch := omega) only [go_sem, Nat.reduceBEq, Nat.reduceAdd]
  try rw [decide_eq_false hb]
  try simp (disch := omega) only [go_sem, Nat.reduceBEq, Nat.reduceAdd]
  exact ⟨_, _, _, _, _, _, _, rfl, c.to⟩
theorem EApply_exp {h0 h : PH} [Le h0 h] {v : Value} {x y z : Rat} {p : Int} {g : FuncId} (hx : Rv h0 v x) (hp : 0 ≤ p ∧ p ≤ 128) (hl : ¬ 1024 < sz x) (hb : ¬ x.den * 64 < x.num.natAbs) (hx0 : x ≠ 0) (hg : ∀ {h0 h : PH} {a : Value} [Le h0 h], Cn h0 a x → Spec mach g #[a, .int .i64 p] h (fun r h' => Be h' r y z) NP) :
    Spec mach 56 #[.int .i64 1, v, .int .i64 p, .func (.func g) #[] #[]] h (fun r h' => Be h' r y z) NP := by
  have kK := fun {h} [Le h0 h] => EReady_exp (h := h) hx hp hl hb
  have e1 : exB 1 x = false := by unfold exB; rw [if_neg (by decide)]; exact decide_eq_false hx0
  have kE := fun {h1 h : PH} {a : Value} [Le h1 h] (c : Cn h1 a x) => EExact_spec (h := h) (fn := 1) c
  rw [e1] at kE
  obtain ⟨_, _, _, _, _, _, _, rfl, _⟩ := hx.sa
  refine Spec.go [] Tryz.func56 rfl rfl (by kernel_rfl) fun C _ => ?_
  try simp (disch := omega) only [go_sem, Nat.reduceBEq, Nat.reduceAdd]
  refine caN (by exact kK) ?_; rintro v1 h1 s1 ⟨_, _, _, _, _, _, _, rfl, c⟩
  try simp (disch := omega) only [go_sem, Nat.reduceBEq, Nat.reduceAdd]
  refine caN (by exact kE c) ?_; rintro v2 h2 s2 ⟨_, _, _, _, _, _, _, rfl, _⟩
  try simp (disch := omega) only [go_sem, Nat.reduceBEq, Nat.reduceAdd]
  refine caN (by exact hg (c.to (h' := h2))) ?_; rintro v3 h3 s3 ⟨_, _, _, _, _, _, _, _, _, _, _, _, _, _, rfl, q3⟩
  try simp (disch := omega) only [go_sem, Nat.reduceBEq, Nat.reduceAdd]
  exact ⟨_, _, _, _, _, _, _, _, _, _, _, _, _, _, rfl, q3⟩
theorem FExp_ok {h0 h : PH} [Le h0 h] {v : Value} {x : Rat} {p : Nat} (hx : Rv h0 v x) (hp : p ≤ 128) (hl : ¬ 1024 < sz x) (hb : ¬ x.den * 64 < x.num.natAbs) (hx0 : x ≠ 0) : Spec mach 23 #[v, .int .i64 p] h (fun r h' => Be h' r (expLo x p) (expHi x p)) NP := by
  have kA := fun {h} [Le h0 h] => EApply_exp (h := h) (p := p) (g := 47) hx (by omega) hl hb hx0 (fun {h0 h a} _ c => EExp_spec c (by omega) hb hp)
  obtain ⟨_, _, _, _, _, _, _, rfl, _⟩ := hx.sa
  clear hl hb
  refine Spec.go [] Tryz.func23 rfl rfl (by kernel_rfl) fun C _ => ?_
  try simp (disch := omega) only [go_sem, Nat.reduceBEq, Nat.reduceAdd]
  refine caN (by exact kA) ?_; rintro v1 h1 s1 ⟨_, _, _, _, _, _, _, _, _, _, _, _, _, _, rfl, r1, r2⟩
  try simp (disch := omega) only [go_sem, Nat.reduceBEq, Nat.reduceAdd]
  exact ⟨_, _, _, _, _, _, _, _, _, _, _, _, _, _, rfl, r1, r2⟩
end Go.Q
namespace Go.Q
open Go.Proofs
set_option maxRecDepth 100000
set_option maxHeartbeats 8000000
theorem RFrac2_spec {h : PH} {a b : Nat} (ha : a < 2 ^ 20) (hb : b < 2 ^ 20) : Spec mach 24 #[.int .i64 a, .int .i64 b] h (fun v h' => Qr h' v ((a : Rat) / (b : Rat))) NP := by
  have S : ∀ {n : Nat}, n < 2 ^ 20 → sz (((n : Int)) : Rat) ≤ 2 ^ 35 := by
    intro n hn
    unfold sz
    have e1 : bl ((((n : Int)) : Rat).num.natAbs) ≤ 64 := bl_le.2 (by simp; omega)
    have e2 : bl ((((n : Int)) : Rat).den) ≤ 64 := bl_le.2 (by simp)
    omega
  have b1 := S ha
  have b2 := S hb
  have e : ((((a : Int)) : Rat) / (((b : Int)) : Rat)) = (a : Rat) / (b : Rat) := rfl
  refine Spec.go [] Tryz.func24 rfl rfl (by kernel_rfl) fun C _ => ?_
  try simp (disch := omega) only [go_sem, Nat.reduceBEq, Nat.reduceAdd]
  refine caN (by exact QInt_spec (n := a) (by omega) (by omega)) ?_; rintro v1 g1 s1 q1; obtain ⟨_, _, _, _, _, _, _, rfl, q1⟩ := q1.sa
  try simp (disch := omega) only [go_sem, Nat.reduceBEq, Nat.reduceAdd]
  refine caN (by exact QInt_spec (n := b) (by omega) (by omega)) ?_; rintro v2 g2 s2 q2; obtain ⟨_, _, _, _, _, _, _, rfl, q2⟩ := q2.sa
  try simp (disch := omega) only [go_sem, Nat.reduceBEq, Nat.reduceAdd]
  refine caN (by exact QDiv_spec (q1.to (h' := g2)) q2 b1 b2) ?_; rintro v3 g3 s3 q3; rw [e] at q3; obtain ⟨_, _, _, _, _, _, _, rfl, q3⟩ := q3.sa
  try simp (disch := omega) only [go_sem, Nat.reduceBEq, Nat.reduceAdd]
  exact q3
theorem exp_sane1 : expLo 1 3 = ((21 : Nat) : Rat) / ((8 : Nat) : Rat) := by
  unfold expLo
  rw [if_neg (by decide), show expL 1 3 / 2 ^ 112 = 21 by decide +kernel]
  decide +kernel
theorem exp_sane2 : expHi 1 3 = ((11 : Nat) : Rat) / ((4 : Nat) : Rat) := by
  unfold expHi
  rw [if_neg (by decide), show cdiv (expH 1 3) (2 ^ 112) = 22 by decide +kernel]
  decide +kernel
theorem one_rv {h : PH} {b : Nat} (hb : h b = some #[.int .u32 1]) : Rv h (.agg #[.bool false, .slice (some ⟨b, 0, none⟩) 1 1, .slice none 0 0]) 1 := by
  have e : qof false 1 0 = 1 := by decide +kernel
  refine ⟨false, 1, 0, ⟨some ⟨b, 0, none⟩, 1, [1], none, 0, [], rfl, Arr.of_row (fun _ => hb) (by decide) (by decide) (by decide), Arr.nil _, rfl, rfl, by decide, by decide⟩, ?_, e⟩
  unfold lg
  rw [e]
  decide +kernel
theorem sane_spec {h : PH} : Spec mach 8 #[] h (fun r _ => r = .bool true) NP := by
  have z1 : sz (((21 : Nat) : Rat) / ((8 : Nat) : Rat)) ≤ 2 ^ 30 := by decide +kernel
  have z2 : sz (((11 : Nat) : Rat) / ((4 : Nat) : Rat)) ≤ 2 ^ 30 := by decide +kernel
  have e1 : decide (((21 : Nat) : Rat) / ((8 : Nat) : Rat) = ((21 : Nat) : Rat) / ((8 : Nat) : Rat)) = true := decide_eq_true rfl
  have e2 : decide (((11 : Nat) : Rat) / ((4 : Nat) : Rat) = ((11 : Nat) : Rat) / ((4 : Nat) : Rat)) = true := decide_eq_true rfl
  have z1 := Hid.mk z1
  have z2 := Hid.mk z2
  refine Spec.go [(1, .t (.s [0] (.p 0 (.s [1, 2, 3, 4, 5, 6, 7, 8] .d))))] Tryz.func8 rfl rfl (by kernel_rfl) fun C _ => ?_
  try simp (disch := omega) only [go_sem, Nat.reduceBEq, Nat.reduceAdd]
  intro b h1 st1 hb
  try simp (disch := omega) only [go_sem, Nat.reduceBEq, Nat.reduceAdd]
  have hb := hb (by simp [uw])
  try simp (disch := omega) only [go_sem, Nat.reduceBEq, Nat.reduceAdd]
  refine caN (by exact FExp_ok (x := 1) (p := 3) (one_rv hb) (by decide) (by decide) (by decide) (by decide)) ?_; rintro v2 h2 s2 ⟨_, _, _, _, _, _, _, _, _, _, _, _, _, _, rfl, r1, r2⟩
  try simp (disch := omega) only [go_sem, Nat.reduceBEq, Nat.reduceAdd]
  rw [exp_sane1] at r1
  rw [exp_sane2] at r2
  try simp (disch := omega) only [go_sem, Nat.reduceBEq, Nat.reduceAdd]
  refine caN (by exact RFrac2_spec (a := 21) (b := 8) (by decide) (by decide)) ?_; rintro v3 h3 s3 q3; obtain ⟨_, _, _, _, _, _, _, rfl, q3⟩ := q3.sa
  try simp (disch := omega) only [go_sem, Nat.reduceBEq, Nat.reduceAdd]
  refine caN (by exact Right_spec (r1.to (h' := h3)) q3 z1.out z1.out) ?_; rintro v4 h4 s4 rfl
  try simp (disch := omega) only [go_sem, Nat.reduceBEq, Nat.reduceAdd, e1, decide_true]
  refine caN (by exact RFrac2_spec (a := 11) (b := 4) (by decide) (by decide)) ?_; rintro v5 h5 s5 q5; obtain ⟨_, _, _, _, _, _, _, rfl, q5⟩ := q5.sa
  try simp (disch := omega) only [go_sem, Nat.reduceBEq, Nat.reduceAdd]
  refine caN (by exact Right_spec (r2.to (h' := h5)) q5 z2.out z2.out) ?_; rintro v6 h6 s6 rfl
  try simp (disch := omega) only [go_sem, Nat.reduceBEq, Nat.reduceAdd, e2, decide_true]
end Go.Q
