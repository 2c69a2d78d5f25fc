/-
  What exp returns of a number other than 0. Conditions: the number has at most 1024 binary digits, its absolute value is at most 64; the precision is at most 128.
  The statements' helper right; the reference's domains and exact values. Conditions: the values are numbers (Cn, Qr).
  Contracts of package elem: the argument of exp made ready; what Exp returns. Conditions: the argument is small enough, the value is not exact.
  What arctan, pi and Pi return. Conditions: the numbers are at most 1 of the grid; the precisions are those that the program uses.
  The reference's helpers of layer 2: natural numbers, quotients rounded, numbers of a grid; its domains and exact values. Conditions: the values are natural numbers (N16) and numbers (Qr).
  The reference of layer 2: its grid, the series of the arctangent, pi. Conditions: the values are natural numbers (N16) and numbers (Qr).
  The statements' check of one bracket (sane); the statement ElemPi. Conditions: none.
  What Name and Find know; the statement ElemNames. Conditions: none.
-/
import Derived.Test.YtmibfkpalmmheaaDoorKabdecePkD
import Derived.Test.YtmibfkpalmmheaaDoorKa9f32bPkJ
set_option linter.unusedVariables false
set_option linter.unusedSimpArgs false
namespace Go.Q
open Go.Proofs
set_option maxRecDepth 100000
set_option maxHeartbeats 8000000
def Be (h : PH) (r : Value) (x y : Rat) : Prop := ∃ b1 a1 m1 c1 a2 m2 c2 b2 a3 m3 c3 a4 m4 c4, r = .tuple #[.agg #[.bool b1, .slice a1 m1 c1, .slice a2 m2 c2, .bool b2, .slice a3 m3 c3, .slice a4 m4 c4], .int .i64 0] ∧ Cn h (.agg #[.bool b1, .slice a1 m1 c1, .slice a2 m2 c2]) x ∧ Cn h (.agg #[.bool b2, .slice a3 m3 c3, .slice a4 m4 c4]) y
theorem bl_64 {n w : Nat} (h : n ≤ 64 * 2 ^ w) : bl n ≤ w + 7 := bl_pow' (k := w + 6) (by rw [Nat.pow_add]; omega)
theorem bl_cd {a k n : Nat} (h : bl a ≤ k) (hn : 1 ≤ n) : bl (cdiv a (2 ^ n)) ≤ k + 1 := Nat.le_trans (bl_cdiv a (pow2_ne n)) (by omega)
theorem EExp_spec {h0 h : PH} [Le h0 h] {v : Value} {x : Rat} {p : Nat} (hx : Cn h0 v x) (bx : sz x ≤ 1024) (hb : ¬ x.den * 64 < x.num.natAbs) (hp : p ≤ 128) : Spec mach 62 #[v, .int .i64 p] h (fun r h' => Be h' r (expLo x p) (expHi x p)) NP := by
  have kS := fun {h} [Le h0 h] => EScaled_spec (h := h) (w := p + 112) hx (Nat.le_trans bx (by decide)) (by omega)
  obtain ⟨g1, g2⟩ := glo_le (w := p + 112) hb
  have bL := bl_64 g1
  have bH := bl_64 g2
  have bl1 : ∀ {k}, k < 40 → bl (eLo (p + 112) (glo x (p + 112)) k) ≤ p + 114 := fun hk => bl_pow' (eLo_le g1 hk).1
  have bl2 : ∀ {k}, k ≤ 40 → bl (eHi (p + 112) (ghi x (p + 112)) k) ≤ p + 114 := fun hk => bl_pow' (eHi_le g2 hk)
  have bq1 := bl_qLo (p + 112) (eLo (p + 112) (glo x (p + 112)) 40)
  have bq2 := bl_qHi (p + 112) (eHi (p + 112) (ghi x (p + 112)) 40)
  have b40 : bl (eLo (p + 112) (glo x (p + 112)) 40) ≤ p + 114 := bl_pow' (eLo_le g1 (k := 39) (by decide)).2
  have b41 := bl2 (Nat.le_refl 40)
  obtain ⟨f1, f2, f3, f4⟩ := exp_fit (p := p) hb
  obtain ⟨na, nl, nc, da, dl, dc, rfl, hn, hd, e1, e2⟩ := hx.parts
  clear hn hd e1 e2 hx
  have u1 := bl_pow2 (p + 112)
  have u3 := bl_pow2 (p + 112 + p)
  have u2 := bl_one
  generalize hD : decide (x.num < 0) = b at kS ⊢
  have f3 := Hid.mk f3
  have f4 := Hid.mk f4
  have bq1 := fun j => Hid.mk (bq1 j)
  have bq2 := fun j => Hid.mk (bq2 j)
  have b40 := Hid.mk b40
  have b41 := Hid.mk b41
  have f2' := Hid.mk f2
  clear hb bx g1 g2
  have F := Hid.mk (And.intro bL (And.intro bH (And.intro f1 (And.intro f2 (And.intro u1 (And.intro u2 u3)))))); clear bL bH f1 f2 u1 u2 u3
  refine Spec.go [(9, .o [0, 2, 3, 4, 6, 7, 9, 10, 1, 5, 8, 11, 12, 13, 14])] Tryd.func62 rfl rfl (by kernel_rfl) fun C _ => ?_
  try simp (disch := omega) only [go_sem, Nat.reduceBEq, Nat.reduceAdd]
  refine caN (by exact kS) ?_; rintro v1 h1 s1 ⟨a1, m1, c1, a2, m2, c2, rfl, q1, q2⟩
  try simp (disch := omega) only [go_sem, Nat.reduceBEq, Nat.reduceAdd]
  refine caN (by exact Unit_spec (w := p + 112) (by have := F.out; omega)) ?_; rintro _ h3 _ q3; obtain ⟨v3, v3_l, v3_c, rfl, q3⟩ := q3.sl
  try simp (disch := omega) only [go_sem, Nat.reduceBEq, Nat.reduceAdd]
  refine caN (by exact Unit_spec (w := p + 112) (by have := F.out; omega)) ?_; rintro _ h4 _ q4; obtain ⟨v4, _, _, rfl, q4⟩ := q4.sl
  try simp (disch := omega) only [go_sem, Nat.reduceBEq, Nat.reduceAdd]
  refine caN (by exact Shl_spec (n := 1) q4 (by have := F.out; omega)) ?_; rintro _ h5 _ q5; obtain ⟨v5, v5_l, v5_c, rfl, q5⟩ := q5.sl
  try simp (disch := omega) only [go_sem, Nat.reduceBEq, Nat.reduceAdd]
  refine lp [(9, .o [0, 2, 3, 4, 6, 7, 9, 10, 1, 5, 8, 11, 12, 13, 14])] (fun x' : Value × Value × Nat => ⟨[(1, .v (.int .i64 p)), (2, .p 0 0), (4, .p 1 0), (6, .v (.int .i64 (p + 112 : Nat))), (7, .p 2 0), (8, .v x'.1), (9, .v x'.2.1), (10, .v (.int .u32 (x'.2.2 : Nat)))], [[.bool b, .slice na nl nc, .slice da dl dc], [.bool false, .slice none 0 0, .slice none 0 0, .bool false, .slice none 0 0, .slice none 0 0], [.slice a1 m1 c1, .slice a2 m2 c2]]⟩) (fun x' h' => Le h1 h' ∧ x'.2.2 ≤ 40 ∧ N32 h' x'.1 (eLo (p + 112) (glo x (p + 112)) (40 - x'.2.2)) ∧ N32 h' x'.2.1 (eHi (p + 112) (ghi x (p + 112)) (40 - x'.2.2))) (fun x' => x'.2.2) (.slice v3 v3_l v3_c, .slice v5 v5_l v5_c, 40) ?_ ⟨inferInstance, Nat.le_refl _, by show N32 _ _ (eLo _ _ (40 - 40)); rw [Nat.sub_self, eLo_0]; exact q3.to, by show N32 _ _ (eHi _ _ (40 - 40)); rw [Nat.sub_self, eHi_0]; exact q5⟩ (by kernel_rfl) ?_
  · try simp (disch := omega) only [go_sem, Nat.reduceBEq, Nat.reduceAdd]
    all_goals rfl
  rintro ⟨va, vb, i⟩ h6 ⟨le6, hi, ha, hb'⟩
  dsimp only at hi ha hb' ⊢
  by_cases h0i : i = 0
  · subst h0i
    rw [Nat.sub_zero] at ha hb'
    obtain ⟨_, _, _, rfl, ha⟩ := ha.sl
    obtain ⟨_, _, _, rfl, hb'⟩ := hb'.sl
    try simp (disch := omega) only [go_sem, Nat.reduceBEq, Nat.reduceAdd]
    refine lp [(9, .o [0, 2, 3, 4, 6, 7, 9, 10, 1, 5, 8, 11, 12, 13, 14])] (fun x' : Value × Value × Nat => ⟨[(1, .v (.int .i64 p)), (2, .p 0 0), (4, .p 1 0), (6, .v (.int .i64 (p + 112 : Nat))), (8, .v x'.1), (9, .v x'.2.1), (58, .v (.int .i64 (x'.2.2 : Nat)))], [[.bool b, .slice na nl nc, .slice da dl dc], [.bool false, .slice none 0 0, .slice none 0 0, .bool false, .slice none 0 0, .slice none 0 0], [.slice a1 m1 c1, .slice a2 m2 c2]]⟩) (fun x' h' => x'.2.2 ≤ 8 ∧ N32 h' x'.1 (qLo (p + 112) (eLo (p + 112) (glo x (p + 112)) 40) x'.2.2) ∧ N32 h' x'.2.1 (qHi (p + 112) (eHi (p + 112) (ghi x (p + 112)) 40) x'.2.2)) (fun x' => 8 - x'.2.2) (_, _, 0) ?_ ⟨(show 0 ≤ 8 by decide), by show N32 _ _ (qLo _ _ 0); rw [qLo_0]; exact ha, by show N32 _ _ (qHi _ _ 0); rw [qHi_0]; exact hb'⟩ (by kernel_rfl) ?_
    · try simp (disch := omega) only [go_sem, Nat.reduceBEq, Nat.reduceAdd]
      all_goals rfl
    rintro ⟨va', vb', j⟩ h7 ⟨hj, hc, hd'⟩
    dsimp only at hj hc hd' ⊢
    by_cases hj8 : j = 8
    · subst hj8
      have hc : N32 h7 va' (expL x p) := hc
      have hd' : N32 h7 vb' (expH x p) := hd'
      obtain ⟨_, _, _, rfl, hc⟩ := hc.sl
      obtain ⟨_, _, _, rfl, hd'⟩ := hd'.sl
      cases b with
      | false =>
        have hlt : ¬ x.num < 0 := of_decide_eq_false hD
        have ea : expLo x p = sgn false (expL x p / 2 ^ (p + 112 - p)) (2 ^ p) := by unfold expLo; rw [if_neg hlt, show p + 112 - p = 112 by have := F.out; omega]
        have eb : expHi x p = sgn false (cdiv (expH x p) (2 ^ (p + 112 - p))) (2 ^ p) := by unfold expHi; rw [if_neg hlt, show p + 112 - p = 112 by have := F.out; omega]
        have y1 := bl_div_le (expL x p) (2 ^ (p + 112 - p))
        have y2 := bl_cd (n := p + 112 - p) f2'.out (by have := F.out; omega)
        rw [ea, eb]
        clear ea eb
        have F := Hid.mk (And.intro F.out (And.intro y1 y2)); clear y1 y2
        try simp (disch := omega) only [go_sem, Nat.reduceBEq, Nat.reduceAdd]
        refine caN (by exact Bracket_spec (a := expL x p) (b := expH x p) (w := p + 112) (p := p) (neg := false) ⟨_, _, _, _, _, _, rfl, hc, hd'⟩ (by have := F.out; omega) (by have := F.out; omega) (by have := F.out; omega) (by have := F.out; omega) (by have := F.out; omega) (by have := F.out; omega) (by have := F.out; omega)) ?_; rintro v8 h8 s8 ⟨_, _, _, _, _, _, _, _, _, _, _, _, _, _, rfl, r1, r2⟩
        try simp (disch := omega) only [go_sem, Nat.reduceBEq, Nat.reduceAdd]
        exact ⟨_, _, _, _, _, _, _, _, _, _, _, _, _, _, rfl, r1, r2⟩
      | true =>
        have hlt : x.num < 0 := of_decide_eq_true hD
        have y1 := bl_div_le (2 ^ (p + 112 + p)) (expH x p)
        have y2 := bl_cdiv (2 ^ (p + 112 + p)) f3.out
        have ea : expLo x p = sgn false (2 ^ (p + 112 + p) / expH x p) (2 ^ p) := by unfold expLo; rw [if_pos hlt]
        have eb : expHi x p = sgn false (cdiv (2 ^ (p + 112 + p)) (expL x p)) (2 ^ p) := by unfold expHi; rw [if_pos hlt]
        rw [ea, eb]
        clear ea eb
        have F := Hid.mk (And.intro F.out (And.intro y1 y2)); clear y1 y2
        try simp (disch := omega) only [go_sem, Nat.reduceBEq, Nat.reduceAdd]
        refine caN (by exact Unit_spec (w := p + 112 + p) (by have := F.out; omega)) ?_; rintro _ h8 _ q8; obtain ⟨v8, _, _, rfl, q8⟩ := q8.sl
        try simp (disch := omega) only [go_sem, Nat.reduceBEq, Nat.reduceAdd]
        refine caN (by exact EOver_spec (c := false) q8 (hd'.to (h' := h8)) f4.out (by have := F.out; omega) (by have := F.out; omega)) ?_; rintro _ h9 _ q9; obtain ⟨v9, _, _, rfl, q9⟩ := q9.sl
        try simp (disch := omega) only [go_sem, Nat.reduceBEq, Nat.reduceAdd]
        refine caN (by exact Rational_spec (n := p) q9 (show bl (2 ^ (p + 112 + p) / expH x p) ≤ 2048 by have := F.out; omega) (by have := F.out; omega)) ?_; rintro v10 h10 s10 q10; obtain ⟨_, _, _, _, _, _, _, rfl, q10⟩ := q10.sa
        try simp (disch := omega) only [go_sem, Nat.reduceBEq, Nat.reduceAdd]
        refine caN (by exact EOver_spec (c := true) (q8.to (h' := h10)) (hc.to (h' := h10)) f3.out (by have := F.out; omega) (by have := F.out; omega)) ?_; rintro _ h11 _ q11; obtain ⟨v11, _, _, rfl, q11⟩ := q11.sl
        try simp (disch := omega) only [go_sem, Nat.reduceBEq, Nat.reduceAdd]
        refine caN (by exact Rational_spec (n := p) q11 (show bl (cdiv (2 ^ (p + 112 + p)) (expL x p)) ≤ 2048 by have := F.out; omega) (by have := F.out; omega)) ?_; rintro v12 h12 s12 q12; obtain ⟨_, _, _, _, _, _, _, rfl, q12⟩ := q12.sa
        try simp (disch := omega) only [go_sem, Nat.reduceBEq, Nat.reduceAdd]
        exact ⟨_, _, _, _, _, _, _, _, _, _, _, _, _, _, rfl, q10.to, q12⟩
    · have hj8 : j < 8 := by have := F.out; omega
      have z0 : 2 ^ j ≤ 2 ^ 8 := Nat.pow_le_pow_right (by decide) (by have := F.out; omega)
      have z1 := Nat.le_trans (bq1 j).out (Nat.mul_le_mul z0 (Nat.add_le_add_right b40.out 1))
      have z2 := Nat.le_trans (bq2 j).out (Nat.mul_le_mul z0 (Nat.add_le_add_right b41.out 1))
      have z3 := bl_mul (qLo (p + 112) (eLo (p + 112) (glo x (p + 112)) 40) j) (qLo (p + 112) (eLo (p + 112) (glo x (p + 112)) 40) j)
      have z4 := bl_mul (qHi (p + 112) (eHi (p + 112) (ghi x (p + 112)) 40) j) (qHi (p + 112) (eHi (p + 112) (ghi x (p + 112)) 40) j)
      clear z0
      have F := Hid.mk (And.intro F.out (And.intro z1 (And.intro z2 (And.intro z3 z4)))); clear z1 z2 z3 z4
      try simp (disch := omega) only [go_sem, Nat.reduceBEq, Nat.reduceAdd]
      refine caN (by exact Mul_spec hc hc (by have := F.out; omega) (by have := F.out; omega)) ?_; rintro _ h8 _ r1; obtain ⟨w1, _, _, rfl, r1⟩ := r1.sl
      try simp (disch := omega) only [go_sem, Nat.reduceBEq, Nat.reduceAdd]
      refine caN (by exact Shr_spec (n := p + 112) r1 (by have := F.out; omega) (by have := F.out; omega)) ?_; rintro _ h9 _ r2; obtain ⟨w2, _, _, rfl, r2⟩ := r2.sl
      try simp (disch := omega) only [go_sem, Nat.reduceBEq, Nat.reduceAdd]
      refine caN (by exact Mul_spec (hd'.to (h' := h9)) (hd'.to (h' := h9)) (by have := F.out; omega) (by have := F.out; omega)) ?_; rintro _ h10 _ r3; obtain ⟨w3, _, _, rfl, r3⟩ := r3.sl
      try simp (disch := omega) only [go_sem, Nat.reduceBEq, Nat.reduceAdd]
      refine caN (by exact EUp_spec (n := p + 112) r3 (by have := F.out; omega) (by have := F.out; omega)) ?_; rintro _ h11 _ r4; obtain ⟨w4, _, _, rfl, r4⟩ := r4.sl
      try simp (disch := omega) only [go_sem, Nat.reduceBEq, Nat.reduceAdd]
      dsimp only [lpE]; refine ⟨(_, _, j + 1), ?_, ⟨(show j + 1 ≤ 8 by have := F.out; omega), by show N32 _ _ (qLo _ _ (j + 1)); rw [qLo_s]; exact r2.to, by show N32 _ _ (qHi _ _ (j + 1)); rw [qHi_s]; exact r4⟩, (show 8 - (j + 1) < 8 - j by have := F.out; omega)⟩
      try simp (disch := omega) only [go_sem, Nat.reduceBEq, Nat.reduceAdd]
      all_goals rfl
  · obtain ⟨k, hk, ek⟩ : ∃ k, k < 40 ∧ 40 - i = k := ⟨_, by have := F.out; omega, rfl⟩
    have ei : i = 40 - k := by have := F.out; omega
    have en : 40 - (i - 1) = k + 1 := by have := F.out; omega
    rw [ek] at ha hb'
    have c1 := bl1 hk
    have c2 := bl2 (Nat.le_of_lt hk)
    have d1 := bl_mul (glo x (p + 112)) (eLo (p + 112) (glo x (p + 112)) k)
    have d2 := bl_mul (ghi x (p + 112)) (eHi (p + 112) (ghi x (p + 112)) k)
    have d3 := bl_div_le (glo x (p + 112) * eLo (p + 112) (glo x (p + 112)) k) (2 ^ (p + 112 + 8))
    have d4 := bl_div_le (glo x (p + 112) * eLo (p + 112) (glo x (p + 112)) k / 2 ^ (p + 112 + 8)) i
    have d5 := bl_cd (n := p + 112 + 8) d2 (by have := F.out; omega)
    have d6 : bl (odiv (cdiv (ghi x (p + 112) * eHi (p + 112) (ghi x (p + 112)) k) (2 ^ (p + 112 + 8))) i true) ≤ _ := bl_cdiv _ h0i
    have d7 : bl i ≤ 6 := bl_le.2 (by have := F.out; omega)
    have h0i := Hid.mk h0i
    have hi0 : 1 ≤ i := by have := F.out; omega
    have ei := Hid.mk ei
    have en := Hid.mk en
    clear ek hk
    have F := Hid.mk (And.intro F.out (And.intro c1 (And.intro c2 (And.intro d1 (And.intro d2 (And.intro d3 (And.intro d4 (And.intro d5 (And.intro d6 d7))))))))); clear c1 c2 d1 d2 d3 d4 d5 d6 d7
    try simp (disch := omega) only [go_sem, Nat.reduceBEq, Nat.reduceAdd]
    refine caN (by exact Mul_spec (q1.to (h' := h6)) ha (by have := F.out; omega) (by have := F.out; omega)) ?_; rintro _ h7 _ r1; obtain ⟨w1, _, _, rfl, r1⟩ := r1.sl
    try simp (disch := omega) only [go_sem, Nat.reduceBEq, Nat.reduceAdd]
    refine caN (by exact Shr_spec (n := p + 112 + 8) r1 (by have := F.out; omega) (by have := F.out; omega)) ?_; rintro _ h8 _ r2; obtain ⟨w2, _, _, rfl, r2⟩ := r2.sl
    try simp (disch := omega) only [go_sem, Nat.reduceBEq, Nat.reduceAdd]
    refine caN (by exact DivSmall_spec (d := i) r2 (by have := F.out; omega) (by have := F.out; omega) (by have := F.out; omega)) ?_; rintro w3 h9 s9 ⟨_, rfl, r3⟩; obtain ⟨_, _, _, rfl, r3⟩ := r3.sl
    try simp (disch := omega) only [go_sem, Nat.reduceBEq, Nat.reduceAdd]
    refine caN (by exact Unit_spec (w := p + 112) (by have := F.out; omega)) ?_; rintro _ h10 _ r4; obtain ⟨w4, _, _, rfl, r4⟩ := r4.sl
    try simp (disch := omega) only [go_sem, Nat.reduceBEq, Nat.reduceAdd]
    refine caN (by exact Add_spec r4 (r3.to (h' := h10)) (by have := F.out; omega) (by have := F.out; omega)) ?_; rintro _ h11 _ r5; obtain ⟨w5, w5_l, w5_c, rfl, r5⟩ := r5.sl
    try simp (disch := omega) only [go_sem, Nat.reduceBEq, Nat.reduceAdd]
    refine caN (by exact Unit_spec (w := p + 112) (by have := F.out; omega)) ?_; rintro _ h12 _ r6; obtain ⟨w6, _, _, rfl, r6⟩ := r6.sl
    try simp (disch := omega) only [go_sem, Nat.reduceBEq, Nat.reduceAdd]
    refine caN (by exact Mul_spec (q2.to (h' := h12)) (hb'.to (h' := h12)) (by have := F.out; omega) (by have := F.out; omega)) ?_; rintro _ h13 _ r7; obtain ⟨w7, _, _, rfl, r7⟩ := r7.sl
    try simp (disch := omega) only [go_sem, Nat.reduceBEq, Nat.reduceAdd]
    refine caN (by exact EUp_spec (n := p + 112 + 8) r7 (by have := F.out; omega) (by have := F.out; omega)) ?_; rintro _ h14 _ r8; obtain ⟨w8, _, _, rfl, r8⟩ := r8.sl
    try simp (disch := omega) only [go_sem, Nat.reduceBEq, Nat.reduceAdd]
    refine caN (by exact Small_spec (n := i) (by have := F.out; omega)) ?_; rintro _ h15 _ r9; obtain ⟨w9, _, _, rfl, r9⟩ := r9.sl
    try simp (disch := omega) only [go_sem, Nat.reduceBEq, Nat.reduceAdd]
    refine caN (by exact EOver_spec (c := true) (r8.to (h' := h15)) r9 h0i.out (by have := F.out; omega) (by have := F.out; omega)) ?_; rintro _ h16 _ r10; obtain ⟨w10, _, _, rfl, r10⟩ := r10.sl
    try simp (disch := omega) only [go_sem, Nat.reduceBEq, Nat.reduceAdd]
    refine caN (by exact Add_spec (r6.to (h' := h16)) r10 (by have := F.out; omega) (by have := F.out; omega)) ?_; rintro _ h17 _ r11; obtain ⟨w11, w11_l, w11_c, rfl, r11⟩ := r11.sl
    try simp (disch := omega) only [go_sem, Nat.reduceBEq, Nat.reduceAdd]
    dsimp only [lpE]; refine ⟨(.slice w5 w5_l w5_c, .slice w11 w11_l w11_c, i - 1), ?_, ⟨Le.trn le6 inferInstance, (show i - 1 ≤ 40 by have := F.out; omega), ?_, ?_⟩, (show i - 1 < i by have := F.out; omega)⟩
    · try simp (disch := omega) only [go_sem, Nat.reduceBEq, Nat.reduceAdd]
      all_goals rfl
    · show N32 _ _ (eLo _ _ (40 - (i - 1)))
      rw [en.out, eLo_s, ← ei.out]
      exact r5.to
    · show N32 _ _ (eHi _ _ (40 - (i - 1)))
      rw [en.out, eHi_s, ← ei.out]
      exact r11
end Go.Q
namespace Go.Q
open Go.Proofs
set_option maxRecDepth 100000
set_option maxHeartbeats 8000000
theorem Right_spec {h0 h : PH} [Le h0 h] {v w : Value} {x y : Rat} (hx : Cn h0 v x) (hy : Qr h0 w y) (bx : sz x ≤ 2 ^ 30) (by_ : sz y ≤ 2 ^ 30) : Spec mach 11 #[v, w] h (fun r _ => r = .bool (decide (x = y))) NP := by
  have kC := fun {h} [Le h0 h] => Canonical_cn (h := h) hx bx
  have hw := hx.rw bx
  have kO := fun {h} [Le h0 h] => QOf_spec (h := h) hw
  rw [qof_cn] at kO
  have e3 : (cmpQ x y == 0) = decide (x = y) := by unfold cmpQ; grind
  obtain ⟨_, _, _, _, _, _, _, rfl, _⟩ := hx.sa
  have hy0 := hy
  obtain ⟨_, _, _, _, _, _, _, rfl, _⟩ := hy.sl
  refine Spec.go [(1, .o [0, 1, 2, 3, 5, 4, 6, 7, 8, 9])] Tryd.func11 rfl rfl (by kernel_rfl) fun C _ => ?_
  try simp (disch := omega) only [go_sem, Nat.reduceBEq, Nat.reduceAdd]
  refine caN (by exact kC) ?_; rintro v1 h1 s1 rfl
  try simp (disch := omega) only [go_sem, Nat.reduceBEq, Nat.reduceAdd]
  refine caN (by exact kO) ?_; rintro v2 h2 s2 q2; have q2' := q2; obtain ⟨_, _, _, _, _, _, _, rfl, _⟩ := q2'.sl
  try simp (disch := omega) only [go_sem, Nat.reduceBEq, Nat.reduceAdd]
  refine caN (by exact QCmp_spec q2 (hy0.to (h' := h2)) (Nat.le_trans bx (by decide)) (Nat.le_trans by_ (by decide))) ?_; rintro v3 h3 s3 rfl
  try simp (disch := omega) only [go_sem, Nat.reduceBEq, Nat.reduceAdd, e3]
end Go.Q
namespace Go.Q
open Go.Proofs
set_option maxRecDepth 100000
set_option maxHeartbeats 8000000
theorem EReady_exp {h0 h : PH} [Le h0 h] {v : Value} {x : Rat} {p : Int} (hx : Rv h0 v x) (hp : 0 ≤ p ∧ p ≤ 128) (hl : ¬ 1024 < sz x) (hb : ¬ x.den * 64 < x.num.natAbs) : Spec mach 87 #[.int .i64 1, v, .int .i64 p] h (fun r h' => ∃ b na nl nc da dl dc, r = .tuple #[.agg #[.bool b, .slice na nl nc, .slice da dl dc], .int .i64 0] ∧ Cn h' (.agg #[.bool b, .slice na nl nc, .slice da dl dc]) x) NP := by
  have kK := fun {h} [Le h0 h] => EKnown_ok (h := h) (fn := 1) hx (by decide)
  have bx := hx.sz
  obtain ⟨_, _, _, _, _, _, _, rfl, _⟩ := hx.sa
  have d1 : defB 1 x = true := rfl
  refine Spec.go [] Tryd.func87 rfl rfl (by kernel_rfl) fun C _ => ?_
  try simp (disch := omega) only [go_sem, Nat.reduceBEq, Nat.reduceAdd]
  refine caN (by exact kK) ?_; rintro v1 h1 s1 ⟨_, _, _, _, _, _, _, rfl, c⟩
  try simp (disch := omega) only [go_sem, Nat.reduceBEq, Nat.reduceAdd]
  refine caN (by exact EDefined_spec (fn := 1) c) ?_; rintro v2 h2 s2 rfl
  try simp (disch := omega) only [go_sem, Nat.reduceBEq, Nat.reduceAdd]
  rw [d1]
  try simp (disch := omega) only [go_sem, Nat.reduceBEq, Nat.reduceAdd]
  refine caN (by exact TooLong_spec (c.to (h' := h2))) ?_; rintro v3 h3 s3 rfl
  try simp (disch := omega) only [go_sem, Nat.reduceBEq, Nat.reduceAdd]
  try rw [decide_eq_false hl]
  try simp (disch := omega) only [go_sem, Nat.reduceBEq, Nat.reduceAdd]
  refine caN (by exact Beyond_spec (n := 64) (c.to (h' := h3)) (by omega) (by decide)) ?_; rintro v4 h4 s4 rfl
  try simp (disch := omega) only [go_sem, Nat.reduceBEq, Nat.reduceAdd]
  try rw [decide_eq_false hb]
  try simp (disch := omega) only [go_sem, Nat.reduceBEq, Nat.reduceAdd]
  exact ⟨_, _, _, _, _, _, _, rfl, c.to⟩
theorem EApply_exp {h0 h : PH} [Le h0 h] {v : Value} {x y z : Rat} {p : Int} {g : FuncId} (hx : Rv h0 v x) (hp : 0 ≤ p ∧ p ≤ 128) (hl : ¬ 1024 < sz x) (hb : ¬ x.den * 64 < x.num.natAbs) (hx0 : x ≠ 0) (hg : ∀ {h0 h : PH} {a : Value} [Le h0 h], Cn h0 a x → Spec mach g #[a, .int .i64 p] h (fun r h' => Be h' r y z) NP) :
    Spec mach 61 #[.int .i64 1, v, .int .i64 p, .func (.func g) #[] #[]] h (fun r h' => Be h' r y z) NP := by
  have kK := fun {h} [Le h0 h] => EReady_exp (h := h) hx hp hl hb
  have e1 : exB 1 x = false := by unfold exB; rw [if_neg (by decide)]; exact decide_eq_false hx0
  have kE := fun {h1 h : PH} {a : Value} [Le h1 h] (c : Cn h1 a x) => EExact_spec (h := h) (fn := 1) c
  rw [e1] at kE
  obtain ⟨_, _, _, _, _, _, _, rfl, _⟩ := hx.sa
  refine Spec.go [] Tryd.func61 rfl rfl (by kernel_rfl) fun C _ => ?_
  try simp (disch := omega) only [go_sem, Nat.reduceBEq, Nat.reduceAdd]
  refine caN (by exact kK) ?_; rintro v1 h1 s1 ⟨_, _, _, _, _, _, _, rfl, c⟩
  try simp (disch := omega) only [go_sem, Nat.reduceBEq, Nat.reduceAdd]
  refine caN (by exact kE c) ?_; rintro v2 h2 s2 ⟨_, _, _, _, _, _, _, rfl, _⟩
  try simp (disch := omega) only [go_sem, Nat.reduceBEq, Nat.reduceAdd]
  refine caN (by exact hg (c.to (h' := h2))) ?_; rintro v3 h3 s3 ⟨_, _, _, _, _, _, _, _, _, _, _, _, _, _, rfl, q3⟩
  try simp (disch := omega) only [go_sem, Nat.reduceBEq, Nat.reduceAdd]
  exact ⟨_, _, _, _, _, _, _, _, _, _, _, _, _, _, rfl, q3⟩
theorem FExp_ok {h0 h : PH} [Le h0 h] {v : Value} {x : Rat} {p : Nat} (hx : Rv h0 v x) (hp : p ≤ 128) (hl : ¬ 1024 < sz x) (hb : ¬ x.den * 64 < x.num.natAbs) (hx0 : x ≠ 0) : Spec mach 31 #[v, .int .i64 p] h (fun r h' => Be h' r (expLo x p) (expHi x p)) NP := by
  have kA := fun {h} [Le h0 h] => EApply_exp (h := h) (p := p) (g := 62) hx (by omega) hl hb hx0 (fun {h0 h a} _ c => EExp_spec c (by omega) hb hp)
  obtain ⟨_, _, _, _, _, _, _, rfl, _⟩ := hx.sa
  clear hl hb
  refine Spec.go [] Tryd.func31 rfl rfl (by kernel_rfl) fun C _ => ?_
  try simp (disch := omega) only [go_sem, Nat.reduceBEq, Nat.reduceAdd]
  refine caN (by exact kA) ?_; rintro v1 h1 s1 ⟨_, _, _, _, _, _, _, _, _, _, _, _, _, _, rfl, r1, r2⟩
  try simp (disch := omega) only [go_sem, Nat.reduceBEq, Nat.reduceAdd]
  exact ⟨_, _, _, _, _, _, _, _, _, _, _, _, _, _, rfl, r1, r2⟩
end Go.Q
namespace Go.Q
open Go.Proofs
set_option maxRecDepth 100000
set_option maxHeartbeats 8000000
end Go.Q
namespace Go.Q
open Go.Proofs
set_option maxRecDepth 100000
set_option maxHeartbeats 8000000
end Go.Q
namespace Go.Q
open Go.Proofs
set_option maxRecDepth 100000
set_option maxHeartbeats 8000000
end Go.Q
namespace Go.Q
open Go.Proofs
set_option maxRecDepth 100000
set_option maxHeartbeats 8000000
theorem RFrac2_spec {h : PH} {a b : Nat} (ha : a < 2 ^ 20) (hb : b < 2 ^ 20) : Spec mach 32 #[.int .i64 a, .int .i64 b] h (fun v h' => Qr h' v ((a : Rat) / (b : Rat))) NP := by
  have S : ∀ {n : Nat}, n < 2 ^ 20 → sz (((n : Int)) : Rat) ≤ 2 ^ 35 := by
    intro n hn
    unfold sz
    have e1 : bl ((((n : Int)) : Rat).num.natAbs) ≤ 64 := bl_le.2 (by simp; omega)
    have e2 : bl ((((n : Int)) : Rat).den) ≤ 64 := bl_le.2 (by simp)
    omega
  have b1 := S ha
  have b2 := S hb
  have e : ((((a : Int)) : Rat) / (((b : Int)) : Rat)) = (a : Rat) / (b : Rat) := rfl
  refine Spec.go [] Tryd.func32 rfl rfl (by kernel_rfl) fun C _ => ?_
  try simp (disch := omega) only [go_sem, Nat.reduceBEq, Nat.reduceAdd]
  refine caN (by exact QInt_spec (n := a) (by omega) (by omega)) ?_; rintro v1 g1 s1 q1; obtain ⟨_, _, _, _, _, _, _, rfl, q1⟩ := q1.sa
  try simp (disch := omega) only [go_sem, Nat.reduceBEq, Nat.reduceAdd]
  refine caN (by exact QInt_spec (n := b) (by omega) (by omega)) ?_; rintro v2 g2 s2 q2; obtain ⟨_, _, _, _, _, _, _, rfl, q2⟩ := q2.sa
  try simp (disch := omega) only [go_sem, Nat.reduceBEq, Nat.reduceAdd]
  refine caN (by exact QDiv_spec (q1.to (h' := g2)) q2 b1 b2) ?_; rintro v3 g3 s3 q3; rw [e] at q3; obtain ⟨_, _, _, _, _, _, _, rfl, q3⟩ := q3.sa
  try simp (disch := omega) only [go_sem, Nat.reduceBEq, Nat.reduceAdd]
  exact q3
theorem exp_sane1 : expLo 1 3 = ((21 : Nat) : Rat) / ((8 : Nat) : Rat) := by
  unfold expLo
  rw [if_neg (by decide), show expL 1 3 / 2 ^ 112 = 21 by decide +kernel]
  decide +kernel
theorem exp_sane2 : expHi 1 3 = ((11 : Nat) : Rat) / ((4 : Nat) : Rat) := by
  unfold expHi
  rw [if_neg (by decide), show cdiv (expH 1 3) (2 ^ 112) = 22 by decide +kernel]
  decide +kernel
theorem one_rv {h : PH} {b : Nat} (hb : h b = some #[.int .u32 1]) : Rv h (.agg #[.bool false, .slice (some ⟨b, 0, none⟩) 1 1, .slice none 0 0]) 1 := by
  have e : qof false 1 0 = 1 := by decide +kernel
  refine ⟨false, 1, 0, ⟨some ⟨b, 0, none⟩, 1, [1], none, 0, [], rfl, Arr.of_row (fun _ => hb) (by decide) (by decide) (by decide), Arr.nil _, rfl, rfl, by decide, by decide⟩, ?_, e⟩
  unfold lg
  rw [e]
  decide +kernel
theorem sane_spec {h : PH} : Spec mach 10 #[] h (fun r _ => r = .bool true) NP := by
  have z1 : sz (((21 : Nat) : Rat) / ((8 : Nat) : Rat)) ≤ 2 ^ 30 := by decide +kernel
  have z2 : sz (((11 : Nat) : Rat) / ((4 : Nat) : Rat)) ≤ 2 ^ 30 := by decide +kernel
  have e1 : decide (((21 : Nat) : Rat) / ((8 : Nat) : Rat) = ((21 : Nat) : Rat) / ((8 : Nat) : Rat)) = true := decide_eq_true rfl
  have e2 : decide (((11 : Nat) : Rat) / ((4 : Nat) : Rat) = ((11 : Nat) : Rat) / ((4 : Nat) : Rat)) = true := decide_eq_true rfl
  have z1 := Hid.mk z1
  have z2 := Hid.mk z2
  refine Spec.go [(1, .t (.s [0] (.p 0 (.s [1, 2, 3, 4, 5, 6, 7, 8] .d))))] Tryd.func10 rfl rfl (by kernel_rfl) fun C _ => ?_
  try simp (disch := omega) only [go_sem, Nat.reduceBEq, Nat.reduceAdd]
  intro b h1 st1 hb
  try simp (disch := omega) only [go_sem, Nat.reduceBEq, Nat.reduceAdd]
  have hb := hb (by simp [uw])
  try simp (disch := omega) only [go_sem, Nat.reduceBEq, Nat.reduceAdd]
  refine caN (by exact FExp_ok (x := 1) (p := 3) (one_rv hb) (by decide) (by decide) (by decide) (by decide)) ?_; rintro v2 h2 s2 ⟨_, _, _, _, _, _, _, _, _, _, _, _, _, _, rfl, r1, r2⟩
  try simp (disch := omega) only [go_sem, Nat.reduceBEq, Nat.reduceAdd]
  rw [exp_sane1] at r1
  rw [exp_sane2] at r2
  try simp (disch := omega) only [go_sem, Nat.reduceBEq, Nat.reduceAdd]
  refine caN (by exact RFrac2_spec (a := 21) (b := 8) (by decide) (by decide)) ?_; rintro v3 h3 s3 q3; obtain ⟨_, _, _, _, _, _, _, rfl, q3⟩ := q3.sa
  try simp (disch := omega) only [go_sem, Nat.reduceBEq, Nat.reduceAdd]
  refine caN (by exact Right_spec (r1.to (h' := h3)) q3 z1.out z1.out) ?_; rintro v4 h4 s4 rfl
  try simp (disch := omega) only [go_sem, Nat.reduceBEq, Nat.reduceAdd, e1, decide_true]
  refine caN (by exact RFrac2_spec (a := 11) (b := 4) (by decide) (by decide)) ?_; rintro v5 h5 s5 q5; obtain ⟨_, _, _, _, _, _, _, rfl, q5⟩ := q5.sa
  try simp (disch := omega) only [go_sem, Nat.reduceBEq, Nat.reduceAdd]
  refine caN (by exact Right_spec (r2.to (h' := h5)) q5 z2.out z2.out) ?_; rintro v6 h6 s6 rfl
  try simp (disch := omega) only [go_sem, Nat.reduceBEq, Nat.reduceAdd, e2, decide_true]
end Go.Q
namespace Go.Q
open Go.Proofs
set_option maxRecDepth 100000
set_option maxHeartbeats 8000000
def nmL : List ByteArray := [⟨#[101, 120, 112]⟩, ⟨#[108, 111, 103]⟩, ⟨#[115, 105, 110]⟩, ⟨#[99, 111, 115]⟩, ⟨#[116, 97, 110]⟩, ⟨#[97, 115, 105, 110]⟩, ⟨#[97, 99, 111, 115]⟩, ⟨#[97, 116, 97, 110]⟩]
def nm (i : Nat) : ByteArray := nmL.getD i ⟨#[]⟩
def nmV : List Value := nmL.map Value.string
def nmS (fn : Int) : ByteArray := if 1 ≤ fn ∧ fn ≤ 8 then nm (fn - 1).toNat else ⟨#[]⟩
def Fd (s : ByteArray) (n : Int) (b : Bool) : Prop := (b = true ∧ ∃ i : Nat, i < 8 ∧ n = (i : Int) + 1 ∧ ((nm i).toList == s.toList) = true ∧ ∀ j, j < i → ((nm j).toList == s.toList) = false) ∨ (b = false ∧ n = 0 ∧ ∀ j, j < 8 → ((nm j).toList == s.toList) = false)
theorem Fd.one {s : ByteArray} {n n' : Int} {b b' : Bool} (h : Fd s n b) (h' : Fd s n' b') : n = n' ∧ b = b' := by
  rcases h with ⟨rfl, i, hi, rfl, e, l⟩ | ⟨rfl, rfl, l⟩ <;> rcases h' with ⟨rfl, i', hi', rfl, e', l'⟩ | ⟨rfl, rfl, l'⟩
  · rcases Nat.lt_trichotomy i i' with k | k | k
    · rw [l' i k] at e; cases e
    · subst k; exact ⟨rfl, rfl⟩
    · rw [l i' k] at e'; cases e'
  · rw [l' i hi] at e; cases e
  · rw [l i' hi'] at e'; cases e'
  · exact ⟨rfl, rfl⟩
theorem nm_ne : ((List.range 8).all fun i => (List.range i).all fun j => !((nm j).toList == (nm i).toList)) = true := by decide +kernel
theorem nm_em : ((List.range 8).all fun j => !((nm j).toList == (⟨#[]⟩ : ByteArray).toList)) = true := by decide +kernel
theorem Fd.nm {i : Nat} (hi : i < 8) : Fd (nm i) ((i : Int) + 1) true := by
  refine .inl ⟨rfl, i, hi, rfl, by simp, fun j hj => ?_⟩
  have := List.all_eq_true.1 (List.all_eq_true.1 nm_ne i (List.mem_range.2 hi)) j (List.mem_range.2 hj)
  simpa using this
theorem Fd.em : Fd ⟨#[]⟩ 0 false := by
  refine .inr ⟨rfl, rfl, fun j hj => ?_⟩
  have := List.all_eq_true.1 nm_em j (List.mem_range.2 hj)
  simpa using this
theorem nm_at {h : PH} {b : Nat} (hb : h b = some nmV.toArray) {i : Nat} (hi : i < 8) : h.at ⟨b, i, none⟩ = some (.string (nm i)) := by
  have : ∀ i, i < 8 → (nmV.toArray)[i]? = some (.string (nm i)) := by
    intro i hi
    obtain rfl | rfl | rfl | rfl | rfl | rfl | rfl | rfl : i = 0 ∨ i = 1 ∨ i = 2 ∨ i = 3 ∨ i = 4 ∨ i = 5 ∨ i = 6 ∨ i = 7 := by omega
    all_goals rfl
  have := this i hi
  simpa [PH.at, hb] using this
theorem Names_spec {h : PH} : Spec mach 36 #[] h (fun v h' => ∃ b, v = .slice (some ⟨b, 0, none⟩) 8 8 ∧ h' b = some nmV.toArray) NP := by
  refine Spec.go [(1, .t (.s [0] (.p 0 (.s [1] .d))))] Tryd.func36 rfl rfl (by kernel_rfl) fun C _ => ?_
  try simp (disch := omega) only [go_sem, Nat.reduceBEq, Nat.reduceAdd]
  intro b h1 st1 hb
  try simp (disch := omega) only [go_sem, Nat.reduceBEq, Nat.reduceAdd]
  have hb := hb (by simp)
  try simp (disch := omega) only [go_sem, Nat.reduceBEq, Nat.reduceAdd]
  exact ⟨_, rfl, hb⟩
theorem Name_spec {h : PH} {fn : Int} : Spec mach 16 #[.int .i64 fn] h (fun v _ => v = .string (nmS fn)) NP := by
  unfold nmS
  by_cases hf : 1 ≤ fn ∧ fn ≤ 8
  · obtain ⟨i, rfl⟩ : ∃ i : Nat, fn = (i : Int) + 1 := ⟨(fn - 1).toNat, by omega⟩
    have hi : i < 8 := by omega
    rw [if_pos hf, show ((i : Int) + 1 - 1).toNat = i by omega]
    refine Spec.go [] Tryd.func16 rfl rfl (by kernel_rfl) fun C _ => ?_
    try simp (disch := omega) only [go_sem, Nat.reduceBEq, Nat.reduceAdd]
    refine caN (by exact Names_spec) ?_; rintro v1 h1 s1 ⟨b, rfl, hb⟩
    try simp (disch := omega) only [go_sem, Nat.reduceBEq, Nat.reduceAdd]
    refine ld1_of (nm_at hb hi) ?_
    try simp (disch := omega) only [go_sem, Nat.reduceBEq, Nat.reduceAdd]
  · rw [if_neg hf]
    rcases Int.lt_or_le fn 1 with h1 | h1
    all_goals
      refine Spec.go [] Tryd.func16 rfl rfl (by kernel_rfl) fun C _ => ?_
      try simp (disch := omega) only [go_sem, Nat.reduceBEq, Nat.reduceAdd]
theorem Find_spec {h : PH} {s : ByteArray} : Spec mach 14 #[.string s] h (fun v _ => ∃ n b, v = .tuple #[.int .i64 n, .bool b] ∧ Fd s n b) NP := by
  refine Spec.go [] Tryd.func14 rfl rfl (by kernel_rfl) fun C _ => ?_
  try simp (disch := omega) only [go_sem, Nat.reduceBEq, Nat.reduceAdd]
  refine caN (by exact Names_spec) ?_; rintro v1 h1 s1 ⟨b, rfl, hb⟩
  try simp (disch := omega) only [go_sem, Nat.reduceBEq, Nat.reduceAdd]
  refine lp [] (fun i : Nat => ⟨[(0, .v (.string s)), (6, .v (.slice (some ⟨b, 0, none⟩) 8 8)), (7, .v (.int .i64 8)), (8, .v (.int .i64 i))], []⟩) (fun i h' => Le h1 h' ∧ i ≤ 8 ∧ ∀ j, j < i → ((nm j).toList == s.toList) = false) (fun i => 8 - i) 0 ?_ ⟨inferInstance, by decide, fun j hj => absurd hj (by omega)⟩ (by kernel_rfl) ?_
  · try simp (disch := omega) only [go_sem, Nat.reduceBEq, Nat.reduceAdd]
    all_goals rfl
  rintro i h2 ⟨le2, hi, hj⟩
  by_cases h8 : i = 8
  · subst h8
    try simp (disch := omega) only [go_sem, Nat.reduceBEq, Nat.reduceAdd]
    exact Exists.intro _ ⟨_, rfl, .inr ⟨rfl, rfl, hj⟩⟩
  · have hi8 : i < 8 := by omega
    have hb2 : h2 b = some nmV.toArray := le2.sub _ _ hb
    try simp (disch := omega) only [go_sem, Nat.reduceBEq, Nat.reduceAdd]
    refine ld1_of (nm_at hb2 hi8) ?_
    try simp (disch := omega) only [go_sem, Nat.reduceBEq, Nat.reduceAdd]
    cases e : ((nm i).toList == s.toList) with
    | true =>
      try simp (disch := omega) only [go_sem, Nat.reduceBEq, Nat.reduceAdd, e]
      exact Exists.intro _ ⟨_, rfl, .inl ⟨rfl, i, hi8, by omega, e, hj⟩⟩
    | false =>
      try simp (disch := omega) only [go_sem, Nat.reduceBEq, Nat.reduceAdd, e]
      dsimp only [lpE]; refine ⟨i + 1, ?_, ⟨le2, by omega, fun j k => ?_⟩, by omega⟩
      · try simp (disch := omega) only [go_sem, Nat.reduceBEq, Nat.reduceAdd]
        all_goals rfl
      · rcases Nat.lt_or_ge j i with g | g
        · exact hj j g
        · rw [show j = i by omega]; exact e
theorem RName_spec {h : PH} {fn : Int} : Spec mach 17 #[.int .i64 fn] h (fun v _ => v = .string (nmS fn)) NP := by
  by_cases hf : 1 ≤ fn ∧ fn ≤ 8
  · obtain rfl | rfl | rfl | rfl | rfl | rfl | rfl | rfl : fn = 1 ∨ fn = 2 ∨ fn = 3 ∨ fn = 4 ∨ fn = 5 ∨ fn = 6 ∨ fn = 7 ∨ fn = 8 := by omega
    all_goals
      refine Spec.go [] Tryd.func17 rfl rfl (by kernel_rfl) fun C _ => ?_
      try simp (disch := omega) only [go_sem, Nat.reduceBEq, Nat.reduceAdd]
      all_goals rfl
  · unfold nmS
    rw [if_neg hf]
    rcases Int.lt_or_le fn 1 with h1 | h1
    all_goals
      refine Spec.go [] Tryd.func17 rfl rfl (by kernel_rfl) fun C _ => ?_
      try simp (disch := omega) only [go_sem, Nat.reduceBEq, Nat.reduceAdd]
theorem RFind_spec {h : PH} {s : ByteArray} : Spec mach 15 #[.string s] h (fun v _ => ∃ n b, v = .tuple #[.int .i64 n, .bool b] ∧ Fd s n b) NP := by
  refine Spec.go [] Tryd.func15 rfl rfl (by kernel_rfl) fun C _ => ?_
  try simp (disch := omega) only [go_sem, Nat.reduceBEq, Nat.reduceAdd]
  refine lp [] (fun i : Nat => ⟨[(0, .v (.string s)), (4, .v (.int .i64 (i + 1 : Nat)))], []⟩) (fun i h' => i ≤ 8 ∧ ∀ j, j < i → ((nm j).toList == s.toList) = false) (fun i => 8 - i) 0 ?_ ⟨by decide, fun j hj => absurd hj (by omega)⟩ (by kernel_rfl) ?_
  · try simp (disch := omega) only [go_sem, Nat.reduceBEq, Nat.reduceAdd]
    all_goals rfl
  rintro i h2 ⟨hi, hj⟩
  by_cases h8 : i = 8
  · subst h8
    try simp (disch := omega) only [go_sem, Nat.reduceBEq, Nat.reduceAdd]
    exact Exists.intro _ ⟨_, rfl, .inr ⟨rfl, rfl, hj⟩⟩
  · have hi8 : i < 8 := by omega
    have en : nmS ((i + 1 : Nat) : Int) = nm i := by
      unfold nmS
      rw [if_pos (by omega)]
      congr 1
      omega
    try simp (disch := omega) only [go_sem, Nat.reduceBEq, Nat.reduceAdd]
    refine caN (by exact RName_spec) ?_; rintro v3 h3 s3 rfl
    try simp (disch := omega) only [go_sem, Nat.reduceBEq, Nat.reduceAdd]
    rw [en]
    cases e : ((nm i).toList == s.toList) with
    | true =>
      try simp (disch := omega) only [go_sem, Nat.reduceBEq, Nat.reduceAdd, e]
      exact Exists.intro _ ⟨_, rfl, .inl ⟨rfl, i, hi8, by omega, e, hj⟩⟩
    | false =>
      try simp (disch := omega) only [go_sem, Nat.reduceBEq, Nat.reduceAdd, e]
      dsimp only [lpE]; refine ⟨i + 1, ?_, ⟨by omega, fun j k => ?_⟩, by omega⟩
      · try simp (disch := omega) only [go_sem, Nat.reduceBEq, Nat.reduceAdd]
        all_goals rfl
      · rcases Nat.lt_or_ge j i with g | g
        · exact hj j g
        · rw [show j = i by omega]; exact e
theorem Fd_name (fn : Int) : Fd (nmS fn) (if 1 ≤ fn ∧ fn ≤ 8 then fn else 0) (decide (1 ≤ fn ∧ fn ≤ 8)) := by
  unfold nmS
  by_cases hf : 1 ≤ fn ∧ fn ≤ 8
  · rw [if_pos hf, if_pos hf, decide_eq_true hf]
    have := Fd.nm (i := (fn - 1).toNat) (by omega)
    rwa [show (((fn - 1).toNat : Nat) : Int) + 1 = fn by omega] at this
  · rw [if_neg hf, if_neg hf, decide_eq_false hf]
    exact Fd.em
theorem Names_law {h0 h : PH} [Le h0 h] {fn : Int} {s : ByteArray} : Spec mach 4 #[.int .i64 fn, .string s] h (fun r _ => r = .bool true) NP := by
  have fn0 := Fd_name fn
  by_cases hf : 1 ≤ fn ∧ fn ≤ 8
  · rw [if_pos hf, decide_eq_true hf] at fn0
    refine Spec.go [] Tryd.func4 rfl rfl (by kernel_rfl) fun C _ => ?_
    try simp (disch := omega) only [go_sem, Nat.reduceBEq, Nat.reduceAdd]
    refine caN (by exact Find_spec) ?_; rintro v1 h1 s1 ⟨n, b, rfl, q1⟩
    try simp (disch := omega) only [go_sem, Nat.reduceBEq, Nat.reduceAdd]
    refine caN (by exact RFind_spec) ?_; rintro v2 h2 s2 ⟨n', b', rfl, q2⟩
    try simp (disch := omega) only [go_sem, Nat.reduceBEq, Nat.reduceAdd]
    obtain ⟨rfl, rfl⟩ := q1.one q2
    have en : (n != n) = false := by simp
    have eb : (!(b == b)) = false := by simp
    have es : (!((nmS fn).toList == (nmS fn).toList)) = false := by simp
    try simp (disch := omega) only [go_sem, Nat.reduceBEq, Nat.reduceAdd, en, eb]
    refine caN (by exact Name_spec) ?_; rintro v3 h3 s3 rfl
    try simp (disch := omega) only [go_sem, Nat.reduceBEq, Nat.reduceAdd]
    refine caN (by exact RName_spec) ?_; rintro v4 h4 s4 rfl
    try simp (disch := omega) only [go_sem, Nat.reduceBEq, Nat.reduceAdd, es]
    refine caN (by exact sane_spec) ?_; rintro v5 h5 s5 rfl
    try simp (disch := omega) only [go_sem, Nat.reduceBEq, Nat.reduceAdd]
    refine caN (by exact Name_spec) ?_; rintro v6 h6 s6 rfl
    try simp (disch := omega) only [go_sem, Nat.reduceBEq, Nat.reduceAdd]
    refine caN (by exact Find_spec) ?_; rintro v7 h7 s7 ⟨n3, b3, rfl, q3⟩
    try simp (disch := omega) only [go_sem, Nat.reduceBEq, Nat.reduceAdd]
    obtain ⟨rfl, rfl⟩ := q3.one fn0
    have e3 : (n3 == n3) = true := by simp
    try simp (disch := omega) only [go_sem, Nat.reduceBEq, Nat.reduceAdd, e3]
  · rw [if_neg hf, decide_eq_false hf] at fn0
    rcases Int.lt_or_le fn 1 with g | g
    all_goals
      refine Spec.go [] Tryd.func4 rfl rfl (by kernel_rfl) fun C _ => ?_
      try simp (disch := omega) only [go_sem, Nat.reduceBEq, Nat.reduceAdd]
      refine caN (by exact Find_spec) ?_; rintro v1 h1 s1 ⟨n, b, rfl, q1⟩
      try simp (disch := omega) only [go_sem, Nat.reduceBEq, Nat.reduceAdd]
      refine caN (by exact RFind_spec) ?_; rintro v2 h2 s2 ⟨n', b', rfl, q2⟩
      try simp (disch := omega) only [go_sem, Nat.reduceBEq, Nat.reduceAdd]
      obtain ⟨rfl, rfl⟩ := q1.one q2
      have en : (n != n) = false := by simp
      have eb : (!(b == b)) = false := by simp
      have es : (!((nmS fn).toList == (nmS fn).toList)) = false := by simp
      try simp (disch := omega) only [go_sem, Nat.reduceBEq, Nat.reduceAdd, en, eb]
      refine caN (by exact Name_spec) ?_; rintro v3 h3 s3 rfl
      try simp (disch := omega) only [go_sem, Nat.reduceBEq, Nat.reduceAdd]
      refine caN (by exact RName_spec) ?_; rintro v4 h4 s4 rfl
      try simp (disch := omega) only [go_sem, Nat.reduceBEq, Nat.reduceAdd, es]
      refine caN (by exact sane_spec) ?_; rintro v5 h5 s5 rfl
      try simp (disch := omega) only [go_sem, Nat.reduceBEq, Nat.reduceAdd]
      refine caN (by exact Name_spec) ?_; rintro v6 h6 s6 rfl
      try simp (disch := omega) only [go_sem, Nat.reduceBEq, Nat.reduceAdd]
      refine caN (by exact Find_spec) ?_; rintro v7 h7 s7 ⟨n3, b3, rfl, q3⟩
      try simp (disch := omega) only [go_sem, Nat.reduceBEq, Nat.reduceAdd]
      obtain ⟨rfl, rfl⟩ := q3.one fn0
      try simp (disch := omega) only [go_sem, Nat.reduceBEq, Nat.reduceAdd]
end Go.Q
