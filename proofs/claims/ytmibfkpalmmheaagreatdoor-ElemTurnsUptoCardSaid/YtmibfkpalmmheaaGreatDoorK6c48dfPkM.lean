/-
  The reference of layer 2: quarter turns. Conditions: the values are numbers (Qr).
  The reference's Small and Turns; what Turns of both sides has in common. Conditions: the values are numbers (Qr).
  What Turns returns of numbers that are large. Conditions: the ends are numbers as they come in (Rw).
  What the reference's Turns returns; the statement ElemTurns. Conditions: the ends are numbers as they come in (Rw).
-/
import Derived.Test.YtmibfkpalmmheaaGreatDoorK24f055PkD
import Derived.Test.YtmibfkpalmmheaaGreatDoorK42c48fPkL
import Derived.Test.YtmibfkpalmmheaaGreatDoorKc0316bPkJ
set_option linter.unusedVariables false
set_option linter.unusedSimpArgs false
namespace Go.Q
open Go.Proofs
set_option maxRecDepth 100000
set_option maxHeartbeats 16000000
theorem RQuarter_spec {h : PH} {w : Nat} (hw : 32 ≤ w) (hw' : w ≤ 192) : Spec mach 39 #[.int .i64 w] h (fun r h' => ∃ b1 a1 m1 c1 a2 m2 c2 b2 a3 m3 c3 a4 m4 c4, r = .tuple #[.agg #[.bool b1, .slice a1 m1 c1, .slice a2 m2 c2], .agg #[.bool b2, .slice a3 m3 c3, .slice a4 m4 c4]] ∧ Qr h' (.agg #[.bool b1, .slice a1 m1 c1, .slice a2 m2 c2]) (sgn false (piL w) (2 ^ (w + 1))) ∧ Qr h' (.agg #[.bool b2, .slice a3 m3 c3, .slice a4 m4 c4]) (sgn false (piH w) (2 ^ (w + 1)))) NP := by
  obtain ⟨b1, b2⟩ := bl_pi (w := w)
  have F := Hid.mk (And.intro b1 b2); clear b1 b2
  refine Spec.go [] Tryz.func39 rfl rfl (by kernel_rfl) fun C _ => ?_
  try simp (disch := omega) only [go_sem, Nat.reduceBEq, Nat.reduceAdd]
  refine caN (by exact RPi_spec (w := w) hw hw') ?_; rintro v1 h1 s1 ⟨_, _, _, _, _, _, rfl, q1, q2⟩
  try simp (disch := omega) only [go_sem, Nat.reduceBEq, Nat.reduceAdd]
  refine caN (by exact RBack_spec (w := w + 1) q1 (by have := F.out; omega) (by have := F.out; omega)) ?_; rintro v2 h2 s2 q3; obtain ⟨_, _, _, _, _, _, _, rfl, q3⟩ := q3.sa
  try simp (disch := omega) only [go_sem, Nat.reduceBEq, Nat.reduceAdd]
  refine caN (by exact RBack_spec (w := w + 1) (q2.to (h' := h2)) (by have := F.out; omega) (by have := F.out; omega)) ?_; rintro v3 h3 s3 q4; obtain ⟨_, _, _, _, _, _, _, rfl, q4⟩ := q4.sa
  try simp (disch := omega) only [go_sem, Nat.reduceBEq, Nat.reduceAdd]
  exact ⟨_, _, _, _, _, _, _, _, _, _, _, _, _, _, rfl, q3.to, q4⟩
theorem Digits_spec {h0 h : PH} [Le h0 h] {v : Value} {x : Rat} (hx : Qr h0 v x) (bx : sz x ≤ 2048) : Spec mach 98 #[v] h (fun r _ => r = .int .i64 (sz x : Nat)) NP := by
  have b1 := sz_num x
  have b2 := sz_den x
  have kD := fun {h} [Le h0 h] => den_spec (h := h) hx
  obtain ⟨_, _, _, _, _, _, e, rfl, k1, k2, k3⟩ := hx.sl
  have e3 : (if (bl x.den : Int) > (bl x.num.natAbs : Int) then (bl x.den : Int) else (bl x.num.natAbs : Int)) = ((sz x : Nat) : Int) := by
    unfold sz
    split <;> omega
  refine Spec.go [(1, .o [0, 1, 3, 2, 4, 5, 6, 7])] Tryz.func98 rfl rfl (by kernel_rfl) fun C _ => ?_
  try simp (disch := omega) only [go_sem, Nat.reduceBEq, Nat.reduceAdd]
  refine caN (by exact NatBits_spec k1 (by omega)) ?_; rintro v1 h1 s1 rfl
  try simp (disch := omega) only [go_sem, Nat.reduceBEq, Nat.reduceAdd]
  refine caN (by exact kD) ?_; rintro _ h2 _ q2; obtain ⟨v2, _, _, rfl, q2⟩ := q2.sl
  try simp (disch := omega) only [go_sem, Nat.reduceBEq, Nat.reduceAdd]
  refine caN (by exact NatBits_spec q2 (by omega)) ?_; rintro v3 h3 s3 rfl
  try simp (disch := omega) only [go_sem, Nat.reduceBEq, Nat.reduceAdd, e3]
theorem mag_gt (x : Rat) (n : Nat) : decide (cmpQ (sgn false x.num.natAbs x.den) ((n : Int) : Rat) > 0) = decide (x.den * n < x.num.natAbs) := by
  have k1 := sgn_mul_den x.num.natAbs x.den_nz
  have k2 : (0 : Rat) < (x.den : Rat) := by exact_mod_cast x.den_pos
  generalize sgn false x.num.natAbs x.den = t at *
  have k3 : ((n : Int) : Rat) < t ↔ x.den * n < x.num.natAbs := by
    constructor
    · intro k
      have := Rat.mul_lt_mul_of_pos_right k k2
      rw [k1] at this
      have : ((n * x.den : Nat) : Rat) < ((x.num.natAbs : Nat) : Rat) := by rw [Rat.natCast_mul]; exact this
      rw [Nat.mul_comm]
      exact_mod_cast this
    · intro k
      have h1 : ((n * x.den : Nat) : Rat) < ((x.num.natAbs : Nat) : Rat) := by rw [Nat.mul_comm]; exact_mod_cast k
      rw [Rat.natCast_mul, ← k1] at h1
      refine Decidable.byContradiction fun hc => ?_
      have h3 : t ≤ ((n : Int) : Rat) := by grind
      have h4 : t * (x.den : Rat) ≤ ((n : Int) : Rat) * (x.den : Rat) := Rat.mul_le_mul_of_nonneg_right h3 (Rat.le_of_lt k2)
      have h5 : ((n : Int) : Rat) = (n : Rat) := rfl
      rw [h5] at h4
      grind
  have k4 : (cmpQ t ((n : Int) : Rat) > 0) ↔ ((n : Int) : Rat) < t := by unfold cmpQ; grind
  rw [decide_eq_decide, k4, k3]
theorem RWide_spec {h0 h : PH} [Le h0 h] {v : Value} {x : Rat} (hx : Qr h0 v x) (bx : sz x ≤ 2048) : Spec mach 38 #[v] h (fun r _ => r = .bool (decide (wideB x))) NP := by
  have kM := fun {h} [Le h0 h] => Mag_spec (h := h) hx
  have kD := fun {h} [Le h0 h] => Digits_spec (h := h) hx bx
  have bm : sz (sgn false x.num.natAbs x.den) ≤ 2048 := by
    have := sz_sgn false x.num.natAbs x.den_nz
    have := sz_num x
    have := sz_den x
    omega
  have e1 := mag_gt x 4294967296
  obtain ⟨G, hG⟩ : ∃ b, b = decide (x.den * 4294967296 < x.num.natAbs) := ⟨_, rfl⟩
  rw [← hG] at e1
  have eW : decide (wideB x) = (G || decide (1024 < sz x)) := by
    rw [hG]
    unfold wideB
    rw [Bool.eq_iff_iff]
    simp only [decide_eq_true_eq, Bool.or_eq_true]
    exact ⟨fun k => (of_decide_eq_true k).symm, fun k => decide_eq_true k.symm⟩
  rw [eW]
  clear eW hG
  have eg : decide (((sz x : Nat) : Int) > 1024) = decide (1024 < sz x) := by rw [decide_eq_decide]; omega
  obtain ⟨_, _, _, _, _, _, _, rfl, _⟩ := hx.sl
  have bx := Hid.mk bx
  have bm := Hid.mk bm
  generalize hN : ((((4294967296 : Nat)) : Int) : Rat) = N at e1
  have bN : sz N ≤ 2 ^ 34 := by rw [← hN]; decide
  have kI : ∀ {h : PH}, Spec mach 76 #[.int .i64 4294967296] h (fun v h' => Qr h' v N) NP := by
    intro h
    rw [← hN]
    exact QInt_spec (n := 4294967296) (by decide) (by decide)
  cases G
  all_goals
    refine Spec.go [] Tryz.func38 rfl rfl (by kernel_rfl) fun C _ => ?_
    try simp (disch := omega) only [go_sem, Nat.reduceBEq, Nat.reduceAdd]
    refine caN (by exact kM) ?_; rintro v1 h1 s1 q1; have q1' := q1; obtain ⟨_, _, _, _, _, _, _, rfl, _⟩ := q1'.sl
    try simp (disch := omega) only [go_sem, Nat.reduceBEq, Nat.reduceAdd]
    refine caN (by exact kI) ?_; rintro v2 h2 s2 q2; have q2' := q2; obtain ⟨_, _, _, _, _, _, _, rfl, _⟩ := q2'.sl
    try simp (disch := omega) only [go_sem, Nat.reduceBEq, Nat.reduceAdd]
    refine caN (by exact QCmp_spec (q1.to (h' := h2)) q2 (Nat.le_trans bm.out (by decide)) bN) ?_; rintro v3 h3 s3 rfl
    try simp (disch := omega) only [go_sem, Nat.reduceBEq, Nat.reduceAdd, e1]
  · refine caN (by exact kD) ?_; rintro v4 h4 s4 rfl
    try simp (disch := omega) only [go_sem, Nat.reduceBEq, Nat.reduceAdd, eg]
    all_goals rfl
  all_goals rfl
theorem RProd_spec {h0 h : PH} [Le h0 h] {v w : Value} {x y : Rat} (hx : Qr h0 v x) (hy : Qr h0 w y) (bx : sz x ≤ 2 ^ 35) (by_ : sz y ≤ 2 ^ 35) :
    Spec mach 104 #[v, w] h (fun v h' => Qr h' v (x * y)) NP := by
  have hx0 := hx
  have hy0 := hy
  obtain ⟨na, nl, nc, da, dl, dc, e, rfl, hn, hd, he⟩ := hx.sl
  obtain ⟨na', nl', nc', da', dl', dc', e', rfl, hn', hd', he'⟩ := hy.sl
  have b1 := sz_num x; have b2 := sz_den x; have b3 := sz_num y; have b4 := sz_den y
  have b5 := bl_mul x.num.natAbs y.num.natAbs
  have b6 := bl_mul x.den y.den
  refine Spec.go [(1, .o [0, 1, 2, 3, 4, 5, 6, 7, 8, 10, 12, 9, 11, 13, 14, 15, 16])] Tryz.func104 rfl rfl (by kernel_rfl) fun C _ => ?_
  try simp (disch := omega) only [go_sem, Nat.reduceBEq, Nat.reduceAdd]
  refine caN (by exact NatMul_spec hn hn' (by omega) (by omega)) ?_; rintro _ h1 _ hv1; obtain ⟨v1, _, _, rfl, hv1⟩ := hv1.sl
  try simp (disch := omega) only [go_sem, Nat.reduceBEq, Nat.reduceAdd]
  refine caN (by exact den_spec hx0) ?_; rintro _ g1 _ hd1; obtain ⟨_, _, _, rfl, hd1⟩ := hd1.sl
  try simp (disch := omega) only [go_sem, Nat.reduceBEq, Nat.reduceAdd]
  refine caN (by exact den_spec hy0) ?_; rintro _ g2 _ hd2; obtain ⟨_, _, _, rfl, hd2⟩ := hd2.sl
  try simp (disch := omega) only [go_sem, Nat.reduceBEq, Nat.reduceAdd]
  refine caN (by exact NatMul_spec (hd1.to (h' := g2)) hd2 (by omega) (by omega)) ?_; rintro _ h2 _ hv2; obtain ⟨v2, _, _, rfl, hv2⟩ := hv2.sl
  try simp (disch := omega) only [go_sem, Nat.reduceBEq, Nat.reduceAdd]
  refine caN (by exact Make_spec (hv1.to (h' := h2)) hv2 (by omega) (by omega)) ?_; rintro _ h3 _ hv3; obtain ⟨_, _, _, _, _, _, _, rfl, hv3⟩ := hv3.sa
  try simp (disch := omega) only [go_sem, Nat.reduceBEq, Nat.reduceAdd]
  rw [sgn_mul] at hv3
  exact hv3
def uL (m : Int) : Rat := (m : Rat) * (if m < 0 then gP else fP)
def uU (m : Int) : Rat := (m : Rat) * (if m < 0 then fP else gP)
theorem REnds_spec {h0 h : PH} [Le h0 h] {vf vg : Value} {m : Int} (hf : Qr h0 vf fP) (hg : Qr h0 vg gP) (hm : -8589934592 ≤ m ∧ m ≤ 8589934592) : Spec mach 43 #[.int .i64 m, vf, vg] h (fun r h' => ∃ b1 a1 m1 c1 a2 m2 c2 b2 a3 m3 c3 a4 m4 c4, r = .tuple #[.agg #[.bool b1, .slice a1 m1 c1, .slice a2 m2 c2], .agg #[.bool b2, .slice a3 m3 c3, .slice a4 m4 c4]] ∧ Qr h' (.agg #[.bool b1, .slice a1 m1 c1, .slice a2 m2 c2]) (uL m) ∧ Qr h' (.agg #[.bool b2, .slice a3 m3 c3, .slice a4 m4 c4]) (uU m)) NP := by
  have bm : sz (m : Rat) ≤ 2 ^ 35 := Nat.le_trans (sz_whole (z := m) (by omega)) (by decide)
  have bf : sz fP ≤ 2 ^ 35 := Nat.le_trans fP_sz (by decide)
  have bg : sz gP ≤ 2 ^ 35 := Nat.le_trans gP_sz (by decide)
  have hf0 := hf
  have hg0 := hg
  obtain ⟨_, _, _, _, _, _, _, rfl, _⟩ := hf.sl
  obtain ⟨_, _, _, _, _, _, _, rfl, _⟩ := hg.sl
  have bm := Hid.mk bm
  unfold uL uU
  generalize fP = f at *
  generalize gP = g at *
  by_cases h0' : m < 0
  · rw [if_pos h0', if_pos h0']
    refine Spec.go [(3, .o [0, 2, 4, 6, 1, 3, 5, 7, 8, 9])] Tryz.func43 rfl rfl (by kernel_rfl) fun C _ => ?_
    try simp (disch := omega) only [go_sem, Nat.reduceBEq, Nat.reduceAdd]
    refine caN (by exact QInt_spec (n := m) (by omega) (by omega)) ?_; rintro v1 h1 s1 q1; have q1' := q1; obtain ⟨_, _, _, _, _, _, _, rfl, _⟩ := q1'.sl
    try simp (disch := omega) only [go_sem, Nat.reduceBEq, Nat.reduceAdd]
    refine caN (by exact RProd_spec q1 (hg0.to (h' := h1)) bm.out bg) ?_; rintro v2 h2 s2 q2; obtain ⟨_, _, _, _, _, _, _, rfl, q2⟩ := q2.sa
    try simp (disch := omega) only [go_sem, Nat.reduceBEq, Nat.reduceAdd]
    refine caN (by exact QInt_spec (n := m) (by omega) (by omega)) ?_; rintro v3 h3 s3 q3; have q3' := q3; obtain ⟨_, _, _, _, _, _, _, rfl, _⟩ := q3'.sl
    try simp (disch := omega) only [go_sem, Nat.reduceBEq, Nat.reduceAdd]
    refine caN (by exact RProd_spec q3 (hf0.to (h' := h3)) bm.out bf) ?_; rintro v4 h4 s4 q4; obtain ⟨_, _, _, _, _, _, _, rfl, q4⟩ := q4.sa
    try simp (disch := omega) only [go_sem, Nat.reduceBEq, Nat.reduceAdd]
    exact ⟨_, _, _, _, _, _, _, _, _, _, _, _, _, _, rfl, q2.to, q4⟩
  · rw [if_neg h0', if_neg h0']
    refine Spec.go [(3, .o [0, 2, 4, 6, 1, 3, 5, 7, 8, 9])] Tryz.func43 rfl rfl (by kernel_rfl) fun C _ => ?_
    try simp (disch := omega) only [go_sem, Nat.reduceBEq, Nat.reduceAdd]
    refine caN (by exact QInt_spec (n := m) (by omega) (by omega)) ?_; rintro v1 h1 s1 q1; have q1' := q1; obtain ⟨_, _, _, _, _, _, _, rfl, _⟩ := q1'.sl
    try simp (disch := omega) only [go_sem, Nat.reduceBEq, Nat.reduceAdd]
    refine caN (by exact RProd_spec q1 (hf0.to (h' := h1)) bm.out bf) ?_; rintro v2 h2 s2 q2; obtain ⟨_, _, _, _, _, _, _, rfl, q2⟩ := q2.sa
    try simp (disch := omega) only [go_sem, Nat.reduceBEq, Nat.reduceAdd]
    refine caN (by exact QInt_spec (n := m) (by omega) (by omega)) ?_; rintro v3 h3 s3 q3; have q3' := q3; obtain ⟨_, _, _, _, _, _, _, rfl, _⟩ := q3'.sl
    try simp (disch := omega) only [go_sem, Nat.reduceBEq, Nat.reduceAdd]
    refine caN (by exact RProd_spec q3 (hg0.to (h' := h3)) bm.out bg) ?_; rintro v4 h4 s4 q4; obtain ⟨_, _, _, _, _, _, _, rfl, q4⟩ := q4.sa
    try simp (disch := omega) only [go_sem, Nat.reduceBEq, Nat.reduceAdd]
    exact ⟨_, _, _, _, _, _, _, _, _, _, _, _, _, _, rfl, q2.to, q4⟩
end Go.Q
namespace Go.Q
open Go.Proofs
set_option maxRecDepth 100000
set_option maxHeartbeats 16000000
theorem val_drop {xs : List Nat} {j : Nat} (hj : j < xs.length) : val 65536 (xs.drop j) = val 65536 (xs.drop (j + 1)) * 65536 + xs.getD j 0 := by
  rw [List.drop_eq_getElem_cons hj]
  have e : xs.getD j 0 = xs[j] := by simp [hj]
  rw [e]
  show xs[j] + 65536 * val 65536 (xs.drop (j + 1)) = _
  omega
theorem val_drop_le (xs : List Nat) : ∀ j, val 65536 (xs.drop j) ≤ val 65536 xs := by
  intro j
  have h := val_append 65536 (xs.take j) (xs.drop j)
  rw [List.take_append_drop] at h
  have : 1 * val 65536 (xs.drop j) ≤ 65536 ^ (xs.take j).length * val 65536 (xs.drop j) := Nat.mul_le_mul_right _ (Nat.pow_pos (by decide))
  omega
theorem RSmall_spec {h0 h : PH} [Le h0 h] {v : Value} {z : Int} (hx : Qr h0 v (z : Rat)) (hz : z.natAbs < 4294967296) : Spec mach 40 #[v] h (fun r _ => r = .tuple #[.int .i64 z, .bool true]) NP := by
  have kW := fun {h} [Le h0 h] => whole_spec (h := h) hx
  have ed : ((z : Rat)).den = 1 := Rat.den_intCast z
  have en : ((z : Rat)).num = z := Rat.num_intCast z
  rw [ed] at kW
  obtain ⟨na, nl, nc, da, dl, dc, e, rfl, k1, k2, k3⟩ := hx.sl
  rw [en] at k1 kW ⊢
  have bl1 : bl z.natAbs ≤ 32 := bl_le.2 hz
  have kB := fun {h} [Le h0 h] => NatBits_spec (h := h) k1 (by omega)
  obtain ⟨a, c, xs, ex, ha, _, hm, hlt⟩ := k1.out
  cases ex
  obtain ⟨m, em⟩ : ∃ m, z.natAbs = m := ⟨_, rfl⟩
  rw [em] at hz hm kB bl1
  have ez : z = (if decide (z < 0) = true then -(m : Int) else (m : Int)) := by
    by_cases hn : z < 0
    · rw [decide_eq_true hn, if_pos rfl]; omega
    · rw [decide_eq_false hn, if_neg (by decide)]; omega
  generalize decide (z < 0) = s at ez kW ⊢
  rw [ez]
  have hb := ha.cap
  have hsm := ha.small
  have bl1 := Hid.mk bl1
  have b62 : decide (((bl m : Nat) : Int) > 62) = false := decide_eq_false (by have := bl1.out; omega)
  clear ez em en ed hx k1 k3
  refine Spec.go [] Tryz.func40 rfl rfl (by kernel_rfl) fun C _ => ?_
  try simp (disch := omega) only [go_sem, Nat.reduceBEq, Nat.reduceAdd]
  refine caN (by exact kW) ?_; rintro v1 h1 s1 rfl
  try simp (disch := omega) only [go_sem, Nat.reduceBEq, Nat.reduceAdd, decide_true]
  refine caN (by exact kB) ?_; rintro v2 h2 s2 rfl
  try simp (disch := omega) only [go_sem, Nat.reduceBEq, Nat.reduceAdd, b62]
  refine lp [] (fun k : Nat => ⟨[(1, .p 0 0), (4, .v (.int .i64 (val 65536 (xs.drop k) : Nat))), (5, .v (.int .i64 ((k : Int) - 1)))], [[.bool s, .slice na xs.length nc, .slice da dl dc]]⟩) (fun k h' => Le h0 h' ∧ k ≤ xs.length) id xs.length ?_ ⟨inferInstance, Nat.le_refl _⟩ (by kernel_rfl) ?_
  · try simp (disch := omega) only [go_sem, Nat.reduceBEq, Nat.reduceAdd]
    all_goals (rw [List.drop_length]; first | rfl | exact ⟨rfl, by rw [wi64 (by omega) (by omega)]⟩)
  · rintro k h3 ⟨le3, hk⟩
    cases k with
    | zero =>
      rw [List.drop_zero, hm]
      cases s
      all_goals (try simp (disch := omega) only [go_sem, Nat.reduceBEq, Nat.reduceAdd, Int.zero_sub])
      all_goals rfl
    | succ j =>
      obtain ⟨ad, rfl, hat⟩ := ha.rd h3 (i := j) (by omega)
      have v1' := val_drop (xs := xs) (j := j) (by omega)
      have v2' := val_drop_le xs j
      have v3' := getD_lt (B := 65536) (by decide) hlt j
      generalize xs.getD j 0 = d at *
      generalize val 65536 (xs.drop (j + 1)) = n at *
      rw [hm] at v2'
      rw [v1'] at v2'
      try simp (disch := omega) only [go_sem, Nat.reduceBEq, Nat.reduceAdd]
      refine ld1_of hat ?_
      try simp (disch := omega) only [go_sem, Nat.reduceBEq, Nat.reduceAdd]
      dsimp only [lpE]; refine ⟨j, ?_, ⟨le3, by omega⟩, by show j < j + 1; omega⟩
      try simp (disch := omega) only [go_sem, Nat.reduceBEq, Nat.reduceAdd]
      all_goals rw [v1']
      all_goals (first | rfl | exact ⟨rfl, by rw [wi64 (by omega) (by omega)]⟩)
theorem uL_mono {m n : Int} (h : m ≤ n) : uL m ≤ uL n := by
  have hf := f_pos
  have hg := g_pos
  have hc : (m : Rat) ≤ (n : Rat) := Rat.intCast_le_intCast.2 h
  unfold uL
  by_cases h1 : m < 0 <;> by_cases h2 : n < 0
  · rw [if_pos h1, if_pos h2]
    exact Rat.mul_le_mul_of_nonneg_right hc (Rat.le_of_lt hg)
  · rw [if_pos h1, if_neg h2]
    have a1 : (m : Rat) ≤ ((0 : Int) : Rat) := Rat.intCast_le_intCast.2 (by omega)
    have a2 : ((0 : Int) : Rat) ≤ (n : Rat) := Rat.intCast_le_intCast.2 (by omega)
    have b1 := Rat.mul_le_mul_of_nonneg_right a1 (Rat.le_of_lt hg)
    have b2 := Rat.mul_le_mul_of_nonneg_right a2 (Rat.le_of_lt hf)
    have e : ((0 : Int) : Rat) = 0 := rfl
    rw [e, Rat.zero_mul] at b1 b2
    grind
  · omega
  · rw [if_neg h1, if_neg h2]
    exact Rat.mul_le_mul_of_nonneg_right hc (Rat.le_of_lt hf)
theorem mt_iff {a b r : Int} (hr : 0 ≤ r ∧ r ≤ 3) : mt a b r = true ↔ ∃ m, m % 4 = r ∧ a ≤ m ∧ m ≤ b := by
  unfold mt
  rw [decide_eq_true_eq]
  constructor
  · intro k
    exact ⟨a + (r - a) % 4, by omega, by omega, k⟩
  · rintro ⟨m, k1, k2, k3⟩
    omega
theorem tv_iff {x y : Rat} {r : Int} (hr : 0 ≤ r ∧ r ≤ 3) : (tv1 x y r || tv2 x y r) = true ↔ ∃ m, m % 4 = r ∧ x ≤ uU m ∧ uL m ≤ y := by
  have U := fun z => qt_up (x := x) f_pos (z := z)
  have V := fun z => qt_up (x := x) g_pos (z := z)
  have D := fun z => qt_dn (x := y) f_pos (z := z)
  have E := fun z => qt_dn (x := y) g_pos (z := z)
  unfold tv1 tv2 uU uL
  rw [Bool.or_eq_true, mt_iff hr, mt_iff hr]
  constructor
  · rintro (⟨m, k1, k2, k3⟩ | ⟨m, k1, k2, k3⟩)
    · have h0 : ¬ m < 0 := by split at k2 <;> omega
      have h1 : qt x gP true ≤ m := by split at k2 <;> omega
      refine ⟨m, k1, ?_, ?_⟩
      · rw [if_neg h0]; exact (V m).1 h1
      · rw [if_neg h0]; exact (D m).1 k3
    · have h0 : m < 0 := by split at k3 <;> omega
      have h1 : m ≤ qt y gP false := by split at k3 <;> omega
      refine ⟨m, k1, ?_, ?_⟩
      · rw [if_pos h0]; exact (U m).1 k2
      · rw [if_pos h0]; exact (E m).1 h1
  · rintro ⟨m, k1, k2, k3⟩
    by_cases h0 : m < 0
    · rw [if_pos h0] at k2 k3
      have a1 := (U m).2 k2
      have a2 := (E m).2 k3
      exact .inr ⟨m, k1, a1, by split <;> omega⟩
    · rw [if_neg h0] at k2 k3
      have a1 := (V m).2 k2
      have a2 := (D m).2 k3
      exact .inl ⟨m, k1, by split <;> omega, a2⟩
theorem turn_ref {x y : Rat} {r m : Int} (hr : 0 ≤ r ∧ r ≤ 3) (hm : m % 4 = r) (hU : x ≤ uU m) (hl : ∀ n, n < m → n % 4 = r → ¬ x ≤ uU n) : decide (uL m ≤ y) = (tv1 x y r || tv2 x y r) := by
  rw [Bool.eq_iff_iff, tv_iff hr, decide_eq_true_eq]
  constructor
  · intro k; exact ⟨m, hm, hU, k⟩
  · rintro ⟨n, k1, k2, k3⟩
    rcases Int.lt_or_le n m with h | h
    · exact (hl n h k1 k2).elim
    · exact Rat.le_trans (uL_mono h) k3
theorem gf_near : 8589934592 * (gP - fP) < 1 := by decide +kernel
theorem f_big : 1 < fP := by have := fP_ge; grind
theorem far {x : Rat} {n q : Int} (hq : ((q : Rat)) * fP ≤ x) (hn : n ≤ q - 9) (hb : n ≤ 8589934592) : ¬ x ≤ uU n := by
  have hf := f_pos
  have h1 := f_big
  have hg := gf_near
  have hfg := fP_lt
  have e9 : ((q - 9 : Int) : Rat) = (q : Rat) - 9 := by rw [Rat.intCast_sub]; rfl
  have hc : (n : Rat) ≤ (q : Rat) - 9 := by rw [← e9]; exact Rat.intCast_le_intCast.2 hn
  have k1 := Rat.mul_le_mul_of_nonneg_right hc (Rat.le_of_lt hf)
  have k2 : ((q : Rat) - 9) * fP = (q : Rat) * fP - 9 * fP := by grind
  rw [k2] at k1
  unfold uU
  by_cases h0 : n < 0
  · rw [if_pos h0]; grind
  · rw [if_neg h0]
    have a1 : (n : Rat) ≤ 8589934592 := by
      have : (n : Rat) ≤ ((8589934592 : Int) : Rat) := Rat.intCast_le_intCast.2 hb
      exact this
    have a2 := Rat.mul_le_mul_of_nonneg_right a1 (show 0 ≤ gP - fP by grind)
    have a3 : (n : Rat) * (gP - fP) = (n : Rat) * gP - (n : Rat) * fP := by grind
    rw [a3] at a2
    grind
theorem near {x : Rat} {n q : Int} (hq : x < ((q : Rat) + 1) * fP) (hn : q < n) : x ≤ uU n := by
  have hf := f_pos
  have hfg := fP_lt
  have e1 : ((q + 1 : Int) : Rat) = (q : Rat) + 1 := by rw [Rat.intCast_add]; rfl
  have hc : (q : Rat) + 1 ≤ (n : Rat) := by rw [← e1]; exact Rat.intCast_le_intCast.2 (by omega)
  have k1 := Rat.mul_le_mul_of_nonneg_right hc (Rat.le_of_lt hf)
  unfold uU
  by_cases h0 : n < 0
  · rw [if_pos h0]; grind
  · rw [if_neg h0]
    have a1 : 0 ≤ (n : Rat) := by
      have : ((0 : Int) : Rat) ≤ (n : Rat) := Rat.intCast_le_intCast.2 (by omega)
      exact this
    have a2 := Rat.mul_le_mul_of_nonneg_left (Rat.le_of_lt hfg) a1
    grind
end Go.Q
namespace Go.Q
open Go.Proofs
set_option maxRecDepth 100000
set_option maxHeartbeats 16000000
theorem FTurns_no {h0 h : PH} [Le h0 h] {v w : Value} {ng mg : Bool} {nn nd mn md : Nat} {r : Int} (hv : Rw h0 v ng nn nd) (hw : Rw h0 w mg mn md) (hl : lg ng nn nd ∨ lg mg mn md) : Spec mach 10 #[v, w, .int .i64 r] h (fun q _ => q = .tuple #[.bool false, .int .i64 1]) NP := by
  have hv0 := hv
  have hw0 := hw
  obtain ⟨_, _, _, _, _, _, _, rfl, _⟩ := hv.sa
  obtain ⟨_, _, _, _, _, _, _, rfl, _⟩ := hw.sa
  by_cases g1 : lg ng nn nd
  · have kC := fun {h} [Le h0 h] => NumCanon_no (h := h) hv0 g1
    by_cases g2 : lg mg mn md
    · have kD := fun {h} [Le h0 h] => NumCanon_no (h := h) hw0 g2
      clear hl g1 g2
      refine Spec.go [(14, .t (.s [0, 1, 2, 3, 5, 6, 7, 8] (.a 4 (.a 9 (.a 10 (.a 11 (.a 12 (.a 13 .d .n) .n) .n) (.a 11 (.a 10 (.a 12 (.a 13 .d .n) .n) .n) .n)) (.a 10 (.a 9 (.a 11 (.a 12 (.a 13 .d .n) .n) .n) (.a 11 (.a 9 (.a 12 (.a 13 .d .n) .n) .n) .n)) (.a 11 (.a 9 (.a 10 (.a 12 (.a 13 .d .n) .n) .n) (.a 10 (.a 9 (.a 12 (.a 13 .d .n) .n) .n) .n)) .n))) (.a 10 (.a 4 (.a 9 (.a 11 (.a 12 (.a 13 .d .n) .n) .n) (.a 11 (.a 9 (.a 12 (.a 13 .d .n) .n) .n) .n)) (.a 11 (.a 4 (.a 9 (.a 12 (.a 13 .d .n) .n) .n) .n) .n)) (.a 11 (.a 4 (.a 9 (.a 10 (.a 12 (.a 13 .d .n) .n) .n) (.a 10 (.a 9 (.a 12 (.a 13 .d .n) .n) .n) .n)) (.a 10 (.a 4 (.a 9 (.a 12 (.a 13 .d .n) .n) .n) .n) .n)) .n))))), (15, .o [0, 1, 4, 5, 2, 3, 6, 7, 8]), (18, .o [0, 1, 3, 4, 7, 2, 5, 6, 8, 9, 10])] Tryz.func10 rfl rfl (by kernel_rfl) fun C _ => ?_
      try simp (disch := omega) only [go_sem, Nat.reduceBEq, Nat.reduceAdd]
      refine caN (by exact kC) ?_; rintro v1 h1 s1 rfl
      try simp (disch := omega) only [go_sem, Nat.reduceBEq, Nat.reduceAdd]
      refine caN (by exact kD) ?_; rintro v2 h2 s2 rfl
      try simp (disch := omega) only [go_sem, Nat.reduceBEq, Nat.reduceAdd]
      all_goals omega
    · have kD := fun {h} [Le h0 h] => NumCanon (h := h) ⟨_, _, _, hw0, g2, rfl⟩
      clear hl g1 g2
      refine Spec.go [(14, .t (.s [0, 1, 2, 3, 5, 6, 7, 8] (.a 4 (.a 9 (.a 10 (.a 11 (.a 12 (.a 13 .d .n) .n) .n) (.a 11 (.a 10 (.a 12 (.a 13 .d .n) .n) .n) .n)) (.a 10 (.a 9 (.a 11 (.a 12 (.a 13 .d .n) .n) .n) (.a 11 (.a 9 (.a 12 (.a 13 .d .n) .n) .n) .n)) (.a 11 (.a 9 (.a 10 (.a 12 (.a 13 .d .n) .n) .n) (.a 10 (.a 9 (.a 12 (.a 13 .d .n) .n) .n) .n)) .n))) (.a 10 (.a 4 (.a 9 (.a 11 (.a 12 (.a 13 .d .n) .n) .n) (.a 11 (.a 9 (.a 12 (.a 13 .d .n) .n) .n) .n)) (.a 11 (.a 4 (.a 9 (.a 12 (.a 13 .d .n) .n) .n) .n) .n)) (.a 11 (.a 4 (.a 9 (.a 10 (.a 12 (.a 13 .d .n) .n) .n) (.a 10 (.a 9 (.a 12 (.a 13 .d .n) .n) .n) .n)) (.a 10 (.a 4 (.a 9 (.a 12 (.a 13 .d .n) .n) .n) .n) .n)) .n))))), (15, .o [0, 1, 4, 5, 2, 3, 6, 7, 8]), (18, .o [0, 1, 3, 4, 7, 2, 5, 6, 8, 9, 10])] Tryz.func10 rfl rfl (by kernel_rfl) fun C _ => ?_
      try simp (disch := omega) only [go_sem, Nat.reduceBEq, Nat.reduceAdd]
      refine caN (by exact kC) ?_; rintro v1 h1 s1 rfl
      try simp (disch := omega) only [go_sem, Nat.reduceBEq, Nat.reduceAdd]
      refine caN (by exact kD) ?_; rintro v2 h2 s2 ⟨_, _, _, _, _, _, _, rfl, c2⟩
      try simp (disch := omega) only [go_sem, Nat.reduceBEq, Nat.reduceAdd]
      all_goals omega
  · have kC := fun {h} [Le h0 h] => NumCanon (h := h) ⟨_, _, _, hv0, g1, rfl⟩
    have kD := fun {h} [Le h0 h] => NumCanon_no (h := h) hw0 (hl.resolve_left g1)
    clear hl g1
    refine Spec.go [(14, .t (.s [0, 1, 2, 3, 5, 6, 7, 8] (.a 4 (.a 9 (.a 10 (.a 11 (.a 12 (.a 13 .d .n) .n) .n) (.a 11 (.a 10 (.a 12 (.a 13 .d .n) .n) .n) .n)) (.a 10 (.a 9 (.a 11 (.a 12 (.a 13 .d .n) .n) .n) (.a 11 (.a 9 (.a 12 (.a 13 .d .n) .n) .n) .n)) (.a 11 (.a 9 (.a 10 (.a 12 (.a 13 .d .n) .n) .n) (.a 10 (.a 9 (.a 12 (.a 13 .d .n) .n) .n) .n)) .n))) (.a 10 (.a 4 (.a 9 (.a 11 (.a 12 (.a 13 .d .n) .n) .n) (.a 11 (.a 9 (.a 12 (.a 13 .d .n) .n) .n) .n)) (.a 11 (.a 4 (.a 9 (.a 12 (.a 13 .d .n) .n) .n) .n) .n)) (.a 11 (.a 4 (.a 9 (.a 10 (.a 12 (.a 13 .d .n) .n) .n) (.a 10 (.a 9 (.a 12 (.a 13 .d .n) .n) .n) .n)) (.a 10 (.a 4 (.a 9 (.a 12 (.a 13 .d .n) .n) .n) .n) .n)) .n))))), (15, .o [0, 1, 4, 5, 2, 3, 6, 7, 8]), (18, .o [0, 1, 3, 4, 7, 2, 5, 6, 8, 9, 10])] Tryz.func10 rfl rfl (by kernel_rfl) fun C _ => ?_
    try simp (disch := omega) only [go_sem, Nat.reduceBEq, Nat.reduceAdd]
    refine caN (by exact kC) ?_; rintro v1 h1 s1 ⟨_, _, _, _, _, _, _, rfl, c1⟩
    try simp (disch := omega) only [go_sem, Nat.reduceBEq, Nat.reduceAdd]
    refine caN (by exact kD) ?_; rintro v2 h2 s2 rfl
    try simp (disch := omega) only [go_sem, Nat.reduceBEq, Nat.reduceAdd]
    all_goals omega
theorem cmpQ_ge (x y : Rat) : decide (cmpQ x y ≥ 0) = decide (y ≤ x) := by unfold cmpQ; grind
end Go.Q
namespace Go.Q
open Go.Proofs
set_option maxRecDepth 100000
set_option maxHeartbeats 16000000
theorem cmpQ_le (x y : Rat) : decide (cmpQ x y ≤ 0) = decide (x ≤ y) := by unfold cmpQ; grind
theorem sz_uL {m : Int} (hm : m.natAbs < 2 ^ 62) : sz (uL m) ≤ 2 ^ 34 ∧ sz (uU m) ≤ 2 ^ 34 := by
  have h1 := sz_whole hm
  have h2 := fP_sz
  have h3 := gP_sz
  unfold uL uU
  have a := sz_mul (m : Rat) fP
  have b := sz_mul (m : Rat) gP
  constructor <;> split <;> omega
theorem fl_bd {x : Rat} (hx : ¬ x.den * 4294967296 < x.num.natAbs) : -2863311531 ≤ (x / fP).floor ∧ (x / fP).floor ≤ 2863311531 := by
  rw [Rat.div_def]
  exact floor_bd (c := 2863311531) (quo_bd (num_bd hx) fP_ge)
theorem fl_q (x : Rat) : ((((x / fP).floor : Int)) : Rat) * fP ≤ x ∧ x < ((((x / fP).floor : Int) : Rat) + 1) * fP := by
  have hf := f_pos
  have f0 : fP ≠ 0 := by grind
  have e : x / fP * fP = x := Rat.div_mul_cancel f0
  generalize x / fP = q at *
  have h1 := Rat.floor_le q
  have h2 : q < (q.floor : Rat) + 1 := by
    have := Rat.lt_floor_add_one q
    rw [Rat.intCast_add] at this
    exact this
  have k1 := Rat.mul_le_mul_of_nonneg_right h1 (Rat.le_of_lt hf)
  have k2 := Rat.mul_lt_mul_of_pos_right h2 hf
  rw [e] at k1 k2
  exact ⟨k1, k2⟩
theorem RTurns_spec {h0 h : PH} [Le h0 h] {v w : Value} {x y : Rat} {r : Int} (hx : Qr h0 v x) (hy : Qr h0 w y) (bx : sz x ≤ 2048) (by_ : sz y ≤ 2048) : Spec mach 12 #[v, w, .int .i64 r] h (fun q _ => q = .tuple #[.bool (turnB x y r), .int .i64 (turnE x y r)]) NP := by
  have kO := fun {h} [Le h0 h] => Over_spec (h := h) hx
  have kP := fun {h} [Le h0 h] => Over_spec (h := h) hy
  have kW := fun {h} [Le h0 h] => RWide_spec (h := h) hx bx
  have kV := fun {h} [Le h0 h] => RWide_spec (h := h) hy by_
  have kC := fun {h} [Le h0 h] => QCmp_spec (h := h) hx hy (Nat.le_trans bx (by decide)) (Nat.le_trans by_ (by decide))
  rw [decide_eq_false (show ¬ 2048 < sz x by omega)] at kO
  rw [decide_eq_false (show ¬ 2048 < sz y by omega)] at kP
  have bx' : sz x ≤ 2 ^ 34 := Nat.le_trans bx (by decide)
  have by' : sz y ≤ 2 ^ 34 := Nat.le_trans by_ (by decide)
  have hx0 := hx
  have hy0 := hy
  obtain ⟨x1, x2, x3, x4, x5, x6, _, rfl, _⟩ := hx.sl
  obtain ⟨y1, y2, y3, y4, y5, y6, _, rfl, _⟩ := hy.sl
  have bx' := Hid.mk bx'
  have by' := Hid.mk by'
  clear bx by_ hx hy
  by_cases hr : r < 0 ∨ 3 < r
  · obtain ⟨eE, eB⟩ := turn_r (x := x) (y := y) hr
    rw [eE, eB]
    rcases hr with g | g
    all_goals
      refine Spec.go [] Tryz.func12 rfl rfl (by kernel_rfl) fun C _ => ?_
      try simp (disch := omega) only [go_sem, Nat.reduceBEq, Nat.reduceAdd]
      refine caN (by exact kO) ?_; rintro v1 h1 s1 rfl
      try simp (disch := omega) only [go_sem, Nat.reduceBEq, Nat.reduceAdd]
      refine caN (by exact kP) ?_; rintro v2 h2 s2 rfl
      try simp (disch := omega) only [go_sem, Nat.reduceBEq, Nat.reduceAdd]
  have T : wideB x ∨ wideB y → turnE x y r = 20 ∧ turnB x y r = false := turn_w hr
  have Z := turn_0 (x := x) (y := y) hr
  have r1 : 0 ≤ r := by omega
  have r2 : r ≤ 3 := by omega
  clear hr
  cases eW : decide (wideB x) with
  | true =>
    obtain ⟨eE, eB⟩ := T (.inl (of_decide_eq_true eW))
    rw [eE, eB]
    rw [eW] at kW
    clear eW T Z
    refine Spec.go [] Tryz.func12 rfl rfl (by kernel_rfl) fun C _ => ?_
    try simp (disch := omega) only [go_sem, Nat.reduceBEq, Nat.reduceAdd]
    refine caN (by exact kO) ?_; rintro v1 h1 s1 rfl
    try simp (disch := omega) only [go_sem, Nat.reduceBEq, Nat.reduceAdd]
    refine caN (by exact kP) ?_; rintro v2 h2 s2 rfl
    try simp (disch := omega) only [go_sem, Nat.reduceBEq, Nat.reduceAdd]
    refine caN (by exact kW) ?_; rintro v3 h3 s3 rfl
    try simp (disch := omega) only [go_sem, Nat.reduceBEq, Nat.reduceAdd]
  | false =>
  cases eV : decide (wideB y) with
  | true =>
    obtain ⟨eE, eB⟩ := T (.inr (of_decide_eq_true eV))
    rw [eE, eB]
    rw [eW] at kW
    rw [eV] at kV
    clear eW eV T Z
    refine Spec.go [] Tryz.func12 rfl rfl (by kernel_rfl) fun C _ => ?_
    try simp (disch := omega) only [go_sem, Nat.reduceBEq, Nat.reduceAdd]
    refine caN (by exact kO) ?_; rintro v1 h1 s1 rfl
    try simp (disch := omega) only [go_sem, Nat.reduceBEq, Nat.reduceAdd]
    refine caN (by exact kP) ?_; rintro v2 h2 s2 rfl
    try simp (disch := omega) only [go_sem, Nat.reduceBEq, Nat.reduceAdd]
    refine caN (by exact kW) ?_; rintro v3 h3 s3 rfl
    try simp (disch := omega) only [go_sem, Nat.reduceBEq, Nat.reduceAdd]
    refine caN (by exact kV) ?_; rintro v4 h4 s4 rfl
    try simp (disch := omega) only [go_sem, Nat.reduceBEq, Nat.reduceAdd]
  | false =>
  have nW := of_decide_eq_false eW
  have nV := of_decide_eq_false eV
  obtain ⟨eE, z1, z2⟩ := Z (fun k => k.elim nW nV)
  rw [eW] at kW
  rw [eV] at kV
  rw [eE]
  have e3 := cmpQ_gt x y
  by_cases hc : y < x
  · rw [z1 hc]
    rw [decide_eq_true hc] at e3
    clear eW eV T Z nW nV z1 z2
    refine Spec.go [] Tryz.func12 rfl rfl (by kernel_rfl) fun C _ => ?_
    try simp (disch := omega) only [go_sem, Nat.reduceBEq, Nat.reduceAdd]
    refine caN (by exact kO) ?_; rintro v1 h1 s1 rfl
    try simp (disch := omega) only [go_sem, Nat.reduceBEq, Nat.reduceAdd]
    refine caN (by exact kP) ?_; rintro v2 h2 s2 rfl
    try simp (disch := omega) only [go_sem, Nat.reduceBEq, Nat.reduceAdd]
    refine caN (by exact kW) ?_; rintro v3 h3 s3 rfl
    try simp (disch := omega) only [go_sem, Nat.reduceBEq, Nat.reduceAdd]
    refine caN (by exact kV) ?_; rintro v4 h4 s4 rfl
    try simp (disch := omega) only [go_sem, Nat.reduceBEq, Nat.reduceAdd]
    refine caN (by exact kC) ?_; rintro v5 h5 s5 rfl
    try simp (disch := omega) only [go_sem, Nat.reduceBEq, Nat.reduceAdd, e3]
  rw [z2 hc]
  rw [decide_eq_false hc] at e3
  obtain ⟨l1, l2⟩ := fl_bd (fun k => nW (.inr k))
  obtain ⟨g1, g2⟩ := fl_q x
  have R := fun m => turn_ref (x := x) (y := y) (r := r) (m := m) ⟨r1, r2⟩
  have FR := fun n => far (x := x) (n := n) (q := (x / fP).floor) g1
  have NR := fun n => near (x := x) (n := n) (q := (x / fP).floor) g2
  have sf : sz fP ≤ 2 ^ 35 := Nat.le_trans fP_sz (by decide)
  have sdiv : sz (x / fP) ≤ 2 ^ 35 := by
    rw [Rat.div_def]
    have := sz_mul x fP⁻¹
    have := sz_inv fP
    have := fP_sz
    have := bx'.out
    omega
  have SU := fun {m : Int} => sz_uL (m := m)
  obtain ⟨q, eq⟩ : ∃ q, (x / fP).floor = q := ⟨_, rfl⟩
  rw [eq] at l1 l2 FR NR
  have kS : ∀ {h1 h : PH} {v : Value} [Le h1 h], Qr h1 v (((x / fP).floor : Int) : Rat) → Spec mach 40 #[v] h (fun r _ => r = .tuple #[.int .i64 q, .bool true]) NP := fun hq => by
    rw [eq] at hq
    exact RSmall_spec hq (by omega)
  obtain ⟨t1, t2, t3⟩ := tm4 (r - (q - 8))
  have m1 := Int.emod_nonneg (r - (q - 8)) (b := 4) (by decide)
  have m2 := Int.emod_lt_of_pos (r - (q - 8)) (b := 4) (by decide)
  obtain ⟨m0, em0⟩ : ∃ m, q - 8 + (r - (q - 8)) % 4 = m := ⟨_, rfl⟩
  have mr : m0 % 4 = r := by omega
  have low : ∀ n, n < m0 → n % 4 = r → ¬ x ≤ uU n := fun n k1 k2 => FR n (by omega) (by omega)
  have ml : q - 8 ≤ m0 ∧ m0 ≤ q - 5 := by omega
  generalize et : (r - (q - 8)).tmod 4 = t at t1 t2 t3
  generalize ez : (r - (q - 8)) % 4 = z at t1 em0
  generalize tv1 x y r = T1 at *
  generalize tv2 x y r = T2 at *
  have bx' := bx'
  have sdiv := Hid.mk sdiv
  have sf := Hid.mk sf
  have mr := Hid.mk mr
  have nW := Hid.mk nW
  clear eW eV T Z nV z1 z2 g1 g2 FR hc m1 m2 ez eE nW
  refine Spec.go [] Tryz.func12 rfl rfl (by kernel_rfl) fun C _ => ?_
  try simp (disch := omega) only [go_sem, Nat.reduceBEq, Nat.reduceAdd]
  refine caN (by exact kO) ?_; rintro v1 h1 s1 rfl
  try simp (disch := omega) only [go_sem, Nat.reduceBEq, Nat.reduceAdd]
  refine caN (by exact kP) ?_; rintro v2 h2 s2 rfl
  try simp (disch := omega) only [go_sem, Nat.reduceBEq, Nat.reduceAdd]
  refine caN (by exact kW) ?_; rintro v3 h3 s3 rfl
  try simp (disch := omega) only [go_sem, Nat.reduceBEq, Nat.reduceAdd]
  refine caN (by exact kV) ?_; rintro v4 h4 s4 rfl
  try simp (disch := omega) only [go_sem, Nat.reduceBEq, Nat.reduceAdd]
  refine caN (by exact kC) ?_; rintro v5 h5 s5 rfl
  try simp (disch := omega) only [go_sem, Nat.reduceBEq, Nat.reduceAdd, e3]
  refine caN (by exact RQuarter_spec (w := 192) (by decide) (by decide)) ?_; rintro v6 h6 s6 ⟨b1, a1, c1, d1, a2, c2, d2, b2, a3, c3, d3, a4, c4, d4, rfl, p1, p2⟩
  try simp (disch := omega) only [go_sem, Nat.reduceBEq, Nat.reduceAdd]
  have p1 : Qr h6 _ fP := p1
  have p2 : Qr h6 _ gP := p2
  try simp (disch := omega) only [go_sem, Nat.reduceBEq, Nat.reduceAdd]
  refine caN (by exact QDiv_spec (hx0.to (h' := h6)) p1 (Nat.le_trans bx'.out (by decide)) sf.out) ?_; rintro v7 h7 s7 q7; have q7' := q7; obtain ⟨_, _, _, _, _, _, _, rfl, _⟩ := q7'.sl
  try simp (disch := omega) only [go_sem, Nat.reduceBEq, Nat.reduceAdd]
  refine caN (by exact Bottom_spec q7 sdiv.out) ?_; rintro v8 h8 s8 q8; have q8' := q8; obtain ⟨_, _, _, _, _, _, _, rfl, _⟩ := q8'.sl
  try simp (disch := omega) only [go_sem, Nat.reduceBEq, Nat.reduceAdd]
  refine caN (by exact kS q8) ?_; rintro v9 h9 s9 rfl
  try simp (disch := omega) only [go_sem, Nat.reduceBEq, Nat.reduceAdd, et, t1, em0]
  refine lpSl [] (fun m : Int => ⟨[(3, .p 0 0), (4, .p 1 0), (8, .p 2 0), (9, .p 3 0), (10, .v (.int .i64 m))], [[.bool (decide (x.num < 0)), .slice x1 x2 x3, .slice x4 x5 x6], [.bool (decide (y.num < 0)), .slice y1 y2 y3, .slice y4 y5 y6], [.bool b1, .slice a1 c1 d1, .slice a2 c2 d2], [.bool b2, .slice a3 c3 d3, .slice a4 c4 d4]]⟩) (fun m h' => Le h6 h' ∧ q - 8 ≤ m ∧ m ≤ q + 8 ∧ m % 4 = r ∧ ∀ n, n < m → n % 4 = r → ¬ x ≤ uU n) (fun m => (q + 9 - m).toNat) m0 [0, 1, 2, 3] ?_ ⟨inferInstance, by omega, by omega, mr.out, low⟩ (by kernel_rfl) ?_
  · try simp (disch := omega) only [go_sem, Nat.reduceBEq, Nat.reduceAdd, nodupB]
    all_goals rfl
  · rintro m h10 ⟨le10, k1, k2, k3, k4⟩
    have le0 : Le h0 h10 := Le.trn inferInstance le10
    have hm : m.natAbs < 2 ^ 62 := by omega
    obtain ⟨su1, su2⟩ := SU hm
    have su1 := Hid.mk su1
    have su2 := Hid.mk su2
    have k3 := Hid.mk k3
    have eg := cmpQ_ge (uU m) x
    try simp (disch := omega) only [go_sem, Nat.reduceBEq, Nat.reduceAdd]
    refine caN (by exact REnds_spec (m := m) (p1.to (h' := h10)) (p2.to (h' := h10)) (by omega)) ?_; rintro v11 h11 s11 ⟨_, _, _, _, _, _, _, _, _, _, _, _, _, _, rfl, w1, w2⟩
    try simp (disch := omega) only [go_sem, Nat.reduceBEq, Nat.reduceAdd]
    refine caN (by exact QCmp_spec w2 (hx0.to (h' := h11)) su2.out bx'.out) ?_; rintro v12 h12 s12 rfl
    try simp (disch := omega) only [go_sem, Nat.reduceBEq, Nat.reduceAdd]
    by_cases hU : x ≤ uU m
    · rw [decide_eq_true hU] at eg
      have eL : decide (cmpQ (uL m) y ≤ 0) = (T1 || T2) := by rw [cmpQ_le]; exact R m k3.out hU k4
      try simp (disch := omega) only [go_sem, Nat.reduceBEq, Nat.reduceAdd, eg]
      refine caN (by exact QCmp_spec (w1.to (h' := h12)) (hy0.to (h' := h12)) su1.out by'.out) ?_; rintro v13 h13 s13 rfl
      try simp (disch := omega) only [go_sem, Nat.reduceBEq, Nat.reduceAdd, eL]
    · rw [decide_eq_false hU] at eg
      have hq : m ≤ q := Int.not_lt.1 (fun k => hU (NR m k))
      try simp (disch := omega) only [go_sem, Nat.reduceBEq, Nat.reduceAdd, eg]
      dsimp only [lpS]; refine ⟨m + 4, [0, 1, 2, 3], ?_, ⟨Le.trn le10 inferInstance, by omega, by omega, by have := k3.out; omega, fun n g1 g2 => ?_⟩, by show (q + 9 - (m + 4)).toNat < (q + 9 - m).toNat; omega⟩
      · try simp (disch := omega) only [go_sem, Nat.reduceBEq, Nat.reduceAdd, nodupB]
        all_goals rfl
      · rcases Int.lt_or_le n m with g | g
        · exact k4 n g g2
        · have e : n = m := by have := k3.out; omega
          subst e
          exact hU
theorem Turns_law {h0 h : PH} [Le h0 h] {v w : Value} {ng mg : Bool} {nn nd mn md : Nat} {r : Int} (hv : Rw h0 v ng nn nd) (hw : Rw h0 w mg mn md) : Spec mach 4 #[v, w, .int .i64 r] h (fun q _ => q = .bool true) NP := by
  have kL := fun {h} [Le h0 h] => Large_spec (h := h) hv
  have kM := fun {h} [Le h0 h] => Large_spec (h := h) hw
  by_cases hl : lg ng nn nd ∨ lg mg mn md
  · have kT := fun {h} [Le h0 h] => FTurns_no (h := h) (r := r) hv hw hl
    obtain ⟨_, _, _, _, _, _, _, rfl, _⟩ := hv.sa
    obtain ⟨_, _, _, _, _, _, _, rfl, _⟩ := hw.sa
    by_cases g1 : lg ng nn nd
    · rw [decide_eq_true g1] at kL
      clear hl g1
      refine Spec.go [(4, .o [0, 2, 4, 1, 3, 5, 6, 7, 8, 9, 10])] Tryz.func4 rfl rfl (by kernel_rfl) fun C _ => ?_
      try simp (disch := omega) only [go_sem, Nat.reduceBEq, Nat.reduceAdd]
      refine caN (by exact kT) ?_; rintro v1 h1 s1 rfl
      try simp (disch := omega) only [go_sem, Nat.reduceBEq, Nat.reduceAdd]
      refine caN (by exact kL) ?_; rintro v2 h2 s2 rfl
      try simp (disch := omega) only [go_sem, Nat.reduceBEq, Nat.reduceAdd]
      refine caN (by exact sane_spec) ?_; rintro v3 h3 s3 rfl
      try simp (disch := omega) only [go_sem, Nat.reduceBEq, Nat.reduceAdd]
    · rw [decide_eq_false g1] at kL
      rw [decide_eq_true (hl.resolve_left g1)] at kM
      clear hl g1
      refine Spec.go [(4, .o [0, 2, 4, 1, 3, 5, 6, 7, 8, 9, 10])] Tryz.func4 rfl rfl (by kernel_rfl) fun C _ => ?_
      try simp (disch := omega) only [go_sem, Nat.reduceBEq, Nat.reduceAdd]
      refine caN (by exact kT) ?_; rintro v1 h1 s1 rfl
      try simp (disch := omega) only [go_sem, Nat.reduceBEq, Nat.reduceAdd]
      refine caN (by exact kL) ?_; rintro v2 h2 s2 rfl
      try simp (disch := omega) only [go_sem, Nat.reduceBEq, Nat.reduceAdd]
      refine caN (by exact kM) ?_; rintro v3 h3 s3 rfl
      try simp (disch := omega) only [go_sem, Nat.reduceBEq, Nat.reduceAdd]
      refine caN (by exact sane_spec) ?_; rintro v4 h4 s4 rfl
      try simp (disch := omega) only [go_sem, Nat.reduceBEq, Nat.reduceAdd]
  · have kO := fun {h} [Le h0 h] => QOf_spec (h := h) hv
    have kP := fun {h} [Le h0 h] => QOf_spec (h := h) hw
    rw [decide_eq_false (fun k => hl (.inl k))] at kL
    rw [decide_eq_false (fun k => hl (.inr k))] at kM
    have hx : Rv h0 v (qof ng nn nd) := ⟨_, _, _, hv, fun k => hl (.inl k), rfl⟩
    have hy : Rv h0 w (qof mg mn md) := ⟨_, _, _, hw, fun k => hl (.inr k), rfl⟩
    generalize qof ng nn nd = x at *
    generalize qof mg mn md = y at *
    have kT := fun {h} [Le h0 h] => FTurns_ok (h := h) (r := r) hx hy
    have kR := fun {h1 h : PH} {v w : Value} [Le h1 h] (p : Qr h1 v x) (q : Qr h1 w y) => RTurns_spec (h := h) (r := r) p q hx.sz hy.sz
    obtain ⟨_, _, _, _, _, _, _, rfl, _⟩ := hv.sa
    obtain ⟨_, _, _, _, _, _, _, rfl, _⟩ := hw.sa
    generalize turnB x y r = B at *
    generalize turnE x y r = E at *
    have eB : (B == B) = true := by simp
    have eE : (E == E) = true := by simp
    clear hl hx hy hv hw
    refine Spec.go [(4, .o [0, 2, 4, 1, 3, 5, 6, 7, 8, 9, 10])] Tryz.func4 rfl rfl (by kernel_rfl) fun C _ => ?_
    try simp (disch := omega) only [go_sem, Nat.reduceBEq, Nat.reduceAdd]
    refine caN (by exact kT) ?_; rintro v1 h1 s1 rfl
    try simp (disch := omega) only [go_sem, Nat.reduceBEq, Nat.reduceAdd]
    refine caN (by exact kL) ?_; rintro v2 h2 s2 rfl
    try simp (disch := omega) only [go_sem, Nat.reduceBEq, Nat.reduceAdd]
    refine caN (by exact kM) ?_; rintro v3 h3 s3 rfl
    try simp (disch := omega) only [go_sem, Nat.reduceBEq, Nat.reduceAdd]
    refine caN (by exact kO) ?_; rintro v4 h4 s4 q4; have q4' := q4; obtain ⟨_, _, _, _, _, _, _, rfl, _⟩ := q4'.sl
    try simp (disch := omega) only [go_sem, Nat.reduceBEq, Nat.reduceAdd]
    refine caN (by exact kP) ?_; rintro v5 h5 s5 q5; have q5' := q5; obtain ⟨_, _, _, _, _, _, _, rfl, _⟩ := q5'.sl
    try simp (disch := omega) only [go_sem, Nat.reduceBEq, Nat.reduceAdd]
    refine caN (by exact kR (q4.to (h' := h5)) q5) ?_; rintro v6 h6 s6 rfl
    try simp (disch := omega) only [go_sem, Nat.reduceBEq, Nat.reduceAdd, eB, eE]
    refine caN (by exact sane_spec) ?_; rintro v7 h7 s7 rfl
    try simp (disch := omega) only [go_sem, Nat.reduceBEq, Nat.reduceAdd]
end Go.Q
