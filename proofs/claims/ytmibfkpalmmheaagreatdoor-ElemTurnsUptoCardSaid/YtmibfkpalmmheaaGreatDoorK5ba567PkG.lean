/-
  Contracts of package word: the operations on rational numbers. Conditions: the values are rational numbers (Fr), of at most 2^36 binary digits.
  Contracts of package word: grids, integers, reading and giving of numbers. Conditions: the values are rational numbers (Fr), of at most 2^36 binary digits.
  Contracts of package word: integers, copies, reading and giving of numbers. Conditions: the slices hold words (Arr, N32).
  Contract of package word: reading of numbers. Conditions: the slices hold words (Rw), of at most 2^39 binary digits.
  Contracts of the reference's natural numbers: digits of 16 bits, trimming, small numbers, the order. Conditions: the slices hold digits (Arr, N16).
-/
import Derived.Test.YtmibfkpalmmheaaGreatDoorK24f055PkD
import Derived.Test.YtmibfkpalmmheaaGreatDoorK66984cPkF
import Derived.Test.YtmibfkpalmmheaaGreatDoorK99fa64PkC
set_option linter.unusedVariables false
set_option linter.unusedSimpArgs false
namespace Go.Q
open Go.Proofs
set_option maxRecDepth 100000
theorem Fr.sl {h : PH} {v : Value} {x : Rat} (r : Fr h v x) : ∃ na nl nc da dl dc, v = .agg #[.bool (decide (x.num < 0)), .slice na nl nc, .slice da dl dc] ∧ N32 h (.slice na nl nc) x.num.natAbs ∧ N32 h (.slice da dl dc) x.den := by
  obtain ⟨sn, sd, rfl, h2, h3⟩ := r
  obtain ⟨na, nl, nc, rfl, h2⟩ := h2.sl
  obtain ⟨da, dl, dc, rfl, h3⟩ := h3.sl
  exact ⟨_, _, _, _, _, _, rfl, h2, h3⟩
theorem Fr.sa {h : PH} {v : Value} {x : Rat} (r : Fr h v x) : ∃ b na nl nc da dl dc, v = .agg #[.bool b, .slice na nl nc, .slice da dl dc] ∧ Fr h (.agg #[.bool b, .slice na nl nc, .slice da dl dc]) x := by
  obtain ⟨_, _, _, _, _, _, rfl, _⟩ := r.sl
  exact ⟨_, _, _, _, _, _, _, rfl, r⟩
structure Jk (h : PH) (neg : Bool) (sn sd : Value) (n d : Nat) : Prop where
  num : N32 h sn n
  den : N32 h sd d
theorem Jk.to {h h' : PH} {neg : Bool} {sn sd : Value} {n d : Nat} (r : Jk h neg sn sd n d) [Le h h'] : Jk h' neg sn sd n d := ⟨r.num.to, r.den.to⟩
theorem W_len_bl {n k : Nat} : (W 4294967296 n).length ≤ k ↔ bl n ≤ 32 * k := by
  rw [bl_le, B_pow]
  refine ⟨fun h => ?_, fun h => W_length_le (by decide) h⟩
  exact Nat.lt_of_lt_of_le (lt_W_length (by decide) n) (Nat.pow_le_pow_right (by decide) h)
theorem Fits_raw {h0 h : PH} [Le h0 h] {neg : Bool} {sn sd : Value} {n d : Nat} (hj : Jk h0 neg sn sd n d) :
    Spec mach 139 #[.agg #[.bool neg, sn, sd]] h (fun v _ => v = .bool (decide (max (bl n) (bl d) ≤ 2048))) NP := by
  obtain ⟨hn, hd⟩ := hj
  obtain ⟨na, nc, rfl, hn⟩ := hn
  obtain ⟨da, dc, rfl, hd⟩ := hd
  have hs := hn.small
  have hs' := hd.small
  have e1 := W_len_bl (n := n) (k := 64)
  have e2 := W_len_bl (n := d) (k := 64)
  refine Spec.go [] Tryz.func139 rfl rfl (by kernel_rfl) fun C _ => ?_
  try simp (maxSteps := 999999) (disch := omega) only [go_sem, Nat.reduceBEq, Nat.reduceAdd]
  by_cases h1 : (W 4294967296 n).length ≤ 64
  · by_cases h2 : (W 4294967296 d).length ≤ 64
    · try simp (maxSteps := 999999) (disch := omega) only [go_sem, Nat.reduceBEq, Nat.reduceAdd]
      all_goals (refine bv ?_; simp <;> omega)
    · try simp (maxSteps := 999999) (disch := omega) only [go_sem, Nat.reduceBEq, Nat.reduceAdd]
      all_goals (refine bv ?_; simp <;> omega)
  · try simp (maxSteps := 999999) (disch := omega) only [go_sem, Nat.reduceBEq, Nat.reduceAdd]
    all_goals (refine bv ?_; simp <;> omega)
theorem Sign_raw {h0 h : PH} [Le h0 h] {neg : Bool} {sn sd : Value} {n d : Nat} (hj : Jk h0 neg sn sd n d) :
    Spec mach 140 #[.agg #[.bool neg, sn, sd]] h (fun v _ => v = .int .i64 (if n = 0 then 0 else if neg then -1 else 1)) NP := by
  obtain ⟨hn, hd⟩ := hj
  obtain ⟨na, nl, nc, rfl, hn⟩ := hn.sl
  obtain ⟨da, dl, dc, rfl, hd⟩ := hd.sl
  refine Spec.go [] Tryz.func140 rfl rfl (by kernel_rfl) fun C _ => ?_
  try simp (maxSteps := 999999) (disch := omega) only [go_sem, Nat.reduceBEq, Nat.reduceAdd]
  by_cases h0 : n = 0
  · try simp (maxSteps := 999999) (disch := omega) only [go_sem, Nat.reduceBEq, Nat.reduceAdd]
    refine caN (by exact Zero_spec hn) ?_; rintro v1 h1 s1 rfl
    try simp (maxSteps := 999999) (disch := omega) only [go_sem, Nat.reduceBEq, Nat.reduceAdd]
    simp [h0]
  · cases neg with
    | true =>
      try simp (maxSteps := 999999) (disch := omega) only [go_sem, Nat.reduceBEq, Nat.reduceAdd]
      refine caN (by exact Zero_spec hn) ?_; rintro v1 h1 s1 rfl
      try simp (maxSteps := 999999) (disch := omega) only [go_sem, Nat.reduceBEq, Nat.reduceAdd]
      simp [h0]
    | false =>
      try simp (maxSteps := 999999) (disch := omega) only [go_sem, Nat.reduceBEq, Nat.reduceAdd]
      refine caN (by exact Zero_spec hn) ?_; rintro v1 h1 s1 rfl
      try simp (maxSteps := 999999) (disch := omega) only [go_sem, Nat.reduceBEq, Nat.reduceAdd]
      simp [h0]
theorem Fr.jk {h : PH} {v : Value} {x : Rat} (r : Fr h v x) : ∃ sn sd, v = .agg #[.bool (decide (x.num < 0)), sn, sd] ∧ Jk h (decide (x.num < 0)) sn sd x.num.natAbs x.den :=
  let ⟨sn, sd, h1, h2, h3⟩ := r; ⟨sn, sd, h1, h2, h3⟩
theorem Fits_spec {h0 h : PH} [Le h0 h] {v : Value} {x : Rat} (hx : Fr h0 v x) : Spec mach 139 #[v] h (fun v _ => v = .bool (decide (sz x ≤ 2048))) NP := by
  obtain ⟨sn, sd, rfl, hj⟩ := hx.jk
  exact Fits_raw hj
def sgn3 (x : Rat) : Int := if x < 0 then -1 else if 0 < x then 1 else 0
theorem num_neg {x : Rat} : x.num < 0 ↔ x < 0 := by rw [Rat.lt_iff]; simp
theorem num_pos {x : Rat} : 0 < x.num ↔ 0 < x := by rw [Rat.lt_iff]; simp
theorem Sign_spec {h0 h : PH} [Le h0 h] {v : Value} {x : Rat} (hx : Fr h0 v x) : Spec mach 140 #[v] h (fun v _ => v = .int .i64 (sgn3 x)) NP := by
  obtain ⟨sn, sd, rfl, hj⟩ := hx.jk
  refine (Sign_raw hj).mono (fun v h' hs hv => ?_) (fun _ _ _ h => h)
  subst hv
  refine iv ?_
  simp only [sgn3, ← num_neg, ← num_pos]
  by_cases h1 : x.num < 0
  · rw [if_neg (by omega), if_pos h1]; simp [h1]
  · by_cases h2 : x.num = 0
    · simp [h2]
    · have h3 : ¬ x.num.natAbs = 0 := by omega
      have h4 : 0 < x.num := by omega
      rw [if_neg h3, decide_eq_false h1, if_neg h1, if_pos h4]; simp
theorem Inverse_spec {h0 h : PH} [Le h0 h] {v : Value} {x : Rat} (hx : Fr h0 v x) (h0' : x ≠ 0) : Spec mach 142 #[v] h (fun v h' => Fr h' v x⁻¹) NP := by
  obtain ⟨na, nl, nc, da, dl, dc, rfl, hn, hd⟩ := hx.sl
  have hn0 : x.num ≠ 0 := fun e => h0' (Rat.num_eq_zero.1 e)
  refine Spec.go [] Tryz.func142 rfl rfl (by kernel_rfl) fun C _ => ?_
  try simp (maxSteps := 999999) (disch := omega) only [go_sem, Nat.reduceBEq, Nat.reduceAdd]
  refine ⟨_, _, ?_, by rw [Rat.num_inv, Int.natAbs_mul, Int.natAbs_sign_of_ne_zero hn0, Nat.one_mul, Int.natAbs_natCast]; exact hd.to, by rw [Rat.den_inv, if_neg hn0]; exact hn.to⟩
  have hp := x.den_nz
  have : decide ((x⁻¹).num < 0) = decide (x.num < 0) := by
    rw [Rat.num_inv]
    rcases Int.lt_trichotomy x.num 0 with h | h | h
    · rw [Int.sign_eq_neg_one_of_neg h, decide_eq_decide]; omega
    · exact (hn0 h).elim
    · rw [Int.sign_eq_one_of_pos h, decide_eq_decide]; omega
  rw [this]
theorem Mul_frac {h0 h : PH} [Le h0 h] {v w : Value} {x y : Rat} (hx : Fr h0 v x) (hy : Fr h0 w y) (bx : sz x ≤ 2 ^ 36) (by_ : sz y ≤ 2 ^ 36) :
    Spec mach 141 #[v, w] h (fun v h' => Fr h' v (x * y)) NP := by
  obtain ⟨na, nl, nc, da, dl, dc, rfl, hn, hd⟩ := hx.sl
  obtain ⟨na', nl', nc', da', dl', dc', rfl, hn', hd'⟩ := hy.sl
  have b1 := sz_num x; have b2 := sz_den x; have b3 := sz_num y; have b4 := sz_den y
  have b5 := bl_mul x.num.natAbs y.num.natAbs
  have b6 := bl_mul x.den y.den
  refine Spec.go [(1, .o [0, 1, 2, 3, 4, 5, 6, 7, 8, 10, 11, 12, 13, 9, 14, 15, 16])] Tryz.func141 rfl rfl (by kernel_rfl) fun C _ => ?_
  try simp (maxSteps := 999999) (disch := omega) only [go_sem, Nat.reduceBEq, Nat.reduceAdd]
  refine caN (by exact Mul_spec hn hn' (by omega) (by omega)) ?_; rintro _ h1 _ hv1; obtain ⟨v1, _, _, rfl, hv1⟩ := hv1.sl
  try simp (maxSteps := 999999) (disch := omega) only [go_sem, Nat.reduceBEq, Nat.reduceAdd]
  refine caN (by exact Mul_spec hd hd' (by omega) (by omega)) ?_; rintro _ h2 _ hv2; obtain ⟨v2, _, _, rfl, hv2⟩ := hv2.sl
  try simp (maxSteps := 999999) (disch := omega) only [go_sem, Nat.reduceBEq, Nat.reduceAdd]
  refine caN (by exact Reduce_spec (hv1.to (h' := h2)) hv2 (Nat.mul_ne_zero x.den_nz y.den_nz) (by omega) (by omega)) ?_; rintro _ h3 _ hv3; obtain ⟨_, _, _, _, _, _, _, rfl, hv3⟩ := hv3.sa
  try simp (maxSteps := 999999) (disch := omega) only [go_sem, Nat.reduceBEq, Nat.reduceAdd]
  rw [sgn_mul] at hv3
  exact hv3
def cmpQ (x y : Rat) : Int := if x < y then -1 else if y < x then 1 else 0
theorem cmp3_neg {x y : Rat} (hx : x.num < 0) (hy : y.num < 0) : IntKind.i64.wrap (0 - cmp3 (x.num.natAbs * y.den) (y.num.natAbs * x.den)) = cmpQ x y := by
  have e1 : x < y ↔ y.num.natAbs * x.den < x.num.natAbs * y.den := by
    rw [Rat.lt_iff]
    generalize x.num = a at *
    generalize y.num = b at *
    obtain ⟨m, rfl⟩ : ∃ m : Nat, a = -(m : Int) := ⟨a.natAbs, by omega⟩
    obtain ⟨n, rfl⟩ : ∃ n : Nat, b = -(n : Int) := ⟨b.natAbs, by omega⟩
    simp only [Int.neg_mul, Int.natAbs_neg, Int.natAbs_natCast]
    rw [Int.neg_lt_neg_iff]
    exact_mod_cast Iff.rfl
  have e2 : y < x ↔ x.num.natAbs * y.den < y.num.natAbs * x.den := by
    rw [Rat.lt_iff]
    generalize x.num = a at *
    generalize y.num = b at *
    obtain ⟨m, rfl⟩ : ∃ m : Nat, a = -(m : Int) := ⟨a.natAbs, by omega⟩
    obtain ⟨n, rfl⟩ : ∃ n : Nat, b = -(n : Int) := ⟨b.natAbs, by omega⟩
    simp only [Int.neg_mul, Int.natAbs_neg, Int.natAbs_natCast]
    rw [Int.neg_lt_neg_iff]
    exact_mod_cast Iff.rfl
  simp only [cmpQ, e1, e2, cmp3]
  by_cases h1 : x.num.natAbs * y.den < y.num.natAbs * x.den
  · rw [if_pos h1, if_neg (by omega), if_pos h1]; rfl
  · by_cases h2 : y.num.natAbs * x.den < x.num.natAbs * y.den
    · rw [if_neg h1, if_pos h2, if_pos h2]; rfl
    · rw [if_neg h1, if_neg h2, if_neg h2, if_neg h1]; rfl
theorem cmp3_pos {x y : Rat} (hx : ¬ x.num < 0) (hy : ¬ y.num < 0) : cmp3 (x.num.natAbs * y.den) (y.num.natAbs * x.den) = cmpQ x y := by
  have e1 : x < y ↔ x.num.natAbs * y.den < y.num.natAbs * x.den := by
    rw [Rat.lt_iff]
    generalize x.num = a at *
    generalize y.num = b at *
    obtain ⟨m, rfl⟩ : ∃ m : Nat, a = (m : Int) := ⟨a.natAbs, by omega⟩
    obtain ⟨n, rfl⟩ : ∃ n : Nat, b = (n : Int) := ⟨b.natAbs, by omega⟩
    simp only [Int.natAbs_natCast]
    exact_mod_cast Iff.rfl
  have e2 : y < x ↔ y.num.natAbs * x.den < x.num.natAbs * y.den := by
    rw [Rat.lt_iff]
    generalize x.num = a at *
    generalize y.num = b at *
    obtain ⟨m, rfl⟩ : ∃ m : Nat, a = (m : Int) := ⟨a.natAbs, by omega⟩
    obtain ⟨n, rfl⟩ : ∃ n : Nat, b = (n : Int) := ⟨b.natAbs, by omega⟩
    simp only [Int.natAbs_natCast]
    exact_mod_cast Iff.rfl
  simp only [cmpQ, e1, e2, cmp3]
theorem Cmp_frac {h0 h : PH} [Le h0 h] {v w : Value} {x y : Rat} (hx : Fr h0 v x) (hy : Fr h0 w y) (bx : sz x ≤ 2 ^ 36) (by_ : sz y ≤ 2 ^ 36) :
    Spec mach 92 #[v, w] h (fun v _ => v = .int .i64 (cmpQ x y)) NP := by
  obtain ⟨na, nl, nc, da, dl, dc, rfl, hn, hd⟩ := hx.sl
  obtain ⟨na', nl', nc', da', dl', dc', rfl, hn', hd'⟩ := hy.sl
  have b1 := sz_num x; have b2 := sz_den x; have b3 := sz_num y; have b4 := sz_den y
  have b5 := bl_mul x.num.natAbs y.den
  have b6 := bl_mul y.num.natAbs x.den
  refine Spec.go [(1, .o [0, 2, 1, 3, 4]), (2, .o [0, 2, 1, 3, 4]), (5, .o [0, 1, 2, 3, 5, 6, 7, 8, 4, 9, 10, 11])] Tryz.func92 rfl rfl (by kernel_rfl) fun C _ => ?_
  try simp (maxSteps := 999999) (disch := omega) only [go_sem, Nat.reduceBEq, Nat.reduceAdd]
  refine caN (by exact Sign_spec hx) ?_; rintro v1 h1 s1 rfl
  try simp (maxSteps := 999999) (disch := omega) only [go_sem, Nat.reduceBEq, Nat.reduceAdd]
  refine caN (by exact Sign_spec hy) ?_; rintro v2 h2 s2 rfl
  try simp (maxSteps := 999999) (disch := omega) only [go_sem, Nat.reduceBEq, Nat.reduceAdd]
  by_cases he : sgn3 x = sgn3 y
  · try simp (maxSteps := 999999) (disch := omega) only [go_sem, Nat.reduceBEq, Nat.reduceAdd]
    refine caN (by exact Mul_spec hn hd' (by omega) (by omega)) ?_; rintro _ h3 _ hv3; obtain ⟨v3, _, _, rfl, hv3⟩ := hv3.sl
    try simp (maxSteps := 999999) (disch := omega) only [go_sem, Nat.reduceBEq, Nat.reduceAdd]
    refine caN (by exact Mul_spec hn' hd (by omega) (by omega)) ?_; rintro _ h4 _ hv4; obtain ⟨v4, _, _, rfl, hv4⟩ := hv4.sl
    try simp (maxSteps := 999999) (disch := omega) only [go_sem, Nat.reduceBEq, Nat.reduceAdd]
    refine caN (by exact Cmp_spec (hv3.to (h' := h4)) hv4) ?_; rintro v5 h5 s5 rfl
    try simp (maxSteps := 999999) (disch := omega) only [go_sem, Nat.reduceBEq, Nat.reduceAdd]
    by_cases hneg : x.num < 0
    · have hneg' : y.num < 0 := by
        have h1 := num_neg.1 hneg
        rw [num_neg]
        unfold sgn3 at he
        rw [if_pos h1] at he
        split at he
        · assumption
        · split at he <;> cases he
      have hw := cmp3_neg hneg hneg'
      have e1 : decide (x.num < 0) = true := decide_eq_true hneg
      try simp (maxSteps := 999999) (disch := omega) only [go_sem, Nat.reduceBEq, Nat.reduceAdd, e1]
      rw [hw]
    · have hneg' : ¬ y.num < 0 := by
        intro h2
        rw [num_neg] at hneg h2
        unfold sgn3 at he
        rw [if_neg hneg, if_pos h2] at he
        split at he <;> cases he
      have hw := cmp3_pos hneg hneg'
      have e1 : decide (x.num < 0) = false := decide_eq_false hneg
      try simp (maxSteps := 999999) (disch := omega) only [go_sem, Nat.reduceBEq, Nat.reduceAdd, e1]
      rw [hw]
  · by_cases hl : sgn3 x < sgn3 y
    · have hr : x < y := by
        unfold sgn3 at hl; grind
      try simp (maxSteps := 999999) (disch := omega) only [go_sem, Nat.reduceBEq, Nat.reduceAdd]
      refine caN (by exact Sign_spec hx) ?_; rintro v3 h3 s3 rfl
      try simp (maxSteps := 999999) (disch := omega) only [go_sem, Nat.reduceBEq, Nat.reduceAdd]
      refine caN (by exact Sign_spec hy) ?_; rintro v4 h4 s4 rfl
      try simp (maxSteps := 999999) (disch := omega) only [go_sem, Nat.reduceBEq, Nat.reduceAdd]
      simp [cmpQ, hr]
    · have hr : y < x := by
        unfold sgn3 at hl he; grind
      have hnl : ¬ x < y := by grind
      try simp (maxSteps := 999999) (disch := omega) only [go_sem, Nat.reduceBEq, Nat.reduceAdd]
      refine caN (by exact Sign_spec hx) ?_; rintro v3 h3 s3 rfl
      try simp (maxSteps := 999999) (disch := omega) only [go_sem, Nat.reduceBEq, Nat.reduceAdd]
      refine caN (by exact Sign_spec hy) ?_; rintro v4 h4 s4 rfl
      try simp (maxSteps := 999999) (disch := omega) only [go_sem, Nat.reduceBEq, Nat.reduceAdd]
      simp [cmpQ, hr, hnl]
end Go.Q
namespace Go.Q
open Go.Proofs
set_option maxRecDepth 100000
theorem neg_ediv (a : Nat) {d : Nat} (hd : d ≠ 0) : -(a : Int) / d = -((a / d + (if a % d = 0 then 0 else 1) : Nat) : Int) := by
  have h1 := Nat.div_add_mod a d
  have h2 := Nat.mod_lt a (Nat.pos_of_ne_zero hd)
  generalize a / d = q at *
  generalize a % d = r at *
  subst h1
  have hp : (0 : Int) < d := by omega
  by_cases hr : r = 0
  · subst hr
    rw [if_pos rfl]
    have : -((d * q + 0 : Nat) : Int) = (d : Int) * -(q : Int) := by push_cast; rw [Int.mul_neg]; omega
    rw [this, Int.mul_ediv_cancel_left _ (by omega)]; simp
  · rw [if_neg hr]
    refine ((Int.ediv_emod_unique (r := (d : Int) - r) hp).2 ⟨?_, by omega, by omega⟩).1
    push_cast
    rw [Int.mul_neg, Int.mul_add]; omega
theorem grid_val (x : Rat) (p : Nat) (u : Bool) : sgn (decide (x.num < 0)) (x.num.natAbs * 2 ^ p / x.den + (if (u != decide (x.num < 0)) = true ∧ x.num.natAbs * 2 ^ p % x.den ≠ 0 then 1 else 0)) (2 ^ p) = if u then gup x p else gdown x p := by
  have hd := x.den_nz
  unfold sgn gup gdown
  rw [scaled, floor_mkRat _ hd, ceil_mkRat _ hd, ← mkRat_two, ← mkRat_two]
  generalize x.num = a at *
  generalize x.den = d at *
  have e2 : ((2 : Int) ^ p) = ((2 ^ p : Nat) : Int) := by push_cast; rfl
  by_cases hneg : a < 0
  · obtain ⟨m, rfl⟩ : ∃ m : Nat, a = -(m : Int) := ⟨a.natAbs, by omega⟩
    have e3 : -(m : Int) * 2 ^ p = -((m * 2 ^ p : Nat) : Int) := by rw [e2, Int.neg_mul]; push_cast; rfl
    have h1 := neg_ediv (m * 2 ^ p) hd
    rw [decide_eq_true hneg, e3, Int.neg_neg]
    simp only [Int.natAbs_neg, Int.natAbs_natCast, if_true]
    cases u with
    | true => simp
    | false =>
      simp only [Bool.false_eq_true, if_false]
      rw [h1]
      by_cases hr : m * 2 ^ p % d = 0 <;> simp [hr]
  · obtain ⟨m, rfl⟩ : ∃ m : Nat, a = (m : Int) := ⟨a.natAbs, by omega⟩
    have e3 : (m : Int) * 2 ^ p = ((m * 2 ^ p : Nat) : Int) := by rw [e2]; push_cast; rfl
    have h1 := neg_ediv (m * 2 ^ p) hd
    rw [decide_eq_false hneg, e3]
    simp only [Int.natAbs_natCast, Bool.false_eq_true, if_false]
    cases u with
    | true =>
      simp only [if_true]
      rw [h1, Int.neg_neg]
      by_cases hr : m * 2 ^ p % d = 0 <;> simp [hr]
    | false => simp
theorem Grid_spec {h0 h : PH} [Le h0 h] {v : Value} {x : Rat} {p : Nat} {u : Bool} (hx : Fr h0 v x) (bx : sz x ≤ 2 ^ 36) (hp : p ≤ 2 ^ 36) :
    Spec mach 144 #[v, .int .i64 p, .bool u] h (fun v h' => Fr h' v (if u then gup x p else gdown x p)) NP := by
  obtain ⟨na, nl, nc, da, dl, dc, rfl, hn, hd⟩ := hx.sl
  have b1 := sz_num x; have b2 := sz_den x
  have b3 := bl_shl x.num.natAbs p
  have b4 := bl_div_le (x.num.natAbs * 2 ^ p) x.den
  have b5 := bl_add (x.num.natAbs * 2 ^ p / x.den) 1
  have b6 := bl_pow2 p
  have b7 := bl_one
  have hgv := grid_val x p u
  obtain ⟨neg, en⟩ : ∃ b, decide (x.num < 0) = b := ⟨_, rfl⟩
  rw [en] at hgv ⊢
  refine Spec.enter (args := [_, _, _]) (n := 38) Tryz.func144 rfl (by kernel_rfl) rfl (by simp) [.cell 6 101] rfl (fun C _ => ?_)
  repeat (first | (refine wo rfl (fun k hk => ?_); simp (disch := omega) only [go_sem, Nat.reduceBEq, Nat.reduceAdd]; refine hk _ _ ?_; clear hk k) | refine wkt rfl ?_ | refine wk0 ?_ | refine rg rfl rfl (fun K hK => ?_) | refine rd [.o 0, .o 1, .o 2, .o 4, .o 5, .o 3, .o 6, .o 7, .o 8, .o 9, .o 10, .o 11] rfl (by decide +kernel) rfl (fun K hK => ?_) | refine rd [.o 0, .o 1, .o 2, .o 4, .o 3, .o 5, .o 6, .o 7] rfl (by decide +kernel) rfl (fun K hK => ?_) | ((first | refine AWP_exit ?_ | refine AWP_skip ?_); simp (disch := decide) only [qs, qb, if_true, if_false, reduceIte]) | refine AWP_sq rfl (fun K hK => ?_) | refine ct rfl ?_ | ((try simp (disch := omega) only [go_sem, Nat.reduceBEq, Nat.reduceAdd]); (first | apply hK | (clear hK; apply hK) | (clear hK; clear hK; apply hK)); clear hK; (try clear K); (try dsimp only [behind, qs, qb])))
  refine cN rfl rfl rfl rfl (by exact Shl_spec (n := p) hn (by omega)) ?_; rintro v1 h1 _ hv1; obtain ⟨v1, v1_l, v1_c, rfl, hv1⟩ := hv1.sl; (repeat (first | (refine wo rfl (fun k hk => ?_); simp (disch := omega) only [go_sem, Nat.reduceBEq, Nat.reduceAdd]; refine hk _ _ ?_; clear hk k) | refine wkt rfl ?_)); (try refine wk0 ?_)
  refine cN rfl rfl rfl rfl (by exact Div_spec hv1 (hd.to (h' := h1)) x.den_nz (by omega) (by omega)) ?_; rintro v2 h2 s2 ⟨q, r, rfl, hq, hr⟩; (repeat (first | (refine wo rfl (fun k hk => ?_); simp (disch := omega) only [go_sem, Nat.reduceBEq, Nat.reduceAdd]; refine hk _ _ ?_; clear hk k) | refine wkt rfl ?_)); (try refine wk0 ?_)
  obtain ⟨qa, ql, qc, rfl, hq⟩ := hq.sl
  obtain ⟨ra, rl, rc, rfl, hr⟩ := hr.sl
  (try (simp (disch := omega) only [go_sem, Nat.reduceBEq, Nat.reduceAdd])); refine hK _ _ ?_; clear hK; (try clear K); (try dsimp only [behind, qs])
  refine AWP_sqs (fun K hK => ?_)
  have rest : ∀ (v : Value) (q' : Nat) (S : AS) (h : PH), Le h0 h → N32 h v q' → bl q' ≤ 2 ^ 38 → sgn neg q' (2 ^ p) = (if u then gup x p else gdown x p) → S.le ⟨[(1, .v (.int .i64 p)), (3, .p 0 0), (6, .p 1 0), (7, .v v)], [[.bool neg, .slice na nl nc, .slice da dl dc], [.bool false, .slice none 0 0, .slice none 0 0]]⟩ → K S h := by
    intro v q' S h _ hv bq hs hS
    refine hK _ _ (AWP_le _ hS ?_); clear hK K
    obtain ⟨va, vl, vc, rfl, hv⟩ := hv.sl
    repeat (first | (refine wo rfl (fun k hk => ?_); simp (disch := omega) only [go_sem, Nat.reduceBEq, Nat.reduceAdd]; refine hk _ _ ?_; clear hk k) | refine wkt rfl ?_ | refine wk0 ?_ | refine rg rfl rfl (fun K hK => ?_) | refine rd [.o 0, .o 1, .o 2, .o 4, .o 5, .o 3, .o 6, .o 7, .o 8, .o 9, .o 10, .o 11] rfl (by decide +kernel) rfl (fun K hK => ?_) | refine rd [.o 0, .o 1, .o 2, .o 4, .o 3, .o 5, .o 6, .o 7] rfl (by decide +kernel) rfl (fun K hK => ?_) | ((first | refine AWP_exit ?_ | refine AWP_skip ?_); simp (disch := decide) only [qs, qb, if_true, if_false, reduceIte]) | refine AWP_sq rfl (fun K hK => ?_) | refine ct rfl ?_ | ((try simp (disch := omega) only [go_sem, Nat.reduceBEq, Nat.reduceAdd]); (first | apply hK | (clear hK; apply hK) | (clear hK; clear hK; apply hK)); clear hK; (try clear K); (try dsimp only [behind, qs, qb])))
    refine cN rfl rfl rfl rfl (by exact Small_spec (n := 1) (by decide)) ?_; rintro w1 h3 _ hw1; obtain ⟨w1, w1_l, w1_c, rfl, hw1⟩ := hw1.sl; (repeat (first | (refine wo rfl (fun k hk => ?_); simp (disch := omega) only [go_sem, Nat.reduceBEq, Nat.reduceAdd]; refine hk _ _ ?_; clear hk k) | refine wkt rfl ?_)); (try refine wk0 ?_)
    refine cN rfl rfl rfl rfl (by exact Shl_spec (n := p) hw1 (by omega)) ?_; rintro w2 h4 _ hw2; obtain ⟨w2, w2_l, w2_c, rfl, hw2⟩ := hw2.sl; (repeat (first | (refine wo rfl (fun k hk => ?_); simp (disch := omega) only [go_sem, Nat.reduceBEq, Nat.reduceAdd]; refine hk _ _ ?_; clear hk k) | refine wkt rfl ?_)); (try refine wk0 ?_)
    rw [Nat.one_mul] at hw2
    refine cN rfl rfl rfl rfl (by exact Reduce_spec (neg := neg) (hv.to (h' := h4)) hw2 (Nat.ne_of_gt (Nat.pow_pos (by decide))) (by omega) (by omega)) ?_; rintro w3 h5 _ hw3; obtain ⟨w3_0, w3_1, w3_2, w3_3, w3_4, w3_5, w3_6, rfl, hw3⟩ := hw3.sa; (repeat (first | (refine wo rfl (fun k hk => ?_); simp (disch := omega) only [go_sem, Nat.reduceBEq, Nat.reduceAdd]; refine hk _ _ ?_; clear hk k) | refine wkt rfl ?_)); (try refine wk0 ?_)
    (try (simp (disch := omega) only [go_sem, Nat.reduceBEq, Nat.reduceAdd])); refine hK _ _ ?_; clear hK; (try clear K); (try dsimp only [behind, qs])
    refine AWP_ret ?_; simp (disch := omega) only [go_sem, Nat.reduceBEq, Nat.reduceAdd]
    rw [hs] at hw3
    exact hw3
  by_cases hun : u = neg
  · rw [if_neg (by rw [hun]; simp), Nat.add_zero] at hgv
    have e1 : (u == neg) = true := by rw [hun]; simp
    (first | refine rg rfl rfl (fun K hK => ?_) | refine rd [.o 0, .o 1, .o 2, .o 4, .o 5, .o 3, .o 6, .o 7, .o 8, .o 9, .o 10, .o 11] rfl (by decide +kernel) rfl (fun K hK => ?_) | refine rd [.o 0, .o 1, .o 2, .o 4, .o 3, .o 5, .o 6, .o 7] rfl (by decide +kernel) rfl (fun K hK => ?_)); (repeat (first | (refine wo rfl (fun k hk => ?_); simp (disch := omega) only [go_sem, Nat.reduceBEq, Nat.reduceAdd, e1]; refine hk _ _ ?_; clear hk k) | refine wkt rfl ?_)); (try refine wk0 ?_)
    (try (simp (disch := omega) only [go_sem, Nat.reduceBEq, Nat.reduceAdd])); refine hK _ _ ?_; clear hK; (try clear K); (try dsimp only [behind, qs])
    refine AWP_condF rfl ?_
    refine AWP_skip ?_; simp only [qs, qb, if_true, if_false, reduceIte]
    refine rest _ _ _ _ inferInstance hq (by omega) hgv ?_
    simp (disch := omega) only [go_sem, Nat.reduceBEq, Nat.reduceAdd]
  · have hun' : (u != neg) = true := by simpa using hun
    have e1 : (u == neg) = false := by simpa using hun
    (first | refine rg rfl rfl (fun K hK => ?_) | refine rd [.o 0, .o 1, .o 2, .o 4, .o 5, .o 3, .o 6, .o 7, .o 8, .o 9, .o 10, .o 11] rfl (by decide +kernel) rfl (fun K hK => ?_) | refine rd [.o 0, .o 1, .o 2, .o 4, .o 3, .o 5, .o 6, .o 7] rfl (by decide +kernel) rfl (fun K hK => ?_)); (repeat (first | (refine wo rfl (fun k hk => ?_); simp (disch := omega) only [go_sem, Nat.reduceBEq, Nat.reduceAdd, e1]; refine hk _ _ ?_; clear hk k) | refine wkt rfl ?_)); (try refine wk0 ?_)
    refine cN rfl rfl rfl rfl (by exact Zero_spec hr) ?_; rintro v3 h3 s3 rfl; (repeat (first | (refine wo rfl (fun k hk => ?_); simp (disch := omega) only [go_sem, Nat.reduceBEq, Nat.reduceAdd]; refine hk _ _ ?_; clear hk k) | refine wkt rfl ?_)); (try refine wk0 ?_)
    by_cases hr0 : x.num.natAbs * 2 ^ p % x.den = 0
    · rw [if_neg (by simp [hr0]), Nat.add_zero] at hgv
      (try (simp (disch := omega) only [go_sem, Nat.reduceBEq, Nat.reduceAdd])); refine hK _ _ ?_; clear hK; (try clear K); (try dsimp only [behind, qs])
      refine AWP_condF rfl ?_
      refine AWP_skip ?_; simp only [qs, qb, if_true, if_false, reduceIte]
      refine rest _ _ _ _ inferInstance hq.to (by omega) hgv ?_
      simp (disch := omega) only [go_sem, Nat.reduceBEq, Nat.reduceAdd]
    · rw [if_pos ⟨hun', hr0⟩] at hgv
      (try (simp (disch := omega) only [go_sem, Nat.reduceBEq, Nat.reduceAdd])); refine hK _ _ ?_; clear hK; (try clear K); (try dsimp only [behind, qs])
      refine AWP_condT rfl ?_
      (first | refine rg rfl rfl (fun K hK => ?_) | refine rd [.o 0, .o 1, .o 2, .o 4, .o 5, .o 3, .o 6, .o 7, .o 8, .o 9, .o 10, .o 11] rfl (by decide +kernel) rfl (fun K hK => ?_) | refine rd [.o 0, .o 1, .o 2, .o 4, .o 3, .o 5, .o 6, .o 7] rfl (by decide +kernel) rfl (fun K hK => ?_)); (repeat (first | (refine wo rfl (fun k hk => ?_); simp (disch := omega) only [go_sem, Nat.reduceBEq, Nat.reduceAdd]; refine hk _ _ ?_; clear hk k) | refine wkt rfl ?_)); (try refine wk0 ?_)
      refine cN rfl rfl rfl rfl (by exact Small_spec (n := 1) (by decide)) ?_; rintro w1 h4 _ hw1; obtain ⟨w1, w1_l, w1_c, rfl, hw1⟩ := hw1.sl; (repeat (first | (refine wo rfl (fun k hk => ?_); simp (disch := omega) only [go_sem, Nat.reduceBEq, Nat.reduceAdd]; refine hk _ _ ?_; clear hk k) | refine wkt rfl ?_)); (try refine wk0 ?_)
      refine cN rfl rfl rfl rfl (by exact Add_spec (hq.to (h' := h4)) hw1 (by omega) (by omega)) ?_; rintro w2 h5 _ hw2; obtain ⟨w2, w2_l, w2_c, rfl, hw2⟩ := hw2.sl; (repeat (first | (refine wo rfl (fun k hk => ?_); simp (disch := omega) only [go_sem, Nat.reduceBEq, Nat.reduceAdd]; refine hk _ _ ?_; clear hk k) | refine wkt rfl ?_)); (try refine wk0 ?_)
      (try (simp (disch := omega) only [go_sem, Nat.reduceBEq, Nat.reduceAdd])); refine hK _ _ ?_; clear hK; (try clear K); (try dsimp only [behind, qs])
      refine rest _ _ _ _ inferInstance hw2 (by omega) hgv ?_
      simp (disch := omega) only [go_sem, Nat.reduceBEq, Nat.reduceAdd]
end Go.Q
namespace Go.Q
open Go.Proofs
set_option maxRecDepth 100000
theorem wu64_neg {m : Nat} (h0 : 0 < m) (h : m ≤ 9223372036854775808) : IntKind.u64.wrap (-(m : Int)) = ((18446744073709551616 - m : Nat) : Int) := by
  rw [IntKind.wrap_u64]; omega
theorem wu64_back {m : Nat} (h0 : 0 < m) (h : m ≤ 9223372036854775808) : IntKind.u64.wrap (0 - ((18446744073709551616 - m : Nat) : Int)) = (m : Int) := by
  rw [IntKind.wrap_u64]; omega
theorem sgn_nat (neg : Bool) (m : Nat) : sgn neg m 1 = ((if neg then -(m : Int) else m : Int) : Rat) := by
  unfold sgn
  rw [Rat.mkRat_eq_div]
  simp [Rat.div_def, inv_one]
theorem Int_spec {h : PH} {n : Int} (h1 : -9223372036854775808 ≤ n) (h2 : n ≤ 9223372036854775807) : Spec mach 202 #[.int .i64 n] h (fun v h' => Fr h' v (n : Rat)) NP := by
  by_cases hn : n < 0
  · obtain ⟨m, rfl⟩ : ∃ m : Nat, n = -(m : Int) := ⟨n.natAbs, by omega⟩
    have e1 := wu64_neg (m := m) (by omega) (by omega)
    have e2 := wu64_back (m := m) (by omega) (by omega)
    refine Spec.enter (args := [_]) (n := 16) Tryz.func202 rfl (by kernel_rfl) rfl (by simp) [.cell 2 101] rfl (fun C _ => ?_)
    repeat (first | (refine wo rfl (fun k hk => ?_); simp (disch := omega) only [go_sem, Nat.reduceBEq, Nat.reduceAdd, e1, e2]; refine hk _ _ ?_; clear hk k) | refine wkt rfl ?_ | refine wk0 ?_ | refine rg rfl rfl (fun K hK => ?_) | ((first | refine AWP_exit ?_ | refine AWP_skip ?_); simp (disch := decide) only [qs, qb, if_true, if_false, reduceIte]) | refine AWP_sq rfl (fun K hK => ?_) | refine ct rfl ?_ | ((try simp (disch := omega) only [go_sem, Nat.reduceBEq, Nat.reduceAdd]); (first | apply hK | (clear hK; apply hK) | (clear hK; clear hK; apply hK)); clear hK; (try clear K); (try dsimp only [behind, qs, qb])))
    refine cN rfl rfl rfl rfl (by exact Small_spec (n := m) (by omega)) ?_; rintro v1 h1 _ hv1; obtain ⟨v1, v1_l, v1_c, rfl, hv1⟩ := hv1.sl; (repeat (first | (refine wo rfl (fun k hk => ?_); simp (disch := omega) only [go_sem, Nat.reduceBEq, Nat.reduceAdd]; refine hk _ _ ?_; clear hk k) | refine wkt rfl ?_)); (try refine wk0 ?_)
    refine cN rfl rfl rfl rfl (by exact Small_spec (n := 1) (by decide)) ?_; rintro v2 h2 _ hv2; obtain ⟨v2, v2_l, v2_c, rfl, hv2⟩ := hv2.sl; (repeat (first | (refine wo rfl (fun k hk => ?_); simp (disch := omega) only [go_sem, Nat.reduceBEq, Nat.reduceAdd]; refine hk _ _ ?_; clear hk k) | refine wkt rfl ?_)); (try refine wk0 ?_)
    (try (simp (disch := omega) only [go_sem, Nat.reduceBEq, Nat.reduceAdd])); refine hK _ _ ?_; clear hK; (try clear K); (try dsimp only [behind, qs])
    refine AWP_ret ?_; simp (disch := omega) only [go_sem, Nat.reduceBEq, Nat.reduceAdd]
    exact Fr.of (neg := true) hv1.to hv2 (by omega) (by decide) (by simp) (by rw [sgn_nat]; simp)
  · obtain ⟨m, rfl⟩ : ∃ m : Nat, n = (m : Int) := ⟨n.natAbs, by omega⟩
    refine Spec.enter (args := [_]) (n := 16) Tryz.func202 rfl (by kernel_rfl) rfl (by simp) [.cell 2 101] rfl (fun C _ => ?_)
    repeat (first | (refine wo rfl (fun k hk => ?_); simp (disch := omega) only [go_sem, Nat.reduceBEq, Nat.reduceAdd]; refine hk _ _ ?_; clear hk k) | refine wkt rfl ?_ | refine wk0 ?_ | refine rg rfl rfl (fun K hK => ?_) | ((first | refine AWP_exit ?_ | refine AWP_skip ?_); simp (disch := decide) only [qs, qb, if_true, if_false, reduceIte]) | refine AWP_sq rfl (fun K hK => ?_) | refine ct rfl ?_ | ((try simp (disch := omega) only [go_sem, Nat.reduceBEq, Nat.reduceAdd]); (first | apply hK | (clear hK; apply hK) | (clear hK; clear hK; apply hK)); clear hK; (try clear K); (try dsimp only [behind, qs, qb])))
    refine cN rfl rfl rfl rfl (by exact Small_spec (n := m) (by omega)) ?_; rintro v1 h1 _ hv1; obtain ⟨v1, v1_l, v1_c, rfl, hv1⟩ := hv1.sl; (repeat (first | (refine wo rfl (fun k hk => ?_); simp (disch := omega) only [go_sem, Nat.reduceBEq, Nat.reduceAdd]; refine hk _ _ ?_; clear hk k) | refine wkt rfl ?_)); (try refine wk0 ?_)
    refine cN rfl rfl rfl rfl (by exact Small_spec (n := 1) (by decide)) ?_; rintro v2 h2 _ hv2; obtain ⟨v2, v2_l, v2_c, rfl, hv2⟩ := hv2.sl; (repeat (first | (refine wo rfl (fun k hk => ?_); simp (disch := omega) only [go_sem, Nat.reduceBEq, Nat.reduceAdd]; refine hk _ _ ?_; clear hk k) | refine wkt rfl ?_)); (try refine wk0 ?_)
    (try (simp (disch := omega) only [go_sem, Nat.reduceBEq, Nat.reduceAdd])); refine hK _ _ ?_; clear hK; (try clear K); (try dsimp only [behind, qs])
    refine AWP_ret ?_; simp (disch := omega) only [go_sem, Nat.reduceBEq, Nat.reduceAdd]
    by_cases h0 : m = 0
    · subst h0
      exact ⟨.slice v1 v1_l v1_c, .slice v2 v2_l v2_c, by simp, by simpa using hv1.to, by simpa using hv2⟩
    · exact Fr.of (neg := false) hv1.to hv2 h0 (by decide) (by simp) (by rw [sgn_nat]; simp)
theorem Clone_spec {h0 h : PH} [Le h0 h] {v : Value} {n : Nat} (hv : N32 h0 v n) (bn : bl n ≤ 2 ^ 40) : Spec mach 177 #[v] h (fun v h' => N32 h' v n) NP := by
  obtain ⟨a, c, xs, rfl, ha, hxs, hm⟩ := hv.out
  have hs : xs.length ≤ 2 ^ 40 := by have := len_le_bl n; rw [hxs] at this; omega
  refine Spec.enter (args := [_]) (n := 8) Tryz.func177 rfl (by kernel_rfl) rfl (by simp) [.tmp 2] rfl (fun C _ => ?_)
  cases a with
  | none =>
    have : xs.length = 0 := by
      rcases Nat.eq_zero_or_pos xs.length with h | h
      · exact h
      · obtain ⟨ad, h1, _⟩ := ha.get h; cases h1
    repeat (first | (refine wo rfl (fun k hk => ?_); simp (disch := omega) only [go_sem, Nat.reduceBEq, Nat.reduceAdd]; refine hk _ _ ?_; clear hk k) | refine wkt rfl ?_ | refine wk0 ?_ | refine rg rfl rfl (fun K hK => ?_) | ((first | refine AWP_exit ?_ | refine AWP_skip ?_); simp (disch := decide) only [qs, qb, if_true, if_false, reduceIte]) | refine AWP_sq rfl (fun K hK => ?_) | refine ct rfl ?_ | ((try simp (disch := omega) only [go_sem, Nat.reduceBEq, Nat.reduceAdd]); (first | apply hK | (clear hK; apply hK) | (clear hK; clear hK; apply hK)); clear hK; (try clear K); (try dsimp only [behind, qs, qb])))
    refine AWP_ret ?_; simp (disch := omega) only [go_sem, Nat.reduceBEq, Nat.reduceAdd]
    rw [← hm, List.eq_nil_of_length_eq_zero this]; exact N32.zero _
  | some ad =>
    repeat (first | (refine wo rfl (fun k hk => ?_); simp (disch := omega) only [go_sem, Nat.reduceBEq, Nat.reduceAdd]; refine hk _ _ ?_; clear hk k) | refine wkt rfl ?_ | refine wk0 ?_ | refine rg rfl rfl (fun K hK => ?_) | ((first | refine AWP_exit ?_ | refine AWP_skip ?_); simp (disch := decide) only [qs, qb, if_true, if_false, reduceIte]) | refine AWP_sq rfl (fun K hK => ?_) | refine ct rfl ?_ | ((try simp (disch := omega) only [go_sem, Nat.reduceBEq, Nat.reduceAdd]); (first | apply hK | (clear hK; apply hK) | (clear hK; clear hK; apply hK)); clear hK; (try clear K); (try dsimp only [behind, qs, qb])))
    refine wo rfl (fun k hk => ?_); simp (disch := omega) only [go_sem, Nat.reduceBEq, Nat.reduceAdd]
    refine ⟨uw xs, by simp [uw], fun hne j v hv => ?_, uw_all xs, fun junk => ?_⟩
    · obtain ⟨ad', h1, h2⟩ := ha.cells h hne
      cases h1
      exact h2 j v hv
    refine hk _ _ ?_; clear hk k
    (repeat (first | (refine wo rfl (fun k hk => ?_); simp (disch := omega) only [go_sem, Nat.reduceBEq, Nat.reduceAdd]; refine hk _ _ ?_; clear hk k) | refine wkt rfl ?_)); (try refine wk0 ?_)
    (try (simp (disch := omega) only [go_sem, Nat.reduceBEq, Nat.reduceAdd])); refine hK _ _ ?_; clear hK; (try clear K); (try dsimp only [behind, qs])
    refine AWP_pub 1 ?_
    simp (disch := omega) only [go_sem, Nat.reduceBEq, Nat.reduceAdd]
    intro b h1 hs1 hb
    refine AWP_ret ?_; simp (disch := omega) only [go_sem, Nat.reduceBEq, Nat.reduceAdd]
    refine ⟨_, _, by rw [hxs], ?_⟩
    rw [hxs]
    refine .of_block hb (fun i x hi => ?_) ha.lt (by omega) (by omega)
    have hil : i < xs.length := (List.getElem?_eq_some_iff.1 hi).1
    rw [List.getElem?_append_left (by simp [uw]; exact hil)]
    simp [uw, hi]
def Cn (h : PH) (v : Value) (x : Rat) : Prop := ∃ sn sd, v = .agg #[.bool (decide (x.num < 0)), sn, sd] ∧ N32 h sn x.num.natAbs ∧ N32 h sd (if x.den = 1 then 0 else x.den)
theorem Cn.to {h h' : PH} {v : Value} {x : Rat} (r : Cn h v x) [Le h h'] : Cn h' v x := let ⟨a, b, h1, h2, h3⟩ := r; ⟨a, b, h1, h2.to, h3.to⟩
theorem Cn.sa {h : PH} {v : Value} {x : Rat} (r : Cn h v x) : ∃ b na nl nc da dl dc, v = .agg #[.bool b, .slice na nl nc, .slice da dl dc] ∧ Cn h (.agg #[.bool b, .slice na nl nc, .slice da dl dc]) x := by
  obtain ⟨sn, sd, rfl, h2, h3⟩ := r
  obtain ⟨na, nl, nc, rfl, h2⟩ := h2.sl
  obtain ⟨da, dl, dc, rfl, h3⟩ := h3.sl
  exact ⟨_, _, _, _, _, _, _, rfl, _, _, rfl, h2, h3⟩
def zRat : Value := .agg #[.bool false, .slice none 0 0, .slice none 0 0]
theorem Give_ok {h0 h : PH} [Le h0 h] {v : Value} {x : Rat} (hx : Fr h0 v x) (hs : sz x ≤ 2048) : Spec mach 136 #[v] h (fun r h' => ∃ u, r = .tuple #[u, .int .i64 0] ∧ Cn h' u x) NP := by
  obtain ⟨na, nl, nc, da, dl, dc, rfl, hn, hd⟩ := hx.sl
  have b1 := sz_num x; have b2 := sz_den x
  obtain ⟨neg, en⟩ : ∃ b, decide (x.num < 0) = b := ⟨_, rfl⟩
  rw [en] at hx ⊢
  refine Spec.enter (args := [_]) (n := 24) Tryz.func136 rfl (by kernel_rfl) rfl (by simp) [.cell 2 24, .tmp 3] rfl (fun C _ => ?_)
  (repeat (first | (refine rg rfl rfl (fun K hK => ?_); (repeat (first | (refine wo rfl (fun k hk => ?_); simp (disch := omega) only [go_sem, Nat.reduceBEq, Nat.reduceAdd]; refine hk _ _ ?_; clear hk k) | refine wkt rfl ?_)); (try refine wk0 ?_); refine hK _ _ ?_; clear hK K; (try dsimp only [behind, qs, qb])) | ((first | refine AWP_exit ?_ | refine AWP_skip ?_); simp (disch := decide) only [qs, qb, if_true, if_false, reduceIte]) | refine AWP_sq rfl (fun K hK => ?_) | refine ct rfl ?_ | ((first | refine hK _ _ ?_ | (clear hK; refine hK _ _ ?_) | (clear hK; clear hK; refine hK _ _ ?_)); clear hK; (try clear K)))); (refine rg rfl rfl (fun K hK => ?_); (repeat (first | (refine wo rfl (fun k hk => ?_); simp (disch := omega) only [go_sem, Nat.reduceBEq, Nat.reduceAdd]; refine hk _ _ ?_; clear hk k) | refine wkt rfl ?_ | with_reducible refine wk0 ?_ | with_reducible refine wt_seg ?_ | with_reducible refine wt_alt ?_ wt_no | with_reducible refine wt_done ?_)))
  refine cN rfl rfl rfl rfl (by exact Fits_spec hx) ?_; rintro v1 h1 s1 rfl; (repeat (first | (refine wo rfl (fun k hk => ?_); simp (disch := omega) only [go_sem, Nat.reduceBEq, Nat.reduceAdd]; refine hk _ _ ?_; clear hk k) | refine wkt rfl ?_ | with_reducible refine wk0 ?_ | with_reducible refine wt_seg ?_ | with_reducible refine wt_alt ?_ wt_no | with_reducible refine wt_done ?_))
  ((try (simp (disch := omega) only [go_sem, Nat.reduceBEq, Nat.reduceAdd])); refine hK _ _ ?_; clear hK; (try clear K); (try dsimp only [behind, qs])); (repeat (first | (refine rg rfl rfl (fun K hK => ?_); (repeat (first | (refine wo rfl (fun k hk => ?_); simp (disch := omega) only [go_sem, Nat.reduceBEq, Nat.reduceAdd]; refine hk _ _ ?_; clear hk k) | refine wkt rfl ?_)); (try refine wk0 ?_); refine hK _ _ ?_; clear hK K; (try dsimp only [behind, qs, qb])) | ((first | refine AWP_exit ?_ | refine AWP_skip ?_); simp (disch := decide) only [qs, qb, if_true, if_false, reduceIte]) | refine AWP_sq rfl (fun K hK => ?_) | refine ct rfl ?_ | ((first | refine hK _ _ ?_ | (clear hK; refine hK _ _ ?_) | (clear hK; clear hK; refine hK _ _ ?_)); clear hK; (try clear K))))
  (first | refine AWP_t (.seg [.o 0, .o 1, .o 2, .o 3] (.alt 4 (.seg [.o 5] (.alt 6 (.alt 7 .done .no) .no)) (.alt 6 (.alt 4 (.seg [.o 5] (.alt 7 .done .no)) .no) .no))) (by decide +kernel) rfl (fun K hK => ?_) | refine AWP_tk (.seg [.o 0, .o 1, .o 2, .o 3] (.alt 4 (.seg [.o 5] (.alt 6 (.alt 7 .done .no) .no)) (.alt 6 (.alt 4 (.seg [.o 5] (.alt 7 .done .no)) .no) .no))) (by decide +kernel) rfl (fun K hK => ?_))
  have rest : ∀ (va : Option Addr) (vl vc : Nat) (h' : PH) (S : AS), Le h0 h' → N32 h' (.slice va vl vc) x.num.natAbs → S.le ⟨[(1, .p 0 0), (2, .p 1 0), (4, .p 2 0)], [[.bool neg, .slice na nl nc, .slice da dl dc], [.bool false, .slice none 0 0, .slice none 0 0], [.bool neg, .slice va vl vc, .slice none 0 0]]⟩ → K S h' := by
    intro va vl vc h' S _ hn' hS
    refine hK _ _ (AWP_le _ hS ?_); clear hK K
    refine AWP_sqs (fun K hK => ?_)
    refine rg rfl rfl (fun K hK => ?_); (repeat (first | (refine wo rfl (fun k hk => ?_); simp (disch := omega) only [go_sem, Nat.reduceBEq, Nat.reduceAdd]; refine hk _ _ ?_; clear hk k) | refine wkt rfl ?_ | with_reducible refine wk0 ?_ | with_reducible refine wt_seg ?_ | with_reducible refine wt_alt ?_ wt_no | with_reducible refine wt_done ?_))
    refine cN rfl rfl rfl rfl (by exact One_spec hd) ?_; rintro v3 h3 s3 rfl; (repeat (first | (refine wo rfl (fun k hk => ?_); simp (disch := omega) only [go_sem, Nat.reduceBEq, Nat.reduceAdd]; refine hk _ _ ?_; clear hk k) | refine wkt rfl ?_ | with_reducible refine wk0 ?_ | with_reducible refine wt_seg ?_ | with_reducible refine wt_alt ?_ wt_no | with_reducible refine wt_done ?_))
    by_cases h1 : x.den = 1
    · ((try (simp (disch := omega) only [go_sem, Nat.reduceBEq, Nat.reduceAdd])); refine hK _ _ ?_; clear hK; (try clear K); (try dsimp only [behind, qs])); (repeat (first | (refine rg rfl rfl (fun K hK => ?_); (repeat (first | (refine wo rfl (fun k hk => ?_); simp (disch := omega) only [go_sem, Nat.reduceBEq, Nat.reduceAdd]; refine hk _ _ ?_; clear hk k) | refine wkt rfl ?_)); (try refine wk0 ?_); refine hK _ _ ?_; clear hK K; (try dsimp only [behind, qs, qb])) | ((first | refine AWP_exit ?_ | refine AWP_skip ?_); simp (disch := decide) only [qs, qb, if_true, if_false, reduceIte]) | refine AWP_sq rfl (fun K hK => ?_) | refine ct rfl ?_ | ((first | refine hK _ _ ?_ | (clear hK; refine hK _ _ ?_) | (clear hK; clear hK; refine hK _ _ ?_)); clear hK; (try clear K))))
      refine AWP_ret ?_; simp (disch := omega) only [go_sem, Nat.reduceBEq, Nat.reduceAdd]
      exact ⟨_, rfl, _, _, by rw [en], hn'.to, by rw [if_pos h1]; exact N32.zero _⟩
    · ((try (simp (disch := omega) only [go_sem, Nat.reduceBEq, Nat.reduceAdd])); refine hK _ _ ?_; clear hK; (try clear K); (try dsimp only [behind, qs])); (repeat (first | (refine rg rfl rfl (fun K hK => ?_); (repeat (first | (refine wo rfl (fun k hk => ?_); simp (disch := omega) only [go_sem, Nat.reduceBEq, Nat.reduceAdd]; refine hk _ _ ?_; clear hk k) | refine wkt rfl ?_)); (try refine wk0 ?_); refine hK _ _ ?_; clear hK K; (try dsimp only [behind, qs, qb])) | ((first | refine AWP_exit ?_ | refine AWP_skip ?_); simp (disch := decide) only [qs, qb, if_true, if_false, reduceIte]) | refine AWP_sq rfl (fun K hK => ?_) | refine ct rfl ?_ | ((first | refine hK _ _ ?_ | (clear hK; refine hK _ _ ?_) | (clear hK; clear hK; refine hK _ _ ?_)); clear hK; (try clear K)))); (refine rg rfl rfl (fun K hK => ?_); (repeat (first | (refine wo rfl (fun k hk => ?_); simp (disch := omega) only [go_sem, Nat.reduceBEq, Nat.reduceAdd]; refine hk _ _ ?_; clear hk k) | refine wkt rfl ?_ | with_reducible refine wk0 ?_ | with_reducible refine wt_seg ?_ | with_reducible refine wt_alt ?_ wt_no | with_reducible refine wt_done ?_)))
      refine cN rfl rfl rfl rfl (by exact Clone_spec hd (by omega)) ?_; rintro v4 h4 _ hv4; obtain ⟨v4, v4_l, v4_c, rfl, hv4⟩ := hv4.sl; (repeat (first | (refine wo rfl (fun k hk => ?_); simp (disch := omega) only [go_sem, Nat.reduceBEq, Nat.reduceAdd]; refine hk _ _ ?_; clear hk k) | refine wkt rfl ?_ | with_reducible refine wk0 ?_ | with_reducible refine wt_seg ?_ | with_reducible refine wt_alt ?_ wt_no | with_reducible refine wt_done ?_))
      ((try (simp (disch := omega) only [go_sem, Nat.reduceBEq, Nat.reduceAdd])); refine hK _ _ ?_; clear hK; (try clear K); (try dsimp only [behind, qs])); (repeat (first | (refine rg rfl rfl (fun K hK => ?_); (repeat (first | (refine wo rfl (fun k hk => ?_); simp (disch := omega) only [go_sem, Nat.reduceBEq, Nat.reduceAdd]; refine hk _ _ ?_; clear hk k) | refine wkt rfl ?_)); (try refine wk0 ?_); refine hK _ _ ?_; clear hK K; (try dsimp only [behind, qs, qb])) | ((first | refine AWP_exit ?_ | refine AWP_skip ?_); simp (disch := decide) only [qs, qb, if_true, if_false, reduceIte]) | refine AWP_sq rfl (fun K hK => ?_) | refine ct rfl ?_ | ((first | refine hK _ _ ?_ | (clear hK; refine hK _ _ ?_) | (clear hK; clear hK; refine hK _ _ ?_)); clear hK; (try clear K))))
      refine AWP_ret ?_; simp (disch := omega) only [go_sem, Nat.reduceBEq, Nat.reduceAdd]
      exact ⟨_, rfl, _, _, by rw [en], hn'.to, by rw [if_neg h1]; exact hv4⟩
  (repeat (first | (refine wo rfl (fun k hk => ?_); simp (disch := omega) only [go_sem, Nat.reduceBEq, Nat.reduceAdd]; refine hk _ _ ?_; clear hk k) | refine wkt rfl ?_ | with_reducible refine wk0 ?_ | with_reducible refine wt_seg ?_ | with_reducible refine wt_alt ?_ wt_no | with_reducible refine wt_done ?_))
  refine wt_alt ?_ (wt_alt ?_ wt_no)
  · refine cN rfl rfl rfl rfl (by exact Clone_spec hn (by omega)) ?_; rintro v2 h2 _ hv2; obtain ⟨v2, v2_l, v2_c, rfl, hv2⟩ := hv2.sl; (repeat (first | (refine wo rfl (fun k hk => ?_); simp (disch := omega) only [go_sem, Nat.reduceBEq, Nat.reduceAdd]; refine hk _ _ ?_; clear hk k) | refine wkt rfl ?_ | with_reducible refine wk0 ?_ | with_reducible refine wt_seg ?_ | with_reducible refine wt_alt ?_ wt_no | with_reducible refine wt_done ?_))
    refine rest _ _ _ _ _ inferInstance hv2 ?_
    simp (disch := omega) only [go_sem, Nat.reduceBEq, Nat.reduceAdd]
  · (repeat (first | (refine wo rfl (fun k hk => ?_); simp (disch := omega) only [go_sem, Nat.reduceBEq, Nat.reduceAdd]; refine hk _ _ ?_; clear hk k) | refine wkt rfl ?_ | with_reducible refine wk0 ?_ | with_reducible refine wt_seg ?_ | with_reducible refine wt_alt ?_ wt_no | with_reducible refine wt_done ?_))
    refine cN rfl rfl rfl rfl (by exact Clone_spec hn (by omega)) ?_; rintro v2 h2 _ hv2; obtain ⟨v2, v2_l, v2_c, rfl, hv2⟩ := hv2.sl; (repeat (first | (refine wo rfl (fun k hk => ?_); simp (disch := omega) only [go_sem, Nat.reduceBEq, Nat.reduceAdd]; refine hk _ _ ?_; clear hk k) | refine wkt rfl ?_ | with_reducible refine wk0 ?_ | with_reducible refine wt_seg ?_ | with_reducible refine wt_alt ?_ wt_no | with_reducible refine wt_done ?_))
    refine rest _ _ _ _ _ inferInstance hv2 ?_
    simp (disch := omega) only [go_sem, Nat.reduceBEq, Nat.reduceAdd]
theorem Give_no {h0 h : PH} [Le h0 h] {v : Value} {x : Rat} (hx : Fr h0 v x) (hs : ¬ sz x ≤ 2048) : Spec mach 136 #[v] h (fun r _ => r = .tuple #[zRat, .int .i64 1]) NP := by
  obtain ⟨na, nl, nc, da, dl, dc, rfl, hn, hd⟩ := hx.sl
  obtain ⟨neg, en⟩ : ∃ b, decide (x.num < 0) = b := ⟨_, rfl⟩
  rw [en] at hx ⊢
  refine Spec.enter (args := [_]) (n := 24) Tryz.func136 rfl (by kernel_rfl) rfl (by simp) [.cell 2 24, .tmp 3] rfl (fun C _ => ?_)
  (repeat (first | (refine rg rfl rfl (fun K hK => ?_); (repeat (first | (refine wo rfl (fun k hk => ?_); simp (disch := omega) only [go_sem, Nat.reduceBEq, Nat.reduceAdd]; refine hk _ _ ?_; clear hk k) | refine wkt rfl ?_)); (try refine wk0 ?_); refine hK _ _ ?_; clear hK K; (try dsimp only [behind, qs, qb])) | ((first | refine AWP_exit ?_ | refine AWP_skip ?_); simp (disch := decide) only [qs, qb, if_true, if_false, reduceIte]) | refine AWP_sq rfl (fun K hK => ?_) | refine ct rfl ?_ | ((first | refine hK _ _ ?_ | (clear hK; refine hK _ _ ?_) | (clear hK; clear hK; refine hK _ _ ?_)); clear hK; (try clear K)))); (refine rg rfl rfl (fun K hK => ?_); (repeat (first | (refine wo rfl (fun k hk => ?_); simp (disch := omega) only [go_sem, Nat.reduceBEq, Nat.reduceAdd]; refine hk _ _ ?_; clear hk k) | refine wkt rfl ?_ | with_reducible refine wk0 ?_ | with_reducible refine wt_seg ?_ | with_reducible refine wt_alt ?_ wt_no | with_reducible refine wt_done ?_)))
  refine cN rfl rfl rfl rfl (by exact Fits_spec hx) ?_; rintro v1 h1 s1 rfl; (repeat (first | (refine wo rfl (fun k hk => ?_); simp (disch := omega) only [go_sem, Nat.reduceBEq, Nat.reduceAdd]; refine hk _ _ ?_; clear hk k) | refine wkt rfl ?_ | with_reducible refine wk0 ?_ | with_reducible refine wt_seg ?_ | with_reducible refine wt_alt ?_ wt_no | with_reducible refine wt_done ?_))
  ((try (simp (disch := omega) only [go_sem, Nat.reduceBEq, Nat.reduceAdd])); refine hK _ _ ?_; clear hK; (try clear K); (try dsimp only [behind, qs])); (repeat (first | (refine rg rfl rfl (fun K hK => ?_); (repeat (first | (refine wo rfl (fun k hk => ?_); simp (disch := omega) only [go_sem, Nat.reduceBEq, Nat.reduceAdd]; refine hk _ _ ?_; clear hk k) | refine wkt rfl ?_)); (try refine wk0 ?_); refine hK _ _ ?_; clear hK K; (try dsimp only [behind, qs, qb])) | ((first | refine AWP_exit ?_ | refine AWP_skip ?_); simp (disch := decide) only [qs, qb, if_true, if_false, reduceIte]) | refine AWP_sq rfl (fun K hK => ?_) | refine ct rfl ?_ | ((first | refine hK _ _ ?_ | (clear hK; refine hK _ _ ?_) | (clear hK; clear hK; refine hK _ _ ?_)); clear hK; (try clear K))))
  refine AWP_ret ?_; simp (disch := omega) only [go_sem, Nat.reduceBEq, Nat.reduceAdd]
  rfl
def Rw (h : PH) (v : Value) (neg : Bool) (n d : Nat) : Prop := ∃ a c xs a' c' ys, v = .agg #[.bool neg, .slice a xs.length c, .slice a' ys.length c'] ∧ Arr h a c xs ∧ Arr h a' c' ys ∧ val 4294967296 xs = n ∧ val 4294967296 ys = d ∧ xs.length ≤ 2 ^ 30 ∧ ys.length ≤ 2 ^ 30
theorem Rw.to {h h' : PH} {v : Value} {neg : Bool} {n d : Nat} (r : Rw h v neg n d) [Le h h'] : Rw h' v neg n d := let ⟨a, c, xs, a', c', ys, h1, h2, h3, h4, h5⟩ := r; ⟨a, c, xs, a', c', ys, h1, h2.to, h3.to, h4, h5⟩
theorem Rw.sa {h : PH} {v : Value} {neg : Bool} {n d : Nat} (r : Rw h v neg n d) : ∃ b na nl nc da dl dc, v = .agg #[.bool b, .slice na nl nc, .slice da dl dc] ∧ Rw h (.agg #[.bool b, .slice na nl nc, .slice da dl dc]) neg n d := by
  have r0 := r
  obtain ⟨a, c, xs, a', c', ys, rfl, _⟩ := r
  exact ⟨_, _, _, _, _, _, _, rfl, r0⟩
theorem Cn.rw {h : PH} {v : Value} {x : Rat} (r : Cn h v x) (bx : sz x ≤ 2 ^ 30) : Rw h v (decide (x.num < 0)) x.num.natAbs (if x.den = 1 then 0 else x.den) := by
  obtain ⟨sn, sd, rfl, h2, h3⟩ := r
  have b1 := sz_num x; have b2 := sz_den x
  have b3 : bl (if x.den = 1 then 0 else x.den) ≤ bl x.den := bl_mono (by split <;> omega)
  obtain ⟨a, c, xs, rfl, ha, hx, hm⟩ := h2.out
  obtain ⟨a', c', ys, rfl, ha', hy, hm'⟩ := h3.out
  have l1 := len_le_bl x.num.natAbs
  have l2 := len_le_bl (if x.den = 1 then 0 else x.den)
  rw [hx] at l1
  rw [hy] at l2
  exact ⟨_, _, _, _, _, _, rfl, ha, ha', hm, hm', by omega, by omega⟩
def dz (d : Nat) : Nat := if d = 0 then 1 else d
theorem dz_ne (d : Nat) : dz d ≠ 0 := by unfold dz; split <;> omega
def qof (neg : Bool) (n d : Nat) : Rat := sgn neg n (dz d)
theorem qof_cn (x : Rat) : qof (decide (x.num < 0)) x.num.natAbs (if x.den = 1 then 0 else x.den) = x := by
  have : dz (if x.den = 1 then 0 else x.den) = x.den := by
    have := x.den_nz
    by_cases h : x.den = 1
    · simp [dz, h]
    · simp [dz, h, this]
  unfold qof
  rw [this, sgn_self]
def lg (neg : Bool) (n d : Nat) : Prop := 8192 < bl n ∨ 8192 < bl d ∨ 2048 < sz (qof neg n d)
instance (neg : Bool) (n d : Nat) : Decidable (lg neg n d) := by unfold lg; infer_instance
theorem lg_cn {x : Rat} : lg (decide (x.num < 0)) x.num.natAbs (if x.den = 1 then 0 else x.den) ↔ 2048 < sz x := by
  unfold lg
  rw [qof_cn]
  have b1 := sz_num x; have b2 := sz_den x
  have b3 : bl (if x.den = 1 then 0 else x.den) ≤ bl x.den := bl_mono (by split <;> omega)
  omega
end Go.Q
namespace Go.Q
open Go.Proofs
set_option maxRecDepth 100000
theorem N32.len {h : PH} {a : Option Addr} {l c n : Nat} (r : N32 h (.slice a l c) n) : l ≤ 256 ↔ bl n ≤ 8192 := by
  obtain ⟨a', c', h1, _⟩ := r
  cases h1
  exact W_len_bl (k := 256)
theorem Read_ok {h0 h : PH} [Le h0 h] {v : Value} {neg : Bool} {n d : Nat} (hv : Rw h0 v neg n d) (hl : ¬ lg neg n d) :
    Spec mach 91 #[v] h (fun r h' => ∃ f, r = .tuple #[f, .bool true] ∧ Fr h' f (qof neg n d)) NP := by
  obtain ⟨a, c, xs, a', c', ys, rfl, ha, ha', hn, hd, hsx, hsy⟩ := hv
  unfold lg at hl
  refine Spec.enter (args := [_]) (n := 33) Tryz.func91 rfl (by kernel_rfl) rfl (by simp) [.cell 2 101, .tmp 3] rfl (fun C _ => ?_)
  repeat (first | (refine wo rfl (fun k hk => ?_); simp (disch := omega) only [go_sem, Nat.reduceBEq, Nat.reduceAdd]; refine hk _ _ ?_; clear hk k) | refine wkt rfl ?_ | refine wk0 ?_ | refine rg rfl rfl (fun K hK => ?_) | refine rd [.o 0, .o 1, .o 3, .o 4, .o 2, .o 5, .o 6, .o 7] rfl (by decide +kernel) rfl (fun K hK => ?_) | refine rd [.o 0, .o 1, .o 2, .o 3, .o 4] rfl (by decide +kernel) rfl (fun K hK => ?_) | ((first | refine AWP_exit ?_ | refine AWP_skip ?_); simp (disch := decide) only [qs, qb, if_true, if_false, reduceIte]) | refine AWP_sq rfl (fun K hK => ?_) | refine ct rfl ?_ | ((try simp (disch := omega) only [go_sem, Nat.reduceBEq, Nat.reduceAdd]); (first | apply hK | (clear hK; apply hK) | (clear hK; clear hK; apply hK)); clear hK; (try clear K); (try dsimp only [behind, qs, qb])))
  refine cN rfl rfl rfl rfl (by exact Of_N ha) ?_; rintro v1 h1 _ hv1; obtain ⟨v1, v1_l, v1_c, rfl, hv1⟩ := hv1.sl; (repeat (first | (refine wo rfl (fun k hk => ?_); simp (disch := omega) only [go_sem, Nat.reduceBEq, Nat.reduceAdd]; refine hk _ _ ?_; clear hk k) | refine wkt rfl ?_)); (try refine wk0 ?_)
  refine cN rfl rfl rfl rfl (by exact Of_N ha') ?_; rintro v2 h2 _ hv2; obtain ⟨v2, v2_l, v2_c, rfl, hv2⟩ := hv2.sl; (repeat (first | (refine wo rfl (fun k hk => ?_); simp (disch := omega) only [go_sem, Nat.reduceBEq, Nat.reduceAdd]; refine hk _ _ ?_; clear hk k) | refine wkt rfl ?_)); (try refine wk0 ?_)
  (try (simp (disch := omega) only [go_sem, Nat.reduceBEq, Nat.reduceAdd])); refine hK _ _ ?_; clear hK; (try clear K); (try dsimp only [behind, qs])
  rw [hn] at hv1
  rw [hd] at hv2
  have l1 := hv1.len
  have l2 := hv2.len
  have e1 : v1_l ≤ 256 := by omega
  have e2 : v2_l ≤ 256 := by omega
  repeat (first | ((first | refine rg rfl rfl (fun K hK => ?_) | refine rd [.o 0, .o 1, .o 3, .o 4, .o 2, .o 5, .o 6, .o 7] rfl (by decide +kernel) rfl (fun K hK => ?_) | refine rd [.o 0, .o 1, .o 2, .o 3, .o 4] rfl (by decide +kernel) rfl (fun K hK => ?_)); (repeat (first | (refine wo rfl (fun k hk => ?_); simp (disch := omega) only [go_sem, Nat.reduceBEq, Nat.reduceAdd]; refine hk _ _ ?_; clear hk k) | refine wkt rfl ?_)); (try refine wk0 ?_); refine hK _ _ ?_; clear hK K; (try dsimp only [behind, qs, qb])) | ((first | refine AWP_exit ?_ | refine AWP_skip ?_); simp (disch := decide) only [qs, qb, if_true, if_false, reduceIte]) | refine AWP_sq rfl (fun K hK => ?_) | refine ct rfl ?_ | ((first | refine hK _ _ ?_ | (clear hK; refine hK _ _ ?_) | (clear hK; clear hK; refine hK _ _ ?_)); clear hK; (try clear K)))
  have rest : ∀ (va : Option Addr) (vl vc : Nat) (h' : PH) (S : AS), Le h1 h' → N32 h' (.slice va vl vc) (dz d) → S.le ⟨[(1, .p 0 0), (2, .p 1 0), (4, .v (.slice v1 v1_l v1_c)), (5, .v (.slice va vl vc))], [[.bool neg, .slice a xs.length c, .slice a' ys.length c'], [.bool false, .slice none 0 0, .slice none 0 0]]⟩ → K S h' := by
    intro va vl vc h' S _ hd' hS
    refine hK _ _ (AWP_le _ hS ?_); clear hK K
    have bz : bl (dz d) ≤ 8193 := by
      unfold dz; split
      · decide
      · omega
    (first | refine rg rfl rfl (fun K hK => ?_) | refine rd [.o 0, .o 1, .o 3, .o 4, .o 2, .o 5, .o 6, .o 7] rfl (by decide +kernel) rfl (fun K hK => ?_) | refine rd [.o 0, .o 1, .o 2, .o 3, .o 4] rfl (by decide +kernel) rfl (fun K hK => ?_)); (repeat (first | (refine wo rfl (fun k hk => ?_); simp (disch := omega) only [go_sem, Nat.reduceBEq, Nat.reduceAdd]; refine hk _ _ ?_; clear hk k) | refine wkt rfl ?_)); (try refine wk0 ?_)
    refine cN rfl rfl rfl rfl (by exact Reduce_spec (neg := neg) (hv1.to (h' := h')) hd' (dz_ne d) (by omega) (by omega)) ?_; rintro v3 h3 _ hv3; obtain ⟨v3_0, v3_1, v3_2, v3_3, v3_4, v3_5, v3_6, rfl, hv3⟩ := hv3.sa; (repeat (first | (refine wo rfl (fun k hk => ?_); simp (disch := omega) only [go_sem, Nat.reduceBEq, Nat.reduceAdd]; refine hk _ _ ?_; clear hk k) | refine wkt rfl ?_)); (try refine wk0 ?_)
    (try (simp (disch := omega) only [go_sem, Nat.reduceBEq, Nat.reduceAdd])); refine hK _ _ ?_; clear hK; (try clear K); (try dsimp only [behind, qs])
    have hsz : sz (qof neg n d) ≤ 2048 := by omega
    (first | refine rg rfl rfl (fun K hK => ?_) | refine rd [.o 0, .o 1, .o 3, .o 4, .o 2, .o 5, .o 6, .o 7] rfl (by decide +kernel) rfl (fun K hK => ?_) | refine rd [.o 0, .o 1, .o 2, .o 3, .o 4] rfl (by decide +kernel) rfl (fun K hK => ?_)); (repeat (first | (refine wo rfl (fun k hk => ?_); simp (disch := omega) only [go_sem, Nat.reduceBEq, Nat.reduceAdd]; refine hk _ _ ?_; clear hk k) | refine wkt rfl ?_)); (try refine wk0 ?_)
    refine cN rfl rfl rfl rfl (by exact Fits_spec (x := qof neg n d) hv3) ?_; rintro v4 h4 s4 rfl; (repeat (first | (refine wo rfl (fun k hk => ?_); simp (disch := omega) only [go_sem, Nat.reduceBEq, Nat.reduceAdd]; refine hk _ _ ?_; clear hk k) | refine wkt rfl ?_)); (try refine wk0 ?_)
    (try (simp (disch := omega) only [go_sem, Nat.reduceBEq, Nat.reduceAdd])); refine hK _ _ ?_; clear hK; (try clear K); (try dsimp only [behind, qs])
    refine AWP_ret ?_; simp (disch := omega) only [go_sem, Nat.reduceBEq, Nat.reduceAdd]
    refine ⟨_, ?_, hv3.to⟩
    simp [hsz]
  (first | refine rg rfl rfl (fun K hK => ?_) | refine rd [.o 0, .o 1, .o 3, .o 4, .o 2, .o 5, .o 6, .o 7] rfl (by decide +kernel) rfl (fun K hK => ?_) | refine rd [.o 0, .o 1, .o 2, .o 3, .o 4] rfl (by decide +kernel) rfl (fun K hK => ?_)); (repeat (first | (refine wo rfl (fun k hk => ?_); simp (disch := omega) only [go_sem, Nat.reduceBEq, Nat.reduceAdd]; refine hk _ _ ?_; clear hk k) | refine wkt rfl ?_)); (try refine wk0 ?_)
  refine cN rfl rfl rfl rfl (by exact Zero_spec hv2) ?_; rintro v3 h3 s3 rfl; (repeat (first | (refine wo rfl (fun k hk => ?_); simp (disch := omega) only [go_sem, Nat.reduceBEq, Nat.reduceAdd]; refine hk _ _ ?_; clear hk k) | refine wkt rfl ?_)); (try refine wk0 ?_)
  by_cases hd0 : d = 0
  · (try (simp (disch := omega) only [go_sem, Nat.reduceBEq, Nat.reduceAdd])); refine hK _ _ ?_; clear hK; (try clear K); (try dsimp only [behind, qs])
    refine AWP_condT rfl ?_
    (first | refine rg rfl rfl (fun K hK => ?_) | refine rd [.o 0, .o 1, .o 3, .o 4, .o 2, .o 5, .o 6, .o 7] rfl (by decide +kernel) rfl (fun K hK => ?_) | refine rd [.o 0, .o 1, .o 2, .o 3, .o 4] rfl (by decide +kernel) rfl (fun K hK => ?_)); (repeat (first | (refine wo rfl (fun k hk => ?_); simp (disch := omega) only [go_sem, Nat.reduceBEq, Nat.reduceAdd]; refine hk _ _ ?_; clear hk k) | refine wkt rfl ?_)); (try refine wk0 ?_)
    refine cN rfl rfl rfl rfl (by exact Small_spec (n := 1) (by decide)) ?_; rintro v4 h4 _ hv4; obtain ⟨v4, v4_l, v4_c, rfl, hv4⟩ := hv4.sl; (repeat (first | (refine wo rfl (fun k hk => ?_); simp (disch := omega) only [go_sem, Nat.reduceBEq, Nat.reduceAdd]; refine hk _ _ ?_; clear hk k) | refine wkt rfl ?_)); (try refine wk0 ?_)
    (try (simp (disch := omega) only [go_sem, Nat.reduceBEq, Nat.reduceAdd])); refine hK _ _ ?_; clear hK; (try clear K); (try dsimp only [behind, qs])
    refine rest _ _ _ _ _ inferInstance (by unfold dz; rw [if_pos hd0]; exact hv4) ?_
    simp (disch := omega) only [go_sem, Nat.reduceBEq, Nat.reduceAdd]
  · (try (simp (disch := omega) only [go_sem, Nat.reduceBEq, Nat.reduceAdd])); refine hK _ _ ?_; clear hK; (try clear K); (try dsimp only [behind, qs])
    refine AWP_condF rfl ?_
    refine AWP_skip ?_; simp only [qs, qb, if_true, if_false, reduceIte]
    refine rest _ _ _ _ _ inferInstance (by unfold dz; rw [if_neg hd0]; exact hv2.to) ?_
    simp (disch := omega) only [go_sem, Nat.reduceBEq, Nat.reduceAdd]
theorem Read_no {h0 h : PH} [Le h0 h] {v : Value} {neg : Bool} {n d : Nat} (hv : Rw h0 v neg n d) (hl : lg neg n d) :
    Spec mach 91 #[v] h (fun r _ => ∃ b a l c a' l' c', r = .tuple #[.agg #[.bool b, .slice a l c, .slice a' l' c'], .bool false]) NP := by
  obtain ⟨a, c, xs, a', c', ys, rfl, ha, ha', hn, hd, hsx, hsy⟩ := hv
  unfold lg at hl
  refine Spec.enter (args := [_]) (n := 33) Tryz.func91 rfl (by kernel_rfl) rfl (by simp) [.cell 2 101, .tmp 3] rfl (fun C _ => ?_)
  repeat (first | (refine wo rfl (fun k hk => ?_); simp (disch := omega) only [go_sem, Nat.reduceBEq, Nat.reduceAdd]; refine hk _ _ ?_; clear hk k) | refine wkt rfl ?_ | refine wk0 ?_ | refine rg rfl rfl (fun K hK => ?_) | refine rd [.o 0, .o 1, .o 3, .o 4, .o 2, .o 5, .o 6, .o 7] rfl (by decide +kernel) rfl (fun K hK => ?_) | refine rd [.o 0, .o 1, .o 2, .o 3, .o 4] rfl (by decide +kernel) rfl (fun K hK => ?_) | ((first | refine AWP_exit ?_ | refine AWP_skip ?_); simp (disch := decide) only [qs, qb, if_true, if_false, reduceIte]) | refine AWP_sq rfl (fun K hK => ?_) | refine ct rfl ?_ | ((try simp (disch := omega) only [go_sem, Nat.reduceBEq, Nat.reduceAdd]); (first | apply hK | (clear hK; apply hK) | (clear hK; clear hK; apply hK)); clear hK; (try clear K); (try dsimp only [behind, qs, qb])))
  refine cN rfl rfl rfl rfl (by exact Of_N ha) ?_; rintro v1 h1 _ hv1; obtain ⟨v1, v1_l, v1_c, rfl, hv1⟩ := hv1.sl; (repeat (first | (refine wo rfl (fun k hk => ?_); simp (disch := omega) only [go_sem, Nat.reduceBEq, Nat.reduceAdd]; refine hk _ _ ?_; clear hk k) | refine wkt rfl ?_)); (try refine wk0 ?_)
  refine cN rfl rfl rfl rfl (by exact Of_N ha') ?_; rintro v2 h2 _ hv2; obtain ⟨v2, v2_l, v2_c, rfl, hv2⟩ := hv2.sl; (repeat (first | (refine wo rfl (fun k hk => ?_); simp (disch := omega) only [go_sem, Nat.reduceBEq, Nat.reduceAdd]; refine hk _ _ ?_; clear hk k) | refine wkt rfl ?_)); (try refine wk0 ?_)
  (try (simp (disch := omega) only [go_sem, Nat.reduceBEq, Nat.reduceAdd])); refine hK _ _ ?_; clear hK; (try clear K); (try dsimp only [behind, qs])
  rw [hn] at hv1
  rw [hd] at hv2
  have l1 := hv1.len
  have l2 := hv2.len
  by_cases e1 : v1_l ≤ 256
  · by_cases e2 : v2_l ≤ 256
    · repeat (first | ((first | refine rg rfl rfl (fun K hK => ?_) | refine rd [.o 0, .o 1, .o 3, .o 4, .o 2, .o 5, .o 6, .o 7] rfl (by decide +kernel) rfl (fun K hK => ?_) | refine rd [.o 0, .o 1, .o 2, .o 3, .o 4] rfl (by decide +kernel) rfl (fun K hK => ?_)); (repeat (first | (refine wo rfl (fun k hk => ?_); simp (disch := omega) only [go_sem, Nat.reduceBEq, Nat.reduceAdd]; refine hk _ _ ?_; clear hk k) | refine wkt rfl ?_)); (try refine wk0 ?_); refine hK _ _ ?_; clear hK K; (try dsimp only [behind, qs, qb])) | ((first | refine AWP_exit ?_ | refine AWP_skip ?_); simp (disch := decide) only [qs, qb, if_true, if_false, reduceIte]) | refine AWP_sq rfl (fun K hK => ?_) | refine ct rfl ?_ | ((first | refine hK _ _ ?_ | (clear hK; refine hK _ _ ?_) | (clear hK; clear hK; refine hK _ _ ?_)); clear hK; (try clear K)))
      have rest : ∀ (va : Option Addr) (vl vc : Nat) (h' : PH) (S : AS), Le h1 h' → N32 h' (.slice va vl vc) (dz d) → S.le ⟨[(1, .p 0 0), (2, .p 1 0), (4, .v (.slice v1 v1_l v1_c)), (5, .v (.slice va vl vc))], [[.bool neg, .slice a xs.length c, .slice a' ys.length c'], [.bool false, .slice none 0 0, .slice none 0 0]]⟩ → K S h' := by
        intro va vl vc h' S _ hd' hS
        refine hK _ _ (AWP_le _ hS ?_); clear hK K
        have bz : bl (dz d) ≤ 8193 := by
          unfold dz; split
          · decide
          · omega
        (first | refine rg rfl rfl (fun K hK => ?_) | refine rd [.o 0, .o 1, .o 3, .o 4, .o 2, .o 5, .o 6, .o 7] rfl (by decide +kernel) rfl (fun K hK => ?_) | refine rd [.o 0, .o 1, .o 2, .o 3, .o 4] rfl (by decide +kernel) rfl (fun K hK => ?_)); (repeat (first | (refine wo rfl (fun k hk => ?_); simp (disch := omega) only [go_sem, Nat.reduceBEq, Nat.reduceAdd]; refine hk _ _ ?_; clear hk k) | refine wkt rfl ?_)); (try refine wk0 ?_)
        refine cN rfl rfl rfl rfl (by exact Reduce_spec (neg := neg) (hv1.to (h' := h')) hd' (dz_ne d) (by omega) (by omega)) ?_; rintro v3 h3 _ hv3; obtain ⟨v3_0, v3_1, v3_2, v3_3, v3_4, v3_5, v3_6, rfl, hv3⟩ := hv3.sa; (repeat (first | (refine wo rfl (fun k hk => ?_); simp (disch := omega) only [go_sem, Nat.reduceBEq, Nat.reduceAdd]; refine hk _ _ ?_; clear hk k) | refine wkt rfl ?_)); (try refine wk0 ?_)
        (try (simp (disch := omega) only [go_sem, Nat.reduceBEq, Nat.reduceAdd])); refine hK _ _ ?_; clear hK; (try clear K); (try dsimp only [behind, qs])
        have hsz : ¬ sz (qof neg n d) ≤ 2048 := by omega
        (first | refine rg rfl rfl (fun K hK => ?_) | refine rd [.o 0, .o 1, .o 3, .o 4, .o 2, .o 5, .o 6, .o 7] rfl (by decide +kernel) rfl (fun K hK => ?_) | refine rd [.o 0, .o 1, .o 2, .o 3, .o 4] rfl (by decide +kernel) rfl (fun K hK => ?_)); (repeat (first | (refine wo rfl (fun k hk => ?_); simp (disch := omega) only [go_sem, Nat.reduceBEq, Nat.reduceAdd]; refine hk _ _ ?_; clear hk k) | refine wkt rfl ?_)); (try refine wk0 ?_)
        refine cN rfl rfl rfl rfl (by exact Fits_spec (x := qof neg n d) hv3) ?_; rintro v4 h4 s4 rfl; (repeat (first | (refine wo rfl (fun k hk => ?_); simp (disch := omega) only [go_sem, Nat.reduceBEq, Nat.reduceAdd]; refine hk _ _ ?_; clear hk k) | refine wkt rfl ?_)); (try refine wk0 ?_)
        (try (simp (disch := omega) only [go_sem, Nat.reduceBEq, Nat.reduceAdd])); refine hK _ _ ?_; clear hK; (try clear K); (try dsimp only [behind, qs])
        refine AWP_ret ?_; simp (disch := omega) only [go_sem, Nat.reduceBEq, Nat.reduceAdd]
        refine ⟨v3_0, v3_1, v3_2, v3_3, v3_4, v3_5, v3_6, ?_⟩
        simp [hsz]
      (first | refine rg rfl rfl (fun K hK => ?_) | refine rd [.o 0, .o 1, .o 3, .o 4, .o 2, .o 5, .o 6, .o 7] rfl (by decide +kernel) rfl (fun K hK => ?_) | refine rd [.o 0, .o 1, .o 2, .o 3, .o 4] rfl (by decide +kernel) rfl (fun K hK => ?_)); (repeat (first | (refine wo rfl (fun k hk => ?_); simp (disch := omega) only [go_sem, Nat.reduceBEq, Nat.reduceAdd]; refine hk _ _ ?_; clear hk k) | refine wkt rfl ?_)); (try refine wk0 ?_)
      refine cN rfl rfl rfl rfl (by exact Zero_spec hv2) ?_; rintro v3 h3 s3 rfl; (repeat (first | (refine wo rfl (fun k hk => ?_); simp (disch := omega) only [go_sem, Nat.reduceBEq, Nat.reduceAdd]; refine hk _ _ ?_; clear hk k) | refine wkt rfl ?_)); (try refine wk0 ?_)
      by_cases hd0 : d = 0
      · (try (simp (disch := omega) only [go_sem, Nat.reduceBEq, Nat.reduceAdd])); refine hK _ _ ?_; clear hK; (try clear K); (try dsimp only [behind, qs])
        refine AWP_condT rfl ?_
        (first | refine rg rfl rfl (fun K hK => ?_) | refine rd [.o 0, .o 1, .o 3, .o 4, .o 2, .o 5, .o 6, .o 7] rfl (by decide +kernel) rfl (fun K hK => ?_) | refine rd [.o 0, .o 1, .o 2, .o 3, .o 4] rfl (by decide +kernel) rfl (fun K hK => ?_)); (repeat (first | (refine wo rfl (fun k hk => ?_); simp (disch := omega) only [go_sem, Nat.reduceBEq, Nat.reduceAdd]; refine hk _ _ ?_; clear hk k) | refine wkt rfl ?_)); (try refine wk0 ?_)
        refine cN rfl rfl rfl rfl (by exact Small_spec (n := 1) (by decide)) ?_; rintro v4 h4 _ hv4; obtain ⟨v4, v4_l, v4_c, rfl, hv4⟩ := hv4.sl; (repeat (first | (refine wo rfl (fun k hk => ?_); simp (disch := omega) only [go_sem, Nat.reduceBEq, Nat.reduceAdd]; refine hk _ _ ?_; clear hk k) | refine wkt rfl ?_)); (try refine wk0 ?_)
        (try (simp (disch := omega) only [go_sem, Nat.reduceBEq, Nat.reduceAdd])); refine hK _ _ ?_; clear hK; (try clear K); (try dsimp only [behind, qs])
        refine rest _ _ _ _ _ inferInstance (by unfold dz; rw [if_pos hd0]; exact hv4) ?_
        simp (disch := omega) only [go_sem, Nat.reduceBEq, Nat.reduceAdd]
      · (try (simp (disch := omega) only [go_sem, Nat.reduceBEq, Nat.reduceAdd])); refine hK _ _ ?_; clear hK; (try clear K); (try dsimp only [behind, qs])
        refine AWP_condF rfl ?_
        refine AWP_skip ?_; simp only [qs, qb, if_true, if_false, reduceIte]
        refine rest _ _ _ _ _ inferInstance (by unfold dz; rw [if_neg hd0]; exact hv2.to) ?_
        simp (disch := omega) only [go_sem, Nat.reduceBEq, Nat.reduceAdd]
    · repeat (first | (refine wo rfl (fun k hk => ?_); simp (disch := omega) only [go_sem, Nat.reduceBEq, Nat.reduceAdd]; refine hk _ _ ?_; clear hk k) | refine wkt rfl ?_ | refine wk0 ?_ | refine rg rfl rfl (fun K hK => ?_) | refine rd [.o 0, .o 1, .o 3, .o 4, .o 2, .o 5, .o 6, .o 7] rfl (by decide +kernel) rfl (fun K hK => ?_) | refine rd [.o 0, .o 1, .o 2, .o 3, .o 4] rfl (by decide +kernel) rfl (fun K hK => ?_) | ((first | refine AWP_exit ?_ | refine AWP_skip ?_); simp (disch := decide) only [qs, qb, if_true, if_false, reduceIte]) | refine AWP_sq rfl (fun K hK => ?_) | refine ct rfl ?_ | ((try simp (disch := omega) only [go_sem, Nat.reduceBEq, Nat.reduceAdd]); (first | apply hK | (clear hK; apply hK) | (clear hK; clear hK; apply hK)); clear hK; (try clear K); (try dsimp only [behind, qs, qb])))
      refine AWP_ret ?_; simp (disch := omega) only [go_sem, Nat.reduceBEq, Nat.reduceAdd]
      exact ⟨_, _, _, _, _, _, _, rfl⟩
  · repeat (first | (refine wo rfl (fun k hk => ?_); simp (disch := omega) only [go_sem, Nat.reduceBEq, Nat.reduceAdd]; refine hk _ _ ?_; clear hk k) | refine wkt rfl ?_ | refine wk0 ?_ | refine rg rfl rfl (fun K hK => ?_) | refine rd [.o 0, .o 1, .o 3, .o 4, .o 2, .o 5, .o 6, .o 7] rfl (by decide +kernel) rfl (fun K hK => ?_) | refine rd [.o 0, .o 1, .o 2, .o 3, .o 4] rfl (by decide +kernel) rfl (fun K hK => ?_) | ((first | refine AWP_exit ?_ | refine AWP_skip ?_); simp (disch := decide) only [qs, qb, if_true, if_false, reduceIte]) | refine AWP_sq rfl (fun K hK => ?_) | refine ct rfl ?_ | ((try simp (disch := omega) only [go_sem, Nat.reduceBEq, Nat.reduceAdd]); (first | apply hK | (clear hK; apply hK) | (clear hK; clear hK; apply hK)); clear hK; (try clear K); (try dsimp only [behind, qs, qb])))
    refine AWP_ret ?_; simp (disch := omega) only [go_sem, Nat.reduceBEq, Nat.reduceAdd]
    exact ⟨_, _, _, _, _, _, _, rfl⟩
end Go.Q
namespace Go.Q
open Go.Proofs
set_option maxRecDepth 100000
theorem B16 : 2 ≤ 65536 := by decide
def N16 (h : PH) (v : Value) (n : Nat) : Prop := ∃ a c, v = .slice a (W 65536 n).length c ∧ Arr h a c (W 65536 n)
theorem N16.to {h h' : PH} {v : Value} {n : Nat} (r : N16 h v n) [Le h h'] : N16 h' v n := let ⟨a, c, h1, h2⟩ := r; ⟨a, c, h1, h2.to⟩
theorem N16.zero (h : PH) : N16 h (.slice none 0 0) 0 := ⟨none, 0, by rw [W_zero]; rfl, by rw [W_zero]; exact Arr.nil h⟩
theorem N16.out {h : PH} {v : Value} {n : Nat} (r : N16 h v n) : ∃ a c xs, v = .slice a xs.length c ∧ Arr h a c xs ∧ W 65536 n = xs ∧ val 65536 xs = n ∧ (∀ x ∈ xs, x < 65536) := let ⟨a, c, h1, h2⟩ := r
  ⟨a, c, _, h1, h2, rfl, val_W B16 n, W_lt B16 n⟩
theorem N16.sl {h : PH} {v : Value} {n : Nat} (r : N16 h v n) : ∃ a l c, v = .slice a l c ∧ N16 h (.slice a l c) n := by
  obtain ⟨a, c, h1, h2⟩ := r; exact ⟨a, _, c, h1, a, c, rfl, h2⟩
theorem len16_le_bl (n : Nat) : (W 65536 n).length ≤ bl n :=
  W_length_le (by decide) (Nat.lt_of_lt_of_le (bl_le.1 (Nat.le_refl _)) (Nat.pow_le_pow_left (by decide) _))
theorem arrW16 {h : PH} {a : Option Addr} {c : Nat} {xs : List Nat} (r : Arr h a c xs) (hlt : ∀ x ∈ xs, x < 65536) : Arr h a c (W 65536 (val 65536 xs)) := by
  obtain ⟨k, _, hk⟩ := W_prefix (B := 65536) (by decide) xs hlt
  rw [hk]; exact r.take k
theorem trim_spec {h0 h : PH} [Le h0 h] {a : Option Addr} {c : Nat} {xs : List Nat} (ha : Arr h0 a c xs) (hlt : ∀ x ∈ xs, x < 65536) :
    Spec mach 96 #[.slice a xs.length c] h (fun v _ => v = .slice a (W 65536 (val 65536 xs)).length c) NP := by
  have hs := ha.small
  have hc := ha.cap
  refine Spec.enter (args := [_]) (n := 21) Tryz.func96 rfl (by kernel_rfl) rfl (by simp) [.tmp 2] rfl (fun C _ => ?_)
  repeat (first | (refine wo rfl (fun k hk => ?_); simp (disch := omega) only [go_sem, Nat.reduceBEq, Nat.reduceAdd]; refine hk _ _ ?_; clear hk k) | refine wkt rfl ?_ | refine wk0 ?_ | refine rg rfl rfl (fun K hK => ?_) | ((first | refine AWP_exit ?_ | refine AWP_skip ?_); simp (disch := decide) only [qs, qb, if_true, if_false, reduceIte]) | refine AWP_sq rfl (fun K hK => ?_) | refine ct rfl ?_ | ((try simp (disch := omega) only [go_sem, Nat.reduceBEq, Nat.reduceAdd]); (first | apply hK | (clear hK; apply hK) | (clear hK; clear hK; apply hK)); clear hK; (try clear K); (try dsimp only [behind, qs, qb])))
  refine AWP_loop (fun k : Nat => ⟨[(0, .v (.slice a xs.length c)), (3, .v (.int .i64 k))], []⟩) (fun k h' => Le h0 h' ∧ k ≤ xs.length ∧ val 65536 (xs.take k) = val 65536 xs) id xs.length ?_ ⟨inferInstance, Nat.le_refl _, by simp⟩ ?_
  · simp (disch := omega) only [go_sem, Nat.reduceBEq, Nat.reduceAdd]
  · rintro k h1 ⟨hle, hk, hv⟩
    by_cases hk0 : k = 0
    · subst hk0
      repeat (first | (refine wo rfl (fun k hk => ?_); simp (disch := omega) only [go_sem, Nat.reduceBEq, Nat.reduceAdd]; refine hk _ _ ?_; clear hk k) | refine wkt rfl ?_ | refine wk0 ?_ | refine rg rfl rfl (fun K hK => ?_) | ((first | refine AWP_exit ?_ | refine AWP_skip ?_); simp (disch := decide) only [qs, qb, if_true, if_false, reduceIte]) | refine AWP_sq rfl (fun K hK => ?_) | refine ct rfl ?_ | ((try simp (disch := omega) only [go_sem, Nat.reduceBEq, Nat.reduceAdd]); (first | apply hK | (clear hK; apply hK) | (clear hK; clear hK; apply hK)); clear hK; (try clear K); (try dsimp only [behind, qs, qb])))
      refine AWP_ret ?_; simp (disch := omega) only [go_sem, Nat.reduceBEq, Nat.reduceAdd]
      rw [W_take (by decide) 0 xs (by omega) hlt hv (.inl rfl)]
      simp
    · obtain ⟨ad, rfl, hat⟩ := ha.get (i := k - 1) (by omega)
      have hat1 := hle.sub.at hat
      by_cases hz : xs.getD (k - 1) 0 = 0
      · repeat (first | (refine rg rfl rfl (fun K hK => ?_); (repeat (first | (refine wo rfl (fun k hk => ?_); simp (disch := omega) only [go_sem, Nat.reduceBEq, Nat.reduceAdd, hat1]; refine hk _ _ ?_; clear hk k) | refine wkt rfl ?_)); (try refine wk0 ?_); refine hK _ _ ?_; clear hK K; (try dsimp only [behind, qs, qb])) | ((first | refine AWP_exit ?_ | refine AWP_skip ?_); simp (disch := decide) only [qs, qb, if_true, if_false, reduceIte]) | refine AWP_sq rfl (fun K hK => ?_) | refine ct rfl ?_ | ((first | refine hK _ _ ?_ | (clear hK; refine hK _ _ ?_) | (clear hK; clear hK; refine hK _ _ ?_)); clear hK; (try clear K)))
        exact ⟨k - 1, ⟨⟨rfl, rfl, trivial⟩, trivial, rfl⟩, ⟨hle, by omega, by rw [val_take_succ (by omega) hz, show k - 1 + 1 = k by omega]; exact hv⟩, by simp only [id_eq]; omega⟩
      · repeat (first | (refine wo rfl (fun k hk => ?_); simp (disch := omega) only [go_sem, Nat.reduceBEq, Nat.reduceAdd, hat1]; refine hk _ _ ?_; clear hk k) | refine wkt rfl ?_ | refine wk0 ?_ | refine rg rfl rfl (fun K hK => ?_) | ((first | refine AWP_exit ?_ | refine AWP_skip ?_); simp (disch := decide) only [qs, qb, if_true, if_false, reduceIte]) | refine AWP_sq rfl (fun K hK => ?_) | refine ct rfl ?_ | ((try simp (disch := omega) only [go_sem, Nat.reduceBEq, Nat.reduceAdd]); (first | apply hK | (clear hK; apply hK) | (clear hK; clear hK; apply hK)); clear hK; (try clear K); (try dsimp only [behind, qs, qb])))
        refine AWP_ret ?_; simp (disch := omega) only [go_sem, Nat.reduceBEq, Nat.reduceAdd]
        rw [W_take (by decide) k xs (by omega) hlt hv (.inr hz)]
        simp; omega
theorem trim_N {h0 h : PH} [Le h0 h] {a : Option Addr} {c L : Nat} {xs : List Nat} (ha : Arr h0 a c xs) (hlt : ∀ x ∈ xs, x < 65536) (hl : xs.length = L) :
    Spec mach 96 #[.slice a L c] h (fun v h' => N16 h' v (val 65536 xs)) NP := by
  subst hl
  exact (trim_spec ha hlt).mono (fun v h' hs hv => ⟨a, c, hv, (arrW16 ha hlt).to (l := ⟨(Le.sub (a := h0) (b := h)).trans hs⟩)⟩) (fun _ _ _ h => h)
theorem NatCmp_spec {h0 h : PH} [Le h0 h] {v w : Value} {m n : Nat} (hv : N16 h0 v m) (hw : N16 h0 w n) : Spec mach 146 #[v, w] h (fun v _ => v = .int .i64 (cmp3 m n)) NP := by
  obtain ⟨a, c, xs, rfl, ha, hxs, hm, hx16⟩ := hv.out
  obtain ⟨a', c', ys, rfl, ha', hys, hn, hy16⟩ := hw.out
  have hs := ha.small
  have hc := ha.cap
  have hs' := ha'.small
  have hc' := ha'.cap
  refine Spec.enter (args := [_, _]) (n := 41) Tryz.func146 rfl (by kernel_rfl) rfl (by simp) [.tmp 4] rfl (fun C _ => ?_)
  by_cases hl : xs.length = ys.length
  · repeat (first | (refine wo rfl (fun k hk => ?_); simp (disch := omega) only [go_sem, Nat.reduceBEq, Nat.reduceAdd]; refine hk _ _ ?_; clear hk k) | refine wkt rfl ?_ | refine wk0 ?_ | refine rg rfl rfl (fun K hK => ?_) | refine rd [.o 0, .o 1, .o 2, .o 3, .o 4, .o 5, .o 6, .o 7, .o 8] rfl (by decide +kernel) rfl (fun K hK => ?_) | ((first | refine AWP_exit ?_ | refine AWP_skip ?_); simp (disch := decide) only [qs, qb, if_true, if_false, reduceIte]) | refine AWP_sq rfl (fun K hK => ?_) | refine ct rfl ?_ | ((try simp (disch := omega) only [go_sem, Nat.reduceBEq, Nat.reduceAdd]); (first | apply hK | (clear hK; apply hK) | (clear hK; clear hK; apply hK)); clear hK; (try clear K); (try dsimp only [behind, qs, qb])))
    refine AWP_loop (fun k : Nat => ⟨[(0, .v (.slice a xs.length c)), (1, .v (.slice a' ys.length c')), (5, .v (.int .i64 ((k : Int) - 1)))], []⟩) (fun k h' => Le h0 h' ∧ k ≤ xs.length ∧ xs.drop k = ys.drop k) id xs.length ?_ ⟨inferInstance, Nat.le_refl _, by simp [hl]⟩ ?_
    · simp (disch := omega) only [go_sem, Nat.reduceBEq, Nat.reduceAdd]
    · rintro k h1 ⟨hle, hk, hd⟩
      by_cases hk0 : k = 0
      · subst hk0
        repeat (first | (refine wo rfl (fun k hk => ?_); simp (disch := omega) only [go_sem, Nat.reduceBEq, Nat.reduceAdd]; refine hk _ _ ?_; clear hk k) | refine wkt rfl ?_ | refine wk0 ?_ | refine rg rfl rfl (fun K hK => ?_) | refine rd [.o 0, .o 1, .o 2, .o 3, .o 4, .o 5, .o 6, .o 7, .o 8] rfl (by decide +kernel) rfl (fun K hK => ?_) | ((first | refine AWP_exit ?_ | refine AWP_skip ?_); simp (disch := decide) only [qs, qb, if_true, if_false, reduceIte]) | refine AWP_sq rfl (fun K hK => ?_) | refine ct rfl ?_ | ((try simp (disch := omega) only [go_sem, Nat.reduceBEq, Nat.reduceAdd]); (first | apply hK | (clear hK; apply hK) | (clear hK; clear hK; apply hK)); clear hK; (try clear K); (try dsimp only [behind, qs, qb])))
        refine AWP_ret ?_; simp (disch := omega) only [go_sem, Nat.reduceBEq, Nat.reduceAdd]
        have : m = n := by rw [← hm, ← hn, show xs = ys by simpa using hd]
        simp [cmp3, this]
      · obtain ⟨k, rfl⟩ : ∃ j, k = j + 1 := ⟨k - 1, by omega⟩
        obtain ⟨ad, rfl, hat⟩ := ha.rd h1 (i := k) (by omega)
        obtain ⟨ad', rfl, hat'⟩ := ha'.rd h1 (i := k) (by omega)
        by_cases hx : xs.getD k 0 < ys.getD k 0
        · repeat (first | (refine wo rfl (fun k hk => ?_); simp (disch := omega) only [go_sem, Nat.reduceBEq, Nat.reduceAdd, hat, hat']; refine hk _ _ ?_; clear hk k) | refine wkt rfl ?_ | refine wk0 ?_ | refine rg rfl rfl (fun K hK => ?_) | refine rd [.o 0, .o 1, .o 2, .o 3, .o 4, .o 5, .o 6, .o 7, .o 8] rfl (by decide +kernel) rfl (fun K hK => ?_) | ((first | refine AWP_exit ?_ | refine AWP_skip ?_); simp (disch := decide) only [qs, qb, if_true, if_false, reduceIte]) | refine AWP_sq rfl (fun K hK => ?_) | refine ct rfl ?_ | ((try simp (disch := omega) only [go_sem, Nat.reduceBEq, Nat.reduceAdd]); (first | apply hK | (clear hK; apply hK) | (clear hK; clear hK; apply hK)); clear hK; (try clear K); (try dsimp only [behind, qs, qb])))
          refine AWP_ret ?_; simp (disch := omega) only [go_sem, Nat.reduceBEq, Nat.reduceAdd]
          have : m < n := by rw [← hm, ← hn]; exact val_lt_of B16 hx16 hl (by omega) hd hx
          simp [cmp3, this]
        · by_cases hy : ys.getD k 0 < xs.getD k 0
          · repeat (first | (refine wo rfl (fun k hk => ?_); simp (disch := omega) only [go_sem, Nat.reduceBEq, Nat.reduceAdd, hat, hat']; refine hk _ _ ?_; clear hk k) | refine wkt rfl ?_ | refine wk0 ?_ | refine rg rfl rfl (fun K hK => ?_) | refine rd [.o 0, .o 1, .o 2, .o 3, .o 4, .o 5, .o 6, .o 7, .o 8] rfl (by decide +kernel) rfl (fun K hK => ?_) | ((first | refine AWP_exit ?_ | refine AWP_skip ?_); simp (disch := decide) only [qs, qb, if_true, if_false, reduceIte]) | refine AWP_sq rfl (fun K hK => ?_) | refine ct rfl ?_ | ((try simp (disch := omega) only [go_sem, Nat.reduceBEq, Nat.reduceAdd]); (first | apply hK | (clear hK; apply hK) | (clear hK; clear hK; apply hK)); clear hK; (try clear K); (try dsimp only [behind, qs, qb])))
            refine AWP_ret ?_; simp (disch := omega) only [go_sem, Nat.reduceBEq, Nat.reduceAdd]
            have : n < m := by rw [← hm, ← hn]; exact val_lt_of B16 hy16 hl.symm (by omega) hd.symm hy
            simp [cmp3, this, Nat.not_lt.2 (Nat.le_of_lt this)]
          · repeat (first | (refine wo rfl (fun k hk => ?_); simp (disch := omega) only [go_sem, Nat.reduceBEq, Nat.reduceAdd, hat, hat']; refine hk _ _ ?_; clear hk k) | refine wkt rfl ?_ | refine wk0 ?_ | refine rg rfl rfl (fun K hK => ?_) | refine rd [.o 0, .o 1, .o 2, .o 3, .o 4, .o 5, .o 6, .o 7, .o 8] rfl (by decide +kernel) rfl (fun K hK => ?_) | ((first | refine AWP_exit ?_ | refine AWP_skip ?_); simp (disch := decide) only [qs, qb, if_true, if_false, reduceIte]) | refine AWP_sq rfl (fun K hK => ?_) | refine ct rfl ?_ | ((try simp (disch := omega) only [go_sem, Nat.reduceBEq, Nat.reduceAdd]); (first | apply hK | (clear hK; apply hK) | (clear hK; clear hK; apply hK)); clear hK; (try clear K); (try dsimp only [behind, qs, qb])))
            refine ⟨k, ?_, ⟨hle, by omega, ?_⟩, by simp⟩
            · simp (disch := omega) only [go_sem, Nat.reduceBEq, Nat.reduceAdd]
            · rw [List.drop_eq_getElem_cons (by omega), List.drop_eq_getElem_cons (i := k) (by omega : k < ys.length), hd]
              congr 1
              have h1 : k < xs.length := by omega
              have h2 : k < ys.length := by omega
              simp only [List.getD_eq_getElem?_getD, List.getElem?_eq_getElem h1, List.getElem?_eq_getElem h2, Option.getD_some] at hx hy
              omega
  · by_cases hl' : xs.length < ys.length
    · repeat (first | (refine wo rfl (fun k hk => ?_); simp (disch := omega) only [go_sem, Nat.reduceBEq, Nat.reduceAdd]; refine hk _ _ ?_; clear hk k) | refine wkt rfl ?_ | refine wk0 ?_ | refine rg rfl rfl (fun K hK => ?_) | refine rd [.o 0, .o 1, .o 2, .o 3, .o 4, .o 5, .o 6, .o 7, .o 8] rfl (by decide +kernel) rfl (fun K hK => ?_) | ((first | refine AWP_exit ?_ | refine AWP_skip ?_); simp (disch := decide) only [qs, qb, if_true, if_false, reduceIte]) | refine AWP_sq rfl (fun K hK => ?_) | refine ct rfl ?_ | ((try simp (disch := omega) only [go_sem, Nat.reduceBEq, Nat.reduceAdd]); (first | apply hK | (clear hK; apply hK) | (clear hK; clear hK; apply hK)); clear hK; (try clear K); (try dsimp only [behind, qs, qb])))
      refine AWP_ret ?_; simp (disch := omega) only [go_sem, Nat.reduceBEq, Nat.reduceAdd]
      have : m < n := W_len_lt B16 (by rw [hxs, hys]; exact hl')
      simp [cmp3, this]
    · repeat (first | (refine wo rfl (fun k hk => ?_); simp (disch := omega) only [go_sem, Nat.reduceBEq, Nat.reduceAdd]; refine hk _ _ ?_; clear hk k) | refine wkt rfl ?_ | refine wk0 ?_ | refine rg rfl rfl (fun K hK => ?_) | refine rd [.o 0, .o 1, .o 2, .o 3, .o 4, .o 5, .o 6, .o 7, .o 8] rfl (by decide +kernel) rfl (fun K hK => ?_) | ((first | refine AWP_exit ?_ | refine AWP_skip ?_); simp (disch := decide) only [qs, qb, if_true, if_false, reduceIte]) | refine AWP_sq rfl (fun K hK => ?_) | refine ct rfl ?_ | ((try simp (disch := omega) only [go_sem, Nat.reduceBEq, Nat.reduceAdd]); (first | apply hK | (clear hK; apply hK) | (clear hK; clear hK; apply hK)); clear hK; (try clear K); (try dsimp only [behind, qs, qb])))
      refine AWP_ret ?_; simp (disch := omega) only [go_sem, Nat.reduceBEq, Nat.reduceAdd]
      have : n < m := W_len_lt B16 (by rw [hxs, hys]; omega)
      simp [cmp3, this, Nat.not_lt.2 (Nat.le_of_lt this)]
end Go.Q
