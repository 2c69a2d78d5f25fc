/-
  Contracts of package elem: whole parts of quotients; numbers of a remainder modulo 4 in a range; Turns. Conditions: the sizes are those that the program uses.
  What Turns returns. Conditions: the ends are numbers as they come in.
  Quarter turns in a range: a wide range has them; a wider one has what a narrower one has. Plain. Conditions: none.
  The statements' helper right; the reference's domains and exact values. Conditions: the values are numbers (Cn, Qr).
  Contracts of package elem: the argument of exp made ready; what Exp returns. Conditions: the argument is small enough, the value is not exact.
  The reference's helpers of layer 2: natural numbers, quotients rounded, numbers of a grid; its domains and exact values. Conditions: the values are natural numbers (N16) and numbers (Qr).
  The reference of layer 2: its grid, the series of the arctangent, pi. Conditions: the values are natural numbers (N16) and numbers (Qr).
  The statements' check of one bracket (sane); the statement ElemPi. Conditions: none.
  The statement ElemTurnsCover. Conditions: the ends are numbers as they come in (Rw).
-/
import Derived.Test.YtmibfkpalmmheaaDoorKabdecePkD
import Derived.Test.YtmibfkpalmmheaaDoorK78dfe3PkJ
import Derived.Test.YtmibfkpalmmheaaDoorK38077dPkK
set_option linter.unusedVariables false
set_option linter.unusedSimpArgs false
namespace Go.Q
open Go.Proofs
set_option maxRecDepth 100000
set_option maxHeartbeats 8000000
theorem sz_whole {z : Int} (hz : z.natAbs < 2 ^ 62) : sz (z : Rat) ≤ 2048 := by
  unfold sz
  have e1 : bl ((z : Rat).num.natAbs) ≤ 64 := bl_le.2 (by simp; omega)
  have e2 : bl ((z : Rat).den) ≤ 64 := bl_le.2 (by simp)
  omega
theorem orI_0 {m : Nat} (h : m < 4294967296) : orI .i64 0 (m : Int) = (m : Int) := by
  unfold orI
  rw [BitVec.toNat_or]
  rw [show IntKind.i64.bits = 64 from rfl, ofInt_toNat 64 m (by omega)]
  have : (BitVec.ofInt 64 0).toNat = 0 := by decide
  rw [this, Nat.zero_or, wi64 (by omega) (by omega)]
def qt (x y : Rat) (u : Bool) : Int := if u then (x * y⁻¹).ceil else (x * y⁻¹).floor
theorem W_1 {m : Nat} (h0 : m ≠ 0) (h : m < 4294967296) : W 4294967296 m = [m] := by
  rw [W_pos (by decide) h0, Nat.mod_eq_of_lt h, Nat.div_eq_of_lt h, W_zero]
theorem N32.one {h : PH} {a : Option Addr} {l c m : Nat} (r : N32 h (.slice a l c) m) (h0 : m ≠ 0) (hm : m < 4294967296) : ∃ ad, a = some ad ∧ l = 1 ∧ h.at (ad.add 0) = some (.int .u32 m) := by
  obtain ⟨a', c', e, r⟩ := r
  cases e
  rw [W_1 h0 hm] at r ⊢
  obtain ⟨ad, rfl, e⟩ := r.get (i := 0) (by simp)
  exact ⟨ad, rfl, rfl, e⟩
theorem EQuot_spec {h0 h : PH} [Le h0 h] {v w : Value} {x y : Rat} {u : Bool} (hx : Cn h0 v x) (hy : Cn h0 w y) (sx : sz x ≤ 1024) (sy : sz y ≤ 400) (y0 : y ≠ 0) (hb : (qt x y u).natAbs < 4294967296) :
    Spec mach 43 #[v, w, .bool u] h (fun r _ => r = .int .i64 (qt x y u)) NP := by
  have kD := fun {h} [Le h0 h] => NumDiv (h := h) (Rv.of hx (by omega)) (Rv.of hy (by omega)) y0
  have sq : sz (x * y⁻¹) ≤ 2048 := by have := sz_mul x y⁻¹; have := sz_inv y; omega
  have kF : ∀ {h1 h : PH} {q : Value} [Le h1 h], Cn h1 q (x * y⁻¹) → (u = false → Spec mach 79 #[q] h (fun r h' => ∃ b na nl nc da dl dc, r = .tuple #[.agg #[.bool b, .slice na nl nc, .slice da dl dc], .int .i64 0] ∧ Cn h' (.agg #[.bool b, .slice na nl nc, .slice da dl dc]) ((qt x y u : Int) : Rat)) NP) ∧ (u = true → Spec mach 78 #[q] h (fun r h' => ∃ b na nl nc da dl dc, r = .tuple #[.agg #[.bool b, .slice na nl nc, .slice da dl dc], .int .i64 0] ∧ Cn h' (.agg #[.bool b, .slice na nl nc, .slice da dl dc]) ((qt x y u : Int) : Rat)) NP) := by
    intro h1 h q _ hq
    refine ⟨?_, ?_⟩ <;> rintro rfl
    · exact (NumFloor (Rv.of hq sq)).mono (fun r h' _ k => Nc.ok k (sz_whole (z := qt x y false) (by omega))) (fun _ _ _ k => k)
    · exact (NumCeil (Rv.of hq sq)).mono (fun r h' _ k => Nc.ok k (sz_whole (z := qt x y true) (by omega))) (fun _ _ _ k => k)
  generalize qt x y u = z at hb kF ⊢
  have en : ((z : Rat)).num = z := Rat.num_intCast z
  obtain ⟨x1, x2, x3, x4, x5, x6, x7, rfl, _⟩ := hx.sa
  obtain ⟨y1, y2, y3, y4, y5, y6, y7, rfl, _⟩ := hy.sa
  clear hx hy sx sy
  cases u
  all_goals
    refine Spec.go [] Tryd.func43 rfl rfl (by kernel_rfl) fun C _ => ?_
    try simp (disch := omega) only [go_sem, Nat.reduceBEq, Nat.reduceAdd]
    refine caN (by exact kD) ?_; rintro v1 h1 s1 q1; obtain ⟨_, _, _, _, _, _, _, rfl, c1⟩ := q1.ok sq
    try simp (disch := omega) only [go_sem, Nat.reduceBEq, Nat.reduceAdd]
    first
      | (refine caN (by exact (kF c1).1 rfl) ?_; rintro v2 h2 s2 ⟨_, na, nl, nc, da, dl, dc, rfl, c2⟩)
      | (refine caN (by exact (kF c1).2 rfl) ?_; rintro v2 h2 s2 ⟨_, na, nl, nc, da, dl, dc, rfl, c2⟩)
    obtain ⟨_, _, _, _, _, _, e, hn, _, e1, _⟩ := c2.parts
    cases e
    rw [en] at hn ⊢
    clear kF kD c1 c2
    by_cases h0 : z = 0
    · subst h0
      obtain rfl : nl = 0 := e1.2 rfl
      rw [show decide ((0 : Int) < 0) = false from rfl]
      try simp (disch := omega) only [go_sem, Nat.reduceBEq, Nat.reduceAdd]
      refine lp [] (fun _ : Nat => ⟨[(7, .p 2 0), (9, .v (.int .i64 0)), (10, .v (.int .i64 (-1)))], [[.bool x1, .slice x2 x3 x4, .slice x5 x6 x7], [.bool y1, .slice y2 y3 y4, .slice y5 y6 y7], [.bool false, .slice na 0 nc, .slice da dl dc]]⟩) (fun _ _ => True) id 0 ?_ trivial (by kernel_rfl) ?_
      · try simp (disch := omega) only [go_sem, Nat.reduceBEq, Nat.reduceAdd]
        all_goals rfl
      · intro x' h3 _
        try simp (disch := omega) only [go_sem, Nat.reduceBEq, Nat.reduceAdd]
    · obtain ⟨m, em⟩ : ∃ m, z.natAbs = m := ⟨_, rfl⟩
      rw [em] at hn hb
      have m0 : m ≠ 0 := by omega
      obtain ⟨ad, rfl, rfl, hat⟩ := hn.one m0 hb
      have ez : z = (if decide (z < 0) = true then -(m : Int) else (m : Int)) := by
        by_cases hz : z < 0
        · rw [decide_eq_true hz, if_pos rfl]; omega
        · rw [decide_eq_false hz, if_neg (by decide)]; omega
      generalize decide (z < 0) = s at ez ⊢
      rw [ez]
      clear ez en hn e1 em h0
      try simp (disch := omega) only [go_sem, Nat.reduceBEq, Nat.reduceAdd]
      refine lp [] (fun k : Nat => ⟨[(7, .p 2 0), (9, .v (.int .i64 (if k = 1 then 0 else (m : Int)))), (10, .v (.int .i64 ((k : Int) - 1)))], [[.bool x1, .slice x2 x3 x4, .slice x5 x6 x7], [.bool y1, .slice y2 y3 y4, .slice y5 y6 y7], [.bool s, .slice (some ad) 1 nc, .slice da dl dc]]⟩) (fun k h' => Le h2 h' ∧ k ≤ 1) id 1 ?_ ⟨inferInstance, Nat.le_refl _⟩ (by kernel_rfl) ?_
      · try simp (disch := omega) only [go_sem, Nat.reduceBEq, Nat.reduceAdd]
        all_goals rfl
      · rintro k h3 ⟨le3, hk⟩
        rcases (show k = 0 ∨ k = 1 by omega) with rfl | rfl
        · have ei : (if (0 : Nat) = 1 then (0 : Int) else (m : Int)) = (m : Int) := rfl
          cases s
          all_goals (try simp (disch := omega) only [go_sem, Nat.reduceBEq, Nat.reduceAdd, ei, Int.zero_sub])
          all_goals rfl
        · have hat3 := le3.sub.at hat
          rw [if_pos rfl]
          try simp (disch := omega) only [go_sem, Nat.reduceBEq, Nat.reduceAdd]
          refine ld1_of hat3 ?_
          try simp (disch := omega) only [go_sem, Nat.reduceBEq, Nat.reduceAdd, Int.zero_mul, orI_0 hb]
          dsimp only [lpE]; refine ⟨0, ?_, ⟨le3, by decide⟩, by decide⟩
          try simp (disch := omega) only [go_sem, Nat.reduceBEq, Nat.reduceAdd]
          all_goals (first | rfl | exact ⟨rfl, rfl⟩)
theorem tm4 (x : Int) : (x.tmod 4 + 4).tmod 4 = x % 4 ∧ -4 < x.tmod 4 ∧ x.tmod 4 < 4 := by
  have e := Int.tmod_eq_emod (a := x) (b := 4)
  have h1 := Int.emod_nonneg x (b := 4) (by decide)
  have h2 := Int.emod_lt_of_pos x (b := 4) (by decide)
  have h3 : (4 : Int).natAbs = 4 := rfl
  rw [h3] at e
  have h4 : -4 < x.tmod 4 ∧ x.tmod 4 < 4 := by rw [e]; split <;> omega
  refine ⟨?_, h4⟩
  rw [Int.tmod_eq_emod_of_nonneg (by omega), e]
  split <;> omega
def mt (a b r : Int) : Bool := decide (a + (r - a) % 4 ≤ b)
theorem Meets_spec {h : PH} {a b r : Int} (ha : -8589934592 ≤ a ∧ a ≤ 8589934592) (hr : 0 ≤ r ∧ r ≤ 3) : Spec mach 44 #[.int .i64 a, .int .i64 b, .int .i64 r] h (fun v _ => v = .bool (mt a b r)) NP := by
  obtain ⟨e1, l1, l2⟩ := tm4 (r - a)
  have m1 := Int.emod_nonneg (r - a) (b := 4) (by decide)
  have m2 := Int.emod_lt_of_pos (r - a) (b := 4) (by decide)
  unfold mt
  generalize (r - a) % 4 = z at *
  generalize et : (r - a).tmod 4 = t at *
  refine Spec.go [] Tryd.func44 rfl rfl (by kernel_rfl) fun C _ => ?_
  try simp (disch := omega) only [go_sem, Nat.reduceBEq, Nat.reduceAdd, et, e1]
def fP : Rat := sgn false (piL 192) (2 ^ 193)
def gP : Rat := sgn false (piH 192) (2 ^ 193)
theorem fP_ge : 3 / 2 ≤ fP := by
  unfold fP sgn
  rw [Rat.mkRat_eq_div]
  have := (piL_ge (w := 192) (by decide) (by decide)).1
  decide +kernel
theorem gP_ge : 3 / 2 ≤ gP := by decide +kernel
theorem fP_lt : fP < gP := by decide +kernel
theorem fP_sz : sz fP ≤ 400 := by decide +kernel
theorem gP_sz : sz gP ≤ 400 := by decide +kernel
theorem num_bd {x : Rat} (h : ¬ x.den * 4294967296 < x.num.natAbs) : -4294967296 ≤ x ∧ x ≤ 4294967296 := by
  have e : x = mkRat x.num x.den := (Rat.mkRat_self x).symm
  have hd : (0 : Rat) < (x.den : Rat) := by exact_mod_cast x.den_pos
  have e2 : x * (x.den : Rat) = (x.num : Rat) := by
    have key : ∀ (d n y : Rat), d ≠ 0 → y = n / d → y * d = n := fun d n y hd hy => by rw [hy]; exact Rat.div_mul_cancel hd
    have := Rat.mkRat_eq_div x.num x.den
    rw [← e] at this
    exact key _ _ _ (Rat.ne_of_gt hd) this
  have k1 : (x.num : Rat) ≤ 4294967296 * (x.den : Rat) := by
    have h1 : x.num ≤ 4294967296 * (x.den : Int) := by omega
    have h2 := Rat.intCast_le_intCast.2 h1
    rw [Rat.intCast_mul] at h2
    exact h2
  have k2 : -(4294967296 * (x.den : Rat)) ≤ (x.num : Rat) := by
    have h1 : -(4294967296 * (x.den : Int)) ≤ x.num := by omega
    have h2 := Rat.intCast_le_intCast.2 h1
    rw [Rat.intCast_neg, Rat.intCast_mul] at h2
    exact h2
  rw [← e2] at k1 k2
  constructor
  · refine Decidable.byContradiction fun hc => ?_
    have := Rat.mul_lt_mul_of_pos_right (show x < -4294967296 by grind) hd
    grind
  · refine Decidable.byContradiction fun hc => ?_
    have := Rat.mul_lt_mul_of_pos_right (show 4294967296 < x by grind) hd
    grind
theorem quo_bd {x y : Rat} (hx : -4294967296 ≤ x ∧ x ≤ 4294967296) (hy : 3 / 2 ≤ y) : -2863311531 ≤ x * y⁻¹ ∧ x * y⁻¹ ≤ 2863311531 := by
  have y0 : y ≠ 0 := by grind
  have e : x * y⁻¹ * y = x := by rw [Rat.mul_assoc, Rat.inv_mul_cancel _ y0, Rat.mul_one]
  generalize x * y⁻¹ = q at *
  have key : ∀ p : Rat, 2863311531 < p → ¬ p * y ≤ 4294967296 := by
    intro p hp hc
    have h1 : p * (3 / 2) ≤ p * y := Rat.mul_le_mul_of_nonneg_left hy (by grind)
    have h2 : 2863311531 * (3 / 2) ≤ p * (3 / 2) := Rat.mul_le_mul_of_nonneg_right (by grind) (by decide +kernel)
    grind
  constructor
  · refine Decidable.byContradiction fun hc => key (-q) (by grind) (by rw [Rat.neg_mul, e]; grind)
  · refine Decidable.byContradiction fun hc => key q (by grind) (by rw [e]; exact hx.2)
theorem floor_bd {q : Rat} {c : Int} (h : -(c : Rat) ≤ q ∧ q ≤ (c : Rat)) : -c ≤ q.floor ∧ q.floor ≤ c := by
  constructor
  · rw [Rat.le_floor_iff]
    exact_mod_cast h.1
  · have := Rat.le_trans (Rat.floor_le q) h.2
    exact_mod_cast this
theorem qt_bd {x y : Rat} {u : Bool} (hx : ¬ x.den * 4294967296 < x.num.natAbs) (hy : 3 / 2 ≤ y) : -2863311531 ≤ qt x y u ∧ qt x y u ≤ 2863311531 := by
  have h := quo_bd (num_bd hx) hy
  unfold qt
  cases u with
  | false => exact floor_bd (c := 2863311531) h
  | true =>
    have := floor_bd (q := -(x * y⁻¹)) (c := 2863311531) (by have e : ((2863311531 : Int) : Rat) = 2863311531 := rfl; rw [e]; grind)
    rw [if_pos rfl, Rat.ceil_eq_neg_floor_neg]
    omega
end Go.Q
namespace Go.Q
open Go.Proofs
set_option maxRecDepth 100000
set_option maxHeartbeats 16000000
def wideB (x : Rat) : Prop := 1024 < sz x ∨ x.den * 4294967296 < x.num.natAbs
instance (x : Rat) : Decidable (wideB x) := inferInstanceAs (Decidable (_ ∨ _))
def turnE (x y : Rat) (r : Int) : Int := if r < 0 ∨ 3 < r then 2 else if wideB x ∨ wideB y then 20 else 0
def tv1 (x y : Rat) (r : Int) : Bool := mt (if qt x gP true > 0 then qt x gP true else 0) (qt y fP false) r
def tv2 (x y : Rat) (r : Int) : Bool := mt (qt x fP true) (if qt y gP false < -1 then qt y gP false else -1) r
def turnB (x y : Rat) (r : Int) : Bool := if turnE x y r ≠ 0 ∨ y < x then false else tv1 x y r || tv2 x y r
theorem cmpQ_gt (x y : Rat) : decide (cmpQ x y > 0) = decide (y < x) := by unfold cmpQ; grind
theorem turn_r {x y : Rat} {r : Int} (h : r < 0 ∨ 3 < r) : turnE x y r = 2 ∧ turnB x y r = false := by
  have e : turnE x y r = 2 := by unfold turnE; rw [if_pos h]
  exact ⟨e, by unfold turnB; rw [if_pos (.inl (by rw [e]; decide))]⟩
theorem turn_w {x y : Rat} {r : Int} (h : ¬ (r < 0 ∨ 3 < r)) (hw : wideB x ∨ wideB y) : turnE x y r = 20 ∧ turnB x y r = false := by
  have e : turnE x y r = 20 := by unfold turnE; rw [if_neg h, if_pos hw]
  exact ⟨e, by unfold turnB; rw [if_pos (.inl (by rw [e]; decide))]⟩
theorem turn_0 {x y : Rat} {r : Int} (h : ¬ (r < 0 ∨ 3 < r)) (hw : ¬ (wideB x ∨ wideB y)) : turnE x y r = 0 ∧ (y < x → turnB x y r = false) ∧ (¬ y < x → turnB x y r = (tv1 x y r || tv2 x y r)) := by
  have e : turnE x y r = 0 := by unfold turnE; rw [if_neg h, if_neg hw]
  refine ⟨e, fun k => ?_, fun k => ?_⟩
  · unfold turnB; rw [if_pos (.inr k)]
  · unfold turnB; rw [if_neg (by rintro (c | c); exact c e; exact k c)]
theorem FTurns_ok {h0 h : PH} [Le h0 h] {v w : Value} {x y : Rat} {r : Int} (hx : Rv h0 v x) (hy : Rv h0 w y) : Spec mach 18 #[v, w, .int .i64 r] h (fun q _ => q = .tuple #[.bool (turnB x y r), .int .i64 (turnE x y r)]) NP := by
  have kC := fun {h} [Le h0 h] => NumCanon (h := h) hx
  have kD := fun {h} [Le h0 h] => NumCanon (h := h) hy
  have bx := Hid.mk hx.sz
  have by_ := Hid.mk hy.sz
  obtain ⟨_, _, _, _, _, _, _, rfl, _⟩ := hx.sa
  obtain ⟨_, _, _, _, _, _, _, rfl, _⟩ := hy.sa
  clear hx hy
  by_cases hr : r < 0 ∨ 3 < r
  · obtain ⟨eE, eB⟩ := turn_r (x := x) (y := y) hr
    rw [eE, eB]
    rcases hr with g | g
    all_goals
      refine Spec.go [(14, .t (.s [0, 1, 2, 3, 5, 6, 7, 8] (.a 4 (.a 9 (.a 10 (.a 11 (.a 12 (.a 13 .d .n) .n) .n) (.a 11 (.a 10 (.a 12 (.a 13 .d .n) .n) .n) .n)) (.a 10 (.a 9 (.a 11 (.a 12 (.a 13 .d .n) .n) .n) (.a 11 (.a 9 (.a 12 (.a 13 .d .n) .n) .n) .n)) (.a 11 (.a 9 (.a 10 (.a 12 (.a 13 .d .n) .n) .n) (.a 10 (.a 9 (.a 12 (.a 13 .d .n) .n) .n) .n)) .n))) (.a 10 (.a 4 (.a 9 (.a 11 (.a 12 (.a 13 .d .n) .n) .n) (.a 11 (.a 9 (.a 12 (.a 13 .d .n) .n) .n) .n)) (.a 11 (.a 4 (.a 9 (.a 12 (.a 13 .d .n) .n) .n) .n) .n)) (.a 11 (.a 4 (.a 9 (.a 10 (.a 12 (.a 13 .d .n) .n) .n) (.a 10 (.a 9 (.a 12 (.a 13 .d .n) .n) .n) .n)) (.a 10 (.a 4 (.a 9 (.a 12 (.a 13 .d .n) .n) .n) .n) .n)) .n))))), (15, .o [0, 1, 4, 5, 2, 3, 6, 7, 8]), (18, .o [0, 1, 3, 4, 7, 2, 5, 6, 8, 9, 10])] Tryd.func18 rfl rfl (by kernel_rfl) fun C _ => ?_
      try simp (maxSteps := 999999) (disch := omega) only [go_sem, Nat.reduceBEq, Nat.reduceAdd]
      refine caN (by exact kC) ?_; rintro v1 h1 s1 ⟨_, _, _, _, _, _, _, rfl, c1⟩
      try simp (maxSteps := 999999) (disch := omega) only [go_sem, Nat.reduceBEq, Nat.reduceAdd]
      refine caN (by exact kD) ?_; rintro v2 h2 s2 ⟨_, _, _, _, _, _, _, rfl, c2⟩
      try simp (maxSteps := 999999) (disch := omega) only [go_sem, Nat.reduceBEq, Nat.reduceAdd]
  · have T : wideB x ∨ wideB y → turnE x y r = 20 ∧ turnB x y r = false := turn_w hr
    have Z := turn_0 (x := x) (y := y) hr
    have r1 : 0 ≤ r := by omega
    have r2 : r ≤ 3 := by omega
    clear hr
    obtain ⟨bX, hX⟩ : ∃ b, b = decide (x.den * 4294967296 < x.num.natAbs) := ⟨_, rfl⟩
    obtain ⟨bY, hY⟩ : ∃ b, b = decide (y.den * 4294967296 < y.num.natAbs) := ⟨_, rfl⟩
    have kX : ∀ {h1 h : PH} {v : Value} [Le h1 h], Cn h1 v x → Spec mach 39 #[v, .int .u64 (4294967296 : Nat)] h (fun v _ => v = .bool bX) NP := fun c => by
      rw [hX]
      exact Beyond_spec (n := 4294967296) c (Nat.le_trans bx.out (by decide)) (by decide)
    have kY : ∀ {h1 h : PH} {v : Value} [Le h1 h], Cn h1 v y → Spec mach 39 #[v, .int .u64 (4294967296 : Nat)] h (fun v _ => v = .bool bY) NP := fun c => by
      rw [hY]
      exact Beyond_spec (n := 4294967296) c (Nat.le_trans by_.out (by decide)) (by decide)
    have hX := Hid.mk hX
    have hY := Hid.mk hY
    refine Spec.go [(14, .t (.s [0, 1, 2, 3, 5, 6, 7, 8] (.a 4 (.a 9 (.a 10 (.a 11 (.a 12 (.a 13 .d .n) .n) .n) (.a 11 (.a 10 (.a 12 (.a 13 .d .n) .n) .n) .n)) (.a 10 (.a 9 (.a 11 (.a 12 (.a 13 .d .n) .n) .n) (.a 11 (.a 9 (.a 12 (.a 13 .d .n) .n) .n) .n)) (.a 11 (.a 9 (.a 10 (.a 12 (.a 13 .d .n) .n) .n) (.a 10 (.a 9 (.a 12 (.a 13 .d .n) .n) .n) .n)) .n))) (.a 10 (.a 4 (.a 9 (.a 11 (.a 12 (.a 13 .d .n) .n) .n) (.a 11 (.a 9 (.a 12 (.a 13 .d .n) .n) .n) .n)) (.a 11 (.a 4 (.a 9 (.a 12 (.a 13 .d .n) .n) .n) .n) .n)) (.a 11 (.a 4 (.a 9 (.a 10 (.a 12 (.a 13 .d .n) .n) .n) (.a 10 (.a 9 (.a 12 (.a 13 .d .n) .n) .n) .n)) (.a 10 (.a 4 (.a 9 (.a 12 (.a 13 .d .n) .n) .n) .n) .n)) .n))))), (15, .o [0, 1, 4, 5, 2, 3, 6, 7, 8]), (18, .o [0, 1, 3, 4, 7, 2, 5, 6, 8, 9, 10])] Tryd.func18 rfl rfl (by kernel_rfl) fun C _ => ?_
    try simp (maxSteps := 999999) (disch := omega) only [go_sem, Nat.reduceBEq, Nat.reduceAdd]
    refine caN (by exact kC) ?_; rintro v1 h1 s1 ⟨_, _, _, _, _, _, _, rfl, c1⟩
    try simp (maxSteps := 999999) (disch := omega) only [go_sem, Nat.reduceBEq, Nat.reduceAdd]
    refine caN (by exact kD) ?_; rintro v2 h2 s2 ⟨_, _, _, _, _, _, _, rfl, c2⟩
    try simp (maxSteps := 999999) (disch := omega) only [go_sem, Nat.reduceBEq, Nat.reduceAdd]
    refine caN (by exact TooLong_spec (c1.to (h' := h2))) ?_; rintro v3 h3 s3 rfl
    try simp (maxSteps := 999999) (disch := omega) only [go_sem, Nat.reduceBEq, Nat.reduceAdd]
    by_cases A : 1024 < sz x
    · obtain ⟨eE, eB⟩ := T (.inl (.inl A))
      rw [eE, eB]
      try simp (maxSteps := 999999) (disch := omega) only [go_sem, Nat.reduceBEq, Nat.reduceAdd]
    try simp (maxSteps := 999999) (disch := omega) only [go_sem, Nat.reduceBEq, Nat.reduceAdd]
    refine caN (by exact TooLong_spec (c2.to (h' := h3))) ?_; rintro v4 h4 s4 rfl
    try simp (maxSteps := 999999) (disch := omega) only [go_sem, Nat.reduceBEq, Nat.reduceAdd]
    by_cases B : 1024 < sz y
    · obtain ⟨eE, eB⟩ := T (.inr (.inl B))
      rw [eE, eB]
      try simp (maxSteps := 999999) (disch := omega) only [go_sem, Nat.reduceBEq, Nat.reduceAdd]
    try simp (maxSteps := 999999) (disch := omega) only [go_sem, Nat.reduceBEq, Nat.reduceAdd]
    refine caN (by exact kX (c1.to (h' := h4))) ?_; rintro v5 h5 s5 rfl
    try simp (maxSteps := 999999) (disch := omega) only [go_sem, Nat.reduceBEq, Nat.reduceAdd]
    cases bX with
    | true =>
      obtain ⟨eE, eB⟩ := T (.inl (.inr (of_decide_eq_true hX.out.symm)))
      rw [eE, eB]
      clear hX hY T Z
      try simp (maxSteps := 999999) (disch := omega) only [go_sem, Nat.reduceBEq, Nat.reduceAdd]
    | false =>
    have C' := Hid.mk (of_decide_eq_false hX.out.symm)
    clear hX
    try simp (maxSteps := 999999) (disch := omega) only [go_sem, Nat.reduceBEq, Nat.reduceAdd]
    refine caN (by exact kY (c2.to (h' := h5))) ?_; rintro v6 h6 s6 rfl
    try simp (maxSteps := 999999) (disch := omega) only [go_sem, Nat.reduceBEq, Nat.reduceAdd]
    cases bY with
    | true =>
      obtain ⟨eE, eB⟩ := T (.inr (.inr (of_decide_eq_true hY.out.symm)))
      rw [eE, eB]
      clear hY T Z
      try simp (maxSteps := 999999) (disch := omega) only [go_sem, Nat.reduceBEq, Nat.reduceAdd]
    | false =>
    have D := Hid.mk (of_decide_eq_false hY.out.symm)
    clear hY kX kY
    try simp (maxSteps := 999999) (disch := omega) only [go_sem, Nat.reduceBEq, Nat.reduceAdd]
    refine caN (by exact NumCompare (Rv.of (c1.to (h' := h6)) bx.out) (Rv.of c2.to by_.out)) ?_; rintro v7 h7 s7 rfl
    try simp (maxSteps := 999999) (disch := omega) only [go_sem, Nat.reduceBEq, Nat.reduceAdd]
    obtain ⟨eE, z1, z2⟩ := Z (by have k1 := C'.out; have k2 := D.out; unfold wideB; omega)
    clear T Z kC kD
    have e3 := cmpQ_gt x y
    rw [eE]
    by_cases hc : y < x
    · rw [z1 hc]
      rw [decide_eq_true hc] at e3
      try simp (maxSteps := 999999) (disch := omega) only [go_sem, Nat.reduceBEq, Nat.reduceAdd, e3]
    rw [z2 hc]
    rw [decide_eq_false hc] at e3
    clear z1 z2
    obtain ⟨l1, l2⟩ := qt_bd (u := true) C'.out gP_ge
    obtain ⟨l3, l4⟩ := qt_bd (u := false) D.out fP_ge
    obtain ⟨l5, l6⟩ := qt_bd (u := true) C'.out fP_ge
    obtain ⟨l7, l8⟩ := qt_bd (u := false) D.out gP_ge
    have f0 : fP ≠ 0 := by have := fP_ge; grind
    have g0 : gP ≠ 0 := by have := gP_ge; grind
    have n1 : (qt x gP true).natAbs < 4294967296 := by omega
    have n2 : (qt y fP false).natAbs < 4294967296 := by omega
    have n3 : (qt x fP true).natAbs < 4294967296 := by omega
    have n4 : (qt y gP false).natAbs < 4294967296 := by omega
    have m1 : -8589934592 ≤ (if qt x gP true > 0 then qt x gP true else 0) ∧ (if qt x gP true > 0 then qt x gP true else 0) ≤ 8589934592 := by split <;> omega
    have m2 : -8589934592 ≤ qt x fP true ∧ qt x fP true ≤ 8589934592 := by omega
    have A := Hid.mk (show sz x ≤ 1024 by omega)
    have B := Hid.mk (show sz y ≤ 1024 by omega)
    have n1 := Hid.mk n1
    have n2 := Hid.mk n2
    have n3 := Hid.mk n3
    have n4 := Hid.mk n4
    have m1 := Hid.mk m1
    have m2 := Hid.mk m2
    obtain ⟨u1, u2⟩ := bl_pi (w := 192)
    have u1 := Hid.mk (show bl (piL 192) ≤ 2048 by omega)
    have u2 := Hid.mk (show bl (piH 192) ≤ 2048 by omega)
    clear l1 l2 l3 l4 l5 l6 l7 l8 C' D hc
    have kM : ∀ {h : PH}, Spec mach 44 #[.int .i64 (if qt x gP true > 0 then qt x gP true else 0), .int .i64 (qt y fP false), .int .i64 r] h (fun v _ => v = .bool (tv1 x y r)) NP := Meets_spec m1.out ⟨r1, r2⟩
    have kN : ∀ {h : PH}, Spec mach 44 #[.int .i64 (qt x fP true), .int .i64 (if qt y gP false < -1 then qt y gP false else -1), .int .i64 r] h (fun v _ => v = .bool (tv2 x y r)) NP := Meets_spec m2.out ⟨r1, r2⟩
    have kQ1 := fun {h1 h : PH} {v w : Value} [Le h1 h] (hx : Cn h1 v x) (hg : Cn h1 w gP) => EQuot_spec (h := h) (u := true) hx hg A.out gP_sz g0 n1.out
    have kQ2 := fun {h1 h : PH} {v w : Value} [Le h1 h] (hy : Cn h1 v y) (hf : Cn h1 w fP) => EQuot_spec (h := h) (u := false) hy hf B.out fP_sz f0 n2.out
    have kQ3 := fun {h1 h : PH} {v w : Value} [Le h1 h] (hx : Cn h1 v x) (hf : Cn h1 w fP) => EQuot_spec (h := h) (u := true) hx hf A.out fP_sz f0 n3.out
    have kQ4 := fun {h1 h : PH} {v w : Value} [Le h1 h] (hy : Cn h1 v y) (hg : Cn h1 w gP) => EQuot_spec (h := h) (u := false) hy hg B.out gP_sz g0 n4.out
    have kR1 : ∀ {h1 h : PH} {v : Value} [Le h1 h], N32 h1 v (piL 192) → Spec mach 42 #[v, .int .i64 (193 : Nat), .bool false] h (fun v h' => Cn h' v fP) NP := fun hv => Rational_spec (n := 193) hv u1.out (by decide)
    have kR2 : ∀ {h1 h : PH} {v : Value} [Le h1 h], N32 h1 v (piH 192) → Spec mach 42 #[v, .int .i64 (193 : Nat), .bool false] h (fun v h' => Cn h' v gP) NP := fun hv => Rational_spec (n := 193) hv u2.out (by decide)
    generalize tv1 x y r = t1 at kM ⊢
    generalize tv2 x y r = t2 at kN ⊢
    generalize qt x gP true = a1 at *
    generalize qt y fP false = a2 at *
    generalize qt x fP true = a3 at *
    generalize qt y gP false = a4 at *
    clear A B n1 n2 n3 n4 m1 m2 u1 u2 f0 g0
    try simp (maxSteps := 999999) (disch := omega) only [go_sem, Nat.reduceBEq, Nat.reduceAdd, e3]
    refine caN (by exact EPi_spec (w := 192) (by decide) (by decide)) ?_; rintro v8 h8 s8 ⟨_, _, _, _, _, _, rfl, p1, p2⟩
    try simp (maxSteps := 999999) (disch := omega) only [go_sem, Nat.reduceBEq, Nat.reduceAdd]
    clear e3
    generalize piL 192 = A1 at *
    generalize piH 192 = A2 at *
    generalize fP = f at *
    generalize gP = g at *
    (repeat' refine And.intro ?_ ?_)
    all_goals
      refine caN (by exact kR1 p1) ?_; rintro v9 h9 s9 q9; obtain ⟨_, _, _, _, _, _, _, rfl, q9⟩ := q9.sa
      try simp (maxSteps := 999999) (disch := omega) only [go_sem, Nat.reduceBEq, Nat.reduceAdd]
      (repeat' refine And.intro ?_ ?_)
      all_goals
        refine caN (by exact kR2 (p2.to (h' := h9))) ?_; rintro v10 h10 s10 q10; obtain ⟨_, _, _, _, _, _, _, rfl, q10⟩ := q10.sa
        try simp (maxSteps := 999999) (disch := omega) only [go_sem, Nat.reduceBEq, Nat.reduceAdd]
        (repeat' refine And.intro ?_ ?_)
        all_goals
          try simp (maxSteps := 999999) (disch := omega) only [go_sem, Nat.reduceBEq, Nat.reduceAdd]
          refine caN (by exact kQ1 (c1.to (h' := h10)) q10) ?_; rintro v11 h11 s11 rfl
          try simp (maxSteps := 999999) (disch := omega) only [go_sem, Nat.reduceBEq, Nat.reduceAdd]
          refine caN (by exact kQ2 (c2.to (h' := h11)) (q9.to (h' := h11))) ?_; rintro v12 h12 s12 rfl
          try simp (maxSteps := 999999) (disch := omega) only [go_sem, Nat.reduceBEq, Nat.reduceAdd]
          refine caN (by exact kM) ?_; rintro v13 h13 s13 rfl
          try simp (maxSteps := 999999) (disch := omega) only [go_sem, Nat.reduceBEq, Nat.reduceAdd]
          cases t1
          · try simp (maxSteps := 999999) (disch := omega) only [go_sem, Nat.reduceBEq, Nat.reduceAdd]
            refine caN (by exact kQ3 (c1.to (h' := h13)) (q9.to (h' := h13))) ?_; rintro v14 h14 s14 rfl
            try simp (maxSteps := 999999) (disch := omega) only [go_sem, Nat.reduceBEq, Nat.reduceAdd]
            refine caN (by exact kQ4 (c2.to (h' := h14)) (q10.to (h' := h14))) ?_; rintro v15 h15 s15 rfl
            try simp (maxSteps := 999999) (disch := omega) only [go_sem, Nat.reduceBEq, Nat.reduceAdd]
            refine caN (by exact kN) ?_; rintro v16 h16 s16 rfl
            try simp (maxSteps := 999999) (disch := omega) only [go_sem, Nat.reduceBEq, Nat.reduceAdd]
          · try simp (maxSteps := 999999) (disch := omega) only [go_sem, Nat.reduceBEq, Nat.reduceAdd]
            all_goals rfl
end Go.Q
namespace Go.Q
open Go.Proofs
set_option maxRecDepth 100000
theorem ceil_le {q : Rat} {z : Int} : q.ceil ≤ z ↔ q ≤ (z : Rat) := by
  rw [Rat.ceil_eq_neg_floor_neg]
  have h : (-z ≤ (-q).floor) ↔ ((-z : Int) : Rat) ≤ -q := Rat.le_floor_iff
  rw [Rat.intCast_neg] at h
  constructor
  · intro k
    have := h.1 (by omega)
    grind
  · intro k
    have := h.2 (by grind)
    omega
theorem inv_le {x y z : Rat} (hy : 0 < y) : (x * y⁻¹ ≤ z ↔ x ≤ z * y) ∧ (z ≤ x * y⁻¹ ↔ z * y ≤ x) := by
  have y0 : y ≠ 0 := by grind
  have e : x * y⁻¹ * y = x := by rw [Rat.mul_assoc, Rat.inv_mul_cancel _ y0, Rat.mul_one]
  generalize x * y⁻¹ = q at *
  subst e
  have k : ∀ a b : Rat, a ≤ b → a * y ≤ b * y := fun a b h => Rat.mul_le_mul_of_nonneg_right h (Rat.le_of_lt hy)
  have k2 : ∀ a b : Rat, a < b → a * y < b * y := fun a b h => Rat.mul_lt_mul_of_pos_right h hy
  refine ⟨⟨k _ _, fun h => Decidable.byContradiction fun hc => ?_⟩, ⟨k _ _, fun h => Decidable.byContradiction fun hc => ?_⟩⟩
  · have := k2 z q (by grind); grind
  · have := k2 q z (by grind); grind
theorem qt_up {x y : Rat} (hy : 0 < y) {z : Int} : qt x y true ≤ z ↔ x ≤ (z : Rat) * y := by
  unfold qt
  rw [if_pos rfl, ceil_le, (inv_le hy).1]
theorem qt_dn {x y : Rat} (hy : 0 < y) {z : Int} : z ≤ qt x y false ↔ (z : Rat) * y ≤ x := by
  unfold qt
  rw [if_neg (by decide), Rat.le_floor_iff, (inv_le hy).2]
theorem mt_mono {a b b' r : Int} (h : b ≤ b') (k : mt a b r = true) : mt a b' r = true := by
  unfold mt at *
  rw [decide_eq_true_eq] at *
  omega
theorem f_pos : 0 < fP := by have := fP_ge; grind
theorem g_pos : 0 < gP := by have := gP_ge; grind
theorem f_4 : 4 * fP ≤ 7 := by decide +kernel
theorem qt_mono {x x' y : Rat} (hy : 0 < y) (h : x ≤ x') : qt x y false ≤ qt x' y false := (qt_dn hy).2 (Rat.le_trans ((qt_dn hy).1 (Int.le_refl _)) h)
theorem turn_mono {x y y' : Rat} {r : Int} (h : y ≤ y') (k : (tv1 x y r || tv2 x y r) = true) : (tv1 x y' r || tv2 x y' r) = true := by
  rw [Bool.or_eq_true] at *
  rcases k with k | k
  · exact .inl (mt_mono (qt_mono f_pos h) k)
  · refine .inr (mt_mono ?_ k)
    have := qt_mono g_pos h
    split <;> split <;> omega
theorem turn_cover {x y : Rat} {r : Int} (hr : 0 ≤ r ∧ r ≤ 3) (h : x + 7 ≤ y) : (tv1 x y r || tv2 x y r) = true := by
  have hf := f_pos
  have hg := g_pos
  have hfg := fP_lt
  have h4 := f_4
  have U := fun z => qt_up (x := x) hf (z := z)
  have V := fun z => qt_up (x := x) hg (z := z)
  have D := fun z => qt_dn (x := y) hf (z := z)
  have E := fun z => qt_dn (x := y) hg (z := z)
  have mulc : ∀ (z w : Int) (t : Rat), ((z : Rat) - (w : Rat)) * t = (z : Rat) * t - (w : Rat) * t := fun z w t => by grind
  rw [Bool.or_eq_true]
  unfold tv1 tv2 mt
  simp only [decide_eq_true_eq]
  obtain ⟨b, eb⟩ : ∃ b, qt x fP true = b := ⟨_, rfl⟩
  obtain ⟨a, ea⟩ : ∃ a, qt x gP true = a := ⟨_, rfl⟩
  rw [eb] at U ⊢
  rw [ea] at V ⊢
  obtain ⟨m2, em2⟩ : ∃ m, b + (r - b) % 4 = m := ⟨_, rfl⟩
  have l1 := Int.emod_nonneg (r - b) (b := 4) (by decide)
  have l2 := Int.emod_lt_of_pos (r - b) (b := 4) (by decide)
  have below : ¬ x ≤ ((m2 - 4 : Int) : Rat) * fP := fun k => by have := (U (m2 - 4)).2 k; omega
  have up2 : (m2 : Rat) * fP < x + 7 := by
    rw [Rat.intCast_sub, mulc] at below
    have : ((4 : Int) : Rat) = 4 := rfl
    rw [this] at below
    grind
  by_cases hm : m2 ≤ -1
  · refine .inr ?_
    rw [em2]
    have hg2 : m2 ≤ qt y gP false := (E m2).2 (by
      have hneg : (m2 : Rat) ≤ 0 := by
        have : ((m2 : Int) : Rat) ≤ ((0 : Int) : Rat) := Rat.intCast_le_intCast.2 (by omega)
        exact this
      have := Rat.mul_le_mul_of_nonneg_left (Rat.le_of_lt hfg) (show 0 ≤ -(m2 : Rat) by grind)
      rw [Rat.neg_mul, Rat.neg_mul] at this
      grind)
    split <;> omega
  · refine .inl ?_
    obtain ⟨c, ec⟩ : ∃ c, (if a > 0 then a else 0) = c := ⟨_, rfl⟩
    rw [ec]
    obtain ⟨m1, em1⟩ : ∃ m, c + (r - c) % 4 = m := ⟨_, rfl⟩
    have n1 := Int.emod_nonneg (r - c) (b := 4) (by decide)
    have n2 := Int.emod_lt_of_pos (r - c) (b := 4) (by decide)
    rw [em1]
    refine (D m1).2 ?_
    by_cases ha : a > 0
    · rw [if_pos ha] at ec
      subst ec
      have below1 : ¬ x ≤ ((m1 - 4 : Int) : Rat) * gP := fun k => by have := (V (m1 - 4)).2 k; omega
      have xpos : 0 < x := by
        refine Decidable.byContradiction fun hc => ?_
        have := (V 0).2 (by have : ((0 : Int) : Rat) = 0 := rfl; rw [this, Rat.zero_mul]; grind)
        omega
      have key : ((m1 - 4 : Int) : Rat) * fP < x := by
        rcases Int.lt_or_le (m1 - 4) 0 with k | k
        · have h1 : ((m1 - 4 : Int) : Rat) ≤ 0 := by
            have : ((m1 - 4 : Int) : Rat) ≤ ((0 : Int) : Rat) := Rat.intCast_le_intCast.2 (by omega)
            exact this
          have := Rat.mul_le_mul_of_nonneg_right h1 (Rat.le_of_lt hf)
          rw [Rat.zero_mul] at this
          grind
        · have h1 : 0 ≤ ((m1 - 4 : Int) : Rat) := by
            have : ((0 : Int) : Rat) ≤ ((m1 - 4 : Int) : Rat) := Rat.intCast_le_intCast.2 k
            exact this
          have := Rat.mul_le_mul_of_nonneg_left (Rat.le_of_lt hfg) h1
          grind
      rw [Rat.intCast_sub, mulc] at key
      have : ((4 : Int) : Rat) = 4 := rfl
      rw [this] at key
      grind
    · rw [if_neg ha] at ec
      subst ec
      have hb : b ≤ 0 := (U 0).2 (by
        have h0 : ((0 : Int) : Rat) = 0 := rfl
        have := (V 0).1 (by omega)
        rw [h0, Rat.zero_mul] at this ⊢
        exact this)
      have : m1 = m2 := by omega
      rw [this]
      grind
end Go.Q
namespace Go.Q
open Go.Proofs
set_option maxRecDepth 100000
set_option maxHeartbeats 8000000
theorem Right_spec {h0 h : PH} [Le h0 h] {v w : Value} {x y : Rat} (hx : Cn h0 v x) (hy : Qr h0 w y) (bx : sz x ≤ 2 ^ 30) (by_ : sz y ≤ 2 ^ 30) : Spec mach 11 #[v, w] h (fun r _ => r = .bool (decide (x = y))) NP := by
  have kC := fun {h} [Le h0 h] => Canonical_cn (h := h) hx bx
  have hw := hx.rw bx
  have kO := fun {h} [Le h0 h] => QOf_spec (h := h) hw
  rw [qof_cn] at kO
  have e3 : (cmpQ x y == 0) = decide (x = y) := by unfold cmpQ; grind
  obtain ⟨_, _, _, _, _, _, _, rfl, _⟩ := hx.sa
  have hy0 := hy
  obtain ⟨_, _, _, _, _, _, _, rfl, _⟩ := hy.sl
  refine Spec.go [(1, .o [0, 1, 2, 3, 5, 4, 6, 7, 8, 9])] Tryd.func11 rfl rfl (by kernel_rfl) fun C _ => ?_
  try simp (disch := omega) only [go_sem, Nat.reduceBEq, Nat.reduceAdd]
  refine caN (by exact kC) ?_; rintro v1 h1 s1 rfl
  try simp (disch := omega) only [go_sem, Nat.reduceBEq, Nat.reduceAdd]
  refine caN (by exact kO) ?_; rintro v2 h2 s2 q2; have q2' := q2; obtain ⟨_, _, _, _, _, _, _, rfl, _⟩ := q2'.sl
  try simp (disch := omega) only [go_sem, Nat.reduceBEq, Nat.reduceAdd]
  refine caN (by exact QCmp_spec q2 (hy0.to (h' := h2)) (Nat.le_trans bx (by decide)) (Nat.le_trans by_ (by decide))) ?_; rintro v3 h3 s3 rfl
  try simp (disch := omega) only [go_sem, Nat.reduceBEq, Nat.reduceAdd, e3]
end Go.Q
namespace Go.Q
open Go.Proofs
set_option maxRecDepth 100000
set_option maxHeartbeats 8000000
theorem EReady_exp {h0 h : PH} [Le h0 h] {v : Value} {x : Rat} {p : Int} (hx : Rv h0 v x) (hp : 0 ≤ p ∧ p ≤ 128) (hl : ¬ 1024 < sz x) (hb : ¬ x.den * 64 < x.num.natAbs) : Spec mach 87 #[.int .i64 1, v, .int .i64 p] h (fun r h' => ∃ b na nl nc da dl dc, r = .tuple #[.agg #[.bool b, .slice na nl nc, .slice da dl dc], .int .i64 0] ∧ Cn h' (.agg #[.bool b, .slice na nl nc, .slice da dl dc]) x) NP := by
  have kK := fun {h} [Le h0 h] => EKnown_ok (h := h) (fn := 1) hx (by decide)
  have bx := hx.sz
  obtain ⟨_, _, _, _, _, _, _, rfl, _⟩ := hx.sa
  have d1 : defB 1 x = true := rfl
  refine Spec.go [] Tryd.func87 rfl rfl (by kernel_rfl) fun C _ => ?_
  try simp (disch := omega) only [go_sem, Nat.reduceBEq, Nat.reduceAdd]
  refine caN (by exact kK) ?_; rintro v1 h1 s1 ⟨_, _, _, _, _, _, _, rfl, c⟩
  try simp (disch := omega) only [go_sem, Nat.reduceBEq, Nat.reduceAdd]
  refine caN (by exact EDefined_spec (fn := 1) c) ?_; rintro v2 h2 s2 rfl
  try simp (disch := omega) only [go_sem, Nat.reduceBEq, Nat.reduceAdd]
  rw [d1]
  try simp (disch := omega) only [go_sem, Nat.reduceBEq, Nat.reduceAdd]
  refine caN (by exact TooLong_spec (c.to (h' := h2))) ?_; rintro v3 h3 s3 rfl
  try simp (disch := omega) only [go_sem, Nat.reduceBEq, Nat.reduceAdd]
  try rw [decide_eq_false hl]
  try simp (disch := omega) only [go_sem, Nat.reduceBEq, Nat.reduceAdd]
  refine caN (by exact Beyond_spec (n := 64) (c.to (h' := h3)) (by omega) (by decide)) ?_; rintro v4 h4 s4 rfl
  try simp (disch := omega) only [go_sem, Nat.reduceBEq, Nat.reduceAdd]
  try rw [decide_eq_false hb]
  try simp (disch := omega) only [go_sem, Nat.reduceBEq, Nat.reduceAdd]
  exact ⟨_, _, _, _, _, _, _, rfl, c.to⟩
theorem EApply_exp {h0 h : PH} [Le h0 h] {v : Value} {x y z : Rat} {p : Int} {g : FuncId} (hx : Rv h0 v x) (hp : 0 ≤ p ∧ p ≤ 128) (hl : ¬ 1024 < sz x) (hb : ¬ x.den * 64 < x.num.natAbs) (hx0 : x ≠ 0) (hg : ∀ {h0 h : PH} {a : Value} [Le h0 h], Cn h0 a x → Spec mach g #[a, .int .i64 p] h (fun r h' => Be h' r y z) NP) :
    Spec mach 61 #[.int .i64 1, v, .int .i64 p, .func (.func g) #[] #[]] h (fun r h' => Be h' r y z) NP := by
  have kK := fun {h} [Le h0 h] => EReady_exp (h := h) hx hp hl hb
  have e1 : exB 1 x = false := by unfold exB; rw [if_neg (by decide)]; exact decide_eq_false hx0
  have kE := fun {h1 h : PH} {a : Value} [Le h1 h] (c : Cn h1 a x) => EExact_spec (h := h) (fn := 1) c
  rw [e1] at kE
  obtain ⟨_, _, _, _, _, _, _, rfl, _⟩ := hx.sa
  refine Spec.go [] Tryd.func61 rfl rfl (by kernel_rfl) fun C _ => ?_
  try simp (disch := omega) only [go_sem, Nat.reduceBEq, Nat.reduceAdd]
  refine caN (by exact kK) ?_; rintro v1 h1 s1 ⟨_, _, _, _, _, _, _, rfl, c⟩
  try simp (disch := omega) only [go_sem, Nat.reduceBEq, Nat.reduceAdd]
  refine caN (by exact kE c) ?_; rintro v2 h2 s2 ⟨_, _, _, _, _, _, _, rfl, _⟩
  try simp (disch := omega) only [go_sem, Nat.reduceBEq, Nat.reduceAdd]
  refine caN (by exact hg (c.to (h' := h2))) ?_; rintro v3 h3 s3 ⟨_, _, _, _, _, _, _, _, _, _, _, _, _, _, rfl, q3⟩
  try simp (disch := omega) only [go_sem, Nat.reduceBEq, Nat.reduceAdd]
  exact ⟨_, _, _, _, _, _, _, _, _, _, _, _, _, _, rfl, q3⟩
theorem FExp_ok {h0 h : PH} [Le h0 h] {v : Value} {x : Rat} {p : Nat} (hx : Rv h0 v x) (hp : p ≤ 128) (hl : ¬ 1024 < sz x) (hb : ¬ x.den * 64 < x.num.natAbs) (hx0 : x ≠ 0) : Spec mach 31 #[v, .int .i64 p] h (fun r h' => Be h' r (expLo x p) (expHi x p)) NP := by
  have kA := fun {h} [Le h0 h] => EApply_exp (h := h) (p := p) (g := 62) hx (by omega) hl hb hx0 (fun {h0 h a} _ c => EExp_spec c (by omega) hb hp)
  obtain ⟨_, _, _, _, _, _, _, rfl, _⟩ := hx.sa
  clear hl hb
  refine Spec.go [] Tryd.func31 rfl rfl (by kernel_rfl) fun C _ => ?_
  try simp (disch := omega) only [go_sem, Nat.reduceBEq, Nat.reduceAdd]
  refine caN (by exact kA) ?_; rintro v1 h1 s1 ⟨_, _, _, _, _, _, _, _, _, _, _, _, _, _, rfl, r1, r2⟩
  try simp (disch := omega) only [go_sem, Nat.reduceBEq, Nat.reduceAdd]
  exact ⟨_, _, _, _, _, _, _, _, _, _, _, _, _, _, rfl, r1, r2⟩
end Go.Q
namespace Go.Q
open Go.Proofs
set_option maxRecDepth 100000
set_option maxHeartbeats 8000000
end Go.Q
namespace Go.Q
open Go.Proofs
set_option maxRecDepth 100000
set_option maxHeartbeats 8000000
end Go.Q
namespace Go.Q
open Go.Proofs
set_option maxRecDepth 100000
set_option maxHeartbeats 8000000
theorem RFrac2_spec {h : PH} {a b : Nat} (ha : a < 2 ^ 20) (hb : b < 2 ^ 20) : Spec mach 32 #[.int .i64 a, .int .i64 b] h (fun v h' => Qr h' v ((a : Rat) / (b : Rat))) NP := by
  have S : ∀ {n : Nat}, n < 2 ^ 20 → sz (((n : Int)) : Rat) ≤ 2 ^ 35 := by
    intro n hn
    unfold sz
    have e1 : bl ((((n : Int)) : Rat).num.natAbs) ≤ 64 := bl_le.2 (by simp; omega)
    have e2 : bl ((((n : Int)) : Rat).den) ≤ 64 := bl_le.2 (by simp)
    omega
  have b1 := S ha
  have b2 := S hb
  have e : ((((a : Int)) : Rat) / (((b : Int)) : Rat)) = (a : Rat) / (b : Rat) := rfl
  refine Spec.go [] Tryd.func32 rfl rfl (by kernel_rfl) fun C _ => ?_
  try simp (disch := omega) only [go_sem, Nat.reduceBEq, Nat.reduceAdd]
  refine caN (by exact QInt_spec (n := a) (by omega) (by omega)) ?_; rintro v1 g1 s1 q1; obtain ⟨_, _, _, _, _, _, _, rfl, q1⟩ := q1.sa
  try simp (disch := omega) only [go_sem, Nat.reduceBEq, Nat.reduceAdd]
  refine caN (by exact QInt_spec (n := b) (by omega) (by omega)) ?_; rintro v2 g2 s2 q2; obtain ⟨_, _, _, _, _, _, _, rfl, q2⟩ := q2.sa
  try simp (disch := omega) only [go_sem, Nat.reduceBEq, Nat.reduceAdd]
  refine caN (by exact QDiv_spec (q1.to (h' := g2)) q2 b1 b2) ?_; rintro v3 g3 s3 q3; rw [e] at q3; obtain ⟨_, _, _, _, _, _, _, rfl, q3⟩ := q3.sa
  try simp (disch := omega) only [go_sem, Nat.reduceBEq, Nat.reduceAdd]
  exact q3
theorem exp_sane1 : expLo 1 3 = ((21 : Nat) : Rat) / ((8 : Nat) : Rat) := by
  unfold expLo
  rw [if_neg (by decide), show expL 1 3 / 2 ^ 112 = 21 by decide +kernel]
  decide +kernel
theorem exp_sane2 : expHi 1 3 = ((11 : Nat) : Rat) / ((4 : Nat) : Rat) := by
  unfold expHi
  rw [if_neg (by decide), show cdiv (expH 1 3) (2 ^ 112) = 22 by decide +kernel]
  decide +kernel
theorem one_rv {h : PH} {b : Nat} (hb : h b = some #[.int .u32 1]) : Rv h (.agg #[.bool false, .slice (some ⟨b, 0, none⟩) 1 1, .slice none 0 0]) 1 := by
  have e : qof false 1 0 = 1 := by decide +kernel
  refine ⟨false, 1, 0, ⟨some ⟨b, 0, none⟩, 1, [1], none, 0, [], rfl, Arr.of_row (fun _ => hb) (by decide) (by decide) (by decide), Arr.nil _, rfl, rfl, by decide, by decide⟩, ?_, e⟩
  unfold lg
  rw [e]
  decide +kernel
theorem sane_spec {h : PH} : Spec mach 10 #[] h (fun r _ => r = .bool true) NP := by
  have z1 : sz (((21 : Nat) : Rat) / ((8 : Nat) : Rat)) ≤ 2 ^ 30 := by decide +kernel
  have z2 : sz (((11 : Nat) : Rat) / ((4 : Nat) : Rat)) ≤ 2 ^ 30 := by decide +kernel
  have e1 : decide (((21 : Nat) : Rat) / ((8 : Nat) : Rat) = ((21 : Nat) : Rat) / ((8 : Nat) : Rat)) = true := decide_eq_true rfl
  have e2 : decide (((11 : Nat) : Rat) / ((4 : Nat) : Rat) = ((11 : Nat) : Rat) / ((4 : Nat) : Rat)) = true := decide_eq_true rfl
  have z1 := Hid.mk z1
  have z2 := Hid.mk z2
  refine Spec.go [(1, .t (.s [0] (.p 0 (.s [1, 2, 3, 4, 5, 6, 7, 8] .d))))] Tryd.func10 rfl rfl (by kernel_rfl) fun C _ => ?_
  try simp (disch := omega) only [go_sem, Nat.reduceBEq, Nat.reduceAdd]
  intro b h1 st1 hb
  try simp (disch := omega) only [go_sem, Nat.reduceBEq, Nat.reduceAdd]
  have hb := hb (by simp [uw])
  try simp (disch := omega) only [go_sem, Nat.reduceBEq, Nat.reduceAdd]
  refine caN (by exact FExp_ok (x := 1) (p := 3) (one_rv hb) (by decide) (by decide) (by decide) (by decide)) ?_; rintro v2 h2 s2 ⟨_, _, _, _, _, _, _, _, _, _, _, _, _, _, rfl, r1, r2⟩
  try simp (disch := omega) only [go_sem, Nat.reduceBEq, Nat.reduceAdd]
  rw [exp_sane1] at r1
  rw [exp_sane2] at r2
  try simp (disch := omega) only [go_sem, Nat.reduceBEq, Nat.reduceAdd]
  refine caN (by exact RFrac2_spec (a := 21) (b := 8) (by decide) (by decide)) ?_; rintro v3 h3 s3 q3; obtain ⟨_, _, _, _, _, _, _, rfl, q3⟩ := q3.sa
  try simp (disch := omega) only [go_sem, Nat.reduceBEq, Nat.reduceAdd]
  refine caN (by exact Right_spec (r1.to (h' := h3)) q3 z1.out z1.out) ?_; rintro v4 h4 s4 rfl
  try simp (disch := omega) only [go_sem, Nat.reduceBEq, Nat.reduceAdd, e1, decide_true]
  refine caN (by exact RFrac2_spec (a := 11) (b := 4) (by decide) (by decide)) ?_; rintro v5 h5 s5 q5; obtain ⟨_, _, _, _, _, _, _, rfl, q5⟩ := q5.sa
  try simp (disch := omega) only [go_sem, Nat.reduceBEq, Nat.reduceAdd]
  refine caN (by exact Right_spec (r2.to (h' := h5)) q5 z2.out z2.out) ?_; rintro v6 h6 s6 rfl
  try simp (disch := omega) only [go_sem, Nat.reduceBEq, Nat.reduceAdd, e2, decide_true]
end Go.Q
namespace Go.Q
open Go.Proofs
set_option maxRecDepth 100000
set_option maxHeartbeats 16000000
theorem FTurns_no {h0 h : PH} [Le h0 h] {v w : Value} {ng mg : Bool} {nn nd mn md : Nat} {r : Int} (hv : Rw h0 v ng nn nd) (hw : Rw h0 w mg mn md) (hl : lg ng nn nd ∨ lg mg mn md) : Spec mach 18 #[v, w, .int .i64 r] h (fun q _ => q = .tuple #[.bool false, .int .i64 1]) NP := by
  have hv0 := hv
  have hw0 := hw
  obtain ⟨_, _, _, _, _, _, _, rfl, _⟩ := hv.sa
  obtain ⟨_, _, _, _, _, _, _, rfl, _⟩ := hw.sa
  by_cases g1 : lg ng nn nd
  · have kC := fun {h} [Le h0 h] => NumCanon_no (h := h) hv0 g1
    by_cases g2 : lg mg mn md
    · have kD := fun {h} [Le h0 h] => NumCanon_no (h := h) hw0 g2
      clear hl g1 g2
      refine Spec.go [(14, .t (.s [0, 1, 2, 3, 5, 6, 7, 8] (.a 4 (.a 9 (.a 10 (.a 11 (.a 12 (.a 13 .d .n) .n) .n) (.a 11 (.a 10 (.a 12 (.a 13 .d .n) .n) .n) .n)) (.a 10 (.a 9 (.a 11 (.a 12 (.a 13 .d .n) .n) .n) (.a 11 (.a 9 (.a 12 (.a 13 .d .n) .n) .n) .n)) (.a 11 (.a 9 (.a 10 (.a 12 (.a 13 .d .n) .n) .n) (.a 10 (.a 9 (.a 12 (.a 13 .d .n) .n) .n) .n)) .n))) (.a 10 (.a 4 (.a 9 (.a 11 (.a 12 (.a 13 .d .n) .n) .n) (.a 11 (.a 9 (.a 12 (.a 13 .d .n) .n) .n) .n)) (.a 11 (.a 4 (.a 9 (.a 12 (.a 13 .d .n) .n) .n) .n) .n)) (.a 11 (.a 4 (.a 9 (.a 10 (.a 12 (.a 13 .d .n) .n) .n) (.a 10 (.a 9 (.a 12 (.a 13 .d .n) .n) .n) .n)) (.a 10 (.a 4 (.a 9 (.a 12 (.a 13 .d .n) .n) .n) .n) .n)) .n))))), (15, .o [0, 1, 4, 5, 2, 3, 6, 7, 8]), (18, .o [0, 1, 3, 4, 7, 2, 5, 6, 8, 9, 10])] Tryd.func18 rfl rfl (by kernel_rfl) fun C _ => ?_
      try simp (disch := omega) only [go_sem, Nat.reduceBEq, Nat.reduceAdd]
      refine caN (by exact kC) ?_; rintro v1 h1 s1 rfl
      try simp (disch := omega) only [go_sem, Nat.reduceBEq, Nat.reduceAdd]
      refine caN (by exact kD) ?_; rintro v2 h2 s2 rfl
      try simp (disch := omega) only [go_sem, Nat.reduceBEq, Nat.reduceAdd]
      all_goals omega
    · have kD := fun {h} [Le h0 h] => NumCanon (h := h) ⟨_, _, _, hw0, g2, rfl⟩
      clear hl g1 g2
      refine Spec.go [(14, .t (.s [0, 1, 2, 3, 5, 6, 7, 8] (.a 4 (.a 9 (.a 10 (.a 11 (.a 12 (.a 13 .d .n) .n) .n) (.a 11 (.a 10 (.a 12 (.a 13 .d .n) .n) .n) .n)) (.a 10 (.a 9 (.a 11 (.a 12 (.a 13 .d .n) .n) .n) (.a 11 (.a 9 (.a 12 (.a 13 .d .n) .n) .n) .n)) (.a 11 (.a 9 (.a 10 (.a 12 (.a 13 .d .n) .n) .n) (.a 10 (.a 9 (.a 12 (.a 13 .d .n) .n) .n) .n)) .n))) (.a 10 (.a 4 (.a 9 (.a 11 (.a 12 (.a 13 .d .n) .n) .n) (.a 11 (.a 9 (.a 12 (.a 13 .d .n) .n) .n) .n)) (.a 11 (.a 4 (.a 9 (.a 12 (.a 13 .d .n) .n) .n) .n) .n)) (.a 11 (.a 4 (.a 9 (.a 10 (.a 12 (.a 13 .d .n) .n) .n) (.a 10 (.a 9 (.a 12 (.a 13 .d .n) .n) .n) .n)) (.a 10 (.a 4 (.a 9 (.a 12 (.a 13 .d .n) .n) .n) .n) .n)) .n))))), (15, .o [0, 1, 4, 5, 2, 3, 6, 7, 8]), (18, .o [0, 1, 3, 4, 7, 2, 5, 6, 8, 9, 10])] Tryd.func18 rfl rfl (by kernel_rfl) fun C _ => ?_
      try simp (disch := omega) only [go_sem, Nat.reduceBEq, Nat.reduceAdd]
      refine caN (by exact kC) ?_; rintro v1 h1 s1 rfl
      try simp (disch := omega) only [go_sem, Nat.reduceBEq, Nat.reduceAdd]
      refine caN (by exact kD) ?_; rintro v2 h2 s2 ⟨_, _, _, _, _, _, _, rfl, c2⟩
      try simp (disch := omega) only [go_sem, Nat.reduceBEq, Nat.reduceAdd]
      all_goals omega
  · have kC := fun {h} [Le h0 h] => NumCanon (h := h) ⟨_, _, _, hv0, g1, rfl⟩
    have kD := fun {h} [Le h0 h] => NumCanon_no (h := h) hw0 (hl.resolve_left g1)
    clear hl g1
    refine Spec.go [(14, .t (.s [0, 1, 2, 3, 5, 6, 7, 8] (.a 4 (.a 9 (.a 10 (.a 11 (.a 12 (.a 13 .d .n) .n) .n) (.a 11 (.a 10 (.a 12 (.a 13 .d .n) .n) .n) .n)) (.a 10 (.a 9 (.a 11 (.a 12 (.a 13 .d .n) .n) .n) (.a 11 (.a 9 (.a 12 (.a 13 .d .n) .n) .n) .n)) (.a 11 (.a 9 (.a 10 (.a 12 (.a 13 .d .n) .n) .n) (.a 10 (.a 9 (.a 12 (.a 13 .d .n) .n) .n) .n)) .n))) (.a 10 (.a 4 (.a 9 (.a 11 (.a 12 (.a 13 .d .n) .n) .n) (.a 11 (.a 9 (.a 12 (.a 13 .d .n) .n) .n) .n)) (.a 11 (.a 4 (.a 9 (.a 12 (.a 13 .d .n) .n) .n) .n) .n)) (.a 11 (.a 4 (.a 9 (.a 10 (.a 12 (.a 13 .d .n) .n) .n) (.a 10 (.a 9 (.a 12 (.a 13 .d .n) .n) .n) .n)) (.a 10 (.a 4 (.a 9 (.a 12 (.a 13 .d .n) .n) .n) .n) .n)) .n))))), (15, .o [0, 1, 4, 5, 2, 3, 6, 7, 8]), (18, .o [0, 1, 3, 4, 7, 2, 5, 6, 8, 9, 10])] Tryd.func18 rfl rfl (by kernel_rfl) fun C _ => ?_
    try simp (disch := omega) only [go_sem, Nat.reduceBEq, Nat.reduceAdd]
    refine caN (by exact kC) ?_; rintro v1 h1 s1 ⟨_, _, _, _, _, _, _, rfl, c1⟩
    try simp (disch := omega) only [go_sem, Nat.reduceBEq, Nat.reduceAdd]
    refine caN (by exact kD) ?_; rintro v2 h2 s2 rfl
    try simp (disch := omega) only [go_sem, Nat.reduceBEq, Nat.reduceAdd]
    all_goals omega
theorem turn_facts {x y : Rat} {r : Int} (hE : turnE x y r = 0) : (7 ≤ y - x → turnB x y r = true) ∧ (turnB x y r = true → turnE x (y + 1) r = 0 → turnB x (y + 1) r = true) := by
  have hr : ¬ (r < 0 ∨ 3 < r) := fun k => by rw [(turn_r (x := x) (y := y) k).1] at hE; cases hE
  have hw : ¬ (wideB x ∨ wideB y) := fun k => by rw [(turn_w hr k).1] at hE; cases hE
  obtain ⟨_, z1, z2⟩ := turn_0 hr hw
  refine ⟨fun k => ?_, fun k e => ?_⟩
  · rw [z2 (by grind)]
    exact turn_cover (by omega) (by grind)
  · by_cases hc : y < x
    · rw [z1 hc] at k; cases k
    · rw [z2 hc] at k
      have hw' : ¬ (wideB x ∨ wideB (y + 1)) := fun k => by rw [(turn_w hr k).1] at e; cases e
      obtain ⟨_, _, z3⟩ := turn_0 (r := r) hr hw'
      rw [z3 (by grind)]
      exact turn_mono (by grind) k
theorem cmpQ_ge (x y : Rat) : decide (cmpQ x y ≥ 0) = decide (y ≤ x) := by unfold cmpQ; grind
theorem Cover_law {h0 h : PH} [Le h0 h] {v w : Value} {ng mg : Bool} {nn nd mn md : Nat} {r : Int} (hv : Rw h0 v ng nn nd) (hw : Rw h0 w mg mn md) : Spec mach 5 #[v, w, .int .i64 r] h (fun q _ => q = .bool true) NP := by
  by_cases hl : lg ng nn nd ∨ lg mg mn md
  · have kT := fun {h} [Le h0 h] => FTurns_no (h := h) (r := r) hv hw hl
    obtain ⟨_, _, _, _, _, _, _, rfl, _⟩ := hv.sa
    obtain ⟨_, _, _, _, _, _, _, rfl, _⟩ := hw.sa
    clear hl
    refine Spec.go [(4, .t (.s [0, 2] (.a 1 (.a 3 (.a 4 (.a 5 (.a 6 (.a 7 .d .n) .n) .n) (.a 5 (.a 4 (.a 6 (.a 7 .d .n) .n) .n) .n)) (.a 4 (.a 3 (.a 5 (.a 6 (.a 7 .d .n) .n) .n) (.a 5 (.a 3 (.a 6 (.a 7 .d .n) .n) .n) .n)) (.a 5 (.a 3 (.a 4 (.a 6 (.a 7 .d .n) .n) .n) (.a 4 (.a 3 (.a 6 (.a 7 .d .n) .n) .n) .n)) .n))) (.a 4 (.a 1 (.a 3 (.a 5 (.a 6 (.a 7 .d .n) .n) .n) (.a 5 (.a 3 (.a 6 (.a 7 .d .n) .n) .n) .n)) (.a 5 (.a 1 (.a 3 (.a 6 (.a 7 .d .n) .n) .n) .n) .n)) (.a 5 (.a 1 (.a 3 (.a 4 (.a 6 (.a 7 .d .n) .n) .n) (.a 4 (.a 3 (.a 6 (.a 7 .d .n) .n) .n) .n)) (.a 4 (.a 1 (.a 3 (.a 6 (.a 7 .d .n) .n) .n) .n) .n)) .n))))), (7, .o [0, 1, 5, 2, 3, 4, 6, 7, 8, 9, 10, 11])] Tryd.func5 rfl rfl (by kernel_rfl) fun C _ => ?_
    try simp (disch := omega) only [go_sem, Nat.reduceBEq, Nat.reduceAdd]
    refine caN (by exact kT) ?_; rintro v1 h1 s1 rfl
    try simp (disch := omega) only [go_sem, Nat.reduceBEq, Nat.reduceAdd]
    refine caN (by exact sane_spec) ?_; rintro v2 h2 s2 rfl
    try simp (disch := omega) only [go_sem, Nat.reduceBEq, Nat.reduceAdd]
  · have kO := fun {h} [Le h0 h] => QOf_spec (h := h) hv
    have kP := fun {h} [Le h0 h] => QOf_spec (h := h) hw
    have hx : Rv h0 v (qof ng nn nd) := ⟨_, _, _, hv, fun k => hl (.inl k), rfl⟩
    have hy : Rv h0 w (qof mg mn md) := ⟨_, _, _, hw, fun k => hl (.inr k), rfl⟩
    generalize qof ng nn nd = x at *
    generalize qof mg mn md = y at *
    have kT := fun {h} [Le h0 h] => FTurns_ok (h := h) (r := r) hx hy
    have kT2 := fun {h1 h : PH} {v1 v2 : Value} [Le h1 h] (hx : Rv h1 v1 x) (hy : Rv h1 v2 (y + 1)) => FTurns_ok (h := h) (r := r) hx hy
    have bx := hx.sz
    have b2 := hy.sz
    have hx0 := hx
    obtain ⟨_, _, _, _, _, _, _, rfl, _⟩ := hv.sa
    obtain ⟨_, _, _, _, _, _, _, rfl, _⟩ := hw.sa
    by_cases hE : turnE x y r = 0
    · obtain ⟨F1, F2⟩ := turn_facts hE
      have sy : sz y ≤ 1024 := by
        refine Decidable.byContradiction fun hc => ?_
        have hr : ¬ (r < 0 ∨ 3 < r) := fun k => by rw [(turn_r (x := x) (y := y) k).1] at hE; cases hE
        rw [(turn_w hr (.inr (.inl (by omega)))).1] at hE
        cases hE
      have s1' : sz (y + 1) ≤ 2048 := by
        have := sz_add y 1
        have : sz 1 = 1 := by decide
        omega
      have s7 : sz (y - x) ≤ 2 ^ 34 := by
        rw [Rat.sub_eq_add_neg]
        have := sz_add y (-x)
        have := sz_neg x
        omega
      have c7 : sz ((7 : Int) : Rat) ≤ 2 ^ 34 := by decide
      have c1 : sz ((1 : Int) : Rat) ≤ 2 ^ 34 := by decide
      have eg := cmpQ_ge (y - x) ((7 : Int) : Rat)
      have F1 : decide (((7 : Int) : Rat) ≤ y - x) = true → turnB x y r = true := fun k => F1 (of_decide_eq_true k)
      rw [hE] at kT
      generalize decide (((7 : Int) : Rat) ≤ y - x) = G at eg F1
      generalize turnB x y r = B at kT F1 F2
      have e1 : y + ((1 : Int) : Rat) = y + 1 := rfl
      generalize turnE x (y + 1) r = E' at kT2 F2
      generalize turnB x (y + 1) r = B' at kT2 F2
      have bx := Hid.mk bx
      have b2 := Hid.mk b2
      have s1' := Hid.mk s1'
      have s7 := Hid.mk s7
      have sy := Hid.mk sy
      clear hE hl hx hy hv hw
      refine Spec.go [(4, .t (.s [0, 2] (.a 1 (.a 3 (.a 4 (.a 5 (.a 6 (.a 7 .d .n) .n) .n) (.a 5 (.a 4 (.a 6 (.a 7 .d .n) .n) .n) .n)) (.a 4 (.a 3 (.a 5 (.a 6 (.a 7 .d .n) .n) .n) (.a 5 (.a 3 (.a 6 (.a 7 .d .n) .n) .n) .n)) (.a 5 (.a 3 (.a 4 (.a 6 (.a 7 .d .n) .n) .n) (.a 4 (.a 3 (.a 6 (.a 7 .d .n) .n) .n) .n)) .n))) (.a 4 (.a 1 (.a 3 (.a 5 (.a 6 (.a 7 .d .n) .n) .n) (.a 5 (.a 3 (.a 6 (.a 7 .d .n) .n) .n) .n)) (.a 5 (.a 1 (.a 3 (.a 6 (.a 7 .d .n) .n) .n) .n) .n)) (.a 5 (.a 1 (.a 3 (.a 4 (.a 6 (.a 7 .d .n) .n) .n) (.a 4 (.a 3 (.a 6 (.a 7 .d .n) .n) .n) .n)) (.a 4 (.a 1 (.a 3 (.a 6 (.a 7 .d .n) .n) .n) .n) .n)) .n))))), (7, .o [0, 1, 5, 2, 3, 4, 6, 7, 8, 9, 10, 11])] Tryd.func5 rfl rfl (by kernel_rfl) fun C _ => ?_
      try simp (disch := omega) only [go_sem, Nat.reduceBEq, Nat.reduceAdd]
      refine caN (by exact kT) ?_; rintro v1 h1 s1 rfl
      try simp (disch := omega) only [go_sem, Nat.reduceBEq, Nat.reduceAdd]
      (repeat' refine And.intro ?_ ?_)
      all_goals
        refine caN (by exact kO) ?_; rintro v2 h2 s2 q2; have q2' := q2; obtain ⟨_, _, _, _, _, _, _, rfl, _⟩ := q2'.sl
        try simp (disch := omega) only [go_sem, Nat.reduceBEq, Nat.reduceAdd]
        (repeat' refine And.intro ?_ ?_)
        all_goals
          refine caN (by exact kP) ?_; rintro v3 h3 s3 q3; have q3' := q3; obtain ⟨_, _, _, _, _, _, _, rfl, _⟩ := q3'.sl
          try simp (disch := omega) only [go_sem, Nat.reduceBEq, Nat.reduceAdd]
          (repeat' refine And.intro ?_ ?_)
          all_goals
            try simp (disch := omega) only [go_sem, Nat.reduceBEq, Nat.reduceAdd]
            refine caN (by exact Diff_spec q3 (q2.to (h' := h3)) (Nat.le_trans b2.out (by decide)) (Nat.le_trans bx.out (by decide))) ?_; rintro v4 h4 s4 q4; have q4' := q4; obtain ⟨_, _, _, _, _, _, _, rfl, _⟩ := q4'.sl
            try simp (disch := omega) only [go_sem, Nat.reduceBEq, Nat.reduceAdd]
            refine caN (by exact QInt_spec (n := 7) (by decide) (by decide)) ?_; rintro v5 h5 s5 q5; have q5' := q5; obtain ⟨_, _, _, _, _, _, _, rfl, _⟩ := q5'.sl
            try simp (disch := omega) only [go_sem, Nat.reduceBEq, Nat.reduceAdd]
            refine caN (by exact QCmp_spec (q4.to (h' := h5)) q5 s7.out c7) ?_; rintro v6 h6 s6 rfl
            try simp (disch := omega) only [go_sem, Nat.reduceBEq, Nat.reduceAdd]
            cases G <;> cases B <;> try exact absurd (F1 rfl) (by decide)
            all_goals
              try simp (disch := omega) only [go_sem, Nat.reduceBEq, Nat.reduceAdd, eg]
              refine caN (by exact QInt_spec (n := 1) (by decide) (by decide)) ?_; rintro v7 h7 s7' q7; have q7' := q7; obtain ⟨_, _, _, _, _, _, _, rfl, _⟩ := q7'.sl
              try simp (disch := omega) only [go_sem, Nat.reduceBEq, Nat.reduceAdd]
              refine caN (by exact Sum_spec (q3.to (h' := h7)) q7 (Nat.le_trans b2.out (by decide)) (by decide)) ?_; rintro v8 h8 s8 q8; have q8' := q8; obtain ⟨_, _, _, _, _, _, _, rfl, _⟩ := q8'.sl
              try simp (disch := omega) only [go_sem, Nat.reduceBEq, Nat.reduceAdd]
              rw [e1] at q8
              refine caN (by exact QRat_spec q8 (Nat.le_trans s1'.out (by decide))) ?_; rintro v9 h9 s9 q9; obtain ⟨_, _, _, _, _, _, _, rfl, q9⟩ := q9.sa
              try simp (disch := omega) only [go_sem, Nat.reduceBEq, Nat.reduceAdd]
              refine caN (by exact kT2 (hx0.to (h' := h9)) (Rv.of q9 s1'.out)) ?_; rintro v10 h10 s10 rfl
              try simp (disch := omega) only [go_sem, Nat.reduceBEq, Nat.reduceAdd]
              refine caN (by exact sane_spec) ?_; rintro v11 h11 s11 rfl
              try simp (disch := omega) only [go_sem, Nat.reduceBEq, Nat.reduceAdd]
              try
                by_cases hE : E' = 0
                · subst hE
                  have := F2 rfl rfl
                  subst this
                  try simp (disch := omega) only [go_sem, Nat.reduceBEq, Nat.reduceAdd]
                · try simp (disch := omega) only [go_sem, Nat.reduceBEq, Nat.reduceAdd]
    · have kT' : ∀ {h : PH} [Le h0 h], Spec mach 18 _ h (fun q _ => q = .tuple #[.bool (turnB x y r), .int .i64 (turnE x y r)]) NP := kT
      generalize turnE x y r = E at hE kT'
      clear hl kT bx b2
      refine Spec.go [(4, .t (.s [0, 2] (.a 1 (.a 3 (.a 4 (.a 5 (.a 6 (.a 7 .d .n) .n) .n) (.a 5 (.a 4 (.a 6 (.a 7 .d .n) .n) .n) .n)) (.a 4 (.a 3 (.a 5 (.a 6 (.a 7 .d .n) .n) .n) (.a 5 (.a 3 (.a 6 (.a 7 .d .n) .n) .n) .n)) (.a 5 (.a 3 (.a 4 (.a 6 (.a 7 .d .n) .n) .n) (.a 4 (.a 3 (.a 6 (.a 7 .d .n) .n) .n) .n)) .n))) (.a 4 (.a 1 (.a 3 (.a 5 (.a 6 (.a 7 .d .n) .n) .n) (.a 5 (.a 3 (.a 6 (.a 7 .d .n) .n) .n) .n)) (.a 5 (.a 1 (.a 3 (.a 6 (.a 7 .d .n) .n) .n) .n) .n)) (.a 5 (.a 1 (.a 3 (.a 4 (.a 6 (.a 7 .d .n) .n) .n) (.a 4 (.a 3 (.a 6 (.a 7 .d .n) .n) .n) .n)) (.a 4 (.a 1 (.a 3 (.a 6 (.a 7 .d .n) .n) .n) .n) .n)) .n))))), (7, .o [0, 1, 5, 2, 3, 4, 6, 7, 8, 9, 10, 11])] Tryd.func5 rfl rfl (by kernel_rfl) fun C _ => ?_
      try simp (disch := omega) only [go_sem, Nat.reduceBEq, Nat.reduceAdd]
      refine caN (by exact kT') ?_; rintro v1 h1 s1 rfl
      try simp (disch := omega) only [go_sem, Nat.reduceBEq, Nat.reduceAdd]
      refine caN (by exact sane_spec) ?_; rintro v2 h2 s2 rfl
      try simp (disch := omega) only [go_sem, Nat.reduceBEq, Nat.reduceAdd]
end Go.Q
