/-
  Contracts of package interval: inverses of sets; what Div returns. Conditions: the values are intervals.
  Products of sets, plain: they hold the products of the ends, they are the least that do, and they are greater for a greater second factor. Conditions: none.
  The same of another type of result: integers. Conditions: the closure's contract. (Printed by a program out of the text for intervals.)
  Contracts of package interval: the sign of a set; of package number: the sign of a number. Conditions: the values are intervals and numbers.
  Contracts of package interval: absolute values; whether a set is empty, bounded. Conditions: the values are intervals.
  Powers of sets, plain. Conditions: ends in order (ok) where named.
  Products of sets, plain: they hold the products of all numbers of the sets, and grow with both; squares. Conditions: ends in order (ok) where named.
  Inverses of sets, plain: their ends are in order. Conditions: the set does not hold 0.
  Operations on sets, plain: a part of the operands gives a part of the result. Conditions: ends in order (ok) where named.
  Powers and roots of sets, plain: a part of the operand gives a part of the result. Conditions: ends in order (ok).
  Contracts of package interval: powers of sets; what Pow returns. Conditions: the values are sets (Sn), intervals (Iv).
-/
import Derived.Test.YthagpdbpgdfojaaGreatDoorK8c26a1PkD
import Derived.Test.YthagpdbpgdfojaaGreatDoorK120424PkK
import Derived.Test.YthagpdbpgdfojaaGreatDoorK87e41bPkI
import Derived.Test.YthagpdbpgdfojaaGreatDoorK44c0f3PkH
import Derived.Test.YthagpdbpgdfojaaGreatDoorK1d3f91PkJ
set_option linter.unusedVariables false
set_option linter.unusedSimpArgs false
namespace Go.Q
open Go.Proofs
set_option maxRecDepth 100000
set_option maxHeartbeats 8000000
def invO : Option Rat → Rat
  | none => ((0 : Int) : Rat)
  | some q => q⁻¹
def NS.inv : NS → NS
  | .e => .e
  | .i a b => .i (some (invO b)) (some (invO a))
theorem zero_ends {a b : Option Rat} (h : (NS.i a b).zero = false) (ho : (NS.i a b).ok) : (∀ q, a = some q → q ≠ 0) ∧ ∀ q, b = some q → q ≠ 0 := by
  have h1 : ¬ ((NS.i a b).slo ≤ 0 ∧ 0 ≤ (NS.i a b).shi) := by
    intro k
    simp [NS.zero, NS.void, k.1, k.2] at h
  refine ⟨fun q e k => h1 ?_, fun q e k => h1 ?_⟩
  · subst e k
    refine ⟨by show sgn3 0 ≤ 0; decide, ?_⟩
    cases b with
    | none => show (0 : Int) ≤ 1; decide
    | some b =>
      have : ¬ b < 0 := by simpa [NS.ok, ordO] using ho
      show 0 ≤ sgn3 b
      unfold sgn3; grind
  · subst e k
    refine ⟨?_, by show 0 ≤ sgn3 0; decide⟩
    cases a with
    | none => show (-1 : Int) ≤ 0; decide
    | some a =>
      have : ¬ (0 : Rat) < a := by simpa [NS.ok, ordO] using ho
      show sgn3 a ≤ 0
      unfold sgn3; grind
theorem InverseS_spec {h0 h : PH} [Le h0 h] {v : Value} {a b : Option Rat} (hv : Sn h0 v (.i a b)) (ha : ∀ q, a = some q → q ≠ 0) (hb : ∀ q, b = some q → q ≠ 0) : Spec mach 60 #[v] h (fun v h' => Sn h' v (NS.i a b).inv) NP := by
  obtain ⟨b1, a1, m1, c1, a2, m2, c2, b2, a3, m3, c3, a4, m4, c4, rfl, e1, e2⟩ := hv.ie
  cases a <;> cases b <;>
  · dsimp only [Option.isNone]
    refine Spec.go [] Tryz.func60 rfl rfl (by kernel_rfl) fun C _ => ?_
    try simp (maxSteps := 999999) (disch := omega) only [go_sem, Nat.reduceBEq, Nat.reduceAdd]
    refine caN (by exact Int_spec (n := 0) (by decide) (by decide)) ?_; rintro _ h1 _ f1; obtain ⟨_, _, _, _, _, _, _, rfl, f1⟩ := f1.sa
    try simp (maxSteps := 999999) (disch := omega) only [go_sem, Nat.reduceBEq, Nat.reduceAdd]
    refine caN (by exact Int_spec (n := 0) (by decide) (by decide)) ?_; rintro _ h2 _ f2; obtain ⟨_, _, _, _, _, _, _, rfl, f2⟩ := f2.sa
    try simp (maxSteps := 999999) (disch := omega) only [go_sem, Nat.reduceBEq, Nat.reduceAdd]
    try (refine caN (by exact Inverse_spec (e2.num.to (h' := h2)) (hb _ rfl)) ?_; rintro _ h3 _ f3; obtain ⟨_, _, _, _, _, _, _, rfl, f3⟩ := f3.sa; (try simp (maxSteps := 999999) (disch := omega) only [go_sem, Nat.reduceBEq, Nat.reduceAdd]))
    try (refine caN (by exact Inverse_spec e1.num (ha _ rfl)) ?_; rintro _ h4 _ f4; obtain ⟨_, _, _, _, _, _, _, rfl, f4⟩ := f4.sa; (try simp (maxSteps := 999999) (disch := omega) only [go_sem, Nat.reduceBEq, Nat.reduceAdd]))
    try simp (maxSteps := 999999) (disch := omega) only [go_sem, Nat.reduceBEq, Nat.reduceAdd]
    exact ⟨_, _, _, _, _, _, rfl, by first | exact En.of f3.to | exact En.of f1.to, by first | exact En.of f4.to | exact En.of f2.to⟩
theorem inv_le {x : NS} {k : Nat} (h : x.le k) (hk : 1 ≤ k) : x.inv.le k := by
  cases x with
  | e => exact h
  | i a b =>
    rw [NS.le_i] at h
    show NS.le k (.i (some (invO b)) (some (invO a)))
    rw [NS.le_i]
    have h0 : sz ((0 : Int) : Rat) ≤ k := Nat.le_trans (by decide) hk
    refine ⟨fun q e => ?_, fun q e => ?_⟩
    · cases e
      cases b with
      | none => exact h0
      | some b => exact Nat.le_trans (sz_inv b) (h.2 _ rfl)
    · cases e
      cases a with
      | none => exact h0
      | some a => exact Nat.le_trans (sz_inv a) (h.1 _ rfl)
def divO (x y : NS) : Out := bif y.zero then .error 10 else .ok (x.prod y.inv)
theorem Div1 {h0 h : PH} [Le h0 h] {s t : Value} {x y : NS} (hs : Sn h0 s x) (ht : Sn h0 t y) (gx : x.void = false) (gy : y.void = false) (lx : x.le 2048) (ly : y.le 2048) (oy : y.ok) : Does 57 #[s, t] h (divO x y) := by
  unfold divO
  have kZ := fun {h} [Le h0 h] => zero_set (h := h) ht
  have kI : y.zero = false → ∀ {h : PH} [Le h0 h], Spec mach 60 #[t] h (fun v h' => Sn h' v y.inv) NP := by
    intro hz h _
    cases y with
    | e => cases gy
    | i c d =>
      obtain ⟨n1, n2⟩ := zero_ends hz oy
      exact InverseS_spec ht n1 n2
  have hs0 := hs
  have ht0 := ht
  obtain ⟨_, _, _, _, _, _, _, _, _, _, _, _, _, _, _, _, rfl, _⟩ := hs.sa
  obtain ⟨_, _, _, _, _, _, _, _, _, _, _, _, _, _, _, _, rfl, _⟩ := ht.sa
  cases hz : y.zero with
  | true =>
    rw [hz] at kZ
    show Spec _ _ _ _ NR (fail 10)
    refine Spec.go [] Tryz.func57 rfl rfl (by kernel_rfl) fun C _ => ?_
    try simp (maxSteps := 999999) (disch := omega) only [go_sem, Nat.reduceBEq, Nat.reduceAdd]
    refine caN (by exact kZ) ?_; rintro v1 h1 s1 rfl
    try simp (maxSteps := 999999) (disch := omega) only [go_sem, Nat.reduceBEq, Nat.reduceAdd]
    exact caF (by exact must_fail (by decide)) (fun _ _ h => h)
  | false =>
    rw [hz] at kZ
    show Spec _ _ _ _ (fun v h' => Sn h' v (x.prod y.inv)) NP
    have kI := fun {h} [Le h0 h] => kI hz (h := h)
    have gi : y.inv.void = false := by cases y with
      | e => cases gy
      | i c d => rfl
    refine Spec.go [] Tryz.func57 rfl rfl (by kernel_rfl) fun C _ => ?_
    try simp (maxSteps := 999999) (disch := omega) only [go_sem, Nat.reduceBEq, Nat.reduceAdd]
    refine caN (by exact kZ) ?_; rintro v1 h1 s1 rfl
    try simp (maxSteps := 999999) (disch := omega) only [go_sem, Nat.reduceBEq, Nat.reduceAdd]
    refine caN (by exact kI) ?_; rintro _ h2 _ q2; obtain ⟨_, _, _, _, _, _, _, _, _, _, _, _, _, _, _, _, rfl, q2⟩ := q2.sa
    try simp (maxSteps := 999999) (disch := omega) only [go_sem, Nat.reduceBEq, Nat.reduceAdd]
    refine caN (by exact Prod1 (hs0.to (h' := h2)) q2 gx gi lx (inv_le ly (by decide))) ?_; rintro _ h3 _ q3; obtain ⟨_, _, _, _, _, _, _, _, _, _, _, _, _, _, _, _, rfl, q3⟩ := q3.sa
    try simp (maxSteps := 999999) (disch := omega) only [go_sem, Nat.reduceBEq, Nat.reduceAdd]
    exact q3
theorem DivI_spec {h0 h : PH} [Le h0 h] {v w : Value} {x y : RI} {p : Int} (hv : Iv h0 v x) (hw : Iv h0 w y) : Spec mach 22 #[v, w, .int .i64 p] h (fun r h' => Ir h' r (x.fin2 y (rnd p x.set y.set (divO x.set y.set)))) NP := by
  have hv0 := hv
  have hw0 := hw
  obtain ⟨a1, m1, c1, a2, m2, c2, a3, m3, c3, a4, m4, c4, rfl, _, _⟩ := hv.sa
  obtain ⟨a1', m1', c1', a2', m2', c2', a3', m3', c3', a4', m4', c4', rfl, _, _⟩ := hw.sa
  have kL : x.big = false → y.big = false → ∀ z, divO x.set y.set = .ok z → z.le (2 ^ 30) := by
    intro g g' z e
    unfold divO at e
    cases hz : y.set.zero with
    | true => rw [hz] at e; cases e
    | false => rw [hz] at e; cases e; exact (prod_ok (RI.le g) (inv_le (RI.le g') (by decide))).2.up (by decide)
  refine Spec.go [] Tryz.func22 rfl rfl (by kernel_rfl) fun C _ => ?_
  try simp (maxSteps := 999999) (disch := omega) only [go_sem, Nat.reduceBEq, Nat.reduceAdd]
  refine caN (by exact rounded_spec hv0 hw0 (fun g g' k k' h' _ s t hs ht => Div1 hs.sn ht.sn k k' (RI.le g) (RI.le g') (RI.set_ok y)) kL) ?_; rintro _ h3 _ hr3; obtain ⟨_, _, _, _, _, _, _, _, _, _, _, _, _, _, _, _, _, rfl, hr3⟩ := hr3.sa
  try simp (maxSteps := 999999) (disch := omega) only [go_sem, Nat.reduceBEq, Nat.reduceAdd]
  exact hr3
end Go.Q
namespace Go.Q
def NS.hasP : NS → Pt → Bool
  | x, .fin q => x.has q
  | .i _ b, .inf true => b.isNone
  | .i a _, .inf false => a.isNone
  | .e, .inf _ => false
def cov (o : NS × Bool × Bool) : Pt → Bool
  | .fin q => o.1.has q
  | .inf true => o.2.2
  | .inf false => o.2.1
theorem has_joined_l {x y : NS} {q : Rat} (h : x.has q = true) : (x.joined y).has q = true := by
  cases x with
  | e => cases h
  | i a b =>
    cases y with
    | e => exact h
    | i c d =>
      show (NS.i (jmin a c) (jmax b d)).has q = true
      rw [NS.has_i] at h ⊢
      refine ⟨fun z e => ?_, fun z e => ?_⟩
      · cases a with
        | none => cases e
        | some a => cases c with
          | none => cases e
          | some c => cases e; have := h.1 _ rfl; grind
      · cases b with
        | none => cases e
        | some b => cases d with
          | none => cases e
          | some d => cases e; have := h.2 _ rfl; grind
theorem has_pt {q : Rat} : (NS.i (some q) (some q)).has q = true := by
  rw [NS.has_i]; exact ⟨fun _ e => by cases e; grind, fun _ e => by cases e; grind⟩
theorem cov_stp {o : NS × Bool × Bool} {z w : Pt} (h : cov o z = true) : cov (stp o w) z = true := by
  obtain ⟨s, l, u⟩ := o
  cases w with
  | fin p => cases z with
    | fin q => exact has_joined_l h
    | inf v => cases v <;> exact h
  | inf p => cases z with
    | fin q => cases p <;> exact h
    | inf v => cases v <;> cases p <;> first | exact h | rfl
theorem cov_new {o : NS × Bool × Bool} {z : Pt} : cov (stp o z) z = true := by
  obtain ⟨s, l, u⟩ := o
  cases z with
  | fin q => show (s.joined _).has q = true; rw [NS.joined_comm]; exact has_joined_l has_pt
  | inf v => cases v <;> rfl
theorem cov_fin3 {o : NS × Bool × Bool} {z : Pt} (h : cov o z = true) : (fin3 o).hasP z = true := by
  obtain ⟨s, l, u⟩ := o
  cases z with
  | inf v => cases v <;> (have h : _ = true := h; simp only [cov] at h; subst h; cases s <;> rfl)
  | fin q =>
    cases s with
    | e => cases h
    | i a b =>
      have k : (NS.i a b).has q = true := h
      show (NS.i _ _).has q = true
      rw [NS.has_i] at k ⊢
      refine ⟨fun z e => ?_, fun z e => ?_⟩
      · cases l with
        | true => cases e
        | false => exact k.1 _ e
      · cases u with
        | true => cases e
        | false => exact k.2 _ e
theorem prod_has {a b c d : Option Rat} {x y : Pt} (hx : x = lowP a ∨ x = highP b) (hy : y = lowP c ∨ y = highP d) : ((NS.i a b).prod (.i c d)).hasP (x.mul y) = true := by
  show (fin3 (stp (stp (stp (stp (.e, false, false) ((lowP a).mul (lowP c))) ((lowP a).mul (highP d))) ((highP b).mul (lowP c))) ((highP b).mul (highP d)))).hasP _ = true
  refine cov_fin3 ?_
  rcases hx with rfl | rfl <;> rcases hy with rfl | rfl
  · exact cov_stp (cov_stp (cov_stp cov_new))
  · exact cov_stp (cov_stp cov_new)
  · exact cov_stp cov_new
  · exact cov_new
theorem hasP_conv {p : NS} {q r s : Rat} (h1 : p.has q = true) (h2 : p.has r = true) (h3 : (q ≤ s ∧ s ≤ r) ∨ (r ≤ s ∧ s ≤ q)) : p.has s = true := by
  cases p with
  | e => cases h1
  | i a b =>
    rw [NS.has_i] at *
    refine ⟨fun z e => ?_, fun z e => ?_⟩
    · have := h1.1 z e; have := h2.1 z e; grind
    · have := h1.2 z e; have := h2.2 z e; grind
theorem mul_between {p l u q : Rat} (h1 : l ≤ q) (h2 : q ≤ u) : (p * l ≤ p * q ∧ p * q ≤ p * u) ∨ (p * u ≤ p * q ∧ p * q ≤ p * l) := by
  by_cases hp : 0 ≤ p
  · exact .inl ⟨Rat.mul_le_mul_of_nonneg_left h1 hp, Rat.mul_le_mul_of_nonneg_left h2 hp⟩
  · have hn : 0 ≤ -p := by grind
    have k1 := Rat.mul_le_mul_of_nonneg_left h1 hn
    have k2 := Rat.mul_le_mul_of_nonneg_left h2 hn
    right
    grind
theorem mul_in {p : NS} {e : Pt} {l u q : Rat} (h1 : l ≤ q) (h2 : q ≤ u) (k1 : p.hasP (e.mul (.fin l)) = true) (k2 : p.hasP (e.mul (.fin u)) = true) : p.hasP (e.mul (.fin q)) = true := by
  cases e with
  | fin r =>
    have k1 : p.has (r * l) = true := by cases p <;> exact k1
    have k2 : p.has (r * u) = true := by cases p <;> exact k2
    have := hasP_conv k1 k2 (mul_between (p := r) h1 h2)
    cases p <;> exact this
  | inf up =>
    simp only [Pt.mul] at k1 k2 ⊢
    by_cases hq : q = 0
    · rw [if_pos hq]
      by_cases hl : l = 0
      · rwa [if_pos hl] at k1
      · by_cases hu : u = 0
        · rwa [if_pos hu] at k2
        · rw [if_neg hl, decide_eq_false (by grind)] at k1
          rw [if_neg hu, decide_eq_true (by grind)] at k2
          cases p with
          | e => cases up <;> cases k1
          | i a b =>
            cases up with
            | true =>
              have j1 : a.isNone = true := k1
              have j2 : b.isNone = true := k2
              cases a <;> cases b <;> first | rfl | (cases j1; done) | (cases j2; done)
            | false =>
              have j1 : b.isNone = true := k1
              have j2 : a.isNone = true := k2
              cases a <;> cases b <;> first | rfl | (cases j1; done) | (cases j2; done)
    · rw [if_neg hq]
      by_cases hp : 0 < q
      · have hu : 0 < u := by grind
        rw [if_neg (by grind), decide_eq_true hu] at k2
        rw [decide_eq_true hp]; exact k2
      · have hl : ¬ 0 < l := by grind
        rw [if_neg (by grind), decide_eq_false hl] at k1
        rw [decide_eq_false hp]; exact k1
end Go.Q
namespace Go.Q
open Go.Proofs
open Go.RowKit (Below)
set_option maxRecDepth 100000
set_option maxHeartbeats 4000000
end Go.Q
namespace Go.Q
open Go.Proofs
set_option maxRecDepth 100000
set_option maxHeartbeats 4000000
theorem has_law {h0 h : PH} [Le h0 h] {v w : Value} {x : RI} {neg : Bool} {n d : Nat} (hv : Iv h0 v x) (hw : Rw h0 w neg n d) : Spec mach 9 #[v, w] h (fun r _ => r = .bool (!x.big && !decide (lg neg n d) && x.set.has (qof neg n d))) NP := by
  have hv0 := hv
  have hw0 := hw
  have kH := fun {h} [Le h0 h] => Has_spec (h := h) hv hw
  obtain ⟨a1, m1, c1, a2, m2, c2, a3, m3, c3, a4, m4, c4, rfl, _, _⟩ := hv.sa
  obtain ⟨_, _, _, _, _, _, _, rfl, _⟩ := hw.sa
  unfold hasO at kH
  obtain ⟨l, el⟩ : ∃ l, (x.big || decide (lg neg n d)) = l := ⟨_, rfl⟩
  have e1 : (!x.big && !decide (lg neg n d)) = !l := by rw [← el, Bool.not_or]
  rw [e1]
  rw [el] at kH
  clear el e1
  cases l with
  | true =>
    dsimp only [cond_true] at kH
    refine Spec.go [] Tryz.func9 rfl rfl (by kernel_rfl) fun C _ => ?_
    try simp (maxSteps := 999999) (disch := omega) only [go_sem, Nat.reduceBEq, Nat.reduceAdd]
    refine caN (by exact kH) ?_; rintro v1 h1 s1 q1; obtain rfl : v1 = .tuple #[.bool false, .int .i64 1] := q1
    try simp (maxSteps := 999999) (disch := omega) only [go_sem, Nat.reduceBEq, Nat.reduceAdd]
    all_goals rfl
  | false =>
    dsimp only [cond_false] at kH
    generalize x.set.has (qof neg n d) = hb at kH ⊢
    cases hb with
    | true =>
      refine Spec.go [] Tryz.func9 rfl rfl (by kernel_rfl) fun C _ => ?_
      try simp (maxSteps := 999999) (disch := omega) only [go_sem, Nat.reduceBEq, Nat.reduceAdd]
      refine caN (by exact kH) ?_; rintro v1 h1 s1 q1; obtain rfl : v1 = .tuple #[.bool true, .int .i64 0] := q1
      try simp (maxSteps := 999999) (disch := omega) only [go_sem, Nat.reduceBEq, Nat.reduceAdd]
      all_goals rfl
    | false =>
      refine Spec.go [] Tryz.func9 rfl rfl (by kernel_rfl) fun C _ => ?_
      try simp (maxSteps := 999999) (disch := omega) only [go_sem, Nat.reduceBEq, Nat.reduceAdd]
      refine caN (by exact kH) ?_; rintro v1 h1 s1 q1; obtain rfl : v1 = .tuple #[.bool false, .int .i64 0] := q1
      try simp (maxSteps := 999999) (disch := omega) only [go_sem, Nat.reduceBEq, Nat.reduceAdd]
      all_goals rfl
end Go.Q
namespace Go.Q
open Go.Proofs
set_option maxRecDepth 100000
set_option maxHeartbeats 4000000
def NS.size : NS → NS
  | .e => .e
  | .i a b => if 0 ≤ (NS.i a b).slo then .i a b else if (NS.i a b).shi ≤ 0 then (NS.i a b).minus else .i (some ((0 : Int) : Rat)) (jmax (a.map (-·)) b)
theorem NS.size_i {a b : Option Rat} : (NS.i a b).size = if 0 ≤ (NS.i a b).slo then .i a b else if (NS.i a b).shi ≤ 0 then (NS.i a b).minus else .i (some ((0 : Int) : Rat)) (jmax (a.map (-·)) b) := rfl
theorem NS.le.size {x : NS} {k : Nat} (hk : 1 ≤ k) (h : x.le k) : x.size.le k := by
  cases x with
  | e => exact h
  | i a b =>
    rw [NS.size_i]
    split
    · exact h
    · split
      · exact h.minus
      · rw [NS.le_i] at h ⊢
        refine ⟨fun q e => ?_, fun q e => ?_⟩
        · cases e; exact Nat.le_trans (by decide) hk
        · cases a with
          | none => cases e
          | some a =>
            cases b with
            | none => cases e
            | some b => cases e; exact sz_max (by rw [sz_neg]; exact h.1 _ rfl) (h.2 _ rfl)
theorem NS.ok_size {x : NS} (hx : x.ok) : x.size.ok := by
  cases x with
  | e => exact hx
  | i a b =>
    rw [NS.size_i]
    split
    · exact hx
    · split
      · exact NS.ok_minus hx
      · rename_i h1 h2
        cases a with
        | none => rfl
        | some a =>
          cases b with
          | none => rfl
          | some b =>
            have h3 : 0 < b := by
              have h2 : ¬ sgn3 b ≤ 0 := h2
              unfold sgn3 at h2; grind
            have h4 : ¬ max (-a) b < ((0 : Int) : Rat) := by
              have : ((0 : Int) : Rat) = 0 := rfl
              rw [this]; grind
            show (!decide (max (-a) b < ((0 : Int) : Rat))) = true
            rw [decide_eq_false h4]; rfl
def NS.fin : NS → Bool
  | .e => true
  | .i a b => !a.isNone && !b.isNone
def RI.bo (x : RI) (b : Bool) : Except Int Bool := bif x.big then .error 1 else .ok b
theorem IsEmpty1 {h0 h : PH} [Le h0 h] {v : Value} {x : RI} {b1 : Nat} {cs : List Value} (hv : Iv h0 v x) (hc : v = .agg cs.toArray) (hl : cs.length = 8) (hb1 : h b1 = some cs.toArray) :
    Bd 44 #[.pointer (some ⟨b1, 0, none⟩)] h (x.bo x.set.void) := by
  subst hc
  unfold RI.bo
  cases g : x.big with
  | true =>
    dsimp only [cond_true]
    refine Spec.enter (args := [_]) (n := 5) Tryz.func44 rfl (by kernel_rfl) rfl (by simp) [.tmp 1] rfl (fun C _ => ?_)
    repeat (first | (refine wo rfl (fun k hk => ?_); simp (disch := omega) only [go_sem, Nat.reduceBEq, Nat.reduceAdd]; refine hk _ _ ?_; clear hk k) | refine wkt rfl ?_ | refine wk0 ?_ | refine rg rfl rfl (fun K hK => ?_) | ((first | refine AWP_exit ?_ | refine AWP_skip ?_); simp (disch := decide) only [qs, qb, if_true, if_false, reduceIte]) | refine AWP_sq rfl (fun K hK => ?_) | refine ct rfl ?_ | ((try simp (disch := omega) only [go_sem, Nat.reduceBEq, Nat.reduceAdd]); (first | apply hK | (clear hK; apply hK) | (clear hK; clear hK; apply hK)); clear hK; (try clear K); (try dsimp only [behind, qs, qb])))
    refine wk (fun k hk => ?_); simp (disch := omega) only [go_sem, Nat.reduceBEq, Nat.reduceAdd]; refine ⟨cs, hl, at_row hb1, ?_⟩; refine hk _ _ ?_; clear hk k; (repeat (first | (refine wo rfl (fun k hk => ?_); simp (disch := omega) only [go_sem, Nat.reduceBEq, Nat.reduceAdd]; refine hk _ _ ?_; clear hk k) | refine wkt rfl ?_)); (try refine wk0 ?_)
    exact cF rfl rfl rfl rfl (by exact Read_fail' hv g) (fun _ _ h => h)
  | false =>
    dsimp only [cond_false]
    have kR := fun {h} [Le h0 h] => Read_set (h := h) hv g
    generalize x.set = s at *
    cases s with
    | e =>
      refine Spec.enter (args := [_]) (n := 5) Tryz.func44 rfl (by kernel_rfl) rfl (by simp) [.tmp 1] rfl (fun C _ => ?_)
      repeat (first | (refine wo rfl (fun k hk => ?_); simp (disch := omega) only [go_sem, Nat.reduceBEq, Nat.reduceAdd]; refine hk _ _ ?_; clear hk k) | refine wkt rfl ?_ | refine wk0 ?_ | refine rg rfl rfl (fun K hK => ?_) | ((first | refine AWP_exit ?_ | refine AWP_skip ?_); simp (disch := decide) only [qs, qb, if_true, if_false, reduceIte]) | refine AWP_sq rfl (fun K hK => ?_) | refine ct rfl ?_ | ((try simp (disch := omega) only [go_sem, Nat.reduceBEq, Nat.reduceAdd]); (first | apply hK | (clear hK; apply hK) | (clear hK; clear hK; apply hK)); clear hK; (try clear K); (try dsimp only [behind, qs, qb])))
      refine wk (fun k hk => ?_); simp (disch := omega) only [go_sem, Nat.reduceBEq, Nat.reduceAdd]; refine ⟨cs, hl, at_row hb1, ?_⟩; refine hk _ _ ?_; clear hk k; (repeat (first | (refine wo rfl (fun k hk => ?_); simp (disch := omega) only [go_sem, Nat.reduceBEq, Nat.reduceAdd]; refine hk _ _ ?_; clear hk k) | refine wkt rfl ?_)); (try refine wk0 ?_)
      refine cN rfl rfl rfl rfl (by exact kR) ?_; rintro s1 h1 st1 hs1; obtain ⟨_, _, _, _, _, _, _, _, _, _, _, _, _, _, _, _, rfl, hs1⟩ := hs1.ee
      repeat (first | (refine wo rfl (fun k hk => ?_); simp (disch := omega) only [go_sem, Nat.reduceBEq, Nat.reduceAdd]; refine hk _ _ ?_; clear hk k) | refine wkt rfl ?_ | refine wk0 ?_ | refine rg rfl rfl (fun K hK => ?_) | ((first | refine AWP_exit ?_ | refine AWP_skip ?_); simp (disch := decide) only [qs, qb, if_true, if_false, reduceIte]) | refine AWP_sq rfl (fun K hK => ?_) | refine ct rfl ?_ | ((try simp (disch := omega) only [go_sem, Nat.reduceBEq, Nat.reduceAdd]); (first | apply hK | (clear hK; apply hK) | (clear hK; clear hK; apply hK)); clear hK; (try clear K); (try dsimp only [behind, qs, qb])))
      refine AWP_ret ?_; simp (disch := omega) only [go_sem, Nat.reduceBEq, Nat.reduceAdd]
      all_goals rfl
    | i a b =>
      have kR := fun {h} [Le h0 h] => (kR (h := h)).mono (R' := fun v h' => Sn h' v (.i a b)) (E' := NP) (fun _ _ _ k => k) (fun _ _ _ k => k)
      cases a <;> cases b <;>
      · refine Spec.enter (args := [_]) (n := 5) Tryz.func44 rfl (by kernel_rfl) rfl (by simp) [.tmp 1] rfl (fun C _ => ?_)
        repeat (first | (refine wo rfl (fun k hk => ?_); simp (disch := omega) only [go_sem, Nat.reduceBEq, Nat.reduceAdd]; refine hk _ _ ?_; clear hk k) | refine wkt rfl ?_ | refine wk0 ?_ | refine rg rfl rfl (fun K hK => ?_) | ((first | refine AWP_exit ?_ | refine AWP_skip ?_); simp (disch := decide) only [qs, qb, if_true, if_false, reduceIte]) | refine AWP_sq rfl (fun K hK => ?_) | refine ct rfl ?_ | ((try simp (disch := omega) only [go_sem, Nat.reduceBEq, Nat.reduceAdd]); (first | apply hK | (clear hK; apply hK) | (clear hK; clear hK; apply hK)); clear hK; (try clear K); (try dsimp only [behind, qs, qb])))
        refine wk (fun k hk => ?_); simp (disch := omega) only [go_sem, Nat.reduceBEq, Nat.reduceAdd]; refine ⟨cs, hl, at_row hb1, ?_⟩; refine hk _ _ ?_; clear hk k; (repeat (first | (refine wo rfl (fun k hk => ?_); simp (disch := omega) only [go_sem, Nat.reduceBEq, Nat.reduceAdd]; refine hk _ _ ?_; clear hk k) | refine wkt rfl ?_)); (try refine wk0 ?_)
        refine cN rfl rfl rfl rfl (by exact kR) ?_; rintro s1 h1 st1 hs1; obtain ⟨_, _, _, _, _, _, _, _, _, _, _, _, _, _, rfl, e1, e2⟩ := hs1.ie; (repeat (first | (refine wo rfl (fun k hk => ?_); simp (disch := omega) only [go_sem, Nat.reduceBEq, Nat.reduceAdd]; refine hk _ _ ?_; clear hk k) | refine wkt rfl ?_)); (try refine wk0 ?_)
        (try (simp (disch := omega) only [go_sem, Nat.reduceBEq, Nat.reduceAdd])); refine hK _ _ ?_; clear hK; (try clear K); (try dsimp only [behind, qs])
        dsimp only [Option.isNone]
        repeat (first | (refine wo rfl (fun k hk => ?_); simp (disch := omega) only [go_sem, Nat.reduceBEq, Nat.reduceAdd]; refine hk _ _ ?_; clear hk k) | refine wkt rfl ?_ | refine wk0 ?_ | refine rg rfl rfl (fun K hK => ?_) | ((first | refine AWP_exit ?_ | refine AWP_skip ?_); simp (disch := decide) only [qs, qb, if_true, if_false, reduceIte]) | refine AWP_sq rfl (fun K hK => ?_) | refine ct rfl ?_ | ((try simp (disch := omega) only [go_sem, Nat.reduceBEq, Nat.reduceAdd]); (first | apply hK | (clear hK; apply hK) | (clear hK; clear hK; apply hK)); clear hK; (try clear K); (try dsimp only [behind, qs, qb])))
        refine AWP_ret ?_; simp (disch := omega) only [go_sem, Nat.reduceBEq, Nat.reduceAdd]
        all_goals rfl
theorem IsEmpty_spec {h0 h : PH} [Le h0 h] {v : Value} {x : RI} (hv : Iv h0 v x) : Spec mach 15 #[v] h (fun r _ => Br r (x.bo x.set.void)) NP := by
  have hv0 := hv
  obtain ⟨a1, m1, c1, a2, m2, c2, a3, m3, c3, a4, m4, c4, rfl, _, _⟩ := hv.sa
  refine Spec.enter (args := [_]) (n := 8) Tryz.func15 rfl (by kernel_rfl) rfl (by simp) [.tmp 2, .tmp 3] rfl (fun C _ => ?_)
  repeat (first | (refine rg rfl rfl (fun K hK => ?_); (repeat (first | (refine wo rfl (fun k hk => ?_); simp (disch := omega) only [go_sem, Nat.reduceBEq, Nat.reduceAdd]; refine hk _ _ ?_; clear hk k) | refine wkt rfl ?_)); (try refine wk0 ?_); refine hK _ _ ?_; clear hK K; (try dsimp only [behind, qs, qb])) | ((first | refine AWP_exit ?_ | refine AWP_skip ?_); simp (disch := decide) only [qs, qb, if_true, if_false, reduceIte]) | refine AWP_sq rfl (fun K hK => ?_) | refine ct rfl ?_ | ((first | refine hK _ _ ?_ | (clear hK; refine hK _ _ ?_) | (clear hK; clear hK; refine hK _ _ ?_)); clear hK; (try clear K)))
  refine AWP_rsp [.p 0, .o 0, .o 1, .o 2, .o 3, .o 4, .o 5] rfl rfl (fun K hK => ?_); (repeat (first | (refine wo rfl (fun k hk => ?_); simp (disch := omega) only [go_sem, Nat.reduceBEq, Nat.reduceAdd]; refine hk _ _ ?_; clear hk k) | refine wkt rfl ?_)); (try refine wk0 ?_)
  refine wkp ?_; simp (disch := omega) only [go_sem, Nat.reduceBEq, Nat.reduceAdd]; intro b1 h1 st1 hb1; (repeat (first | (refine wo rfl (fun k hk => ?_); simp (disch := omega) only [go_sem, Nat.reduceBEq, Nat.reduceAdd]; refine hk _ _ ?_; clear hk k) | refine wkt rfl ?_)); (try refine wk0 ?_)
  have hb1 := hb1 (by simp)
  refine cN rfl rfl rfl rfl (by exact tryB_any (IsEmpty1 (hv0.to (h' := h1)) rfl rfl hb1)) ?_; rintro r3 h3 st3 hr3; obtain ⟨_, _, rfl, hr3⟩ := hr3.sa; (repeat (first | (refine wo rfl (fun k hk => ?_); simp (disch := omega) only [go_sem, Nat.reduceBEq, Nat.reduceAdd]; refine hk _ _ ?_; clear hk k) | refine wkt rfl ?_)); (try refine wk0 ?_)
  (try (simp (disch := omega) only [go_sem, Nat.reduceBEq, Nat.reduceAdd])); refine hK _ _ ?_; clear hK; (try clear K); (try dsimp only [behind, qs])
  refine AWP_ret ?_; simp (disch := omega) only [go_sem, Nat.reduceBEq, Nat.reduceAdd]
  exact hr3
end Go.Q
namespace Go.Q
def NS.powr (n : Nat) : NS → NS
  | .e => .e
  | .i a b => .i (a.map (· ^ n)) (b.map (· ^ n))
def NS.pow (n : Nat) : NS → NS
  | .e => .e
  | .i a b => if n = 0 then .i (some ((1 : Int) : Rat)) (some ((1 : Int) : Rat)) else if n % 2 = 0 then (NS.i a b).size.powr n else (NS.i a b).powr n
theorem NS.powr_le {x : NS} {n k : Nat} (h : x.le k) : (x.powr n).le (n * k + 1) := by
  cases x with
  | e => exact h
  | i a b =>
    rw [NS.le_i] at h
    show NS.le _ (.i _ _)
    rw [NS.le_i]
    refine ⟨fun q e => ?_, fun q e => ?_⟩
    · cases a with
      | none => cases e
      | some a =>
        cases e
        have h1 := sz_pow a n
        have := Nat.mul_le_mul_left n (h.1 a rfl)
        exact Nat.le_trans h1 (by omega)
    · cases b with
      | none => cases e
      | some b =>
        cases e
        have h1 := sz_pow b n
        have := Nat.mul_le_mul_left n (h.2 b rfl)
        exact Nat.le_trans h1 (by omega)
theorem NS.pow_le {x : NS} {n k : Nat} (h : x.le k) (hk : 1 ≤ k) : (x.pow n).le (n * k + 1) := by
  cases x with
  | e => exact h
  | i a b =>
    show NS.le _ (if n = 0 then _ else if n % 2 = 0 then _ else _)
    split
    · rw [NS.le_i]
      have : sz ((1 : Int) : Rat) ≤ n * k + 1 := Nat.le_trans (by decide) (Nat.le_add_left 1 _)
      exact ⟨fun q e => by cases e; exact this, fun q e => by cases e; exact this⟩
    · split
      · exact NS.powr_le (NS.le.size hk h)
      · exact NS.powr_le h
theorem NS.size_low {x : NS} {a b : Option Rat} (hx : x.ok) (h : x.size = .i a b) : ∃ p, a = some p ∧ 0 ≤ p := by
  have sg : ∀ {q : Rat}, 0 ≤ sgn3 q → 0 ≤ q := fun {q} k => by unfold sgn3 at k; grind
  have sg' : ∀ {q : Rat}, sgn3 q ≤ 0 → q ≤ 0 := fun {q} k => by unfold sgn3 at k; grind
  cases x with
  | e => cases h
  | i c d =>
    rw [NS.size_i] at h
    split at h
    · rename_i h1
      cases h
      cases a with
      | none => exact absurd h1 (by show ¬ (0 : Int) ≤ -1; decide)
      | some a => exact ⟨a, rfl, sg h1⟩
    · split at h
      · rename_i h1
        cases d with
        | none => exact absurd h1 (by show ¬ (1 : Int) ≤ 0; decide)
        | some d =>
          have h2 := sg' (show sgn3 d ≤ 0 from h1)
          cases h
          exact ⟨-d, rfl, by grind⟩
      · cases h
        exact ⟨_, rfl, by decide⟩
theorem NS.ok_powr {x : NS} {n : Nat} (hx : x.ok) (hn : n % 2 = 1 ∨ ∀ a b, x = .i a b → ∃ p, a = some p ∧ 0 ≤ p) : (x.powr n).ok := by
  cases x with
  | e => trivial
  | i a b =>
    show ordO _ _ = true
    cases a with
    | none => rfl
    | some a => cases b with
      | none => rfl
      | some b =>
        have h0 : ¬ b < a := by simpa [NS.ok, ordO] using hx
        have h1 : a ^ n ≤ b ^ n := by
          rcases hn with k | k
          · exact rpow_odd k (by grind)
          · obtain ⟨p, e, hp⟩ := k _ _ rfl
            cases e
            exact rpow_mono n hp (by grind)
        have h2 : ¬ b ^ n < a ^ n := by grind
        simp [ordO, h2]
theorem NS.ok_pow {x : NS} {n : Nat} (hx : x.ok) : (x.pow n).ok := by
  cases x with
  | e => trivial
  | i a b =>
    show NS.ok (if n = 0 then _ else if n % 2 = 0 then _ else _)
    split
    · show ordO _ _ = true
      simp [ordO]
    · split
      · exact NS.ok_powr (NS.ok_size hx) (.inr fun c d e => NS.size_low hx e)
      · exact NS.ok_powr hx (.inl (by omega))
end Go.Q
namespace Go.Q
theorem hasP_fin {p : NS} {q : Rat} : p.hasP (.fin q) = p.has q := by cases p <;> rfl
theorem hasP_e {z : Pt} : NS.e.hasP z = false := by
  cases z with
  | fin q => rfl
  | inf v => cases v <;> rfl
theorem mulr_le {p q u : Rat} (hp : 0 ≤ p) (h : q ≤ u) : p * q ≤ p * u := Rat.mul_le_mul_of_nonneg_left h hp
theorem mulr_ge {p q u : Rat} (hp : p ≤ 0) (h : q ≤ u) : p * u ≤ p * q := by
  have := Rat.mul_le_mul_of_nonneg_left h (show 0 ≤ -p by grind)
  grind
theorem hasP_le {p : NS} {q r : Rat} (h : p.hasP (.inf false) = true) (h1 : p.has q = true) (hr : r ≤ q) : p.has r = true := by
  cases p with
  | e => cases h1
  | i a b =>
    cases a with
    | some a => cases h
    | none =>
      rw [NS.has_i] at *
      exact ⟨fun z e => (by cases e), fun z e => Rat.le_trans hr (h1.2 z e)⟩
theorem hasP_ge {p : NS} {q r : Rat} (h : p.hasP (.inf true) = true) (h1 : p.has q = true) (hr : q ≤ r) : p.has r = true := by
  cases p with
  | e => cases h1
  | i a b =>
    cases b with
    | some b => cases h
    | none =>
      rw [NS.has_i] at *
      exact ⟨fun z e => Rat.le_trans (h1.1 z e) hr, fun z e => (by cases e)⟩
theorem hasP_all {p : NS} (h : p.hasP (.inf false) = true) (h1 : p.hasP (.inf true) = true) (q : Rat) : p.has q = true := by
  cases p with
  | e => cases h
  | i a b =>
    cases a with
    | some a => cases h
    | none => cases b with
      | some b => cases h1
      | none => rfl
theorem mul_inP {p : NS} {e : Pt} {c d : Option Rat} {q : Rat} (hq : (NS.i c d).has q = true) (k1 : p.hasP (e.mul (lowP c)) = true) (k2 : p.hasP (e.mul (highP d)) = true) : p.hasP (e.mul (.fin q)) = true := by
  rw [NS.has_i] at hq
  cases c with
  | some c =>
    cases d with
    | some d => exact mul_in (hq.1 _ rfl) (hq.2 _ rfl) k1 k2
    | none =>
      have hc : c ≤ q := hq.1 _ rfl
      cases e with
      | fin r =>
        have k1 : p.has (r * c) = true := by rw [← hasP_fin]; exact k1
        have k2 : p.hasP (if r = 0 then .fin 0 else .inf (true == decide (0 < r))) = true := k2
        show p.hasP (.fin (r * q)) = true
        rw [hasP_fin]
        by_cases hr : r = 0
        · subst hr; rw [Rat.zero_mul] at k1 ⊢; exact k1
        · rw [if_neg hr] at k2
          by_cases hp : 0 < r
          · rw [decide_eq_true hp] at k2
            exact hasP_ge k2 k1 (mulr_le (by grind) hc)
          · rw [decide_eq_false hp] at k2
            exact hasP_le k2 k1 (mulr_ge (by grind) hc)
      | inf v =>
        have k2 : p.hasP (.inf (v == true)) = true := k2
        have k1 : p.hasP (if c = 0 then .fin 0 else .inf (v == decide (0 < c))) = true := k1
        show p.hasP (if q = 0 then .fin 0 else .inf (v == decide (0 < q))) = true
        by_cases h0 : q = 0
        · rw [if_pos h0]
          by_cases c0 : c = 0
          · rwa [if_pos c0] at k1
          · rw [if_neg c0, decide_eq_false (by grind)] at k1
            rw [hasP_fin]
            cases v
            · exact hasP_all k2 k1 0
            · exact hasP_all k1 k2 0
        · rw [if_neg h0]
          by_cases hp : 0 < q
          · rw [decide_eq_true hp]; exact k2
          · rw [decide_eq_false hp]
            rw [if_neg (by grind), decide_eq_false (by grind)] at k1
            exact k1
  | none =>
    cases d with
    | some d =>
      have hd : q ≤ d := hq.2 _ rfl
      cases e with
      | fin r =>
        have k2 : p.has (r * d) = true := by rw [← hasP_fin]; exact k2
        have k1 : p.hasP (if r = 0 then .fin 0 else .inf (false == decide (0 < r))) = true := k1
        show p.hasP (.fin (r * q)) = true
        rw [hasP_fin]
        by_cases hr : r = 0
        · subst hr; rw [Rat.zero_mul] at k2 ⊢; exact k2
        · rw [if_neg hr] at k1
          by_cases hp : 0 < r
          · rw [decide_eq_true hp] at k1
            exact hasP_le k1 k2 (mulr_le (by grind) hd)
          · rw [decide_eq_false hp] at k1
            exact hasP_ge k1 k2 (mulr_ge (by grind) hd)
      | inf v =>
        have k1 : p.hasP (.inf (v == false)) = true := k1
        have k2 : p.hasP (if d = 0 then .fin 0 else .inf (v == decide (0 < d))) = true := k2
        show p.hasP (if q = 0 then .fin 0 else .inf (v == decide (0 < q))) = true
        by_cases h0 : q = 0
        · rw [if_pos h0]
          by_cases d0 : d = 0
          · rwa [if_pos d0] at k2
          · rw [if_neg d0, decide_eq_true (by grind)] at k2
            rw [hasP_fin]
            cases v
            · exact hasP_all k2 k1 0
            · exact hasP_all k1 k2 0
        · rw [if_neg h0]
          by_cases hp : 0 < q
          · rw [decide_eq_true hp]
            rw [if_neg (by grind), decide_eq_true (by grind)] at k2
            exact k2
          · rw [decide_eq_false hp]; exact k1
    | none =>
      cases e with
      | fin r =>
        have k1 : p.hasP (if r = 0 then .fin 0 else .inf (false == decide (0 < r))) = true := k1
        have k2 : p.hasP (if r = 0 then .fin 0 else .inf (true == decide (0 < r))) = true := k2
        show p.hasP (.fin (r * q)) = true
        by_cases hr : r = 0
        · rw [if_pos hr] at k1; subst hr; rw [Rat.zero_mul]; exact k1
        · rw [if_neg hr] at k1 k2
          rw [hasP_fin]
          cases hp : decide (0 < r) <;> rw [hp] at k1 k2
          · exact hasP_all k2 k1 _
          · exact hasP_all k1 k2 _
      | inf v =>
        have k1 : p.hasP (.inf (v == false)) = true := k1
        have k2 : p.hasP (.inf (v == true)) = true := k2
        show p.hasP (if q = 0 then .fin 0 else .inf (v == decide (0 < q))) = true
        split
        · rw [hasP_fin]
          cases v
          · exact hasP_all k2 k1 0
          · exact hasP_all k1 k2 0
        · cases decide (0 < q)
          · exact k1
          · exact k2
theorem hasP_end {c d : Option Rat} {z : Pt} (h : (NS.i c d).hasP z = true) : z = lowP c ∨ z = highP d ∨ ∃ q, z = .fin q ∧ (NS.i c d).has q = true := by
  cases z with
  | fin q => exact .inr (.inr ⟨q, rfl, h⟩)
  | inf v => cases v with
    | false => cases c with
      | none => exact .inl rfl
      | some c => cases h
    | true => cases d with
      | none => exact .inr (.inl rfl)
      | some d => cases h
theorem mul_inP' {p : NS} {e z : Pt} {c d : Option Rat} (hz : (NS.i c d).hasP z = true) (k1 : p.hasP (e.mul (lowP c)) = true) (k2 : p.hasP (e.mul (highP d)) = true) : p.hasP (e.mul z) = true := by
  rcases hasP_end hz with rfl | rfl | ⟨q, rfl, hq⟩
  · exact k1
  · exact k2
  · exact mul_inP hq k1 k2
theorem prod_memP {x y : NS} {z w : Pt} (hz : x.hasP z = true) (hw : y.hasP w = true) : (x.prod y).hasP (z.mul w) = true := by
  cases x with
  | e => rw [hasP_e] at hz; cases hz
  | i a b =>
    cases y with
    | e => rw [hasP_e] at hw; cases hw
    | i c d =>
      have k1 := mul_inP' hw (prod_has (a := a) (b := b) (x := lowP a) (.inl rfl) (.inl rfl)) (prod_has (a := a) (b := b) (x := lowP a) (.inl rfl) (.inr rfl))
      have k2 := mul_inP' hw (prod_has (a := a) (b := b) (x := highP b) (.inr rfl) (.inl rfl)) (prod_has (a := a) (b := b) (x := highP b) (.inr rfl) (.inr rfl))
      rw [Pt.mul_comm] at k1 k2 ⊢
      exact mul_inP' hz k1 k2
theorem prod_mem {x y : NS} {p q : Rat} (hp : x.has p = true) (hq : y.has q = true) : (x.prod y).has (p * q) = true := by
  have := prod_memP (z := .fin p) (w := .fin q) (by rw [hasP_fin]; exact hp) (by rw [hasP_fin]; exact hq)
  rwa [← hasP_fin]
end Go.Q
namespace Go.Q
theorem inv_pos' {q : Rat} (h : 0 < q) : 0 < q⁻¹ := by
  have h1 : q * q⁻¹ = 1 := Rat.mul_inv_cancel q (by grind)
  rcases (Rat.le_total : q⁻¹ ≤ 0 ∨ 0 ≤ q⁻¹) with k | k
  · have := Rat.mul_le_mul_of_nonneg_left k (show 0 ≤ q by grind)
    grind
  · by_cases h0 : q⁻¹ = 0
    · rw [h0] at h1; grind
    · grind
theorem inv_neg' {q : Rat} (h : q < 0) : q⁻¹ < 0 := by
  have h1 : q * q⁻¹ = 1 := Rat.mul_inv_cancel q (by grind)
  rcases (Rat.le_total : 0 ≤ q⁻¹ ∨ q⁻¹ ≤ 0) with k | k
  · have := Rat.mul_le_mul_of_nonneg_left k (show 0 ≤ -q by grind)
    grind
  · by_cases h0 : q⁻¹ = 0
    · rw [h0] at h1; grind
    · grind
theorem inv_anti {c d : Rat} (h : c ≤ d) (hs : 0 < c ∨ d < 0) : d⁻¹ ≤ c⁻¹ := by
  have hc : c * c⁻¹ = 1 := Rat.mul_inv_cancel c (by grind)
  have hd : d * d⁻¹ = 1 := Rat.mul_inv_cancel d (by grind)
  have hn : 0 ≤ c⁻¹ * d⁻¹ := by
    rcases hs with k | k
    · have h1 := inv_pos' k
      have h2 := inv_pos' (show 0 < d by grind)
      have := Rat.mul_le_mul_of_nonneg_left (show 0 ≤ d⁻¹ by grind) (show 0 ≤ c⁻¹ by grind)
      grind
    · have h1 := inv_neg' k
      have h2 := inv_neg' (show c < 0 by grind)
      have := Rat.mul_le_mul_of_nonneg_left (show 0 ≤ -d⁻¹ by grind) (show 0 ≤ -c⁻¹ by grind)
      grind
  have h3 := Rat.mul_le_mul_of_nonneg_left h hn
  have e1 : c⁻¹ * d⁻¹ * c = d⁻¹ := by
    have : c⁻¹ * d⁻¹ * c = (c * c⁻¹) * d⁻¹ := by grind
    rw [this, hc, Rat.one_mul]
  have e2 : c⁻¹ * d⁻¹ * d = c⁻¹ := by
    have : c⁻¹ * d⁻¹ * d = (d * d⁻¹) * c⁻¹ := by grind
    rw [this, hd, Rat.one_mul]
  rwa [e1, e2] at h3
theorem inv_ord {c d : Option Rat} (hz : (NS.i c d).zero = false) (ho : (NS.i c d).ok) : invO d ≤ invO c := by
  have h1 : ¬ ((NS.i c d).slo ≤ 0 ∧ 0 ≤ (NS.i c d).shi) := by
    intro k
    simp [NS.zero, NS.void, k.1, k.2] at hz
  have z0 : ((0 : Int) : Rat) = 0 := rfl
  cases c with
  | none =>
    cases d with
    | none => exact (h1 ⟨by decide, by decide⟩).elim
    | some d =>
      have h2 : ¬ 0 ≤ sgn3 d := fun k => h1 ⟨by show (-1 : Int) ≤ 0; decide, k⟩
      have h3 : d < 0 := by unfold sgn3 at h2; grind
      have := inv_neg' h3
      show d⁻¹ ≤ ((0 : Int) : Rat)
      grind
  | some c =>
    cases d with
    | none =>
      have h2 : ¬ sgn3 c ≤ 0 := fun k => h1 ⟨k, by show (0 : Int) ≤ 1; decide⟩
      have h3 : 0 < c := by unfold sgn3 at h2; grind
      have := inv_pos' h3
      show ((0 : Int) : Rat) ≤ c⁻¹
      grind
    | some d =>
      have h2 : ¬ (sgn3 c ≤ 0 ∧ 0 ≤ sgn3 d) := h1
      have h3 : ¬ d < c := by simpa [NS.ok, ordO] using ho
      have h4 : 0 < c ∨ d < 0 := by unfold sgn3 at h2; grind
      exact inv_anti (by grind) h4
end Go.Q
namespace Go.Q
theorem within_i {a b c d : Option Rat} : (NS.i a b).within (.i c d) = true ↔ NS.lowIn c a = true ∧ NS.highIn d b = true := by
  show (NS.lowIn c a && NS.highIn d b) = true ↔ _
  rw [Bool.and_eq_true]
theorem low_iff {c a : Option Rat} : NS.lowIn c a = true ↔ ∀ z, c = some z → ∃ w, a = some w ∧ z ≤ w := by
  cases c with
  | none => exact ⟨fun _ z e => (by cases e), fun _ => rfl⟩
  | some c =>
    cases a with
    | none => exact ⟨fun h => (by cases h), fun h => by obtain ⟨w, e, _⟩ := h c rfl; cases e⟩
    | some a =>
      constructor
      · intro h z e
        cases e
        exact ⟨a, rfl, by have : ¬ a < c := by simpa [NS.lowIn] using h
                          grind⟩
      · intro h
        obtain ⟨w, e, k⟩ := h c rfl
        cases e
        have : ¬ a < c := by grind
        simp [NS.lowIn, this]
theorem high_iff {d b : Option Rat} : NS.highIn d b = true ↔ ∀ z, d = some z → ∃ w, b = some w ∧ w ≤ z := by
  cases d with
  | none => exact ⟨fun _ z e => (by cases e), fun _ => rfl⟩
  | some d =>
    cases b with
    | none => exact ⟨fun h => (by cases h), fun h => by obtain ⟨w, e, _⟩ := h d rfl; cases e⟩
    | some b =>
      constructor
      · intro h z e
        cases e
        exact ⟨b, rfl, by have : ¬ d < b := by simpa [NS.highIn] using h
                          grind⟩
      · intro h
        obtain ⟨w, e, k⟩ := h d rfl
        cases e
        have : ¬ d < b := by grind
        simp [NS.highIn, this]
theorem zero_has {x : NS} : x.has 0 = x.zero := by
  have k1 : ∀ q : Rat, (!decide ((0 : Rat) < q)) = decide (sgn3 q ≤ 0) := fun q => by unfold sgn3; by_cases h : (0 : Rat) < q <;> simp [h] <;> grind
  have k2 : ∀ q : Rat, (!decide (q < (0 : Rat))) = decide (0 ≤ sgn3 q) := fun q => by unfold sgn3; by_cases h : q < (0 : Rat) <;> simp [h] <;> grind
  cases x with
  | e => rfl
  | i a b =>
    cases a <;> cases b <;> simp [NS.has, NS.zero, NS.void, NS.slo, NS.shi, k1, k2] <;> rfl
theorem zero_iso {x y : NS} (hx : x.ok) (h : x.within y = true) (hz : y.zero = false) : x.zero = false := by
  rw [← zero_has] at hz ⊢
  cases hx0 : x.has 0 with
  | false => rfl
  | true => rw [(NS.within_iff hx).1 h 0 hx0] at hz; cases hz
end Go.Q
namespace Go.Q
theorem sg_nn {q : Rat} : 0 ≤ sgn3 q ↔ 0 ≤ q := by unfold sgn3; grind
theorem sg_np {q : Rat} : sgn3 q ≤ 0 ↔ q ≤ 0 := by unfold sgn3; grind
theorem size_cases {a b : Option Rat} (hx : (NS.i a b).ok) :
    (∃ p, a = some p ∧ 0 ≤ p ∧ (NS.i a b).size = .i a b) ∨ (∃ q, b = some q ∧ q ≤ 0 ∧ (NS.i a b).size = (NS.i a b).minus) ∨
      ((∀ p, a = some p → p < 0) ∧ (∀ q, b = some q → 0 < q) ∧ (NS.i a b).size = .i (some ((0 : Int) : Rat)) (jmax (a.map (-·)) b)) := by
  rw [NS.size_i]
  by_cases h1 : 0 ≤ (NS.i a b).slo
  · rw [if_pos h1]
    cases a with
    | none => exact absurd h1 (by show ¬ (0 : Int) ≤ -1; decide)
    | some a => exact .inl ⟨a, rfl, sg_nn.1 h1, rfl⟩
  · rw [if_neg h1]
    by_cases h2 : (NS.i a b).shi ≤ 0
    · rw [if_pos h2]
      cases b with
      | none => exact absurd h2 (by show ¬ (1 : Int) ≤ 0; decide)
      | some b => exact .inr (.inl ⟨b, rfl, sg_np.1 h2, rfl⟩)
    · rw [if_neg h2]
      refine .inr (.inr ⟨fun p e => ?_, fun q e => ?_, rfl⟩)
      · subst e
        have : ¬ 0 ≤ p := fun k => h1 (sg_nn.2 k)
        grind
      · subst e
        have : ¬ q ≤ 0 := fun k => h2 (sg_np.2 k)
        grind
end Go.Q
namespace Go.Q
open Go.Proofs
set_option maxRecDepth 100000
set_option maxHeartbeats 8000000
theorem rzero_pow {n : Nat} (hn : n ≠ 0) : ((0 : Int) : Rat) ^ n = ((0 : Int) : Rat) := by
  obtain ⟨m, rfl⟩ : ∃ m, n = m + 1 := ⟨n - 1, by omega⟩
  rw [Rat.pow_succ]
  have : ((0 : Int) : Rat) = 0 := rfl
  rw [this, Rat.mul_zero]
theorem size_neg {a b : Option Rat} (hx : (NS.i a b).ok) (h : (NS.i a b).shi ≤ 0) : (NS.i a b).size = (NS.i a b).minus := by
  rw [NS.size_i]
  by_cases h1 : 0 ≤ (NS.i a b).slo
  · rw [if_pos h1]
    cases a with
    | none => exact absurd h1 (by show ¬ (0 : Int) ≤ -1; decide)
    | some a => cases b with
      | none => exact absurd h (by show ¬ (1 : Int) ≤ 0; decide)
      | some b =>
        have k1 : 0 ≤ sgn3 a := h1
        have k2 : sgn3 b ≤ 0 := h
        have k3 : ¬ b < a := by simpa [NS.ok, ordO] using hx
        have ea : a = 0 := by unfold sgn3 at k1 k2; grind
        have eb : b = 0 := by unfold sgn3 at k1 k2; grind
        subst ea eb
        show NS.i (some 0) (some 0) = .i (some (-0)) (some (-0))
        rw [Rat.neg_zero]
  · rw [if_neg h1, if_pos h]
theorem up20 {k : Nat} (h : k ≤ 2048) : k ≤ 2 ^ 20 := Nat.le_trans h (by decide)
theorem PowerS_same {h0 h : PH} [Le h0 h] {v : Value} {a b : Option Rat} {n : Nat} (hv : Sn h0 v (.i a b)) (lx : (NS.i a b).le 2048) (hn0 : n ≠ 0) (hn : n ≤ 32) (hc : n % 2 = 1 ∨ (n % 2 = 0 ∧ 0 ≤ (NS.i a b).slo ∧ ¬ (NS.i a b).shi ≤ 0)) : Spec mach 66 #[v, .int .i64 n] h (fun v h' => Sn h' v ((NS.i a b).powr n)) NP := by
  have kS := fun {h} [Le h0 h] => signs_set (h := h) hv
  rw [NS.le_i] at lx
  obtain ⟨b1, a1, m1, c1, a2, m2, c2, b2, a3, m3, c3, a4, m4, c4, rfl, e1, e2⟩ := hv.ie
  generalize (NS.i a b).slo = m1' at *
  generalize (NS.i a b).shi = m2' at *
  rcases hc with hm | ⟨hm, hl, hh⟩ <;> cases a <;> cases b <;>
  · dsimp only [Option.isNone] at *
    refine Spec.go [(8, .o [1, 2, 0, 3, 4, 5, 6, 7, 8]), (10, .o [0, 1, 3, 4, 6, 2, 5, 7, 8, 9])] Tryz.func66 rfl rfl (by kernel_rfl) fun C _ => ?_
    try simp (maxSteps := 999999) (disch := omega) only [go_sem, Nat.reduceBEq, Nat.reduceAdd]
    refine caN (by exact kS) ?_; rintro w1 g1 s1 rfl
    try simp (maxSteps := 999999) (disch := omega) only [go_sem, Nat.reduceBEq, Nat.reduceAdd]
    try (refine caN (by exact PowF_spec (e1.num.to (h' := g1)) (by omega) (up20 (lx.1 _ rfl))) ?_; rintro _ h3 _ f3; obtain ⟨_, _, _, _, _, _, _, rfl, f3⟩ := f3.sa; (try simp (maxSteps := 999999) (disch := omega) only [go_sem, Nat.reduceBEq, Nat.reduceAdd]))
    try (refine caN (by exact PowF_spec e2.num (by omega) (up20 (lx.2 _ rfl))) ?_; rintro _ h4 _ f4; obtain ⟨_, _, _, _, _, _, _, rfl, f4⟩ := f4.sa; (try simp (maxSteps := 999999) (disch := omega) only [go_sem, Nat.reduceBEq, Nat.reduceAdd]))
    try simp (maxSteps := 999999) (disch := omega) only [go_sem, Nat.reduceBEq, Nat.reduceAdd]
    exact ⟨_, _, _, _, _, _, rfl, by first | exact (En.of f3).to | exact En.nil _, by first | exact (En.of f4).to | exact En.nil _⟩
theorem PowerS_neg {h0 h : PH} [Le h0 h] {v : Value} {a b : Option Rat} {n : Nat} (hv : Sn h0 v (.i a b)) (lx : (NS.i a b).le 2048) (hn0 : n ≠ 0) (hn : n ≤ 32) (hm : n % 2 = 0) (hh : (NS.i a b).shi ≤ 0) : Spec mach 66 #[v, .int .i64 n] h (fun v h' => Sn h' v ((NS.i a b).minus.powr n)) NP := by
  have kS := fun {h} [Le h0 h] => signs_set (h := h) hv
  have kM := fun {h} [Le h0 h] => Minus_set (h := h) hv
  have lx := lx.minus
  obtain ⟨_, _, _, _, _, _, _, _, _, _, _, _, _, _, rfl, _, _⟩ := hv.ie
  generalize (NS.i a b).slo = m1' at *
  generalize (NS.i a b).shi = m2' at *
  have h2 : ¬ 0 < m2' := by omega
  by_cases h3 : m1' < 0 <;> cases a <;> cases b <;>
  · dsimp only [Option.isNone, NS.minus, Option.map] at *
    rw [NS.le_i] at lx
    refine Spec.go [(8, .o [1, 2, 0, 3, 4, 5, 6, 7, 8]), (10, .o [0, 1, 3, 4, 6, 2, 5, 7, 8, 9])] Tryz.func66 rfl rfl (by kernel_rfl) fun C _ => ?_
    try simp (maxSteps := 999999) (disch := omega) only [go_sem, Nat.reduceBEq, Nat.reduceAdd]
    refine caN (by exact kS) ?_; rintro w1 g1 s1 rfl
    try simp (maxSteps := 999999) (disch := omega) only [go_sem, Nat.reduceBEq, Nat.reduceAdd]
    refine caN (by exact kM) ?_; rintro w2 g2 s2 q2; obtain ⟨_, _, _, _, _, _, _, _, _, _, _, _, _, _, rfl, e1, e2⟩ := q2.ie
    try simp (maxSteps := 999999) (disch := omega) only [go_sem, Nat.reduceBEq, Nat.reduceAdd]
    dsimp only [Option.isNone] at *
    try simp (maxSteps := 999999) (disch := omega) only [go_sem, Nat.reduceBEq, Nat.reduceAdd]
    try (refine caN (by exact PowF_spec e1.num (by omega) (up20 (lx.1 _ rfl))) ?_; rintro _ h3 _ f3; obtain ⟨_, _, _, _, _, _, _, rfl, f3⟩ := f3.sa; (try simp (maxSteps := 999999) (disch := omega) only [go_sem, Nat.reduceBEq, Nat.reduceAdd]))
    try (refine caN (by exact PowF_spec e2.num (by omega) (up20 (lx.2 _ rfl))) ?_; rintro _ h4 _ f4; obtain ⟨_, _, _, _, _, _, _, rfl, f4⟩ := f4.sa; (try simp (maxSteps := 999999) (disch := omega) only [go_sem, Nat.reduceBEq, Nat.reduceAdd]))
    try simp (maxSteps := 999999) (disch := omega) only [go_sem, Nat.reduceBEq, Nat.reduceAdd]
    exact ⟨_, _, _, _, _, _, rfl, by first | exact (En.of f3).to | exact En.nil _, by first | exact (En.of f4).to | exact En.nil _⟩
theorem PowerS_mixed {h0 h : PH} [Le h0 h] {v : Value} {a b : Option Rat} {n : Nat} (hv : Sn h0 v (.i a b)) (lx : (NS.i a b).le 2048) (hn0 : n ≠ 0) (hn : n ≤ 32) (hm : n % 2 = 0) (hl : ¬ 0 ≤ (NS.i a b).slo) (hh : ¬ (NS.i a b).shi ≤ 0) : Spec mach 66 #[v, .int .i64 n] h (fun v h' => Sn h' v ((NS.i (some ((0 : Int) : Rat)) (jmax (a.map (-·)) b)).powr n)) NP := by
  have kS := fun {h} [Le h0 h] => signs_set (h := h) hv
  rw [NS.le_i] at lx
  obtain ⟨b1, a1, m1, c1, a2, m2, c2, b2, a3, m3, c3, a4, m4, c4, rfl, e1, e2⟩ := hv.ie
  generalize (NS.i a b).slo = m1' at *
  generalize (NS.i a b).shi = m2' at *
  have ez := rzero_pow hn0
  show Spec _ _ _ _ (fun v h' => Sn h' v (.i (some (((0 : Int) : Rat) ^ n)) ((jmax (a.map (-·)) b).map (· ^ n)))) _
  rw [ez]
  cases a <;> cases b
  rotate_left 3
  · rename_i a b
    have l1 := lx.1 _ rfl
    have l2 := lx.2 _ rfl
    have l3 : sz (max (-a) b) ≤ 2048 := sz_max (by rw [sz_neg]; exact l1) l2
    dsimp only [Option.isNone] at *
    refine Spec.go [(8, .o [1, 2, 0, 3, 4, 5, 6, 7, 8]), (10, .o [0, 1, 3, 4, 6, 2, 5, 7, 8, 9])] Tryz.func66 rfl rfl (by kernel_rfl) fun C _ => ?_
    try simp (maxSteps := 999999) (disch := omega) only [go_sem, Nat.reduceBEq, Nat.reduceAdd]
    refine caN (by exact kS) ?_; rintro w1 g1 s1 rfl
    try simp (maxSteps := 999999) (disch := omega) only [go_sem, Nat.reduceBEq, Nat.reduceAdd]
    refine caN (by exact Int_spec (n := 0) (by decide) (by decide)) ?_; rintro _ h3 _ f3; obtain ⟨_, _, _, _, _, _, _, rfl, f3⟩ := f3.sa
    try simp (maxSteps := 999999) (disch := omega) only [go_sem, Nat.reduceBEq, Nat.reduceAdd]
    refine caN (by exact Opposite_spec (e1.num.to (h' := h3))) ?_; rintro _ h4 _ f4; obtain ⟨_, _, _, _, _, _, _, rfl, f4⟩ := f4.sa
    try simp (maxSteps := 999999) (disch := omega) only [go_sem, Nat.reduceBEq, Nat.reduceAdd]
    refine caN (by exact greatest_spec f4 (e2.num.to (h' := h4)) (by rw [sz_neg]; exact up36 (Nat.le_trans l1 (by decide))) (up36 (Nat.le_trans l2 (by decide)))) ?_; rintro _ h5 _ f5; obtain ⟨_, _, _, _, _, _, _, rfl, f5⟩ := f5.sa
    try simp (maxSteps := 999999) (disch := omega) only [go_sem, Nat.reduceBEq, Nat.reduceAdd]
    refine caN (by exact PowF_spec f5 (by omega) (up20 l3)) ?_; rintro _ h6 _ f6; obtain ⟨_, _, _, _, _, _, _, rfl, f6⟩ := f6.sa
    try simp (maxSteps := 999999) (disch := omega) only [go_sem, Nat.reduceBEq, Nat.reduceAdd]
    exact ⟨_, _, _, _, _, _, rfl, En.of f3.to, (En.of f6).to⟩
  all_goals
    dsimp only [Option.isNone] at *
    refine Spec.go [(8, .o [1, 2, 0, 3, 4, 5, 6, 7, 8]), (10, .o [0, 1, 3, 4, 6, 2, 5, 7, 8, 9])] Tryz.func66 rfl rfl (by kernel_rfl) fun C _ => ?_
    try simp (maxSteps := 999999) (disch := omega) only [go_sem, Nat.reduceBEq, Nat.reduceAdd]
    refine caN (by exact kS) ?_; rintro w1 g1 s1 rfl
    try simp (maxSteps := 999999) (disch := omega) only [go_sem, Nat.reduceBEq, Nat.reduceAdd]
    refine caN (by exact Int_spec (n := 0) (by decide) (by decide)) ?_; rintro _ h3 _ f3; obtain ⟨_, _, _, _, _, _, _, rfl, f3⟩ := f3.sa
    try simp (maxSteps := 999999) (disch := omega) only [go_sem, Nat.reduceBEq, Nat.reduceAdd]
    exact ⟨_, _, _, _, _, _, rfl, En.of f3.to, En.nil _⟩
theorem PowerS_spec {h0 h : PH} [Le h0 h] {v : Value} {a b : Option Rat} {n : Nat} (hv : Sn h0 v (.i a b)) (hx : (NS.i a b).ok) (lx : (NS.i a b).le 2048) (hn : n ≤ 32) : Spec mach 66 #[v, .int .i64 n] h (fun v h' => Sn h' v ((NS.i a b).pow n)) NP := by
  show Spec _ _ _ _ (fun v h' => Sn h' v (if n = 0 then .i (some ((1 : Int) : Rat)) (some ((1 : Int) : Rat)) else if n % 2 = 0 then (NS.i a b).size.powr n else (NS.i a b).powr n)) _
  by_cases hn0 : n = 0
  · rw [if_pos hn0]
    subst hn0
    obtain ⟨_, _, _, _, _, _, _, _, _, _, _, _, _, _, rfl, _, _⟩ := hv.ie
    refine Spec.go [(8, .o [1, 2, 0, 3, 4, 5, 6, 7, 8]), (10, .o [0, 1, 3, 4, 6, 2, 5, 7, 8, 9])] Tryz.func66 rfl rfl (by kernel_rfl) fun C _ => ?_
    try simp (maxSteps := 999999) (disch := omega) only [go_sem, Nat.reduceBEq, Nat.reduceAdd]
    refine caN (by exact Int_spec (n := 1) (by decide) (by decide)) ?_; rintro _ h1 _ f1; obtain ⟨_, _, _, _, _, _, _, rfl, f1⟩ := f1.sa
    try simp (maxSteps := 999999) (disch := omega) only [go_sem, Nat.reduceBEq, Nat.reduceAdd]
    refine caN (by exact one_set f1) ?_; rintro _ h2 _ f2; obtain ⟨_, _, _, _, _, _, _, _, _, _, _, _, _, _, _, _, rfl, f2⟩ := f2.sa
    try simp (maxSteps := 999999) (disch := omega) only [go_sem, Nat.reduceBEq, Nat.reduceAdd]
    exact f2
  · rw [if_neg hn0]
    by_cases hm : n % 2 = 0
    · rw [if_pos hm]
      by_cases hh : (NS.i a b).shi ≤ 0
      · rw [size_neg hx hh]
        exact PowerS_neg hv lx hn0 hn hm hh
      · rw [NS.size_i, if_neg hh]
        by_cases hl : 0 ≤ (NS.i a b).slo
        · rw [if_pos hl]
          exact PowerS_same hv lx hn0 hn (.inr ⟨hm, hl, hh⟩)
        · rw [if_neg hl]
          exact PowerS_mixed hv lx hn0 hn hm hl hh
    · rw [if_neg hm]
      exact PowerS_same hv lx hn0 hn (.inl (by omega))
def badn (n : Int) : Bool := decide (n < -32) || decide (32 < n)
theorem badn_no {n : Int} (h : badn n = false) : -32 ≤ n ∧ n ≤ 32 := by
  unfold badn at h
  simp only [Bool.or_eq_false_iff, decide_eq_false_iff_not] at h
  omega
theorem badn_yes {n : Int} (h : badn n = true) : n < -32 ∨ 32 < n := by
  unfold badn at h
  simpa using h
def hullO (p : Nat) : Out → Out
  | .error e => .error e
  | .ok z => .ok (z.hull p)
def powO (n : Int) (x : NS) : Out := bif x.void then .ok .e else if n < 0 then (bif x.zero then .error 10 else .ok (x.inv.pow (-n).toNat)) else .ok (x.pow n.toNat)
def powR (n p : Int) (x : NS) : Out := bif badn n then .error 2 else Out.prec p (hullO p.toNat (powO n x))
theorem powO_neg {n : Int} {x : NS} (hn : n < 0) (hz : x.zero = false) : powO n x = .ok (x.inv.pow (-n).toNat) := by
  unfold powO
  rw [if_pos hn, hz]
  cases x <;> rfl
theorem powO_zero {n : Int} {x : NS} (hn : n < 0) (hz : x.zero = true) : powO n x = .error 10 := by
  unfold powO
  rw [if_pos hn, hz]
  cases x with
  | e => cases hz
  | i a b => rfl
theorem powO_pos {n : Int} {x : NS} (hn : ¬ n < 0) : powO n x = .ok (x.pow n.toNat) := by
  unfold powO
  rw [if_neg hn]
  cases x <;> rfl
theorem inv_ok {x : NS} (hz : x.zero = false) (ho : x.ok) : x.inv.ok := by
  cases x with
  | e => trivial
  | i a b =>
    show ordO _ _ = true
    have := inv_ord hz ho
    simp [ordO]; grind
theorem powR_ok {n p : Int} {x : NS} (gn : badn n = false) (gp : bad p = false) : powR n p x = hullO p.toNat (powO n x) := by
  unfold powR Out.prec
  rw [gn, gp]; rfl
@[go_sem] theorem void_at_e : NS.void .e = true := rfl
@[go_sem] theorem void_at_i (a b : Option Rat) : NS.void (.i a b) = false := rfl
theorem Pow1 {h0 h : PH} [Le h0 h] {s : Value} {x : NS} {n p : Int} {b1 b2 : Nat} (hs : Sd h0 s x) (hx : x.ok) (lx : x.le 2048) (hb1 : h b1 = some #[.int .i64 n]) (hb2 : h b2 = some #[.int .i64 p]) : Does 64 #[s, .pointer (some ⟨b1, 0, none⟩), .pointer (some ⟨b2, 0, none⟩)] h (powR n p x) := by
  have hs0 := hs.sn
  obtain ⟨_, _, _, _, _, _, _, _, _, _, _, _, _, _, _, _, rfl, hs⟩ := hs.sa
  cases gn : badn n with
  | true =>
    have e0 : powR n p x = .error 2 := by unfold powR; rw [gn]; rfl
    rw [e0]
    show Spec _ _ _ _ NR (fail 2)
    refine Spec.go [(8, .o [0, 2, 3, 5, 1, 4, 6, 7]), (9, .o [0, 1, 3, 2, 4, 5])] Tryz.func64 rfl rfl (by kernel_rfl) fun C _ => ?_
    try simp (maxSteps := 999999) (disch := omega) only [go_sem, Nat.reduceBEq, Nat.reduceAdd]
    refine ld1_of (at_one hb1) ?_
    try simp (maxSteps := 999999) (disch := omega) only [go_sem, Nat.reduceBEq, Nat.reduceAdd]
    exact caF (by exact precise_fail (badn_yes gn)) (fun _ _ h => h)
  | false =>
    have hn := badn_no gn
    cases gp : bad p with
    | true =>
      have e0 : powR n p x = .error 2 := by unfold powR Out.prec; rw [gn, gp]; rfl
      rw [e0]
      show Spec _ _ _ _ NR (fail 2)
      refine Spec.go [(8, .o [0, 2, 3, 5, 1, 4, 6, 7]), (9, .o [0, 1, 3, 2, 4, 5])] Tryz.func64 rfl rfl (by kernel_rfl) fun C _ => ?_
      try simp (maxSteps := 999999) (disch := omega) only [go_sem, Nat.reduceBEq, Nat.reduceAdd]
      refine ld1_of (at_one hb1) ?_
      try simp (maxSteps := 999999) (disch := omega) only [go_sem, Nat.reduceBEq, Nat.reduceAdd]
      refine caN (by exact precise_ok hn.1 hn.2) ?_; rintro v1 h1 st1 _
      try simp (maxSteps := 999999) (disch := omega) only [go_sem, Nat.reduceBEq, Nat.reduceAdd]
      refine ld1_of (at_one (st1.sub _ _ hb2)) ?_
      try simp (maxSteps := 999999) (disch := omega) only [go_sem, Nat.reduceBEq, Nat.reduceAdd]
      exact caF (by exact precise_fail (bad_yes gp)) (fun _ _ h => h)
    | false =>
      have hp := bad_no gp
      rw [powR_ok gn gp]
      cases x with
      | e =>
        show Spec _ _ _ _ (fun v h' => Sn h' v .e) NP
        refine Spec.go [(8, .o [0, 2, 3, 5, 1, 4, 6, 7]), (9, .o [0, 1, 3, 2, 4, 5])] Tryz.func64 rfl rfl (by kernel_rfl) fun C _ => ?_
        try simp (maxSteps := 999999) (disch := omega) only [go_sem, Nat.reduceBEq, Nat.reduceAdd]
        refine ld1_of (at_one hb1) ?_
        try simp (maxSteps := 999999) (disch := omega) only [go_sem, Nat.reduceBEq, Nat.reduceAdd]
        refine caN (by exact precise_ok hn.1 hn.2) ?_; rintro v1 h1 st1 _
        try simp (maxSteps := 999999) (disch := omega) only [go_sem, Nat.reduceBEq, Nat.reduceAdd]
        refine ld1_of (at_one (st1.sub _ _ hb2)) ?_
        try simp (maxSteps := 999999) (disch := omega) only [go_sem, Nat.reduceBEq, Nat.reduceAdd]
        refine caN (by exact precise_ok hp.1 hp.2) ?_; rintro v2 h2 st2 _
        try simp (maxSteps := 999999) (disch := omega) only [go_sem, Nat.reduceBEq, Nat.reduceAdd]
        exact hs0.to
      | i a b =>
        have kZ := fun {h} [Le h0 h] => zero_set (h := h) hs0
        by_cases hneg : n < 0
        · cases hz : (NS.i a b).zero with
          | true =>
            have e0 : powO n (.i a b) = .error 10 := by unfold powO; rw [if_pos hneg, hz]; rfl
            rw [e0]
            rw [hz] at kZ
            show Spec _ _ _ _ NR (fail 10)
            refine Spec.go [(8, .o [0, 2, 3, 5, 1, 4, 6, 7]), (9, .o [0, 1, 3, 2, 4, 5])] Tryz.func64 rfl rfl (by kernel_rfl) fun C _ => ?_
            try simp (maxSteps := 999999) (disch := omega) only [go_sem, Nat.reduceBEq, Nat.reduceAdd]
            refine ld1_of (at_one hb1) ?_
            try simp (maxSteps := 999999) (disch := omega) only [go_sem, Nat.reduceBEq, Nat.reduceAdd]
            refine caN (by exact precise_ok hn.1 hn.2) ?_; rintro v1 h1 st1 _
            try simp (maxSteps := 999999) (disch := omega) only [go_sem, Nat.reduceBEq, Nat.reduceAdd]
            refine ld1_of (at_one (st1.sub _ _ hb2)) ?_
            try simp (maxSteps := 999999) (disch := omega) only [go_sem, Nat.reduceBEq, Nat.reduceAdd]
            refine caN (by exact precise_ok hp.1 hp.2) ?_; rintro v2 h2 st2 _
            try simp (maxSteps := 999999) (disch := omega) only [go_sem, Nat.reduceBEq, Nat.reduceAdd]
            refine ld1_of (at_one (st2.sub _ _ (st1.sub _ _ hb1))) ?_
            try simp (maxSteps := 999999) (disch := omega) only [go_sem, Nat.reduceBEq, Nat.reduceAdd]
            refine caN (by exact kZ) ?_; rintro v3 h3 st3 rfl
            try simp (maxSteps := 999999) (disch := omega) only [go_sem, Nat.reduceBEq, Nat.reduceAdd]
            exact caF (by exact must_fail (by decide)) (fun _ _ h => h)
          | false =>
            have e0 : powO n (.i a b) = .ok ((NS.i a b).inv.pow (-n).toNat) := by unfold powO; rw [if_pos hneg, hz]; rfl
            rw [e0]
            rw [hz] at kZ
            obtain ⟨n1, n2⟩ := zero_ends hz hx
            have li := inv_le lx (by decide)
            have oi : (NS.i a b).inv.ok := by
              show ordO _ _ = true
              have := inv_ord hz hx
              simp [ordO]; grind
            have lp := (NS.pow_le (n := (-n).toNat) li (by decide)).up (m := 2 ^ 30) (by have := Nat.mul_le_mul_right 2048 (show (-n).toNat ≤ 32 by omega); omega)
            have en : IntKind.i64.wrap (-n) = (((-n).toNat : Nat) : Int) := by rw [wi64 (by omega) (by omega)]; omega
            have kI := fun {h} [Le h0 h] => InverseS_spec (h := h) hs0 n1 n2
            show Spec _ _ _ _ (fun v h' => Sn h' v (((NS.i a b).inv.pow (-n).toNat).hull p.toNat)) NP
            refine Spec.go [(8, .o [0, 2, 3, 5, 1, 4, 6, 7]), (9, .o [0, 1, 3, 2, 4, 5])] Tryz.func64 rfl rfl (by kernel_rfl) fun C _ => ?_
            try simp (maxSteps := 999999) (disch := omega) only [go_sem, Nat.reduceBEq, Nat.reduceAdd]
            refine ld1_of (at_one hb1) ?_
            try simp (maxSteps := 999999) (disch := omega) only [go_sem, Nat.reduceBEq, Nat.reduceAdd]
            refine caN (by exact precise_ok hn.1 hn.2) ?_; rintro v1 h1 st1 _
            try simp (maxSteps := 999999) (disch := omega) only [go_sem, Nat.reduceBEq, Nat.reduceAdd]
            refine ld1_of (at_one (st1.sub _ _ hb2)) ?_
            try simp (maxSteps := 999999) (disch := omega) only [go_sem, Nat.reduceBEq, Nat.reduceAdd]
            refine caN (by exact precise_ok hp.1 hp.2) ?_; rintro v2 h2 st2 _
            try simp (maxSteps := 999999) (disch := omega) only [go_sem, Nat.reduceBEq, Nat.reduceAdd]
            refine ld1_of (at_one (st2.sub _ _ (st1.sub _ _ hb1))) ?_
            try simp (maxSteps := 999999) (disch := omega) only [go_sem, Nat.reduceBEq, Nat.reduceAdd]
            refine caN (by exact kZ) ?_; rintro v3 h3 st3 rfl
            try simp (maxSteps := 999999) (disch := omega) only [go_sem, Nat.reduceBEq, Nat.reduceAdd]
            refine ld1_of (at_one (st3.sub _ _ (st2.sub _ _ (st1.sub _ _ hb1)))) ?_
            try simp (maxSteps := 999999) (disch := omega) only [go_sem, Nat.reduceBEq, Nat.reduceAdd]
            refine ld1_of (at_one (st3.sub _ _ (st2.sub _ _ (st1.sub _ _ hb1)))) ?_
            try simp (maxSteps := 999999) (disch := omega) only [go_sem, Nat.reduceBEq, Nat.reduceAdd]
            refine ld1_of (at_one (st3.sub _ _ (st2.sub _ _ (st1.sub _ _ hb2)))) ?_
            try simp (maxSteps := 999999) (disch := omega) only [go_sem, Nat.reduceBEq, Nat.reduceAdd]
            rw [show (0 : Int) - n = (((-n).toNat : Nat) : Int) by omega]
            refine caN (by exact kI) ?_; rintro _ h4 _ f4; obtain ⟨_, _, _, _, _, _, _, _, _, _, _, _, _, _, _, _, rfl, f4⟩ := f4.sa
            try simp (maxSteps := 999999) (disch := omega) only [go_sem, Nat.reduceBEq, Nat.reduceAdd]
            refine caN (by exact PowerS_spec f4 oi li (by omega)) ?_; rintro _ h5 _ f5; obtain ⟨_, _, _, _, _, _, _, _, _, _, _, _, _, _, _, _, rfl, f5⟩ := f5.sa
            try simp (maxSteps := 999999) (disch := omega) only [go_sem, Nat.reduceBEq, Nat.reduceAdd]
            refine caN (by exact Hull_p f5 lp hp) ?_; rintro _ h6 _ f6; obtain ⟨_, _, _, _, _, _, _, _, _, _, _, _, _, _, _, _, rfl, f6⟩ := f6.sa
            try simp (maxSteps := 999999) (disch := omega) only [go_sem, Nat.reduceBEq, Nat.reduceAdd]
            exact f6
        · have e0 : powO n (.i a b) = .ok ((NS.i a b).pow n.toNat) := by unfold powO; rw [if_neg hneg]; rfl
          rw [e0]
          have lp := (NS.pow_le (n := n.toNat) lx (by decide)).up (m := 2 ^ 30) (by have := Nat.mul_le_mul_right 2048 (show n.toNat ≤ 32 by omega); omega)
          have kP := fun {h} [Le h0 h] => PowerS_spec (h := h) (n := n.toNat) hs0 hx lx (by omega)
          rw [show ((n.toNat : Nat) : Int) = n by omega] at kP
          show Spec _ _ _ _ (fun v h' => Sn h' v (((NS.i a b).pow n.toNat).hull p.toNat)) NP
          refine Spec.go [(8, .o [0, 2, 3, 5, 1, 4, 6, 7]), (9, .o [0, 1, 3, 2, 4, 5])] Tryz.func64 rfl rfl (by kernel_rfl) fun C _ => ?_
          try simp (maxSteps := 999999) (disch := omega) only [go_sem, Nat.reduceBEq, Nat.reduceAdd]
          refine ld1_of (at_one hb1) ?_
          try simp (maxSteps := 999999) (disch := omega) only [go_sem, Nat.reduceBEq, Nat.reduceAdd]
          refine caN (by exact precise_ok hn.1 hn.2) ?_; rintro v1 h1 st1 _
          try simp (maxSteps := 999999) (disch := omega) only [go_sem, Nat.reduceBEq, Nat.reduceAdd]
          refine ld1_of (at_one (st1.sub _ _ hb2)) ?_
          try simp (maxSteps := 999999) (disch := omega) only [go_sem, Nat.reduceBEq, Nat.reduceAdd]
          refine caN (by exact precise_ok hp.1 hp.2) ?_; rintro v2 h2 st2 _
          try simp (maxSteps := 999999) (disch := omega) only [go_sem, Nat.reduceBEq, Nat.reduceAdd]
          refine ld1_of (at_one (st2.sub _ _ (st1.sub _ _ hb1))) ?_
          try simp (maxSteps := 999999) (disch := omega) only [go_sem, Nat.reduceBEq, Nat.reduceAdd]
          refine ld1_of (at_one (st2.sub _ _ (st1.sub _ _ hb1))) ?_
          try simp (maxSteps := 999999) (disch := omega) only [go_sem, Nat.reduceBEq, Nat.reduceAdd]
          refine ld1_of (at_one (st2.sub _ _ (st1.sub _ _ hb1))) ?_
          try simp (maxSteps := 999999) (disch := omega) only [go_sem, Nat.reduceBEq, Nat.reduceAdd]
          refine ld1_of (at_one (st2.sub _ _ (st1.sub _ _ hb2))) ?_
          try simp (maxSteps := 999999) (disch := omega) only [go_sem, Nat.reduceBEq, Nat.reduceAdd]
          refine caN (by exact kP) ?_; rintro _ h4 _ f4; obtain ⟨_, _, _, _, _, _, _, _, _, _, _, _, _, _, _, _, rfl, f4⟩ := f4.sa
          try simp (maxSteps := 999999) (disch := omega) only [go_sem, Nat.reduceBEq, Nat.reduceAdd]
          refine caN (by exact Hull_p f4 lp hp) ?_; rintro _ h5 _ f5; obtain ⟨_, _, _, _, _, _, _, _, _, _, _, _, _, _, _, _, rfl, f5⟩ := f5.sa
          try simp (maxSteps := 999999) (disch := omega) only [go_sem, Nat.reduceBEq, Nat.reduceAdd]
          exact f5
theorem PowI_spec {h0 h : PH} [Le h0 h] {v : Value} {x : RI} {n p : Int} (hv : Iv h0 v x) : Spec mach 25 #[v, .int .i64 n, .int .i64 p] h (fun r h' => Ir h' r (x.fin (powR n p x.set))) NP := by
  have hv0 := hv
  obtain ⟨a1, m1, c1, a2, m2, c2, a3, m3, c3, a4, m4, c4, rfl, _, _⟩ := hv.sa
  refine Spec.go [(1, .t (.p 1 (.p 2 (.s [0, 1, 2, 3, 4, 5, 6] .d))))] Tryz.func25 rfl rfl (by kernel_rfl) fun C _ => ?_
  try simp (maxSteps := 999999) (disch := omega) only [go_sem, Nat.reduceBEq, Nat.reduceAdd]
  intro b h1 st1 hb
  try simp (maxSteps := 999999) (disch := omega) only [go_sem, Nat.reduceBEq, Nat.reduceAdd]
  have hb := hb (by simp)
  intro b' h2 st2 hb'
  try simp (maxSteps := 999999) (disch := omega) only [go_sem, Nat.reduceBEq, Nat.reduceAdd]
  have hb' := hb' (by simp)
  refine caN (by exact unary_spec (hv0.to (h' := h2)) (fun g h' i s hs => Pow1 hs (RI.set_ok x) (RI.le g) (i.sub _ _ (st2.sub _ _ hb)) (i.sub _ _ hb'))) ?_; rintro r3 h3 st3 hr3; obtain ⟨_, _, _, _, _, _, _, _, _, _, _, _, _, _, _, _, _, rfl, hr3⟩ := hr3.sa
  try simp (maxSteps := 999999) (disch := omega) only [go_sem, Nat.reduceBEq, Nat.reduceAdd]
  exact hr3
end Go.Q
