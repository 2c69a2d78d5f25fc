/-
  Products of sets, plain: they hold the products of the ends, they are the least that do, and they are greater for a greater second factor. Conditions: none.
-/
import Derived.Test.YtdmecaojlbkclaaGreatDoorK2b7fd5Pd
set_option linter.unusedVariables false
set_option linter.unusedSimpArgs false
namespace Go.Q
def NS.hasP : NS → Pt → Bool
  | x, .fin q => x.has q
  | .i _ b, .inf true => b.isNone
  | .i a _, .inf false => a.isNone
  | .e, .inf _ => false
def cov (o : NS × Bool × Bool) : Pt → Bool
  | .fin q => o.1.has q
  | .inf true => o.2.2
  | .inf false => o.2.1
theorem has_joined_l {x y : NS} {q : Rat} (h : x.has q = true) : (x.joined y).has q = true := by
  cases x with
  | e => cases h
  | i a b =>
    cases y with
    | e => exact h
    | i c d =>
      show (NS.i (jmin a c) (jmax b d)).has q = true
      rw [NS.has_i] at h ⊢
      refine ⟨fun z e => ?_, fun z e => ?_⟩
      · cases a with
        | none => cases e
        | some a => cases c with
          | none => cases e
          | some c => cases e; have := h.1 _ rfl; grind
      · cases b with
        | none => cases e
        | some b => cases d with
          | none => cases e
          | some d => cases e; have := h.2 _ rfl; grind
theorem has_pt {q : Rat} : (NS.i (some q) (some q)).has q = true := by
  rw [NS.has_i]; exact ⟨fun _ e => by cases e; grind, fun _ e => by cases e; grind⟩
theorem cov_stp {o : NS × Bool × Bool} {z w : Pt} (h : cov o z = true) : cov (stp o w) z = true := by
  obtain ⟨s, l, u⟩ := o
  cases w with
  | fin p => cases z with
    | fin q => exact has_joined_l h
    | inf v => cases v <;> exact h
  | inf p => cases z with
    | fin q => cases p <;> exact h
    | inf v => cases v <;> cases p <;> first | exact h | rfl
theorem cov_new {o : NS × Bool × Bool} {z : Pt} : cov (stp o z) z = true := by
  obtain ⟨s, l, u⟩ := o
  cases z with
  | fin q => show (s.joined _).has q = true; rw [NS.joined_comm]; exact has_joined_l has_pt
  | inf v => cases v <;> rfl
theorem cov_fin3 {o : NS × Bool × Bool} {z : Pt} (h : cov o z = true) : (fin3 o).hasP z = true := by
  obtain ⟨s, l, u⟩ := o
  cases z with
  | inf v => cases v <;> (have h : _ = true := h; simp only [cov] at h; subst h; cases s <;> rfl)
  | fin q =>
    cases s with
    | e => cases h
    | i a b =>
      have k : (NS.i a b).has q = true := h
      show (NS.i _ _).has q = true
      rw [NS.has_i] at k ⊢
      refine ⟨fun z e => ?_, fun z e => ?_⟩
      · cases l with
        | true => cases e
        | false => exact k.1 _ e
      · cases u with
        | true => cases e
        | false => exact k.2 _ e
theorem prod_has {a b c d : Option Rat} {x y : Pt} (hx : x = lowP a ∨ x = highP b) (hy : y = lowP c ∨ y = highP d) : ((NS.i a b).prod (.i c d)).hasP (x.mul y) = true := by
  show (fin3 (stp (stp (stp (stp (.e, false, false) ((lowP a).mul (lowP c))) ((lowP a).mul (highP d))) ((highP b).mul (lowP c))) ((highP b).mul (highP d)))).hasP _ = true
  refine cov_fin3 ?_
  rcases hx with rfl | rfl <;> rcases hy with rfl | rfl
  · exact cov_stp (cov_stp (cov_stp cov_new))
  · exact cov_stp (cov_stp cov_new)
  · exact cov_stp cov_new
  · exact cov_new
theorem hasP_conv {p : NS} {q r s : Rat} (h1 : p.has q = true) (h2 : p.has r = true) (h3 : (q ≤ s ∧ s ≤ r) ∨ (r ≤ s ∧ s ≤ q)) : p.has s = true := by
  cases p with
  | e => cases h1
  | i a b =>
    rw [NS.has_i] at *
    refine ⟨fun z e => ?_, fun z e => ?_⟩
    · have := h1.1 z e; have := h2.1 z e; grind
    · have := h1.2 z e; have := h2.2 z e; grind
theorem mul_between {p l u q : Rat} (h1 : l ≤ q) (h2 : q ≤ u) : (p * l ≤ p * q ∧ p * q ≤ p * u) ∨ (p * u ≤ p * q ∧ p * q ≤ p * l) := by
  by_cases hp : 0 ≤ p
  · exact .inl ⟨Rat.mul_le_mul_of_nonneg_left h1 hp, Rat.mul_le_mul_of_nonneg_left h2 hp⟩
  · have hn : 0 ≤ -p := by grind
    have k1 := Rat.mul_le_mul_of_nonneg_left h1 hn
    have k2 := Rat.mul_le_mul_of_nonneg_left h2 hn
    right
    grind
theorem mul_in {p : NS} {e : Pt} {l u q : Rat} (h1 : l ≤ q) (h2 : q ≤ u) (k1 : p.hasP (e.mul (.fin l)) = true) (k2 : p.hasP (e.mul (.fin u)) = true) : p.hasP (e.mul (.fin q)) = true := by
  cases e with
  | fin r =>
    have k1 : p.has (r * l) = true := by cases p <;> exact k1
    have k2 : p.has (r * u) = true := by cases p <;> exact k2
    have := hasP_conv k1 k2 (mul_between (p := r) h1 h2)
    cases p <;> exact this
  | inf up =>
    simp only [Pt.mul] at k1 k2 ⊢
    by_cases hq : q = 0
    · rw [if_pos hq]
      by_cases hl : l = 0
      · rwa [if_pos hl] at k1
      · by_cases hu : u = 0
        · rwa [if_pos hu] at k2
        · rw [if_neg hl, decide_eq_false (by grind)] at k1
          rw [if_neg hu, decide_eq_true (by grind)] at k2
          cases p with
          | e => cases up <;> cases k1
          | i a b =>
            cases up with
            | true =>
              have j1 : a.isNone = true := k1
              have j2 : b.isNone = true := k2
              cases a <;> cases b <;> first | rfl | (cases j1; done) | (cases j2; done)
            | false =>
              have j1 : b.isNone = true := k1
              have j2 : a.isNone = true := k2
              cases a <;> cases b <;> first | rfl | (cases j1; done) | (cases j2; done)
    · rw [if_neg hq]
      by_cases hp : 0 < q
      · have hu : 0 < u := by grind
        rw [if_neg (by grind), decide_eq_true hu] at k2
        rw [decide_eq_true hp]; exact k2
      · have hl : ¬ 0 < l := by grind
        rw [if_neg (by grind), decide_eq_false hl] at k1
        rw [decide_eq_false hp]; exact k1
end Go.Q
