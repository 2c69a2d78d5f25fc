/-
  Intervals as plain sets: two ends, each a number or infinite, or empty; the operations on them. Conditions: none.
  Plain laws of intervals: membership, meets, hulls, grids. Conditions: ends in order (ok).
-/
import Derived.Test.YtdmecaojlbkclaaGreatDoorRaBunH
set_option linter.unusedVariables false
set_option linter.unusedSimpArgs false
namespace Go.Q
inductive NS where
  | e
  | i (lo hi : Option Rat)
def jmin : Option Rat → Option Rat → Option Rat
  | some x, some y => some (min x y)
  | _, _ => none
def jmax : Option Rat → Option Rat → Option Rat
  | some x, some y => some (max x y)
  | _, _ => none
def oadd : Option Rat → Option Rat → Option Rat
  | some x, some y => some (x + y)
  | _, _ => none
def ordO : Option Rat → Option Rat → Bool
  | some x, some y => !decide (y < x)
  | _, _ => true
namespace NS
def mk' (a b : Option Rat) : NS := bif ordO a b then .i a b else .e
def hull (p : Nat) : NS → NS
  | .e => .e
  | .i a b => .i (a.map (gdown · p)) (b.map (gup · p))
def minus : NS → NS
  | .e => .e
  | .i a b => .i (b.map (-·)) (a.map (-·))
def joined : NS → NS → NS
  | .e, y => y
  | x, .e => x
  | .i a b, .i c d => .i (jmin a c) (jmax b d)
def sum : NS → NS → NS
  | .i a b, .i c d => .i (oadd a c) (oadd b d)
  | _, _ => .e
def void : NS → Bool
  | .e => true
  | _ => false
def ok : NS → Prop
  | .e => True
  | .i a b => ordO a b = true
def all (f : Rat → Bool) : NS → Bool
  | .e => true
  | .i a b => a.all f && b.all f
def le (k : Nat) (x : NS) : Prop := x.all (fun q => decide (sz q ≤ k)) = true
instance (k : Nat) (x : NS) : Decidable (x.le k) := by unfold le; infer_instance
def slo : NS → Int
  | .e => 0
  | .i a _ => match a with
    | none => -1
    | some q => sgn3 q
def shi : NS → Int
  | .e => 0
  | .i _ b => match b with
    | none => 1
    | some q => sgn3 q
def zero (x : NS) : Bool := !x.void && decide (x.slo ≤ 0) && decide (0 ≤ x.shi)
def lowIn : Option Rat → Option Rat → Bool
  | none, _ => true
  | some _, none => false
  | some c, some a => !decide (a < c)
def highIn : Option Rat → Option Rat → Bool
  | none, _ => true
  | some _, none => false
  | some d, some b => !decide (d < b)
def within : NS → NS → Bool
  | .e, _ => true
  | _, .e => false
  | .i a b, .i c d => lowIn c a && highIn d b
def has : NS → Rat → Bool
  | .e, _ => false
  | .i a b, q => a.all (fun x => !decide (q < x)) && b.all (fun x => !decide (x < q))
end NS
abbrev Out := Except Int NS
def Out.fin : Out → Out
  | .error e => .error e
  | .ok x => bif decide (x.le 2048) then .ok x else .error 1
end Go.Q
namespace Go.Q
namespace NS
theorem has_i {a b : Option Rat} {q : Rat} : (NS.i a b).has q = true ↔ (∀ x, a = some x → x ≤ q) ∧ (∀ x, b = some x → q ≤ x) := by
  cases a <;> cases b <;> simp [has] <;> grind
theorem lo_has {a : Rat} {b : Option Rat} (h : ordO (some a) b = true) : (NS.i (some a) b).has a = true := by
  cases b with
  | none => simp [has] <;> grind
  | some b => simp [ordO] at h; simp [has]; grind
theorem hi_has {a : Option Rat} {b : Rat} (h : ordO a (some b) = true) : (NS.i a (some b)).has b = true := by
  cases a with
  | none => simp [has] <;> grind
  | some a => simp [ordO] at h; simp [has]; grind
theorem ok_joined {x y : NS} (hx : x.ok) (hy : y.ok) : (joined x y).ok := by
  cases x with
  | e => exact hy
  | i a b => cases y with
    | e => exact hx
    | i c d => cases a <;> cases b <;> cases c <;> cases d <;> simp [ok, ordO, joined, jmin, jmax] at hx hy ⊢ <;> grind
theorem joined_comm (x y : NS) : joined x y = joined y x := by
  cases x with
  | e => cases y <;> rfl
  | i a b => cases y with
    | e => rfl
    | i c d => cases a <;> cases b <;> cases c <;> cases d <;> simp [joined, jmin, jmax] <;> grind
end NS
theorem pow2_pos (p : Nat) : (0 : Rat) < 2 ^ p := Rat.pow_pos (by decide)
theorem div_le' {a b c : Rat} (hb : 0 < b) : a / b ≤ c ↔ a ≤ c * b := by
  have := Rat.lt_div_iff (a := c) (b := a) hb
  grind
theorem gdown_le (x : Rat) (p : Nat) : gdown x p ≤ x := by
  unfold gdown
  have h := Rat.floor_le (x * 2 ^ p)
  rw [div_le' (pow2_pos p)]
  exact h
theorem gdown_mono {x y : Rat} (p : Nat) (h : x ≤ y) : gdown x p ≤ gdown y p := by
  unfold gdown
  have h1 : x * 2 ^ p ≤ y * 2 ^ p := Rat.mul_le_mul_of_nonneg_right h (Rat.le_of_lt (pow2_pos p))
  have h2 : (x * 2 ^ p).floor ≤ (y * 2 ^ p).floor := Rat.le_floor_iff.2 (Rat.le_trans (Rat.floor_le _) h1)
  rw [div_le' (pow2_pos p), Rat.div_mul_cancel (by have := pow2_pos p; grind)]
  exact_mod_cast h2
theorem gup_neg (x : Rat) (p : Nat) : gup (-x) p = -gdown x p := by
  unfold gup gdown
  rw [Rat.neg_mul, Rat.ceil_eq_neg_floor_neg, Rat.neg_neg, Rat.intCast_neg, Rat.div_def, Rat.neg_mul, ← Rat.div_def]
theorem gdown_neg (x : Rat) (p : Nat) : gdown (-x) p = -gup x p := by
  have := gup_neg (-x) p
  rw [Rat.neg_neg] at this
  rw [this, Rat.neg_neg]
theorem gup_eq (x : Rat) (p : Nat) : gup x p = -gdown (-x) p := by rw [gdown_neg, Rat.neg_neg]
theorem le_gup (x : Rat) (p : Nat) : x ≤ gup x p := by
  have := gdown_le (-x) p
  rw [gup_eq]; grind
theorem gup_mono {x y : Rat} (p : Nat) (h : x ≤ y) : gup x p ≤ gup y p := by
  have := gdown_mono p (x := -y) (y := -x) (by grind)
  rw [gup_eq, gup_eq]; grind
namespace NS
theorem ok_hull {x : NS} {p : Nat} (hx : x.ok) : (hull p x).ok := by
  cases x with
  | e => trivial
  | i a b =>
    cases a <;> cases b <;> simp [ok, ordO, hull] at hx ⊢
    rename_i a b
    have := gdown_le a p
    have := le_gup b p
    grind
theorem hull_mono {x y : NS} {p : Nat} (h : x.within y = true) : (hull p x).within (hull p y) = true := by
  cases x with
  | e => rfl
  | i a b => cases y with
    | e => cases h
    | i c d =>
      simp only [within, Bool.and_eq_true] at h
      simp only [hull, within, Bool.and_eq_true]
      constructor
      · cases a <;> cases c <;> simp [lowIn, highIn] at h ⊢
        rename_i a c
        have := gdown_mono p (x := c) (y := a) (by grind)
        grind
      · cases b <;> cases d <;> simp [lowIn, highIn] at h ⊢
        rename_i b d
        have := gup_mono p (x := b) (y := d) (by grind)
        grind
theorem ok_minus {x : NS} (hx : x.ok) : (minus x).ok := by
  cases x with
  | e => trivial
  | i a b => cases a <;> cases b <;> simp [ok, ordO, minus] at hx ⊢; grind
end NS
end Go.Q
