/-
  Intervals as plain sets: two ends, each a number or infinite, or empty; the operations on them. Conditions: none.
  Plain laws of intervals: membership, meets, hulls, grids. Conditions: ends in order (ok).
-/
import Derived.Test.YtdmecaojlbkclaaGreatDoorRaBunH
set_option linter.unusedVariables false
set_option linter.unusedSimpArgs false
namespace Go.Q
inductive NS where
  | e
  | i (lo hi : Option Rat)
def jmax : Option Rat → Option Rat → Option Rat
  | some x, some y => some (max x y)
  | _, _ => none
def oadd : Option Rat → Option Rat → Option Rat
  | some x, some y => some (x + y)
  | _, _ => none
def ordO : Option Rat → Option Rat → Bool
  | some x, some y => !decide (y < x)
  | _, _ => true
namespace NS
def mk' (a b : Option Rat) : NS := bif ordO a b then .i a b else .e
def hull (p : Nat) : NS → NS
  | .e => .e
  | .i a b => .i (a.map (gdown · p)) (b.map (gup · p))
def minus : NS → NS
  | .e => .e
  | .i a b => .i (b.map (-·)) (a.map (-·))
def sum : NS → NS → NS
  | .i a b, .i c d => .i (oadd a c) (oadd b d)
  | _, _ => .e
def void : NS → Bool
  | .e => true
  | _ => false
def ok : NS → Prop
  | .e => True
  | .i a b => ordO a b = true
def all (f : Rat → Bool) : NS → Bool
  | .e => true
  | .i a b => a.all f && b.all f
def le (k : Nat) (x : NS) : Prop := x.all (fun q => decide (sz q ≤ k)) = true
instance (k : Nat) (x : NS) : Decidable (x.le k) := by unfold le; infer_instance
def slo : NS → Int
  | .e => 0
  | .i a _ => match a with
    | none => -1
    | some q => sgn3 q
def shi : NS → Int
  | .e => 0
  | .i _ b => match b with
    | none => 1
    | some q => sgn3 q
def zero (x : NS) : Bool := !x.void && decide (x.slo ≤ 0) && decide (0 ≤ x.shi)
def has : NS → Rat → Bool
  | .e, _ => false
  | .i a b, q => a.all (fun x => !decide (q < x)) && b.all (fun x => !decide (x < q))
end NS
abbrev Out := Except Int NS
def Out.fin : Out → Out
  | .error e => .error e
  | .ok x => bif decide (x.le 2048) then .ok x else .error 1
end Go.Q
namespace Go.Q
namespace NS
end NS
theorem pow2_pos (p : Nat) : (0 : Rat) < 2 ^ p := Rat.pow_pos (by decide)
theorem div_le' {a b c : Rat} (hb : 0 < b) : a / b ≤ c ↔ a ≤ c * b := by
  have := Rat.lt_div_iff (a := c) (b := a) hb
  grind
theorem gdown_le (x : Rat) (p : Nat) : gdown x p ≤ x := by
  unfold gdown
  have h := Rat.floor_le (x * 2 ^ p)
  rw [div_le' (pow2_pos p)]
  exact h
theorem gup_neg (x : Rat) (p : Nat) : gup (-x) p = -gdown x p := by
  unfold gup gdown
  rw [Rat.neg_mul, Rat.ceil_eq_neg_floor_neg, Rat.neg_neg, Rat.intCast_neg, Rat.div_def, Rat.neg_mul, ← Rat.div_def]
theorem gdown_neg (x : Rat) (p : Nat) : gdown (-x) p = -gup x p := by
  have := gup_neg (-x) p
  rw [Rat.neg_neg] at this
  rw [this, Rat.neg_neg]
theorem gup_eq (x : Rat) (p : Nat) : gup x p = -gdown (-x) p := by rw [gdown_neg, Rat.neg_neg]
theorem le_gup (x : Rat) (p : Nat) : x ≤ gup x p := by
  have := gdown_le (-x) p
  rw [gup_eq]; grind
namespace NS
theorem ok_hull {x : NS} {p : Nat} (hx : x.ok) : (hull p x).ok := by
  cases x with
  | e => trivial
  | i a b =>
    cases a <;> cases b <;> simp [ok, ordO, hull] at hx ⊢
    rename_i a b
    have := gdown_le a p
    have := le_gup b p
    grind
theorem ok_minus {x : NS} (hx : x.ok) : (minus x).ok := by
  cases x with
  | e => trivial
  | i a b => cases a <;> cases b <;> simp [ok, ordO, minus] at hx ⊢; grind
end NS
end Go.Q
