/-
  Intervals as plain sets: two ends, each a number or infinite, or empty; the operations on them. Conditions: none.
  Plain laws of intervals: membership, meets, hulls, grids. Conditions: ends in order (ok).
-/
import Derived.Test.YtdmecaojlbkclaaGreatDoorRaBunH
set_option linter.unusedVariables false
set_option linter.unusedSimpArgs false
namespace Go.Q
inductive NS where
  | e
  | i (lo hi : Option Rat)
def oadd : Option Rat → Option Rat → Option Rat
  | some x, some y => some (x + y)
  | _, _ => none
def ordO : Option Rat → Option Rat → Bool
  | some x, some y => !decide (y < x)
  | _, _ => true
namespace NS
def mk' (a b : Option Rat) : NS := bif ordO a b then .i a b else .e
def hull (p : Nat) : NS → NS
  | .e => .e
  | .i a b => .i (a.map (gdown · p)) (b.map (gup · p))
def sum : NS → NS → NS
  | .i a b, .i c d => .i (oadd a c) (oadd b d)
  | _, _ => .e
def void : NS → Bool
  | .e => true
  | _ => false
def ok : NS → Prop
  | .e => True
  | .i a b => ordO a b = true
def all (f : Rat → Bool) : NS → Bool
  | .e => true
  | .i a b => a.all f && b.all f
def le (k : Nat) (x : NS) : Prop := x.all (fun q => decide (sz q ≤ k)) = true
instance (k : Nat) (x : NS) : Decidable (x.le k) := by unfold le; infer_instance
def slo : NS → Int
  | .e => 0
  | .i a _ => match a with
    | none => -1
    | some q => sgn3 q
def shi : NS → Int
  | .e => 0
  | .i _ b => match b with
    | none => 1
    | some q => sgn3 q
def zero (x : NS) : Bool := !x.void && decide (x.slo ≤ 0) && decide (0 ≤ x.shi)
def has : NS → Rat → Bool
  | .e, _ => false
  | .i a b, q => a.all (fun x => !decide (q < x)) && b.all (fun x => !decide (x < q))
end NS
abbrev Out := Except Int NS
def Out.fin : Out → Out
  | .error e => .error e
  | .ok x => bif decide (x.le 2048) then .ok x else .error 1
end Go.Q
namespace Go.Q
namespace NS
end NS
namespace NS
end NS
end Go.Q
