/-
  Roots of numbers on a grid, plain; what package number returns for them. Conditions: the number is not large, the index from 2 to 8, the precision at most 256.
-/
import Derived.Test.YtdmecaojlbkclaaGreatDoorK84e199Wr
import Derived.Test.YtdmecaojlbkclaaGreatDoorRaBunL
import Derived.Test.YtdmecaojlbkclaaGreatDoorRaBunH
set_option linter.unusedVariables false
set_option linter.unusedSimpArgs false
namespace Go.Q
open Go.Proofs
set_option maxRecDepth 100000
set_option maxHeartbeats 8000000
def rtw (q : Rat) (n p : Nat) : Nat := q.num.natAbs * 2 ^ (p * n) / q.den
def rtx (q : Rat) (n p : Nat) : Bool := decide (irt n (rtw q n p) ^ n = rtw q n p) && decide (q.num.natAbs * 2 ^ (p * n) % q.den = 0)
def rtm (up : Bool) (q : Rat) (n p : Nat) : Nat := if (up != decide (q.num < 0)) = true ∧ rtx q n p = false then irt n (rtw q n p) + 1 else irt n (rtw q n p)
def rootg (up : Bool) (q : Rat) (n p : Nat) : Rat := sgn (decide (q.num < 0)) (rtm up q n p) (2 ^ p)
theorem irt_bl {n a k : Nat} (hn : n ≠ 0) (h : bl a ≤ n * k) : bl (irt n a) ≤ k := by
  have h1 : a < 2 ^ bl a := bl_le.1 (Nat.le_refl _)
  have h2 : (2 : Nat) ^ bl a ≤ 2 ^ (n * k) := Nat.pow_le_pow_right (by decide) h
  exact bl_le.2 (irt_lt_pow hn (Nat.lt_of_lt_of_le h1 h2))
theorem rtw_bl {q : Rat} {n p : Nat} (hs : sz q ≤ 2048) (hn : 2 ≤ n) : bl (rtw q n p) ≤ n * (1024 + p) := by
  have h1 := bl_div_le (q.num.natAbs * 2 ^ (p * n)) q.den
  have h2 := bl_shl q.num.natAbs (p * n)
  have h3 := sz_num q
  have h4 : 2 * 1024 ≤ n * 1024 := Nat.mul_le_mul_right _ hn
  have h5 : n * (1024 + p) = n * 1024 + p * n := by rw [Nat.mul_add, Nat.mul_comm n p]
  unfold rtw
  omega
theorem rtm_bl {up : Bool} {q : Rat} {n p : Nat} (hs : sz q ≤ 2048) (hn : 2 ≤ n) : bl (rtm up q n p) ≤ 1025 + p := by
  have h1 := irt_bl (n := n) (by omega) (rtw_bl (p := p) hs hn)
  unfold rtm
  split
  · have h2 := bl_add (irt n (rtw q n p)) 1
    rw [bl_one] at h2
    omega
  · omega
theorem rootg_sz {up : Bool} {q : Rat} {n p : Nat} (hs : sz q ≤ 2048) (hn : 2 ≤ n) (hp : p ≤ 256) : sz (rootg up q n p) ≤ 2048 := by
  have h1 := sz_sgn (decide (q.num < 0)) (rtm up q n p) (d := 2 ^ p) (Nat.ne_of_gt (Nat.pow_pos (by decide)))
  have h2 := rtm_bl (up := up) (p := p) hs hn
  have h3 := bl_pow2 p
  unfold rootg
  omega
end Go.Q
