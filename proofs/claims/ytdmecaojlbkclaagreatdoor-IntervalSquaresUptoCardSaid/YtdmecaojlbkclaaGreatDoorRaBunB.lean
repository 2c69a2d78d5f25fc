/-
  The program of this seat, and what its one listed variable holds. Conditions: none.
  The closed facts on the type table that the walks use, written by a program out of the translation. Conditions: none.
  Natural numbers as lists of digits, and slices that hold them. Conditions: none beyond each lemma's own.
-/
import Derived.Test.YtdmecaojlbkclaaGreatDoorRaBunA
import Derived.Test.YtdmecaojlbkclaaGreatDoorProg
set_option linter.unusedVariables false
set_option linter.unusedSimpArgs false
namespace Go.Q
open Go.Proofs
def debruijn : List Int := [0, 1, 28, 2, 29, 14, 24, 3, 30, 22, 20, 15, 25, 17, 4, 8, 31, 27, 13, 23, 21, 19, 16, 7, 26, 12, 18, 6, 11, 5, 10, 9]
def tabCells : Array Value := (debruijn.map (Value.int .u8)).toArray
noncomputable def mach : Mach := ⟨Tryz.prog, fun b => if b = 0 then some tabCells else none, by kernel_rfl⟩
end Go.Q
namespace Go.Q
@[go_sem] theorem ty_alen_9 : alen mach.P 9 = none := by kernel_rfl
@[go_sem] theorem ty_alen_22 : alen mach.P 22 = none := by kernel_rfl
@[go_sem] theorem ty_alen_39 : alen mach.P 39 = none := by kernel_rfl
@[go_sem] theorem ty_alen_54 : alen mach.P 54 = none := by kernel_rfl
@[go_sem] theorem ty_alen_118 : alen mach.P 118 = some 2 := by kernel_rfl
@[go_sem] theorem ty_alen_123 : alen mach.P 123 = some 2 := by kernel_rfl
@[go_sem] theorem ty_alen_156 : alen mach.P 156 = some 32 := by kernel_rfl
@[go_sem] theorem ty_concrete_91 : mach.P.concrete 91 = true := by kernel_rfl
@[go_sem] theorem ty_esz_9 : esz mach.P 9 = none := by kernel_rfl
@[go_sem] theorem ty_esz_22 : esz mach.P 22 = some 1 := by kernel_rfl
@[go_sem] theorem ty_esz_24 : esz mach.P 24 = none := by kernel_rfl
@[go_sem] theorem ty_esz_26 : esz mach.P 26 = none := by kernel_rfl
@[go_sem] theorem ty_esz_39 : esz mach.P 39 = some 1 := by kernel_rfl
@[go_sem] theorem ty_esz_41 : esz mach.P 41 = none := by kernel_rfl
@[go_sem] theorem ty_esz_43 : esz mach.P 43 = none := by kernel_rfl
@[go_sem] theorem ty_esz_54 : esz mach.P 54 = some 1 := by kernel_rfl
@[go_sem] theorem ty_esz_56 : esz mach.P 56 = none := by kernel_rfl
@[go_sem] theorem ty_esz_58 : esz mach.P 58 = none := by kernel_rfl
@[go_sem] theorem ty_esz_91 : esz mach.P 91 = none := by kernel_rfl
@[go_sem] theorem ty_esz_117 : esz mach.P 117 = none := by kernel_rfl
@[go_sem] theorem ty_esz_118 : esz mach.P 118 = some 4 := by kernel_rfl
@[go_sem] theorem ty_esz_122 : esz mach.P 122 = none := by kernel_rfl
@[go_sem] theorem ty_esz_123 : esz mach.P 123 = some 4 := by kernel_rfl
@[go_sem] theorem ty_esz_156 : esz mach.P 156 = some 1 := by kernel_rfl
@[go_sem] theorem ty_etk_9 : etk mach.P 9 = none := by kernel_rfl
@[go_sem] theorem ty_etk_24 : etk mach.P 24 = none := by kernel_rfl
@[go_sem] theorem ty_etk_26 : etk mach.P 26 = none := by kernel_rfl
@[go_sem] theorem ty_etk_41 : etk mach.P 41 = none := by kernel_rfl
@[go_sem] theorem ty_etk_43 : etk mach.P 43 = none := by kernel_rfl
@[go_sem] theorem ty_etk_56 : etk mach.P 56 = none := by kernel_rfl
@[go_sem] theorem ty_etk_58 : etk mach.P 58 = none := by kernel_rfl
@[go_sem] theorem ty_etk_91 : etk mach.P 91 = none := by kernel_rfl
@[go_sem] theorem ty_etk_117 : etk mach.P 117 = none := by kernel_rfl
@[go_sem] theorem ty_etk_118 : etk mach.P 118 = some (some 4) := by kernel_rfl
@[go_sem] theorem ty_etk_122 : etk mach.P 122 = none := by kernel_rfl
@[go_sem] theorem ty_etk_123 : etk mach.P 123 = some (some 4) := by kernel_rfl
@[go_sem] theorem ty_fo_24_0 : fo mach.P 24 0 = some 0 := by kernel_rfl
@[go_sem] theorem ty_fo_24_1 : fo mach.P 24 1 = some 1 := by kernel_rfl
@[go_sem] theorem ty_fo_24_2 : fo mach.P 24 2 = some 2 := by kernel_rfl
@[go_sem] theorem ty_fo_26_0 : fo mach.P 26 0 = some 0 := by kernel_rfl
@[go_sem] theorem ty_fo_26_1 : fo mach.P 26 1 = some 3 := by kernel_rfl
@[go_sem] theorem ty_fo_26_2 : fo mach.P 26 2 = some 6 := by kernel_rfl
@[go_sem] theorem ty_fo_26_3 : fo mach.P 26 3 = some 7 := by kernel_rfl
@[go_sem] theorem ty_fo_41_0 : fo mach.P 41 0 = some 0 := by kernel_rfl
@[go_sem] theorem ty_fo_41_1 : fo mach.P 41 1 = some 1 := by kernel_rfl
@[go_sem] theorem ty_fo_41_2 : fo mach.P 41 2 = some 2 := by kernel_rfl
@[go_sem] theorem ty_fo_43_0 : fo mach.P 43 0 = some 0 := by kernel_rfl
@[go_sem] theorem ty_fo_43_1 : fo mach.P 43 1 = some 3 := by kernel_rfl
@[go_sem] theorem ty_fo_43_2 : fo mach.P 43 2 = some 6 := by kernel_rfl
@[go_sem] theorem ty_fo_43_3 : fo mach.P 43 3 = some 7 := by kernel_rfl
@[go_sem] theorem ty_fo_43_4 : fo mach.P 43 4 = some 8 := by kernel_rfl
@[go_sem] theorem ty_fo_56_0 : fo mach.P 56 0 = some 0 := by kernel_rfl
@[go_sem] theorem ty_fo_56_1 : fo mach.P 56 1 = some 1 := by kernel_rfl
@[go_sem] theorem ty_fo_56_2 : fo mach.P 56 2 = some 2 := by kernel_rfl
@[go_sem] theorem ty_fo_58_0 : fo mach.P 58 0 = some 0 := by kernel_rfl
@[go_sem] theorem ty_fo_58_1 : fo mach.P 58 1 = some 3 := by kernel_rfl
@[go_sem] theorem ty_fo_58_2 : fo mach.P 58 2 = some 6 := by kernel_rfl
@[go_sem] theorem ty_fo_58_3 : fo mach.P 58 3 = some 7 := by kernel_rfl
@[go_sem] theorem ty_fo_58_4 : fo mach.P 58 4 = some 8 := by kernel_rfl
@[go_sem] theorem ty_fo_91_0 : fo mach.P 91 0 = some 0 := by kernel_rfl
@[go_sem] theorem ty_fo_117_0 : fo mach.P 117 0 = some 0 := by kernel_rfl
@[go_sem] theorem ty_fo_117_1 : fo mach.P 117 1 = some 3 := by kernel_rfl
@[go_sem] theorem ty_fo_122_0 : fo mach.P 122 0 = some 0 := by kernel_rfl
@[go_sem] theorem ty_fo_122_1 : fo mach.P 122 1 = some 1 := by kernel_rfl
@[go_sem] theorem ty_fpls_24 : fpls mach.P 24 = some [(0, none), (1, none), (2, none)] := by kernel_rfl
@[go_sem] theorem ty_fpls_26 : fpls mach.P 26 = some [(0, some 3), (3, some 3), (6, none), (7, none)] := by kernel_rfl
@[go_sem] theorem ty_fpls_41 : fpls mach.P 41 = some [(0, none), (1, none), (2, none)] := by kernel_rfl
@[go_sem] theorem ty_fpls_43 : fpls mach.P 43 = some [(0, some 3), (3, some 3), (6, none), (7, none), (8, none)] := by kernel_rfl
@[go_sem] theorem ty_fpls_56 : fpls mach.P 56 = some [(0, none), (1, none), (2, none)] := by kernel_rfl
@[go_sem] theorem ty_fpls_58 : fpls mach.P 58 = some [(0, some 3), (3, some 3), (6, none), (7, none), (8, none)] := by kernel_rfl
@[go_sem] theorem ty_fpls_91 : fpls mach.P 91 = some [(0, none)] := by kernel_rfl
@[go_sem] theorem ty_fpls_117 : fpls mach.P 117 = some [(0, some 3), (3, none)] := by kernel_rfl
@[go_sem] theorem ty_fpls_118 : fpls mach.P 118 = none := by kernel_rfl
@[go_sem] theorem ty_fpls_122 : fpls mach.P 122 = some [(0, none), (1, some 3)] := by kernel_rfl
@[go_sem] theorem ty_fpls_123 : fpls mach.P 123 = none := by kernel_rfl
@[go_sem] theorem ty_mk1_22 : mk1 mach.P 22 = some ((.int .u32 0), 4) := by kernel_rfl
@[go_sem] theorem ty_mk1_54 : mk1 mach.P 54 = some ((.int .u32 0), 4) := by kernel_rfl
@[go_sem] theorem ty_tk_3 : tk mach.P 3 = some none := by kernel_rfl
@[go_sem] theorem ty_tk_4 : tk mach.P 4 = some none := by kernel_rfl
@[go_sem] theorem ty_tk_5 : tk mach.P 5 = some none := by kernel_rfl
@[go_sem] theorem ty_tk_22 : tk mach.P 22 = some none := by kernel_rfl
@[go_sem] theorem ty_tk_24 : tk mach.P 24 = some (some 3) := by kernel_rfl
@[go_sem] theorem ty_tk_26 : tk mach.P 26 = some (some 8) := by kernel_rfl
@[go_sem] theorem ty_tk_27 : tk mach.P 27 = some none := by kernel_rfl
@[go_sem] theorem ty_tk_39 : tk mach.P 39 = some none := by kernel_rfl
@[go_sem] theorem ty_tk_41 : tk mach.P 41 = some (some 3) := by kernel_rfl
@[go_sem] theorem ty_tk_43 : tk mach.P 43 = some (some 9) := by kernel_rfl
@[go_sem] theorem ty_tk_53 : tk mach.P 53 = some none := by kernel_rfl
@[go_sem] theorem ty_tk_54 : tk mach.P 54 = some none := by kernel_rfl
@[go_sem] theorem ty_tk_56 : tk mach.P 56 = some (some 3) := by kernel_rfl
@[go_sem] theorem ty_tk_58 : tk mach.P 58 = some (some 9) := by kernel_rfl
@[go_sem] theorem ty_tk_68 : tk mach.P 68 = some none := by kernel_rfl
@[go_sem] theorem ty_tk_75 : tk mach.P 75 = some none := by kernel_rfl
@[go_sem] theorem ty_tk_91 : tk mach.P 91 = some (some 1) := by kernel_rfl
@[go_sem] theorem ty_tk_117 : tk mach.P 117 = some (some 4) := by kernel_rfl
@[go_sem] theorem ty_tk_118 : tk mach.P 118 = some (some 8) := by kernel_rfl
@[go_sem] theorem ty_tk_122 : tk mach.P 122 = some (some 4) := by kernel_rfl
@[go_sem] theorem ty_tk_123 : tk mach.P 123 = some (some 8) := by kernel_rfl
@[go_sem] theorem ty_uk_2 : uk mach.P 2 = .int .i64 := by kernel_rfl
@[go_sem] theorem ty_uk_3 : uk mach.P 3 = .int .i64 := by kernel_rfl
@[go_sem] theorem ty_uk_4 : uk mach.P 4 = .bool := by kernel_rfl
@[go_sem] theorem ty_uk_5 : uk mach.P 5 = .int .u8 := by kernel_rfl
@[go_sem] theorem ty_uk_9 : uk mach.P 9 = .string := by kernel_rfl
@[go_sem] theorem ty_uk_20 : uk mach.P 20 = .iface := by kernel_rfl
@[go_sem] theorem ty_uk_22 : uk mach.P 22 = .slice := by kernel_rfl
@[go_sem] theorem ty_uk_24 : uk mach.P 24 = .struct := by kernel_rfl
@[go_sem] theorem ty_uk_26 : uk mach.P 26 = .struct := by kernel_rfl
@[go_sem] theorem ty_uk_27 : uk mach.P 27 = .int .i64 := by kernel_rfl
@[go_sem] theorem ty_uk_39 : uk mach.P 39 = .slice := by kernel_rfl
@[go_sem] theorem ty_uk_41 : uk mach.P 41 = .struct := by kernel_rfl
@[go_sem] theorem ty_uk_43 : uk mach.P 43 = .struct := by kernel_rfl
@[go_sem] theorem ty_uk_54 : uk mach.P 54 = .slice := by kernel_rfl
@[go_sem] theorem ty_uk_56 : uk mach.P 56 = .struct := by kernel_rfl
@[go_sem] theorem ty_uk_58 : uk mach.P 58 = .struct := by kernel_rfl
@[go_sem] theorem ty_uk_68 : uk mach.P 68 = .int .u32 := by kernel_rfl
@[go_sem] theorem ty_uk_91 : uk mach.P 91 = .struct := by kernel_rfl
@[go_sem] theorem ty_uk_105 : uk mach.P 105 = .int .u64 := by kernel_rfl
@[go_sem] theorem ty_uk_117 : uk mach.P 117 = .struct := by kernel_rfl
@[go_sem] theorem ty_uk_118 : uk mach.P 118 = .array 2 := by kernel_rfl
@[go_sem] theorem ty_uk_122 : uk mach.P 122 = .struct := by kernel_rfl
@[go_sem] theorem ty_uk_123 : uk mach.P 123 = .array 2 := by kernel_rfl
@[go_sem] theorem ty_uk_142 : uk mach.P 142 = .int .u64 := by kernel_rfl
@[go_sem] theorem ty_uk_156 : uk mach.P 156 = .array 32 := by kernel_rfl
@[go_sem] theorem ty_zer_4 : zer mach.P 4 = some [(.bool false)] := by kernel_rfl
@[go_sem] theorem ty_zer_24 : zer mach.P 24 = some [(.bool false), (.slice none 0 0), (.slice none 0 0)] := by kernel_rfl
@[go_sem] theorem ty_zer_26 : zer mach.P 26 = some [(.bool false), (.slice none 0 0), (.slice none 0 0), (.bool false), (.slice none 0 0), (.slice none 0 0), (.bool false), (.bool false)] := by kernel_rfl
@[go_sem] theorem ty_zer_27 : zer mach.P 27 = some [(.int .i64 0)] := by kernel_rfl
@[go_sem] theorem ty_zer_41 : zer mach.P 41 = some [(.bool false), (.slice none 0 0), (.slice none 0 0)] := by kernel_rfl
@[go_sem] theorem ty_zer_43 : zer mach.P 43 = some [(.bool false), (.slice none 0 0), (.slice none 0 0), (.bool false), (.slice none 0 0), (.slice none 0 0), (.bool false), (.bool false), (.bool false)] := by kernel_rfl
@[go_sem] theorem ty_zer_56 : zer mach.P 56 = some [(.bool false), (.slice none 0 0), (.slice none 0 0)] := by kernel_rfl
@[go_sem] theorem ty_zer_58 : zer mach.P 58 = some [(.bool false), (.slice none 0 0), (.slice none 0 0), (.bool false), (.slice none 0 0), (.slice none 0 0), (.bool false), (.bool false), (.bool false)] := by kernel_rfl
@[go_sem] theorem ty_zer_91 : zer mach.P 91 = some [(.int .i64 0)] := by kernel_rfl
@[go_sem] theorem ty_zer_117 : zer mach.P 117 = some [(.bool false), (.slice none 0 0), (.slice none 0 0), (.int .i64 0)] := by kernel_rfl
@[go_sem] theorem ty_zer_118 : zer mach.P 118 = some [(.bool false), (.slice none 0 0), (.slice none 0 0), (.int .i64 0), (.bool false), (.slice none 0 0), (.slice none 0 0), (.int .i64 0)] := by kernel_rfl
@[go_sem] theorem ty_zer_122 : zer mach.P 122 = some [(.int .i64 0), (.bool false), (.slice none 0 0), (.slice none 0 0)] := by kernel_rfl
@[go_sem] theorem ty_zer_123 : zer mach.P 123 = some [(.int .i64 0), (.bool false), (.slice none 0 0), (.slice none 0 0), (.int .i64 0), (.bool false), (.slice none 0 0), (.slice none 0 0)] := by kernel_rfl
end Go.Q
namespace Go.Q
/-! ### Digits -/
def W (B n : Nat) : List Nat := if h : n = 0 ∨ B ≤ 1 then [] else n % B :: W B (n / B)
termination_by n
decreasing_by exact Nat.div_lt_self (by omega) (by omega)
def val (B : Nat) : List Nat → Nat
  | [] => 0
  | x :: xs => x + B * val B xs
theorem W_zero (B : Nat) : W B 0 = [] := by unfold W; simp
theorem W_pos {B n : Nat} (hB : 2 ≤ B) (hn : n ≠ 0) : W B n = n % B :: W B (n / B) := by
  rw [W]; rw [dif_neg (by omega)]
theorem val_W {B : Nat} (hB : 2 ≤ B) (n : Nat) : val B (W B n) = n := by
  induction n using Nat.strongRecOn with
  | _ n ih =>
    by_cases hn : n = 0
    · subst hn; rw [W_zero]; rfl
    · rw [W_pos hB hn, val, ih _ (Nat.div_lt_self (by omega) (by omega))]
      exact Nat.mod_add_div n B
theorem W_lt {B : Nat} (hB : 2 ≤ B) (n : Nat) : ∀ x ∈ W B n, x < B := by
  induction n using Nat.strongRecOn with
  | _ n ih =>
    by_cases hn : n = 0
    · subst hn; rw [W_zero]; intro x hx; cases hx
    · rw [W_pos hB hn]
      intro x hx
      rcases List.mem_cons.1 hx with rfl | hx
      · exact Nat.mod_lt _ (by omega)
      · exact ih _ (Nat.div_lt_self (by omega) (by omega)) x hx
theorem W_ne_nil {B n : Nat} (hB : 2 ≤ B) (hn : n ≠ 0) : W B n ≠ [] := by rw [W_pos hB hn]; simp
theorem W_last {B : Nat} (hB : 2 ≤ B) (n : Nat) : (W B n).getLast? ≠ some 0 := by
  induction n using Nat.strongRecOn with
  | _ n ih =>
    by_cases hn : n = 0
    · subst hn; rw [W_zero]; simp
    · rw [W_pos hB hn]
      by_cases hd : n / B = 0
      · rw [hd, W_zero]
        have : n < B := by
          rcases Nat.lt_or_ge n B with h | h
          · exact h
          · have := Nat.div_pos h (by omega); omega
        simp [Nat.mod_eq_of_lt this, hn]
      · have h1 := ih _ (Nat.div_lt_self (by omega) (by omega : 1 < B))
        have h2 := W_ne_nil hB hd
        cases hw : W B (n / B) with
        | nil => exact (h2 hw).elim
        | cons y ys => rw [hw] at h1; simpa [List.getLast?_cons_cons] using h1
/-- The digits are known by the value. -/
theorem W_val {B : Nat} (hB : 2 ≤ B) : ∀ (xs : List Nat), (∀ x ∈ xs, x < B) → xs.getLast? ≠ some 0 → W B (val B xs) = xs := by
  intro xs
  induction xs with
  | nil => intro _ _; exact W_zero B
  | cons x xs ih =>
    intro hlt hlast
    have hx := hlt x (List.mem_cons_self ..)
    have ih' := ih (fun y hy => hlt y (List.mem_cons_of_mem _ hy)) (by
      cases xs with
      | nil => simp
      | cons y ys => simpa [List.getLast?_cons_cons] using hlast)
    have hne : val B (x :: xs) ≠ 0 := by
      simp only [val]
      intro h
      have hx0 : x = 0 := by omega
      have hv0 : val B xs = 0 := by
        rcases Nat.eq_zero_or_pos (val B xs) with h | h
        · exact h
        · have := Nat.mul_pos (show 0 < B by omega) h; omega
      rw [hv0, W_zero] at ih'
      subst hx0
      rw [← ih'] at hlast
      simp at hlast
    rw [W_pos hB hne]
    have h1 : val B (x :: xs) % B = x := by simp only [val]; rw [Nat.add_mul_mod_self_left]; exact Nat.mod_eq_of_lt hx
    have h2 : val B (x :: xs) / B = val B xs := by
      simp only [val]
      rw [Nat.add_mul_div_left _ _ (by omega), Nat.div_eq_of_lt hx, Nat.zero_add]
    rw [h1, h2, ih']
theorem val_append (B : Nat) : ∀ (xs ys : List Nat), val B (xs ++ ys) = val B xs + B ^ xs.length * val B ys := by
  intro xs ys
  induction xs with
  | nil => simp [val]
  | cons x xs ih =>
    simp only [List.cons_append, val, ih, List.length_cons, Nat.pow_succ]
    rw [Nat.mul_add, Nat.mul_comm (B ^ xs.length) B, Nat.mul_assoc, Nat.add_assoc]
theorem val_zeros (B k : Nat) : val B (List.replicate k 0) = 0 := by
  induction k with
  | zero => rfl
  | succ k ih => simp [List.replicate_succ, val, ih]
theorem val_lt {B : Nat} (hB : 1 ≤ B) : ∀ (xs : List Nat), (∀ x ∈ xs, x < B) → val B xs < B ^ xs.length := by
  intro xs
  induction xs with
  | nil => intro _; simp [val]
  | cons x xs ih =>
    intro hlt
    have hx := hlt x (List.mem_cons_self ..)
    have h1 := ih (fun y hy => hlt y (List.mem_cons_of_mem _ hy))
    simp only [val, List.length_cons, Nat.pow_succ]
    have : B * val B xs + B ≤ B ^ xs.length * B := by
      have := Nat.mul_le_mul_left B (show val B xs + 1 ≤ B ^ xs.length by omega)
      rw [Nat.mul_add, Nat.mul_one] at this
      rw [Nat.mul_comm (B ^ xs.length) B]
      exact this
    omega
/-- The number of digits: no power of the base below it reaches the number. -/
theorem W_length_le {B : Nat} (hB : 2 ≤ B) {n k : Nat} (h : n < B ^ k) : (W B n).length ≤ k := by
  induction k generalizing n with
  | zero => have : n = 0 := by simpa using h
            subst this; rw [W_zero]; simp
  | succ k ih =>
    by_cases hn : n = 0
    · subst hn; rw [W_zero]; simp
    · rw [W_pos hB hn]
      have : n / B < B ^ k := by rw [Nat.div_lt_iff_lt_mul (by omega)]; rw [← Nat.pow_succ]; exact h
      have := ih this
      simp; omega
theorem lt_W_length {B : Nat} (hB : 2 ≤ B) (n : Nat) : n < B ^ (W B n).length := by
  have := val_lt (show 1 ≤ B by omega) (W B n) (W_lt hB n)
  rwa [val_W hB] at this
theorem W_length_ge {B : Nat} (hB : 2 ≤ B) {n k : Nat} (h : B ^ k ≤ n) : k < (W B n).length := by
  rcases Nat.lt_or_ge k (W B n).length with h' | h'
  · exact h'
  · exfalso
    have h1 := lt_W_length hB n
    have h2 := Nat.pow_le_pow_right (show 0 < B by omega) h'
    omega
/-! ### Slices of words -/
/-- The slice at a, of capacity c, holds the words xs. -/
structure Arr (h : PH) (a : Option Addr) (c : Nat) (xs : List Nat) : Prop where
  cap : xs.length ≤ c
  small : xs.length ≤ 2 ^ 46
  lt : ∀ x ∈ xs, x < 4294967296
  at_ : ∀ (i : Nat) (x : Nat), xs[i]? = some x → ∃ ad, a = some ad ∧ h.at (ad.add i) = some (.int .u32 x)
theorem Arr.to {h h' : PH} {a : Option Addr} {c : Nat} {xs : List Nat} (r : Arr h a c xs) [l : Le h h'] : Arr h' a c xs :=
  ⟨r.cap, r.small, r.lt, fun i x hx => let ⟨ad, h1, h2⟩ := r.at_ i x hx; ⟨ad, h1, l.sub.at h2⟩⟩
theorem Arr.take {h : PH} {a : Option Addr} {c : Nat} {xs : List Nat} (r : Arr h a c xs) (k : Nat) : Arr h a c (xs.take k) :=
  ⟨by have := r.cap; simp; omega, by have := r.small; simp; omega, fun x hx => r.lt x (List.mem_of_mem_take hx), fun i x hx => r.at_ i x (by
    rw [List.getElem?_take] at hx
    split at hx
    · exact hx
    · cases hx)⟩
theorem Arr.get {h : PH} {a : Option Addr} {c : Nat} {xs : List Nat} (r : Arr h a c xs) {i : Nat} (hi : i < xs.length) : ∃ ad, a = some ad ∧ h.at (ad.add i) = some (.int .u32 (xs.getD i 0)) := by
  refine r.at_ i _ ?_
  simp [hi]
theorem Arr.nil (h : PH) : Arr h none 0 [] := ⟨by simp, by simp, by simp, by simp⟩
/-- A number in words of 32 bits. -/
def N32 (h : PH) (v : Value) (n : Nat) : Prop := ∃ a c, v = .slice a (W 4294967296 n).length c ∧ Arr h a c (W 4294967296 n)
theorem N32.to {h h' : PH} {v : Value} {n : Nat} (r : N32 h v n) [Le h h'] : N32 h' v n := let ⟨a, c, h1, h2⟩ := r; ⟨a, c, h1, h2.to⟩
theorem N32.zero (h : PH) : N32 h (.slice none 0 0) 0 := ⟨none, 0, by rw [W_zero]; rfl, by rw [W_zero]; exact Arr.nil h⟩
@[go_sem] theorem wi64 {x : Int} (h0 : -9223372036854775808 ≤ x) (h1 : x ≤ 9223372036854775807) : IntKind.i64.wrap x = x := by
  rw [IntKind.wrap_i64]
  omega
@[go_sem] theorem wu64 {x : Int} (h0 : 0 ≤ x) (h1 : x ≤ 18446744073709551615) : IntKind.u64.wrap x = x := by
  rw [IntKind.wrap_u64]
  omega
@[go_sem] theorem wu32 {x : Int} (h0 : 0 ≤ x) (h1 : x ≤ 4294967295) : IntKind.u32.wrap x = x := by
  rw [IntKind.wrap_u32]
  omega
@[go_sem] theorem wu8 {x : Int} (h0 : 0 ≤ x) (h1 : x ≤ 255) : IntKind.u8.wrap x = x := by
  rw [IntKind.wrap_u8]
  omega
@[go_sem low] theorem wu32m (n : Nat) : IntKind.u32.wrap (n : Int) = ((n % 4294967296 : Nat) : Int) := by
  rw [IntKind.wrap_u32]
  omega
@[go_sem low] theorem wu64m (n : Nat) : IntKind.u64.wrap (n : Int) = ((n % 18446744073709551616 : Nat) : Int) := by
  rw [IntKind.wrap_u64]
  omega
@[go_sem low] theorem wu8m (n : Nat) : IntKind.u8.wrap (n : Int) = ((n % 256 : Nat) : Int) := by
  rw [IntKind.wrap_u8]
  omega
@[go_sem] theorem nc_add (a b : Nat) : ((a : Int) + (b : Int)) = ((a + b : Nat) : Int) := by omega
@[go_sem] theorem nc0 : ((0 : Nat) : Int) = 0 := rfl
@[go_sem] theorem nc1 : ((1 : Nat) : Int) = 1 := rfl
@[go_sem] theorem nc_add1 (a : Nat) : ((a : Int) + 1) = ((a + 1 : Nat) : Int) := by omega
@[go_sem] theorem nc_mul (a b : Nat) : ((a : Int) * (b : Int)) = ((a * b : Nat) : Int) := by simp
@[go_sem] theorem nc_sub1 {a : Nat} (h : 1 ≤ a) : ((a : Int) - 1) = ((a - 1 : Nat) : Int) := by omega
@[go_sem] theorem nc_sub {a b : Nat} (h : b ≤ a) : ((a : Int) - (b : Int)) = ((a - b : Nat) : Int) := by omega
theorem fdivp (s x : Nat) : (s : Int).fdiv (2 ^ x) = ((s / 2 ^ x : Nat) : Int) := by
  rw [Int.fdiv_eq_ediv_of_nonneg _ (Int.le_of_lt (Int.pow_pos (by omega)))]
  simp
@[go_sem] theorem fdiv32 (s : Nat) : (s : Int).fdiv (2 ^ min (Int.toNat 32) 64) = ((s / 4294967296 : Nat) : Int) := fdivp s 32
@[go_sem] theorem fdiv16 (s : Nat) : (s : Int).fdiv (2 ^ min (Int.toNat 16) 32) = ((s / 65536 : Nat) : Int) := fdivp s 16
@[go_sem] theorem fdiv8 (s : Nat) : (s : Int).fdiv (2 ^ min (Int.toNat 8) 32) = ((s / 256 : Nat) : Int) := fdivp s 8
@[go_sem] theorem fdiv27 (s : Nat) : (s : Int).fdiv (2 ^ min (Int.toNat 27) 32) = ((s / 134217728 : Nat) : Int) := fdivp s 27
@[go_sem] theorem fdiv63 (s : Nat) : (s : Int).fdiv (2 ^ min (Int.toNat 63) 64) = ((s / 9223372036854775808 : Nat) : Int) := fdivp s 63
@[go_sem low] theorem fdivn (s : Nat) {x w : Nat} (h : x ≤ w) : (s : Int).fdiv (2 ^ min x w) = ((s / 2 ^ x : Nat) : Int) := by rw [Nat.min_eq_left h, fdivp]
@[go_sem] theorem rep2 {α : Type} (x : α) : List.replicate 2 x = [x, x] := rfl
@[go_sem] theorem tmod_nat (a b : Nat) : (a : Int).tmod (b : Int) = ((a % b : Nat) : Int) := rfl
@[go_sem] theorem tdiv_nat (a b : Nat) : (a : Int).tdiv (b : Int) = ((a / b : Nat) : Int) := rfl
@[go_sem low] theorem nc_addO (a b : Nat) : (a : Int) + (no_index (@OfNat.ofNat Int b instOfNat)) = ((a + @OfNat.ofNat Nat b (instOfNatNat b) : Nat) : Int) := rfl
@[go_sem low] theorem nc_Oadd (a b : Nat) : (no_index (@OfNat.ofNat Int b instOfNat)) + (a : Int) = ((@OfNat.ofNat Nat b (instOfNatNat b) + a : Nat) : Int) := rfl
@[go_sem low] theorem nc_mulO (a b : Nat) : (a : Int) * (no_index (@OfNat.ofNat Int b instOfNat)) = ((a * @OfNat.ofNat Nat b (instOfNatNat b) : Nat) : Int) := rfl
@[go_sem low] theorem nc_Omul (a b : Nat) : (no_index (@OfNat.ofNat Int b instOfNat)) * (a : Int) = ((@OfNat.ofNat Nat b (instOfNatNat b) * a : Nat) : Int) := rfl
@[go_sem low] theorem tdivO (a b : Nat) : (a : Int).tdiv (no_index (@OfNat.ofNat Int b instOfNat)) = ((a / @OfNat.ofNat Nat b (instOfNatNat b) : Nat) : Int) := rfl
@[go_sem low] theorem tmodO (a b : Nat) : (a : Int).tmod (no_index (@OfNat.ofNat Int b instOfNat)) = ((a % @OfNat.ofNat Nat b (instOfNatNat b) : Nat) : Int) := rfl
@[go_sem low] theorem nc_subO {a b : Nat} (h : @OfNat.ofNat Nat b (instOfNatNat b) ≤ a) : (a : Int) - (no_index (@OfNat.ofNat Int b instOfNat)) = ((a - @OfNat.ofNat Nat b (instOfNatNat b) : Nat) : Int) := by
  have : (@OfNat.ofNat Int b instOfNat) = ((@OfNat.ofNat Nat b (instOfNatNat b) : Nat) : Int) := rfl
  rw [this]; omega
@[go_sem] theorem shl32 (x : Nat) : (x : Int) * 2 ^ (min (Int.toNat 32) 64) = ((x * 4294967296 : Nat) : Int) := rfl
@[go_sem low] theorem shln {x r w : Nat} (h : r ≤ w) : (x : Int) * 2 ^ (min r w) = ((x * 2 ^ r : Nat) : Int) := by rw [Nat.min_eq_left h]; simp
theorem ofInt_toNat (w n : Nat) (h : n < 2 ^ w) : (BitVec.ofInt w (n : Int)).toNat = n := by
  rw [BitVec.toNat_ofInt, ← Int.natCast_emod, Int.toNat_natCast, Nat.mod_eq_of_lt h]
@[go_sem] theorem andI_u32 {a b : Nat} (ha : a < 4294967296) (hb : b < 4294967296) : andI .u32 a b = ((a &&& b : Nat) : Int) := by
  unfold andI
  rw [BitVec.toNat_and]
  rw [show IntKind.u32.bits = 32 from rfl, ofInt_toNat 32 a ha, ofInt_toNat 32 b hb, wu32m, Nat.mod_eq_of_lt (Nat.and_lt_two_pow (n := 32) _ hb)]
@[go_sem] theorem andI_u64 {a b : Nat} (ha : a < 18446744073709551616) (hb : b < 18446744073709551616) : andI .u64 a b = ((a &&& b : Nat) : Int) := by
  unfold andI
  rw [BitVec.toNat_and]
  rw [show IntKind.u64.bits = 64 from rfl, ofInt_toNat 64 a ha, ofInt_toNat 64 b hb, wu64m, Nat.mod_eq_of_lt (Nat.and_lt_two_pow (n := 64) _ hb)]
@[go_sem] theorem orI_u32 {a b : Nat} (ha : a < 4294967296) (hb : b < 4294967296) : orI .u32 a b = ((a ||| b : Nat) : Int) := by
  unfold orI
  rw [BitVec.toNat_or]
  rw [show IntKind.u32.bits = 32 from rfl, ofInt_toNat 32 a ha, ofInt_toNat 32 b hb, wu32m, Nat.mod_eq_of_lt (Nat.or_lt_two_pow (n := 32) ha hb)]
@[go_sem] theorem orI_u64 {a b : Nat} (ha : a < 18446744073709551616) (hb : b < 18446744073709551616) : orI .u64 a b = ((a ||| b : Nat) : Int) := by
  unfold orI
  rw [BitVec.toNat_or]
  rw [show IntKind.u64.bits = 64 from rfl, ofInt_toNat 64 a ha, ofInt_toNat 64 b hb, wu64m, Nat.mod_eq_of_lt (Nat.or_lt_two_pow (n := 64) ha hb)]
theorem dT {p : Prop} [Decidable p] (h : p) : decide p = true := decide_eq_true h
theorem dF {p : Prop} [Decidable p] (h : ¬ p) : decide p = false := decide_eq_false h
theorem eT {x y : Int} (h : x = y) : (x == y) = true := by simp [h]
theorem eF {x y : Int} (h : x ≠ y) : (x == y) = false := by simp [h]
theorem nT {x y : Int} (h : x ≠ y) : (x != y) = true := by simp [h]
theorem nF {x y : Int} (h : x = y) : (x != y) = false := by simp [h]
theorem aT {p q : Prop} (h : p) : (p ∧ q) = q := by simp [h]
attribute [go_sem] dT dF eT eF nT nF aT Int.toNat_natCast
/-! ### Steps of a walk -/
/-- It is no region. -/
def notReg : Code → Bool
  | .region .. => false
  | _ => true
/-- What an operation's guard is, and what it must be to let it be carried out. -/
def gl1 (S : AS) : Option (Nat × Bool) → AV
  | none => .v (.bool true)
  | some (t, _) => lk S.sl t
def gr1 : Option (Nat × Bool) → AV
  | none => .v (.bool true)
  | some (_, w) => .v (.bool w)
/-- Does its guard let it be carried out, where b is what it reads? -/
@[go_sem] def gq : Bool → Option (Nat × Bool) → Bool
  | _, none => true
  | true, some (_, true) => true
  | true, some (_, false) => false
  | false, some (_, true) => false
  | false, some (_, false) => true
@[go_sem] def stepG : Bool → Mach → (List PanicEntry → PH → Prop) → GOp → (AS → PH → Prop) → AS → PH → Prop
  | true, M, E, g, k, S, h => step1 M E g k S h
  | false, _, _, g, k, S, h => k (S.put g.dst (.v undef)) h
theorem qs_n {next : AS → PH → Prop} {Q : Exit → AS → PH → Prop} {S : AS} {h : PH} (hk : next S h) : qs next Q .normal S h := hk
section
variable {M : Mach} {C : Ctx} {n : Nat} {E : List PanicEntry → PH → Prop} {d : Option Nat} {op : Op} {l : List GX} {K : AS → PH → Prop} {S : AS} {h : PH} {id : Nat} {ops : Array Oper} {c y : Code} {Q : Exit → AS → PH → Prop} {gd : Option (Nat × Bool)}
/-- One operation, carried out or left by its guard. -/
theorem wo {b : Bool} (hg : gl1 S gd = .v (.bool b)) (hk : ∀ k : AS → PH → Prop, (∀ S h, walk M E l K S h → k S h) → stepG (gq b gd) M E ⟨d, op, none⟩ k S h) : walk M E (.o ⟨d, op, gd⟩ :: l) K S h := by
  cases gd with
  | none => exact wk hk
  | some g =>
    obtain ⟨t, want⟩ := g
    cases b <;> cases want
    · exact wkT hg hk
    · exact wkG hg hk
    · exact wkG hg hk
    · exact wkT hg hk
theorem wc (hg : gl1 S gd = gr1 gd) (hk : ∀ k : AS → PH → Prop, (∀ S h, walk M E l K S h → k S h) → step1 M E ⟨d, op, none⟩ k S h) : walk M E (.o ⟨d, op, gd⟩ :: l) K S h := by
  cases gd with
  | none => exact wk hk
  | some g =>
    obtain ⟨t, want⟩ := g
    exact wkT hg hk
/-- A call, by its contract. -/
theorem cN {f : FuncId} {fo : Operand} {xs : Array Operand} {ts : Array TypeId} {first cap : Array Value} {vs : List Value} {R : Value → PH → Prop} (hc : (cls (.call { callee := .value fo, args := xs, argTypes := ts }) == 0) = false) (hg : gl1 S gd = gr1 gd) (hf : S.ev fo = .v (.func (.func f) first cap)) (hv : vals (xs.toList.map S.ev) = some vs)
    (s : Spec M f (first.toList ++ vs ++ cap.toList).toArray h R NP) (hn : ∀ v h', Step h h' → R v h' → walk M E l K (S.put d (.v v)) h') : walk M E (.o ⟨d, .call { callee := .value fo, args := xs, argTypes := ts }, gd⟩ :: l) K S h := wc hg fun k hk => by
  simp only [step1, hc, cond_false, imA, hf, hv]
  exact call_np s fun v h' hs hr => hk _ _ (hn v h' hs hr)
/-- A call that ends the operation. -/
theorem cF {f : FuncId} {fo : Operand} {xs : Array Operand} {ts : Array TypeId} {first cap : Array Value} {vs : List Value} {E' : List PanicEntry → PH → Prop} (hc : (cls (.call { callee := .value fo, args := xs, argTypes := ts }) == 0) = false) (hg : gl1 S gd = gr1 gd) (hf : S.ev fo = .v (.func (.func f) first cap)) (hv : vals (xs.toList.map S.ev) = some vs)
    (s : Spec M f (first.toList ++ vs ++ cap.toList).toArray h (fun _ _ => False) E') (hE : ∀ ch h', E' ch h' → E ch h') : walk M E (.o ⟨d, .call { callee := .value fo, args := xs, argTypes := ts }, gd⟩ :: l) K S h := wc hg fun k hk => by
  simp only [step1, hc, cond_false, imA, hf, hv]
  exact .inl ⟨_, _, s, fun _ _ _ h => h.elim, fun ch h' _ he => hE ch h' he⟩
theorem AWP_sq {x : Code} (hr : notReg x = true) (hx : ∀ K : AS → PH → Prop, (∀ S h, AWP M n C y Q E S h → K S h) → AWP M n C x (qs K Q) E S h) : AWP M n C (.seq x y) Q E S h := AWP_seqk hx
/-- A block is entered; a test that is decided is taken. -/
def into (M : Mach) (n : Nat) (C : Ctx) (Q : Exit → AS → PH → Prop) (E : List PanicEntry → PH → Prop) (S : AS) (h : PH) : Code → Option Prop
  | .block id x => some (AWP M n C x (qb id Q) E S h)
  | .cond o x y => match S.ev o with
    | .v (.bool true) => some (AWP M n C x Q E S h)
    | .v (.bool false) => some (AWP M n C y Q E S h)
    | _ => none
  | _ => none
theorem ct {P : Prop} (hi : into M n C Q E S h c = some P) (hp : P) : AWP M n C c Q E S h := by
  unfold into at hi
  split at hi
  · cases hi; exact AWP_block hp
  · split at hi
    · rename_i hx; cases hi; exact AWP_condT hx hp
    · rename_i hx; cases hi; exact AWP_condF hx hp
    · cases hi
  · cases hi
/-- What is done behind a region. -/
def behind (M : Mach) (n : Nat) (C : Ctx) (Q : Exit → AS → PH → Prop) (E : List PanicEntry → PH → Prop) : Option Code → AS → PH → Prop
  | none => Q .normal
  | some y => fun S h => AWP M n C y Q E S h
/-- A region in front, and what stands behind it. -/
def front : Code → Option (Array Oper × Bool × Option Code)
  | .region _ ops d => some (ops, d, none)
  | .seq (.region _ ops d) y => some (ops, d, some y)
  | _ => none
theorem rg {z : Option Code} (hc : front c = some (ops, false, z)) (hl : prep n ops (plain ops.size) = some l) (hw : ∀ K : AS → PH → Prop, (∀ S h, behind M n C Q E z S h → K S h) → walk M E l K S h) : AWP M n C c Q E S h := by
  unfold front at hc
  split at hc
  · cases hc; exact AWP_sk hl (hw _ fun _ _ h => h)
  · cases hc; exact AWP_rs hl hw
  · cases hc
/-- The same of a region that draws its order. -/
theorem rd {z : Option Code} (pl : List PL) (hc : front c = some (ops, true, z)) (ho : regionOk ops (order pl) = true) (hl : prep n ops pl = some l) (hw : ∀ K : AS → PH → Prop, (∀ S h, behind M n C Q E z S h → K S h) → walk M E l K S h) : AWP M n C c Q E S h := by
  unfold front at hc
  split at hc
  · cases hc; exact AWP_dk pl ho hl (hw _ fun _ _ h => h)
  · cases hc; exact AWP_rd pl ho hl hw
  · cases hc
end
theorem rsl_id (a : Option Addr) (c e : Nat) : (if c = 0 then a else a.map fun x => x.add (0 * e)) = a := by
  split
  · rfl
  · cases a <;> simp [Addr.add]
attribute [go_sem] rsl_id Int.toNat_zero Nat.mul_one Nat.add_sub_cancel
/-- Zeros at the end say nothing. -/
theorem W_take {B : Nat} (hB : 2 ≤ B) : ∀ (k : Nat) (xs : List Nat), k ≤ xs.length → (∀ x ∈ xs, x < B) → val B (xs.take k) = val B xs → (k = 0 ∨ xs.getD (k - 1) 0 ≠ 0) → W B (val B xs) = xs.take k := by
  intro k xs hk hlt hv hlast
  rw [← hv]
  refine W_val hB _ (fun x hx => hlt x (List.mem_of_mem_take hx)) ?_
  rcases hlast with rfl | hlast
  · simp
  · intro h
    by_cases h0 : k = 0
    · subst h0; simp at h
    · rw [List.getLast?_eq_getElem?, List.getElem?_take] at h
      have hl : (xs.take k).length = k := by simp; omega
      rw [hl, if_pos (by omega)] at h
      rw [List.getD_eq_getElem?_getD, h] at hlast
      exact hlast rfl
theorem val_take_succ {B : Nat} {xs : List Nat} {k : Nat} (hk : k < xs.length) (h0 : xs.getD k 0 = 0) : val B (xs.take k) = val B (xs.take (k + 1)) := by
  rw [List.take_succ_eq_append_getElem hk, val_append]
  have : xs[k] = 0 := by simpa [hk] using h0
  simp [this, val]
theorem W_prefix {B : Nat} (hB : 2 ≤ B) (xs : List Nat) (hlt : ∀ x ∈ xs, x < B) : ∃ k, k ≤ xs.length ∧ W B (val B xs) = xs.take k := by
  have key : ∀ (k : Nat), k ≤ xs.length → val B (xs.take k) = val B xs → ∃ k, k ≤ xs.length ∧ W B (val B xs) = xs.take k := by
    intro k
    induction k with
    | zero => intro hk hv; exact ⟨0, hk, W_take hB 0 xs hk hlt hv (.inl rfl)⟩
    | succ k ih =>
      intro hk hv
      by_cases h : xs.getD k 0 = 0
      · exact ih (by omega) (by rw [val_take_succ (by omega) h]; exact hv)
      · exact ⟨k + 1, hk, W_take hB (k + 1) xs hk hlt hv (.inr h)⟩
  exact key xs.length (Nat.le_refl _) (by simp)
theorem Arr.W {h : PH} {a : Option Addr} {c : Nat} {xs : List Nat} (r : Arr h a c xs) : Arr h a c (W 4294967296 (val 4294967296 xs)) := by
  obtain ⟨k, _, hk⟩ := W_prefix (B := 4294967296) (by decide) xs r.lt
  rw [hk]; exact r.take k
/-! ### Rows of words -/
def uw (xs : List Nat) : List Value := xs.map fun (x : Nat) => Value.int .u32 x
@[go_sem] theorem uw_length (xs : List Nat) : (uw xs).length = xs.length := by simp [uw]
theorem uw_append (xs ys : List Nat) : uw (xs ++ ys) = uw xs ++ uw ys := by simp [uw]
theorem uw_get {xs : List Nat} {i : Nat} (h : i < xs.length) : (uw xs)[i]? = some (.int .u32 (xs.getD i 0 : Nat)) := by simp [uw, h]
theorem uw_set (xs : List Nat) (i y : Nat) : (uw xs).set i (.int .u32 (y : Nat)) = uw (xs.set i y) := by simp [uw, List.map_set]
theorem uw_zeros (k : Nat) : List.replicate k (Value.int .u32 0) = uw (List.replicate k 0) := by simp [uw]
theorem uw_one (xs : List Nat) : (uw xs).all Value.oneCell' = true := by
  rw [List.all_eq_true]
  intro v hv
  obtain ⟨x, _, rfl⟩ := List.mem_map.1 hv
  rfl
/-- A block that begins with words is a slice of them. -/
theorem Arr.of_block {h : PH} {b : Nat} {cs : List Value} {xs : List Nat} {c : Nat} (hb : cs ≠ [] → h b = some cs.toArray) (hx : ∀ (i : Nat) (x : Nat), xs[i]? = some x → cs[i]? = some (.int .u32 x)) (hlt : ∀ x ∈ xs, x < 4294967296) (hs : xs.length ≤ 2 ^ 46) (hc : xs.length ≤ c) :
    Arr h (some ⟨b, 0, none⟩) c xs := ⟨hc, hs, hlt, fun i x hi => ⟨_, rfl, by
  have h1 := hx i x hi
  have hne : cs ≠ [] := by intro e; rw [e] at h1; cases h1
  simp [PH.at, add_none, hb hne, h1]⟩⟩
theorem Arr.of_row {h : PH} {b : Nat} {xs : List Nat} {c : Nat} (hb : uw xs ≠ [] → h b = some (uw xs).toArray) (hlt : ∀ x ∈ xs, x < 4294967296) (hs : xs.length ≤ 2 ^ 46) (hc : xs.length ≤ c) : Arr h (some ⟨b, 0, none⟩) c xs :=
  .of_block hb (fun i x hi => by simp [uw, hi]) hlt hs hc
/-- A row of which the first k words are done. -/
theorem row_step (ds : List Nat) (m d : Nat) : (ds ++ List.replicate (m + 1) 0).set ds.length d = (ds ++ [d]) ++ List.replicate m 0 := by
  rw [List.set_append_right _ _ (Nat.le_refl _)]
  simp [List.replicate_succ]
theorem val_take_succ' (B : Nat) (xs : List Nat) (k : Nat) : val B (xs.take (k + 1)) = val B (xs.take k) + B ^ k * xs.getD k 0 := by
  by_cases hk : k < xs.length
  · rw [List.take_succ_eq_append_getElem hk, val_append]
    have h1 : xs.getD k 0 = xs[k] := by simp [hk]
    rw [h1]
    simp [val, Nat.min_eq_left (Nat.le_of_lt hk)]
  · rw [List.take_of_length_le (by omega), List.take_of_length_le (by omega)]
    have : xs.getD k 0 = 0 := by simp [List.getD_eq_getElem?_getD, List.getElem?_eq_none (by omega : xs.length ≤ k)]
    rw [this]; simp
theorem getD_lt {B : Nat} (hB : 0 < B) {xs : List Nat} (h : ∀ x ∈ xs, x < B) (i : Nat) : xs.getD i 0 < B := by
  by_cases hi : i < xs.length
  · simp only [List.getD_eq_getElem?_getD, List.getElem?_eq_getElem hi, Option.getD_some]; exact h _ (List.getElem_mem hi)
  · simp [List.getD_eq_getElem?_getD, List.getElem?_eq_none (by omega : xs.length ≤ i), hB]
end Go.Q
