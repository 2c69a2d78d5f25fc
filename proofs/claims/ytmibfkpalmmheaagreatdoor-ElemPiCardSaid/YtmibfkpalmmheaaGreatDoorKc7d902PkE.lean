/-
  Contracts of package word: how often 2 divides a number. Conditions: the slices hold words (Arr, N32).
  Contracts of package word: sums and differences. Conditions: the slices hold words (N32), of at most 2^40 bits.
  Contracts of package word: products. Conditions: the slices hold words (N32), of at most 2^40 bits.
  Contracts of package word: shifts, and division by one word. Conditions: the slices hold words (N32), of at most 2^40 bits.
-/
import Derived.Test.YtmibfkpalmmheaaGreatDoorKbdb429PkD
set_option linter.unusedVariables false
set_option linter.unusedSimpArgs false
namespace Go.Q
open Go.Proofs
set_option maxRecDepth 100000
def tw (n : Nat) : Nat := if h : n = 0 ∨ n % 2 = 1 then 0 else tw (n / 2) + 1
termination_by n
decreasing_by omega
theorem tw_spec (n : Nat) (h : n ≠ 0) : ∃ m, n = 2 ^ tw n * (2 * m + 1) := by
  induction n using Nat.strongRecOn with
  | _ n ih =>
    by_cases h1 : n % 2 = 1
    · refine ⟨n / 2, ?_⟩
      rw [tw, dif_pos (.inr h1)]; simp; omega
    · obtain ⟨m, hm⟩ := ih (n / 2) (by omega) (by omega)
      refine ⟨m, ?_⟩
      rw [tw, dif_neg (by omega), Nat.pow_succ, Nat.mul_right_comm, ← hm]; omega
theorem tw_of (t m : Nat) : tw (2 ^ t * (2 * m + 1)) = t := by
  induction t with
  | zero => rw [tw, dif_pos (.inr (by omega))]
  | succ t ih =>
    have hp : 0 < 2 ^ t * (2 * m + 1) := Nat.mul_pos (Nat.pow_pos (by omega)) (by omega)
    have h1 : 2 ^ (t + 1) * (2 * m + 1) = 2 * (2 ^ t * (2 * m + 1)) := by rw [Nat.pow_succ, Nat.mul_comm (2 ^ t) 2, Nat.mul_assoc]
    rw [h1, tw, dif_neg (by omega), show 2 * (2 ^ t * (2 * m + 1)) / 2 = 2 ^ t * (2 * m + 1) by omega, ih]
theorem and_tw {n : Nat} (h : n ≠ 0) (hn : n < 2 ^ 32) : n &&& (2 ^ 32 - n) = 2 ^ tw n := by
  obtain ⟨m, hm⟩ := tw_spec n h
  generalize tw n = t at hm
  have hp : 0 < 2 ^ t := Nat.pow_pos (by omega)
  apply Nat.eq_of_testBit_eq
  intro i
  have e1 : 2 ^ 32 - n = 2 ^ 32 - ((n - 1) + 1) := by omega
  have h1 : n = 2 ^ t * (2 * m + 1) + 0 := hm
  have h2 : n - 1 = 2 ^ t * (2 * m) + (2 ^ t - 1) := by rw [hm, Nat.mul_add, Nat.mul_one]; omega
  have ht : t < 32 := by
    rcases Nat.lt_or_ge t 32 with h | h
    · exact h
    · have := Nat.pow_le_pow_right (show 0 < 2 by omega) h
      have : 2 ^ t * 1 ≤ 2 ^ t * (2 * m + 1) := Nat.mul_le_mul_left _ (by omega)
      omega
  rw [Nat.testBit_and, e1, Nat.testBit_two_pow_sub_succ (by omega), Nat.testBit_two_pow, h2]
  conv => lhs; rw [h1]
  rw [Nat.testBit_two_pow_mul_add _ hp, Nat.testBit_two_pow_mul_add _ (by omega)]
  by_cases hi : i < t
  · simp [hi]; omega
  · rw [if_neg hi, if_neg hi]
    by_cases hit : i = t
    · subst hit; simp [ht]
    · obtain ⟨k, hk⟩ : ∃ k, i - t = k + 1 := ⟨i - t - 1, by omega⟩
      rw [hk, Nat.testBit_succ, Nat.testBit_succ, show (2 * m + 1) / 2 = m by omega, show 2 * m / 2 = m by omega]
      have : ¬ t = i := fun e => hit e.symm
      simp [this]
      intro a b; simp [a]
theorem tw_tab : ∀ t : Nat, t < 32 → 2 ^ t * 125613361 % 4294967296 / 134217728 < 32 ∧ debruijn[2 ^ t * 125613361 % 4294967296 / 134217728]? = some (t : Int) := by decide +kernel
def hide (a b : Nat) : Nat := a * b
theorem tw_tab' {t : Nat} (ht : t < 32) : hide (2 ^ t) 125613361 % 4294967296 / 134217728 < 32 ∧ tabCells[hide (2 ^ t) 125613361 % 4294967296 / 134217728]? = some (.int .u8 t) := by
  unfold hide
  refine ⟨(tw_tab t ht).1, ?_⟩
  simp [tabCells, (tw_tab t ht).2]
theorem hide_eq (a : Nat) : ((a : Nat) : Int) * 125613361 = ((hide a 125613361 : Nat) : Int) := by unfold hide; omega
theorem mach_gl : mach.gl = fun b => if b = 0 then some tabCells else none := rfl
theorem tab_at {i : Nat} {v : Value} (h : tabCells[i]? = some v) : mach.gl.at ⟨0, i, none⟩ = some v := by
  unfold PH.at
  rw [mach_gl]
  simp [h]
theorem tw_lt {n : Nat} (h0 : n ≠ 0) (hn : n < 4294967296) : tw n < 32 := by
  obtain ⟨m, hm⟩ := tw_spec n h0
  rcases Nat.lt_or_ge (tw n) 32 with h | h
  · exact h
  · have := Nat.pow_le_pow_right (show 0 < 2 by omega) h
    have : 2 ^ tw n * 1 ≤ 2 ^ tw n * (2 * m + 1) := Nat.mul_le_mul_left _ (by omega)
    omega
theorem neg_u32 {n : Nat} (h0 : n ≠ 0) (hn : n < 4294967296) : IntKind.u32.wrap (0 - (n : Int)) = ((4294967296 - n : Nat) : Int) := by rw [IntKind.wrap_u32]; omega
theorem and_tw' {n : Nat} (h0 : n ≠ 0) (hn : n < 4294967296) : n &&& (4294967296 - n) = 2 ^ tw n := and_tw h0 hn
theorem TrailingZeros32_spec {h : PH} {n : Nat} (h0 : n ≠ 0) (hn : n < 4294967296) : Spec mach 205 #[.int .u32 n] h (fun v _ => v = .int .i64 (tw n)) NP := by
  obtain ⟨d, hd1, hd2, hd3⟩ : ∃ d : Nat, ((2 ^ tw n : Nat) : Int) * 125613361 = (d : Int) ∧ d % 4294967296 / 134217728 < 32 ∧ tabCells[d % 4294967296 / 134217728]? = some (.int .u8 (tw n)) := ⟨_, hide_eq _, tw_tab' (tw_lt h0 hn)⟩
  refine Spec.enter (args := [_]) (n := 14) Tryz.func205 rfl (by kernel_rfl) rfl (by simp) [.tmp 2] rfl (fun C _ => ?_)
  repeat (first | (refine rg rfl rfl (fun K hK => ?_); (repeat (first | (refine wo rfl (fun k hk => ?_); simp (disch := omega) only [go_sem, Nat.reduceBEq, Nat.reduceAdd]; refine hk _ _ ?_; clear hk k) | refine wkt rfl ?_)); (try refine wk0 ?_); refine hK _ _ ?_; clear hK K; (try dsimp only [behind, qs, qb])) | ((first | refine AWP_exit ?_ | refine AWP_skip ?_); simp (disch := decide) only [qs, qb, if_true, if_false, reduceIte]) | refine AWP_sq rfl (fun K hK => ?_) | refine ct rfl ?_ | ((first | refine hK _ _ ?_ | (clear hK; refine hK _ _ ?_) | (clear hK; clear hK; refine hK _ _ ?_)); clear hK; (try clear K)))
  refine AWP_gl fun hgl => ?_
  have e6 := hgl.at (tab_at hd3)
  have ht := tw_lt h0 hn
  refine rg rfl rfl (fun K hK => ?_); (repeat (first | (refine wo rfl (fun k hk => ?_); simp (disch := omega) only [go_sem, Nat.reduceBEq, Nat.reduceAdd, neg_u32, and_tw', hd1, e6]; refine hk _ _ ?_; clear hk k) | refine wkt rfl ?_)); (try refine wk0 ?_)
  (try (simp (disch := omega) only [go_sem, Nat.reduceBEq, Nat.reduceAdd])); refine hK _ _ ?_; clear hK; (try clear K); (try dsimp only [behind, qs])
  refine AWP_ret ?_; simp (disch := omega) only [go_sem, Nat.reduceBEq, Nat.reduceAdd]
theorem val_zero_take {B : Nat} {xs : List Nat} : ∀ {k : Nat}, (∀ i, i < k → xs.getD i 0 = 0) → val B (xs.take k) = 0 := by
  intro k
  induction k with
  | zero => intro _; simp [val]
  | succ k ih => intro hz; rw [val_take_succ', ih (fun i hi => hz i (by omega)), hz k (by omega)]; simp
theorem tw_digit {xs : List Nat} {k x : Nat} (hk : k < xs.length) (hz : ∀ i, i < k → xs.getD i 0 = 0) (hx : xs.getD k 0 = x) (h0 : x ≠ 0) (hlt : x < 4294967296) : tw (val 4294967296 xs) = 32 * k + tw x := by
  obtain ⟨m, hm⟩ := tw_spec x h0
  have ht := tw_lt h0 hlt
  rw [val_split xs hk, val_zero_take hz, hx, ← B_pow, Nat.zero_add]
  have h32 : 4294967296 = 2 ^ tw x * (2 * 2 ^ (31 - tw x)) := by
    rw [show 4294967296 = 2 ^ 32 from rfl]
    rw [← Nat.mul_assoc, Nat.mul_comm _ 2, ← Nat.pow_add_one', ← Nat.pow_add]; congr 1; omega
  generalize val 4294967296 (xs.drop (k + 1)) = r
  have : x + 4294967296 * r = 2 ^ tw x * (2 * (m + 2 ^ (31 - tw x) * r) + 1) := by
    conv => lhs; rw [hm, h32]
    rw [Nat.mul_assoc, ← Nat.mul_add]
    congr 1
    rw [Nat.mul_add, Nat.mul_assoc]; omega
  rw [this, ← Nat.mul_assoc, ← Nat.pow_add, tw_of]
theorem Twos_spec {h0 h : PH} [Le h0 h] {v : Value} {n : Nat} (hv : N32 h0 v n) : Spec mach 176 #[v] h (fun v _ => v = .int .i64 (tw n)) NP := by
  obtain ⟨a, c, xs, rfl, ha, hxs, hm⟩ := hv.out
  have hs := ha.small
  have hc := ha.cap
  refine Spec.enter (args := [_]) (n := 20) Tryz.func176 rfl (by kernel_rfl) rfl (by simp) [.tmp 2] rfl (fun C _ => ?_)
  repeat (first | (refine wo rfl (fun k hk => ?_); simp (disch := omega) only [go_sem, Nat.reduceBEq, Nat.reduceAdd]; refine hk _ _ ?_; clear hk k) | refine wkt rfl ?_ | refine wk0 ?_ | refine rg rfl rfl (fun K hK => ?_) | ((first | refine AWP_exit ?_ | refine AWP_skip ?_); simp (disch := decide) only [qs, qb, if_true, if_false, reduceIte]) | refine AWP_sq rfl (fun K hK => ?_) | refine ct rfl ?_ | ((try simp (disch := omega) only [go_sem, Nat.reduceBEq, Nat.reduceAdd]); (first | apply hK | (clear hK; apply hK) | (clear hK; clear hK; apply hK)); clear hK; (try clear K); (try dsimp only [behind, qs, qb])))
  refine AWP_loop (fun k : Nat => ⟨[(2, .v (.int .i64 0)), (5, .v (.slice a xs.length c)), (6, .v (.int .i64 xs.length)), (7, .v (.int .i64 k))], []⟩) (fun k h' => Le h0 h' ∧ k ≤ xs.length ∧ ∀ i, i < k → xs.getD i 0 = 0) (fun k => xs.length - k) 0 ?_ ⟨inferInstance, by omega, by omega⟩ ?_
  · simp (disch := omega) only [go_sem, Nat.reduceBEq, Nat.reduceAdd]
  · rintro k h1 ⟨hle, hk, hz⟩
    by_cases hkl : k < xs.length
    · obtain ⟨ad, rfl, hat⟩ := ha.rd h1 (i := k) (by omega)
      have hlt := getD_lt (by decide) ha.lt k
      by_cases hx : xs.getD k 0 = 0
      · repeat (first | (refine wo rfl (fun k hk => ?_); simp (disch := omega) only [go_sem, Nat.reduceBEq, Nat.reduceAdd, hat]; refine hk _ _ ?_; clear hk k) | refine wkt rfl ?_ | refine wk0 ?_ | refine rg rfl rfl (fun K hK => ?_) | ((first | refine AWP_exit ?_ | refine AWP_skip ?_); simp (disch := decide) only [qs, qb, if_true, if_false, reduceIte]) | refine AWP_sq rfl (fun K hK => ?_) | refine ct rfl ?_ | ((try simp (disch := omega) only [go_sem, Nat.reduceBEq, Nat.reduceAdd]); (first | apply hK | (clear hK; apply hK) | (clear hK; clear hK; apply hK)); clear hK; (try clear K); (try dsimp only [behind, qs, qb])))
        refine ⟨k + 1, ?_, ⟨hle, by omega, fun i hi => ?_⟩, by omega⟩
        · simp (disch := omega) only [go_sem, Nat.reduceBEq, Nat.reduceAdd]
        · rcases Nat.lt_or_ge i k with h | h
          · exact hz i h
          · rw [show i = k by omega]; exact hx
      · have ht := tw_lt hx hlt
        repeat (first | (refine wo rfl (fun k hk => ?_); simp (disch := omega) only [go_sem, Nat.reduceBEq, Nat.reduceAdd, hat]; refine hk _ _ ?_; clear hk k) | refine wkt rfl ?_ | refine wk0 ?_ | refine rg rfl rfl (fun K hK => ?_) | ((first | refine AWP_exit ?_ | refine AWP_skip ?_); simp (disch := decide) only [qs, qb, if_true, if_false, reduceIte]) | refine AWP_sq rfl (fun K hK => ?_) | refine ct rfl ?_ | ((try simp (disch := omega) only [go_sem, Nat.reduceBEq, Nat.reduceAdd]); (first | apply hK | (clear hK; apply hK) | (clear hK; clear hK; apply hK)); clear hK; (try clear K); (try dsimp only [behind, qs, qb])))
        refine cN rfl rfl rfl rfl (by exact TrailingZeros32_spec hx hlt) ?_; rintro v h4 s4 rfl; (repeat (first | (refine wo rfl (fun k hk => ?_); simp (disch := omega) only [go_sem, Nat.reduceBEq, Nat.reduceAdd]; refine hk _ _ ?_; clear hk k) | refine wkt rfl ?_)); (try refine wk0 ?_)
        (repeat (first | (refine wo rfl (fun k hk => ?_); simp (disch := omega) only [go_sem, Nat.reduceBEq, Nat.reduceAdd]; refine hk _ _ ?_; clear hk k) | refine wkt rfl ?_)); (try refine wk0 ?_)
        (try (simp (disch := omega) only [go_sem, Nat.reduceBEq, Nat.reduceAdd])); refine hK _ _ ?_; clear hK; (try clear K); (try dsimp only [behind, qs])
        refine AWP_ret ?_; simp (disch := omega) only [go_sem, Nat.reduceBEq, Nat.reduceAdd]
        refine iv ?_
        rw [← hm, tw_digit hkl hz rfl hx hlt]
    · repeat (first | (refine wo rfl (fun k hk => ?_); simp (disch := omega) only [go_sem, Nat.reduceBEq, Nat.reduceAdd]; refine hk _ _ ?_; clear hk k) | refine wkt rfl ?_ | refine wk0 ?_ | refine rg rfl rfl (fun K hK => ?_) | ((first | refine AWP_exit ?_ | refine AWP_skip ?_); simp (disch := decide) only [qs, qb, if_true, if_false, reduceIte]) | refine AWP_sq rfl (fun K hK => ?_) | refine ct rfl ?_ | ((try simp (disch := omega) only [go_sem, Nat.reduceBEq, Nat.reduceAdd]); (first | apply hK | (clear hK; apply hK) | (clear hK; clear hK; apply hK)); clear hK; (try clear K); (try dsimp only [behind, qs, qb])))
      refine AWP_ret ?_; simp (disch := omega) only [go_sem, Nat.reduceBEq, Nat.reduceAdd]
      have : n = 0 := by rw [← hm, ← List.take_of_length_le (i := k) (l := xs) (by omega)]; exact val_zero_take hz
      subst this
      rw [tw, dif_pos (.inl rfl)]; rfl
end Go.Q
namespace Go.Q
open Go.Proofs
set_option maxRecDepth 100000
@[go_sem] theorem spl_uw (rs : List Nat) (k d : Nat) : spl (uw rs) k [.int .u32 (d : Nat)] = uw (rs.set k d) := by simp [spl, uw_set]
@[go_sem] theorem ldb_uw {rs : List Nat} {k : Nat} (hk : k < rs.length) : ldb none (uw rs) k = some (.int .u32 (rs.getD k 0 : Nat)) := by simp only [ldb, uw_get hk]
@[go_sem] theorem uw_all (rs : List Nat) : (uw rs).all Value.oneCell' = true := uw_one rs
@[go_sem] theorem uw_ne (rs : List Nat) : uw rs ≠ [] ↔ rs ≠ [] := by simp [uw]
attribute [go_sem] uw_zeros uw_set List.length_set List.length_replicate
theorem val_set_take {B : Nat} {rs : List Nat} {k d : Nat} (hk : k < rs.length) : val B ((rs.set k d).take (k + 1)) = val B (rs.take k) + B ^ k * d := by
  rw [val_take_succ']
  congr 2
  · rw [List.take_set_of_le (Nat.le_refl k)]
  · simp [hk]
theorem lt_set {B : Nat} {rs : List Nat} {k d : Nat} (h : ∀ x ∈ rs, x < B) (hd : d < B) : ∀ x ∈ rs.set k d, x < B := fun x hx => by
  rcases List.mem_or_eq_of_mem_set hx with h1 | rfl
  · exact h x h1
  · exact hd
theorem lt_zeros {B k : Nat} (hB : 0 < B) : ∀ x ∈ List.replicate k 0, x < B := fun x hx => by rw [(List.mem_replicate.1 hx).2]; exact hB
theorem dm (P B s : Nat) : P * (s % B) + P * B * (s / B) = P * s := by
  rw [Nat.mul_assoc, ← Nat.mul_add, Nat.mod_add_div]
@[go_sem] theorem bltT {a b : Nat} (h : a < b) : Nat.blt a b = true := by rw [Nat.blt_eq]; exact h
attribute [go_sem] or_true
theorem add_step {P B V c X Y x y s : Nat} (hs : s = x + c + y) (hi : V + P * c = X + Y) : V + P * (s % B) + P * B * (s / B) = X + P * x + (Y + P * y) := by
  have h1 := dm P B s
  have e : P * s = P * x + P * c + P * y := by rw [hs, Nat.mul_add, Nat.mul_add]
  omega
theorem len_le_bl (n : Nat) : (W 4294967296 n).length ≤ bl n :=
  W_length_le (by decide) (Nat.lt_of_lt_of_le (bl_le.1 (Nat.le_refl _)) (Nat.pow_le_pow_left (by decide) _))
theorem Of_L {h0 h : PH} [Le h0 h] {a : Option Addr} {c L : Nat} {xs : List Nat} (ha : Arr h0 a c xs) (hl : xs.length = L) :
    Spec mach 86 #[.slice a L c] h (fun v h' => N32 h' v (val 4294967296 xs)) NP := by subst hl; exact Of_N ha
theorem Add_spec {h0 h : PH} [Le h0 h] {v w : Value} {m n : Nat} (hv : N32 h0 v m) (hw : N32 h0 w n) (bm : bl m ≤ 2 ^ 40) (bn : bl n ≤ 2 ^ 40) : Spec mach 113 #[v, w] h (fun v h' => N32 h' v (m + n)) NP := by
  obtain ⟨a, c, xs, rfl, ha, hxs, hm⟩ := hv.out
  obtain ⟨a', c', ys, rfl, ha', hys, hn⟩ := hw.out
  have hs : xs.length ≤ 2 ^ 40 := by have := len_le_bl m; rw [hxs] at this; omega
  have hs' : ys.length ≤ 2 ^ 40 := by have := len_le_bl n; rw [hys] at this; omega
  refine Spec.enter (args := [_, _]) (n := 59) Tryz.func113 rfl (by kernel_rfl) rfl (by simp) [.tmp 4] rfl (fun C _ => ?_)
  repeat (first | (refine rg rfl rfl (fun K hK => ?_); (repeat (first | (refine wo rfl (fun k hk => ?_); simp (disch := omega) only [go_sem, Nat.reduceBEq, Nat.reduceAdd]; refine hk _ _ ?_; clear hk k) | refine wkt rfl ?_)); (try refine wk0 ?_); refine hK _ _ ?_; clear hK K; (try dsimp only [behind, qs, qb])) | ((first | refine AWP_exit ?_ | refine AWP_skip ?_); simp (disch := decide) only [qs, qb, if_true, if_false, reduceIte]) | refine AWP_sq rfl (fun K hK => ?_) | refine ct rfl ?_ | ((first | refine hK _ _ ?_ | (clear hK; refine hK _ _ ?_) | (clear hK; clear hK; refine hK _ _ ?_)); clear hK; (try clear K)))
  have rest : ∀ (a a' : Option Addr) (c c' : Nat) (xs ys : List Nat) (S : AS), Arr h0 a c xs → Arr h0 a' c' ys → ys.length ≤ xs.length → xs.length ≤ 2 ^ 40 → val 4294967296 xs + val 4294967296 ys = m + n →
      S.le ⟨[(0, .v (.slice a xs.length c)), (1, .v (.slice a' ys.length c'))], []⟩ → K S h := by
    intro a a' c c' xs ys S ha ha' hl hs hv hS
    refine hK _ _ (AWP_le _ hS ?_); clear hK K
    repeat (first | (refine wo rfl (fun k hk => ?_); simp (disch := omega) only [go_sem, Nat.reduceBEq, Nat.reduceAdd]; refine hk _ _ ?_; clear hk k) | refine wkt rfl ?_ | refine wk0 ?_ | refine rg rfl rfl (fun K hK => ?_) | ((first | refine AWP_exit ?_ | refine AWP_skip ?_); simp (disch := decide) only [qs, qb, if_true, if_false, reduceIte]) | refine AWP_sq rfl (fun K hK => ?_) | refine ct rfl ?_ | ((try simp (disch := omega) only [go_sem, Nat.reduceBEq, Nat.reduceAdd]); (first | apply hK | (clear hK; apply hK) | (clear hK; clear hK; apply hK)); clear hK; (try clear K); (try dsimp only [behind, qs, qb])))
    refine AWP_loop (fun x : Nat × List Nat × Nat => ⟨[(0, .v (.slice a xs.length c)), (1, .v (.slice a' ys.length c')), (5, .s 0 0 (xs.length + 1) (xs.length + 1)), (6, .v (.int .u64 x.2.2)), (21, .v (.slice a xs.length c)), (22, .v (.int .i64 xs.length)), (23, .v (.int .i64 x.1))], [uw x.2.1]⟩)
      (fun x h' => Le h0 h' ∧ x.1 ≤ xs.length ∧ x.2.1.length = xs.length + 1 ∧ (∀ d ∈ x.2.1, d < 4294967296) ∧ x.2.2 ≤ 1 ∧ val 4294967296 (x.2.1.take x.1) + 4294967296 ^ x.1 * x.2.2 = val 4294967296 (xs.take x.1) + val 4294967296 (ys.take x.1)) (fun x => xs.length - x.1) (0, List.replicate (xs.length + 1) 0, 0) ?_ ⟨inferInstance, by simp, by simp, lt_zeros (by decide), by simp, by simp [val]⟩ ?_
    · simp (disch := omega) only [go_sem, Nat.reduceBEq, Nat.reduceAdd]
    · rintro ⟨k, rs, cy⟩ h1 ⟨hle, hk, hr, hlt, hcy, hi⟩
      dsimp only at hk hr hlt hcy hi ⊢
      by_cases hkl : k < xs.length
      · obtain ⟨ad, rfl, hat⟩ := ha.rd h1 (i := k) (by omega)
        have hx := getD_lt (by decide) ha.lt k
        by_cases hky : k < ys.length
        · obtain ⟨ad', rfl, hat'⟩ := ha'.rd h1 (i := k) (by omega)
          have hy := getD_lt (by decide) ha'.lt k
          repeat (first | (refine wo rfl (fun k hk => ?_); simp (disch := omega) only [go_sem, Nat.reduceBEq, Nat.reduceAdd, hat, hat']; refine hk _ _ ?_; clear hk k) | refine wkt rfl ?_ | refine wk0 ?_ | refine rg rfl rfl (fun K hK => ?_) | ((first | refine AWP_exit ?_ | refine AWP_skip ?_); simp (disch := decide) only [qs, qb, if_true, if_false, reduceIte]) | refine AWP_sq rfl (fun K hK => ?_) | refine ct rfl ?_ | ((try simp (disch := omega) only [go_sem, Nat.reduceBEq, Nat.reduceAdd]); (first | apply hK | (clear hK; apply hK) | (clear hK; clear hK; apply hK)); clear hK; (try clear K); (try dsimp only [behind, qs, qb])))
          refine ⟨(k + 1, rs.set k ((xs.getD k 0 + cy + ys.getD k 0) % 4294967296), (xs.getD k 0 + cy + ys.getD k 0) / 4294967296), ?_, ⟨hle, by dsimp only; omega, by simp [hr], lt_set hlt (Nat.mod_lt _ (by decide)), by dsimp only; omega, ?_⟩, by simp only; omega⟩
          · simp (disch := omega) only [go_sem, Nat.reduceBEq, Nat.reduceAdd]
          · rw [val_set_take (by omega), val_take_succ' _ xs, val_take_succ' _ ys, Nat.pow_succ]
            exact add_step rfl hi
        · repeat (first | (refine wo rfl (fun k hk => ?_); simp (disch := omega) only [go_sem, Nat.reduceBEq, Nat.reduceAdd, hat]; refine hk _ _ ?_; clear hk k) | refine wkt rfl ?_ | refine wk0 ?_ | refine rg rfl rfl (fun K hK => ?_) | ((first | refine AWP_exit ?_ | refine AWP_skip ?_); simp (disch := decide) only [qs, qb, if_true, if_false, reduceIte]) | refine AWP_sq rfl (fun K hK => ?_) | refine ct rfl ?_ | ((try simp (disch := omega) only [go_sem, Nat.reduceBEq, Nat.reduceAdd]); (first | apply hK | (clear hK; apply hK) | (clear hK; clear hK; apply hK)); clear hK; (try clear K); (try dsimp only [behind, qs, qb])))
          refine ⟨(k + 1, rs.set k ((xs.getD k 0 + cy) % 4294967296), (xs.getD k 0 + cy) / 4294967296), ?_, ⟨hle, by dsimp only; omega, by simp [hr], lt_set hlt (Nat.mod_lt _ (by decide)), by dsimp only; omega, ?_⟩, by simp only; omega⟩
          · simp (disch := omega) only [go_sem, Nat.reduceBEq, Nat.reduceAdd]
          · have hy : ys.getD k 0 = 0 := by simp [List.getD_eq_getElem?_getD, List.getElem?_eq_none (by omega : ys.length ≤ k)]
            rw [val_set_take (by omega), val_take_succ' _ xs, val_take_succ' _ ys, Nat.pow_succ, hy]
            exact add_step (by omega) hi
      · repeat (first | (refine rg rfl rfl (fun K hK => ?_); (repeat (first | (refine wo rfl (fun k hk => ?_); simp (disch := omega) only [go_sem, Nat.reduceBEq, Nat.reduceAdd]; refine hk _ _ ?_; clear hk k) | refine wkt rfl ?_)); (try refine wk0 ?_); refine hK _ _ ?_; clear hK K; (try dsimp only [behind, qs, qb])) | ((first | refine AWP_exit ?_ | refine AWP_skip ?_); simp (disch := decide) only [qs, qb, if_true, if_false, reduceIte]) | refine AWP_sq rfl (fun K hK => ?_) | refine ct rfl ?_ | ((first | refine hK _ _ ?_ | (clear hK; refine hK _ _ ?_) | (clear hK; clear hK; refine hK _ _ ?_)); clear hK; (try clear K)))
        refine AWP_rsp [.o 0, .p 0, .o 1, .o 2] rfl rfl (fun K hK => ?_); (repeat (first | (refine wo rfl (fun k hk => ?_); simp (disch := omega) only [go_sem, Nat.reduceBEq, Nat.reduceAdd]; refine hk _ _ ?_; clear hk k) | refine wkt rfl ?_)); (try refine wk0 ?_)
        refine wkp ?_; simp (disch := omega) only [go_sem, Nat.reduceBEq, Nat.reduceAdd]; intro b h2 hs2 hb; (repeat (first | (refine wo rfl (fun k hk => ?_); simp (disch := omega) only [go_sem, Nat.reduceBEq, Nat.reduceAdd]; refine hk _ _ ?_; clear hk k) | refine wkt rfl ?_)); (try refine wk0 ?_)
        obtain rfl : k = xs.length := by omega
        have hA : Arr h2 (some ⟨b, 0, none⟩) (xs.length + 1) (rs.set xs.length cy) := .of_row (fun hne => hb ((uw_ne _).1 hne)) (lt_set hlt (by omega)) (by simp [hr]; omega) (by simp [hr])
        have hval : val 4294967296 (rs.set xs.length cy) = m + n := by
          have h1 := val_set_take (B := 4294967296) (rs := rs) (k := xs.length) (d := cy) (by omega)
          rw [List.take_of_length_le (by simp [hr])] at h1
          rw [h1, hi, List.take_of_length_le (Nat.le_refl _), List.take_of_length_le hl, hv]
        refine cN rfl rfl rfl rfl (by exact Of_L hA (by simp [hr])) ?_; rintro v h3 hs3 hv'; (repeat (first | (refine wo rfl (fun k hk => ?_); simp (disch := omega) only [go_sem, Nat.reduceBEq, Nat.reduceAdd]; refine hk _ _ ?_; clear hk k) | refine wkt rfl ?_)); (try refine wk0 ?_)
        (repeat (first | (refine wo rfl (fun k hk => ?_); simp (disch := omega) only [go_sem, Nat.reduceBEq, Nat.reduceAdd]; refine hk _ _ ?_; clear hk k) | refine wkt rfl ?_)); (try refine wk0 ?_)
        (try (simp (disch := omega) only [go_sem, Nat.reduceBEq, Nat.reduceAdd])); refine hK _ _ ?_; clear hK; (try clear K); (try dsimp only [behind, qs])
        refine AWP_ret ?_; simp (disch := omega) only [go_sem, Nat.reduceBEq, Nat.reduceAdd]
        rwa [hval] at hv'
  refine AWP_cond rfl (fun ht => ?_) (fun ht => ?_)
  · have := of_decide_eq_true ht
    refine AWP_sk rfl ?_; (repeat (first | (refine wo rfl (fun k hk => ?_); simp (disch := omega) only [go_sem, Nat.reduceBEq, Nat.reduceAdd]; refine hk _ _ ?_; clear hk k) | refine wkt rfl ?_)); (try refine wk0 ?_); simp only [qs, qb, if_true, if_false, reduceIte]
    refine rest _ _ _ _ ys xs _ ha' ha (by omega) hs' (by omega) ?_
    simp (disch := omega) only [go_sem, Nat.reduceBEq, Nat.reduceAdd]
  · have := of_decide_eq_false ht
    refine AWP_skip ?_; simp only [qs, qb, if_true, if_false, reduceIte]
    refine rest _ _ _ _ xs ys _ ha ha' (by omega) hs (by omega) ?_
    simp (disch := omega) only [go_sem, Nat.reduceBEq, Nat.reduceAdd]
@[go_sem low] theorem wu64s {a b : Nat} (h : b ≤ 18446744073709551616) : IntKind.u64.wrap ((a : Int) - (b : Int)) = ((((a + 18446744073709551616 - b) % 18446744073709551616) : Nat) : Int) := by
  rw [IntKind.wrap_u64]; omega
theorem sub_step {P B V b X Y x y r q : Nat} (hs : x + B * q = r + y + b) (hi : X + P * b = V + Y) : X + P * x + P * B * q = V + P * r + (Y + P * y) := by
  have e : P * (x + B * q) = P * (r + y + b) := by rw [hs]
  rw [Nat.mul_add, Nat.mul_add, Nat.mul_add, ← Nat.mul_assoc] at e
  omega
theorem getD_none {xs : List Nat} {k : Nat} (h : xs.length ≤ k) : xs.getD k 0 = 0 := by simp [List.getD_eq_getElem?_getD, List.getElem?_eq_none h]
theorem W_len_mono {m n : Nat} (h : n ≤ m) : (W 4294967296 n).length ≤ (W 4294967296 m).length := by
  rcases Nat.lt_or_ge (W 4294967296 m).length (W 4294967296 n).length with h' | h'
  · have := W_len_lt B32 h'; omega
  · exact h'
theorem Sub_spec {h0 h : PH} [Le h0 h] {v w : Value} {m n : Nat} (hv : N32 h0 v m) (hw : N32 h0 w n) (hnm : n ≤ m) (bm : bl m ≤ 2 ^ 40) : Spec mach 70 #[v, w] h (fun v h' => N32 h' v (m - n)) NP := by
  obtain ⟨a, c, xs, rfl, ha, hxs, hm⟩ := hv.out
  obtain ⟨a', c', ys, rfl, ha', hys, hn⟩ := hw.out
  have hs : xs.length ≤ 2 ^ 40 := by have := len_le_bl m; rw [hxs] at this; omega
  have hl : ys.length ≤ xs.length := by have := W_len_mono hnm; rwa [hxs, hys] at this
  refine Spec.enter (args := [_, _]) (n := 45) Tryz.func70 rfl (by kernel_rfl) rfl (by simp) [.tmp 4] rfl (fun C _ => ?_)
  repeat (first | (refine wo rfl (fun k hk => ?_); simp (disch := omega) only [go_sem, Nat.reduceBEq, Nat.reduceAdd]; refine hk _ _ ?_; clear hk k) | refine wkt rfl ?_ | refine wk0 ?_ | refine rg rfl rfl (fun K hK => ?_) | ((first | refine AWP_exit ?_ | refine AWP_skip ?_); simp (disch := decide) only [qs, qb, if_true, if_false, reduceIte]) | refine AWP_sq rfl (fun K hK => ?_) | refine ct rfl ?_ | ((try simp (disch := omega) only [go_sem, Nat.reduceBEq, Nat.reduceAdd]); (first | apply hK | (clear hK; apply hK) | (clear hK; clear hK; apply hK)); clear hK; (try clear K); (try dsimp only [behind, qs, qb])))
  refine AWP_loop (fun x : Nat × List Nat × Nat => ⟨[(0, .v (.slice a xs.length c)), (1, .v (.slice a' ys.length c')), (5, .s 0 0 xs.length xs.length), (6, .v (.int .u64 x.2.2)), (13, .v (.slice a xs.length c)), (14, .v (.int .i64 xs.length)), (15, .v (.int .i64 x.1))], [uw x.2.1]⟩)
      (fun x h' => Le h0 h' ∧ x.1 ≤ xs.length ∧ x.2.1.length = xs.length ∧ (∀ d ∈ x.2.1, d < 4294967296) ∧ x.2.2 ≤ 1 ∧ val 4294967296 (xs.take x.1) + 4294967296 ^ x.1 * x.2.2 = val 4294967296 (x.2.1.take x.1) + val 4294967296 (ys.take x.1)) (fun x => xs.length - x.1) (0, List.replicate xs.length 0, 0) ?_ ⟨inferInstance, by simp, by simp, lt_zeros (by decide), by simp, by simp [val]⟩ ?_
  · simp (disch := omega) only [go_sem, Nat.reduceBEq, Nat.reduceAdd]
  · rintro ⟨k, rs, cy⟩ h1 ⟨hle, hk, hr, hlt, hcy, hi⟩
    dsimp only at hk hr hlt hcy hi ⊢
    by_cases hkl : k < xs.length
    · obtain ⟨ad, rfl, hat⟩ := ha.rd h1 (i := k) (by omega)
      have hx := getD_lt (by decide) ha.lt k
      by_cases hky : k < ys.length
      · obtain ⟨ad', rfl, hat'⟩ := ha'.rd h1 (i := k) (by omega)
        have hy := getD_lt (by decide) ha'.lt k
        repeat (first | (refine wo rfl (fun k hk => ?_); simp (disch := omega) only [go_sem, Nat.reduceBEq, Nat.reduceAdd, hat, hat']; refine hk _ _ ?_; clear hk k) | refine wkt rfl ?_ | refine wk0 ?_ | refine rg rfl rfl (fun K hK => ?_) | ((first | refine AWP_exit ?_ | refine AWP_skip ?_); simp (disch := decide) only [qs, qb, if_true, if_false, reduceIte]) | refine AWP_sq rfl (fun K hK => ?_) | refine ct rfl ?_ | ((try simp (disch := omega) only [go_sem, Nat.reduceBEq, Nat.reduceAdd]); (first | apply hK | (clear hK; apply hK) | (clear hK; clear hK; apply hK)); clear hK; (try clear K); (try dsimp only [behind, qs, qb])))
        refine ⟨(k + 1, rs.set k (((xs.getD k 0 + 18446744073709551616 - cy) % 18446744073709551616 + 18446744073709551616 - ys.getD k 0) % 18446744073709551616 % 4294967296), ((xs.getD k 0 + 18446744073709551616 - cy) % 18446744073709551616 + 18446744073709551616 - ys.getD k 0) % 18446744073709551616 / 9223372036854775808), ?_, ⟨hle, by dsimp only; omega, by simp only [List.length_set]; exact hr, lt_set hlt (Nat.mod_lt _ (by decide)), by dsimp only; omega, ?_⟩, by simp only; omega⟩
        · simp (disch := omega) only [go_sem, Nat.reduceBEq, Nat.reduceAdd]
        · dsimp only
          rw [val_set_take (by omega), val_take_succ' _ xs, val_take_succ' _ ys, Nat.pow_succ]
          refine sub_step ?_ hi
          omega
      · repeat (first | (refine wo rfl (fun k hk => ?_); simp (disch := omega) only [go_sem, Nat.reduceBEq, Nat.reduceAdd, hat]; refine hk _ _ ?_; clear hk k) | refine wkt rfl ?_ | refine wk0 ?_ | refine rg rfl rfl (fun K hK => ?_) | ((first | refine AWP_exit ?_ | refine AWP_skip ?_); simp (disch := decide) only [qs, qb, if_true, if_false, reduceIte]) | refine AWP_sq rfl (fun K hK => ?_) | refine ct rfl ?_ | ((try simp (disch := omega) only [go_sem, Nat.reduceBEq, Nat.reduceAdd]); (first | apply hK | (clear hK; apply hK) | (clear hK; clear hK; apply hK)); clear hK; (try clear K); (try dsimp only [behind, qs, qb])))
        refine ⟨(k + 1, rs.set k ((xs.getD k 0 + 18446744073709551616 - cy) % 18446744073709551616 % 4294967296), (xs.getD k 0 + 18446744073709551616 - cy) % 18446744073709551616 / 9223372036854775808), ?_, ⟨hle, by dsimp only; omega, by simp only [List.length_set]; exact hr, lt_set hlt (Nat.mod_lt _ (by decide)), by dsimp only; omega, ?_⟩, by simp only; omega⟩
        · simp (disch := omega) only [go_sem, Nat.reduceBEq, Nat.reduceAdd]
        · have hy : ys.getD k 0 = 0 := getD_none (by omega)
          dsimp only
          rw [val_set_take (by omega), val_take_succ' _ xs, val_take_succ' _ ys, Nat.pow_succ]
          refine sub_step ?_ hi
          omega
    · repeat (first | (refine rg rfl rfl (fun K hK => ?_); (repeat (first | (refine wo rfl (fun k hk => ?_); simp (disch := omega) only [go_sem, Nat.reduceBEq, Nat.reduceAdd]; refine hk _ _ ?_; clear hk k) | refine wkt rfl ?_)); (try refine wk0 ?_); refine hK _ _ ?_; clear hK K; (try dsimp only [behind, qs, qb])) | ((first | refine AWP_exit ?_ | refine AWP_skip ?_); simp (disch := decide) only [qs, qb, if_true, if_false, reduceIte]) | refine AWP_sq rfl (fun K hK => ?_) | refine ct rfl ?_ | ((first | refine hK _ _ ?_ | (clear hK; refine hK _ _ ?_) | (clear hK; clear hK; refine hK _ _ ?_)); clear hK; (try clear K)))
      obtain rfl : k = xs.length := by omega
      refine AWP_rsp [.p 0, .o 0, .o 1, .o 2] rfl rfl (fun K hK => ?_); (repeat (first | (refine wo rfl (fun k hk => ?_); simp (disch := omega) only [go_sem, Nat.reduceBEq, Nat.reduceAdd]; refine hk _ _ ?_; clear hk k) | refine wkt rfl ?_)); (try refine wk0 ?_)
      refine wkp ?_; simp (disch := omega) only [go_sem, Nat.reduceBEq, Nat.reduceAdd]; intro b h2 hs2 hb; (repeat (first | (refine wo rfl (fun k hk => ?_); simp (disch := omega) only [go_sem, Nat.reduceBEq, Nat.reduceAdd]; refine hk _ _ ?_; clear hk k) | refine wkt rfl ?_)); (try refine wk0 ?_)
      have hA : Arr h2 (some ⟨b, 0, none⟩) xs.length rs := .of_row (fun hne => hb ((uw_ne _).1 hne)) hlt (by omega) (by omega)
      have hval : val 4294967296 rs = m - n := by
        rw [List.take_of_length_le (Nat.le_refl _), List.take_of_length_le (by omega), List.take_of_length_le hl, hm, hn] at hi
        have h3 := val_lt (by decide) rs hlt
        rw [hr] at h3
        obtain rfl : cy = 0 := by
          rcases Nat.lt_or_ge cy 1 with h | h
          · omega
          · obtain rfl : cy = 1 := by omega
            omega
        omega
      refine cN rfl rfl rfl rfl (by exact Of_L hA hr) ?_; rintro v h3 hs3 hv'; (repeat (first | (refine wo rfl (fun k hk => ?_); simp (disch := omega) only [go_sem, Nat.reduceBEq, Nat.reduceAdd]; refine hk _ _ ?_; clear hk k) | refine wkt rfl ?_)); (try refine wk0 ?_)
      (repeat (first | (refine wo rfl (fun k hk => ?_); simp (disch := omega) only [go_sem, Nat.reduceBEq, Nat.reduceAdd]; refine hk _ _ ?_; clear hk k) | refine wkt rfl ?_)); (try refine wk0 ?_)
      (try (simp (disch := omega) only [go_sem, Nat.reduceBEq, Nat.reduceAdd])); refine hK _ _ ?_; clear hK; (try clear K); (try dsimp only [behind, qs])
      refine AWP_ret ?_; simp (disch := omega) only [go_sem, Nat.reduceBEq, Nat.reduceAdd]
      rwa [hval] at hv'
end Go.Q
namespace Go.Q
open Go.Proofs
set_option maxRecDepth 100000
attribute [go_sem] uw_get
theorem val_set {B : Nat} {rs : List Nat} {i d : Nat} (hi : i < rs.length) : val B (rs.set i d) + B ^ i * rs.getD i 0 = val B rs + B ^ i * d := by
  induction rs generalizing i with
  | nil => simp at hi
  | cons r rs ih =>
    cases i with
    | zero => simp only [List.set_cons_zero, val, List.getD_cons_zero, Nat.pow_zero, Nat.one_mul]; omega
    | succ i =>
      have := ih (i := i) (by simpa using hi)
      simp only [List.set_cons_succ, val, List.getD_cons_succ, Nat.pow_succ, Nat.mul_comm (B ^ i) B, Nat.mul_assoc]
      have e := congrArg (B * ·) this
      simp only [Nat.mul_add] at e
      omega
theorem val_take_set {B : Nat} {rs : List Nat} {i d n : Nat} (hi : i < n) (hn : n ≤ rs.length) : val B ((rs.set i d).take n) + B ^ i * rs.getD i 0 = val B (rs.take n) + B ^ i * d := by
  have := val_set (B := B) (rs := rs.take n) (i := i) (d := d) (by simp; omega)
  rw [List.take_set]
  have e : (rs.take n).getD i 0 = rs.getD i 0 := by simp [List.getD_eq_getElem?_getD, List.getElem?_take, hi]
  rw [e] at this
  exact this
theorem mul_step {P B V V' c d A x y r q : Nat} {X : Nat} (hs : x * y + d + c = r + B * q) (hi : V + P * c = A + X) (hV : V' + P * d = V + P * r) : V' + P * B * q = A + (X + P * (x * y)) := by
  have e := congrArg (P * ·) hs
  simp only [Nat.mul_add, ← Nat.mul_assoc] at e
  rw [← Nat.mul_assoc]
  omega
theorem Mul_spec {h0 h : PH} [Le h0 h] {v w : Value} {m n : Nat} (hv : N32 h0 v m) (hw : N32 h0 w n) (bm : bl m ≤ 2 ^ 40) (bn : bl n ≤ 2 ^ 40) : Spec mach 90 #[v, w] h (fun v h' => N32 h' v (m * n)) NP := by
  obtain ⟨a, c, xs, rfl, ha, hxs, hm⟩ := hv.out
  obtain ⟨a', c', ys, rfl, ha', hys, hn⟩ := hw.out
  have hs : xs.length ≤ 2 ^ 40 := by have := len_le_bl m; rw [hxs] at this; omega
  have hs' : ys.length ≤ 2 ^ 40 := by have := len_le_bl n; rw [hys] at this; omega
  refine Spec.enter (args := [_, _]) (n := 76) Tryz.func90 rfl (by kernel_rfl) rfl (by simp) [.tmp 4] rfl (fun C _ => ?_)
  have z1 : xs.length = 0 → m * n = 0 := fun h => by rw [← hm, List.eq_nil_of_length_eq_zero h]; simp [val]
  have z2 : ys.length = 0 → m * n = 0 := fun h => by rw [← hn, List.eq_nil_of_length_eq_zero h]; simp [val]
  by_cases hx0 : xs.length = 0
  · repeat (first | (refine wo rfl (fun k hk => ?_); simp (disch := omega) only [go_sem, Nat.reduceBEq, Nat.reduceAdd]; refine hk _ _ ?_; clear hk k) | refine wkt rfl ?_ | refine wk0 ?_ | refine rg rfl rfl (fun K hK => ?_) | ((first | refine AWP_exit ?_ | refine AWP_skip ?_); simp (disch := decide) only [qs, qb, if_true, if_false, reduceIte]) | refine AWP_sq rfl (fun K hK => ?_) | refine ct rfl ?_ | ((try simp (disch := omega) only [go_sem, Nat.reduceBEq, Nat.reduceAdd]); (first | apply hK | (clear hK; apply hK) | (clear hK; clear hK; apply hK)); clear hK; (try clear K); (try dsimp only [behind, qs, qb])))
    refine AWP_ret ?_; simp (disch := omega) only [go_sem, Nat.reduceBEq, Nat.reduceAdd]
    rw [z1 hx0]; exact N32.zero _
  by_cases hy0 : ys.length = 0
  · repeat (first | (refine wo rfl (fun k hk => ?_); simp (disch := omega) only [go_sem, Nat.reduceBEq, Nat.reduceAdd]; refine hk _ _ ?_; clear hk k) | refine wkt rfl ?_ | refine wk0 ?_ | refine rg rfl rfl (fun K hK => ?_) | ((first | refine AWP_exit ?_ | refine AWP_skip ?_); simp (disch := decide) only [qs, qb, if_true, if_false, reduceIte]) | refine AWP_sq rfl (fun K hK => ?_) | refine ct rfl ?_ | ((try simp (disch := omega) only [go_sem, Nat.reduceBEq, Nat.reduceAdd]); (first | apply hK | (clear hK; apply hK) | (clear hK; clear hK; apply hK)); clear hK; (try clear K); (try dsimp only [behind, qs, qb])))
    refine AWP_ret ?_; simp (disch := omega) only [go_sem, Nat.reduceBEq, Nat.reduceAdd]
    rw [z2 hy0]; exact N32.zero _
  clear z1 z2
  repeat (first | (refine wo rfl (fun k hk => ?_); simp (disch := omega) only [go_sem, Nat.reduceBEq, Nat.reduceAdd]; refine hk _ _ ?_; clear hk k) | refine wkt rfl ?_ | refine wk0 ?_ | refine rg rfl rfl (fun K hK => ?_) | ((first | refine AWP_exit ?_ | refine AWP_skip ?_); simp (disch := decide) only [qs, qb, if_true, if_false, reduceIte]) | refine AWP_sq rfl (fun K hK => ?_) | refine ct rfl ?_ | ((try simp (disch := omega) only [go_sem, Nat.reduceBEq, Nat.reduceAdd]); (first | apply hK | (clear hK; apply hK) | (clear hK; clear hK; apply hK)); clear hK; (try clear K); (try dsimp only [behind, qs, qb])))
  refine AWP_loop (fun x : Nat × List Nat => ⟨[(0, .v (.slice a xs.length c)), (1, .v (.slice a' ys.length c')), (5, .s 0 0 (xs.length + ys.length) (xs.length + ys.length)), (26, .v (.slice a xs.length c)), (27, .v (.int .i64 xs.length)), (28, .v (.int .i64 x.1))], [uw x.2]⟩)
      (fun x h' => Le h0 h' ∧ x.1 ≤ xs.length ∧ x.2.length = xs.length + ys.length ∧ (∀ d ∈ x.2, d < 4294967296) ∧ val 4294967296 (x.2.take (x.1 + ys.length)) = val 4294967296 (xs.take x.1) * val 4294967296 ys) (fun x => xs.length - x.1) (0, List.replicate (xs.length + ys.length) 0) ?_ ⟨inferInstance, by simp, by simp, lt_zeros (by decide), by simp [val, val_zeros]⟩ ?_
  · simp (disch := omega) only [go_sem, Nat.reduceBEq, Nat.reduceAdd]
  · rintro ⟨k, rs⟩ h1 ⟨hle, hk, hr, hlt, hi⟩
    dsimp only at hk hr hlt hi ⊢
    by_cases hkl : k < xs.length
    · obtain ⟨ad, rfl, hat⟩ := ha.rd h1 (i := k) (by omega)
      have hx := getD_lt (by decide) ha.lt k
      repeat (first | (refine wo rfl (fun k hk => ?_); simp (disch := omega) only [go_sem, Nat.reduceBEq, Nat.reduceAdd, hat]; refine hk _ _ ?_; clear hk k) | refine wkt rfl ?_ | refine wk0 ?_ | refine rg rfl rfl (fun K hK => ?_) | ((first | refine AWP_exit ?_ | refine AWP_skip ?_); simp (disch := decide) only [qs, qb, if_true, if_false, reduceIte]) | refine AWP_sq rfl (fun K hK => ?_) | refine ct rfl ?_ | ((try simp (disch := omega) only [go_sem, Nat.reduceBEq, Nat.reduceAdd]); (first | apply hK | (clear hK; apply hK) | (clear hK; clear hK; apply hK)); clear hK; (try clear K); (try dsimp only [behind, qs, qb])))
      refine AWP_loop (fun x : Nat × List Nat × Nat => ⟨[(0, .v (.slice (some ad) xs.length c)), (1, .v (.slice a' ys.length c')), (5, .s 0 0 (xs.length + ys.length) (xs.length + ys.length)), (26, .v (.slice (some ad) xs.length c)), (27, .v (.int .i64 xs.length)), (28, .v (.int .i64 k)), (6, .v (.int .i64 k)), (7, .v (.int .u32 (xs.getD k 0 : Nat))), (8, .v (.int .u64 x.2.2)), (33, .v (.slice a' ys.length c')), (34, .v (.int .i64 ys.length)), (35, .v (.int .i64 x.1))], [uw x.2.1]⟩)
        (fun x h' => Le h0 h' ∧ x.1 ≤ ys.length ∧ x.2.1.length = xs.length + ys.length ∧ (∀ d ∈ x.2.1, d < 4294967296) ∧ x.2.2 < 4294967296 ∧ val 4294967296 (x.2.1.take (k + ys.length)) + 4294967296 ^ (k + x.1) * x.2.2 = val 4294967296 (rs.take (k + ys.length)) + 4294967296 ^ k * (xs.getD k 0 * val 4294967296 (ys.take x.1))) (fun x => ys.length - x.1) (0, rs, 0) ?_ ⟨hle, by simp, hr, hlt, by simp, by simp [val]⟩ ?_
      · simp (disch := omega) only [go_sem, Nat.reduceBEq, Nat.reduceAdd]
      · rintro ⟨j, rs', cy⟩ h2 ⟨hle', hj, hr', hlt', hcy, hi'⟩
        dsimp only at hj hr' hlt' hcy hi' ⊢
        by_cases hjl : j < ys.length
        · obtain ⟨ad', rfl, hat'⟩ := ha'.rd h2 (i := j) (by omega)
          have hy := getD_lt (by decide) ha'.lt j
          have hd := getD_lt (by decide) hlt' (k + j)
          have hxy : xs.getD k 0 * ys.getD j 0 ≤ 4294967295 * 4294967295 := Nat.mul_le_mul (by omega) (by omega)
          repeat (first | (refine wo rfl (fun k hk => ?_); simp (disch := omega) only [go_sem, Nat.reduceBEq, Nat.reduceAdd, hat']; refine hk _ _ ?_; clear hk k) | refine wkt rfl ?_ | refine wk0 ?_ | refine rg rfl rfl (fun K hK => ?_) | ((first | refine AWP_exit ?_ | refine AWP_skip ?_); simp (disch := decide) only [qs, qb, if_true, if_false, reduceIte]) | refine AWP_sq rfl (fun K hK => ?_) | refine ct rfl ?_ | ((try simp (disch := omega) only [go_sem, Nat.reduceBEq, Nat.reduceAdd]); (first | apply hK | (clear hK; apply hK) | (clear hK; clear hK; apply hK)); clear hK; (try clear K); (try dsimp only [behind, qs, qb])))
          refine ⟨(j + 1, rs'.set (k + j) ((xs.getD k 0 * ys.getD j 0 + rs'.getD (k + j) 0 + cy) % 4294967296), (xs.getD k 0 * ys.getD j 0 + rs'.getD (k + j) 0 + cy) / 4294967296), ?_, ⟨hle', by dsimp only; omega, by simp [hr'], lt_set hlt' (Nat.mod_lt _ (by decide)), by dsimp only; omega, ?_⟩, by simp only; omega⟩
          · simp (disch := omega) only [go_sem, Nat.reduceBEq, Nat.reduceAdd]
          · dsimp only
            rw [val_take_succ' _ ys, ← Nat.add_assoc, Nat.pow_succ, Nat.mul_add, Nat.mul_add, ← Nat.mul_assoc _ (4294967296 ^ j), Nat.mul_comm (xs.getD k 0) (4294967296 ^ j), Nat.mul_assoc (4294967296 ^ j), ← Nat.mul_assoc _ (4294967296 ^ j), ← Nat.pow_add]
            exact mul_step (Nat.mod_add_div _ _).symm hi' (val_take_set (by omega) (by omega))
        · repeat (first | (refine rg rfl rfl (fun K hK => ?_); (repeat (first | (refine wo rfl (fun k hk => ?_); simp (disch := omega) only [go_sem, Nat.reduceBEq, Nat.reduceAdd]; refine hk _ _ ?_; clear hk k) | refine wkt rfl ?_)); (try refine wk0 ?_); refine hK _ _ ?_; clear hK K; (try dsimp only [behind, qs, qb])) | ((first | refine AWP_exit ?_ | refine AWP_skip ?_); simp (disch := decide) only [qs, qb, if_true, if_false, reduceIte]) | refine AWP_sq rfl (fun K hK => ?_) | refine ct rfl ?_ | ((first | refine hK _ _ ?_ | (clear hK; refine hK _ _ ?_) | (clear hK; clear hK; refine hK _ _ ?_)); clear hK; (try clear K)))
          obtain rfl : j = ys.length := by omega
          refine ⟨(k + 1, rs'.set (k + ys.length) cy), ?_, ⟨hle', by dsimp only; omega, by simp [hr'], lt_set hlt' hcy, ?_⟩, by simp only; omega⟩
          · simp (disch := omega) only [go_sem, Nat.reduceBEq, Nat.reduceAdd]
          · dsimp only
            rw [show k + 1 + ys.length = k + ys.length + 1 by omega, val_set_take (by omega), hi', hi, val_take_succ' _ xs, List.take_of_length_le (Nat.le_refl _), Nat.add_mul, Nat.mul_assoc]
    · repeat (first | (refine rg rfl rfl (fun K hK => ?_); (repeat (first | (refine wo rfl (fun k hk => ?_); simp (disch := omega) only [go_sem, Nat.reduceBEq, Nat.reduceAdd]; refine hk _ _ ?_; clear hk k) | refine wkt rfl ?_)); (try refine wk0 ?_); refine hK _ _ ?_; clear hK K; (try dsimp only [behind, qs, qb])) | ((first | refine AWP_exit ?_ | refine AWP_skip ?_); simp (disch := decide) only [qs, qb, if_true, if_false, reduceIte]) | refine AWP_sq rfl (fun K hK => ?_) | refine ct rfl ?_ | ((first | refine hK _ _ ?_ | (clear hK; refine hK _ _ ?_) | (clear hK; clear hK; refine hK _ _ ?_)); clear hK; (try clear K)))
      obtain rfl : k = xs.length := by omega
      refine AWP_rsp [.o 0, .p 0, .o 1, .o 2] rfl rfl (fun K hK => ?_); (repeat (first | (refine wo rfl (fun k hk => ?_); simp (disch := omega) only [go_sem, Nat.reduceBEq, Nat.reduceAdd]; refine hk _ _ ?_; clear hk k) | refine wkt rfl ?_)); (try refine wk0 ?_)
      refine wkp ?_; simp (disch := omega) only [go_sem, Nat.reduceBEq, Nat.reduceAdd]; intro b h2 hs2 hb; (repeat (first | (refine wo rfl (fun k hk => ?_); simp (disch := omega) only [go_sem, Nat.reduceBEq, Nat.reduceAdd]; refine hk _ _ ?_; clear hk k) | refine wkt rfl ?_)); (try refine wk0 ?_)
      have hA : Arr h2 (some ⟨b, 0, none⟩) (xs.length + ys.length) rs := .of_row (fun hne => hb ((uw_ne _).1 hne)) hlt (by omega) (by omega)
      have hval : val 4294967296 rs = m * n := by
        rw [List.take_of_length_le (by omega), List.take_of_length_le (Nat.le_refl _), hm, hn] at hi
        exact hi
      refine cN rfl rfl rfl rfl (by exact Of_L hA hr) ?_; rintro v h3 hs3 hv'; (repeat (first | (refine wo rfl (fun k hk => ?_); simp (disch := omega) only [go_sem, Nat.reduceBEq, Nat.reduceAdd]; refine hk _ _ ?_; clear hk k) | refine wkt rfl ?_)); (try refine wk0 ?_)
      (try (simp (disch := omega) only [go_sem, Nat.reduceBEq, Nat.reduceAdd])); refine hK _ _ ?_; clear hK; (try clear K); (try dsimp only [behind, qs])
      refine AWP_ret ?_; simp (disch := omega) only [go_sem, Nat.reduceBEq, Nat.reduceAdd]
      rwa [hval] at hv'
end Go.Q
namespace Go.Q
open Go.Proofs
set_option maxRecDepth 100000
theorem or_add {d r s : Nat} (hd : d < 2 ^ r) : d ||| 2 ^ r * s = d + 2 ^ r * s := by
  rw [Nat.or_comm, ← Nat.two_pow_add_eq_or_of_lt hd, Nat.add_comm]
theorem or_shl {d r x : Nat} (hr : r ≤ 32) (hd : d < 2 ^ r) : d ||| (x * 2 ^ r % 4294967296) = d + x * 2 ^ r % 4294967296 := by
  have : x * 2 ^ r % 4294967296 = 2 ^ r * (x % 2 ^ (32 - r)) := by
    have e : (4294967296 : Nat) = 2 ^ r * 2 ^ (32 - r) := by rw [← Nat.pow_add, show r + (32 - r) = 32 by omega]
    rw [e, Nat.mul_comm x, Nat.mul_mod_mul_left]
  rw [this, or_add hd]
theorem shl_step {V D R X x s P Q p : Nat} (hi : V + P * D = Q * (R * X)) (hs : s = x * R) (hP : P = Q * p) : V + P * (D + s % 4294967296) + P * 4294967296 * (s / 4294967296) = Q * (R * (X + p * x)) := by
  have h1 := dm P 4294967296 s
  have h2 : P * s = Q * (R * (p * x)) := by rw [hs, hP]; simp only [Nat.mul_assoc, Nat.mul_comm, Nat.mul_left_comm]
  rw [Nat.mul_add P, Nat.mul_add R, Nat.mul_add Q]
  omega
theorem getD_zeros (k i : Nat) : (List.replicate k 0).getD i 0 = 0 := by
  simp only [List.getD_eq_getElem?_getD, List.getElem?_replicate]
  split <;> rfl
theorem getD_set {rs : List Nat} {k d : Nat} (hk : k < rs.length) : (rs.set k d).getD k 0 = d := by simp [hk]
theorem Shl_spec {h0 h : PH} [Le h0 h] {v : Value} {m n : Nat} (hv : N32 h0 v m) (bm : bl m + n ≤ 2 ^ 40) : Spec mach 111 #[v, .int .i64 n] h (fun v h' => N32 h' v (m * 2 ^ n)) NP := by
  obtain ⟨a, c, xs, rfl, ha, hxs, hm⟩ := hv.out
  have hs : xs.length + n ≤ 2 ^ 40 := by have := len_le_bl m; rw [hxs] at this; omega
  refine Spec.enter (args := [_, _]) (n := 58) Tryz.func111 rfl (by kernel_rfl) rfl (by simp) [.tmp 4] rfl (fun C _ => ?_)
  by_cases hx0 : xs.length = 0
  · repeat (first | (refine wo rfl (fun k hk => ?_); simp (disch := omega) only [go_sem, Nat.reduceBEq, Nat.reduceAdd]; refine hk _ _ ?_; clear hk k) | refine wkt rfl ?_ | refine wk0 ?_ | refine rg rfl rfl (fun K hK => ?_) | ((first | refine AWP_exit ?_ | refine AWP_skip ?_); simp (disch := decide) only [qs, qb, if_true, if_false, reduceIte]) | refine AWP_sq rfl (fun K hK => ?_) | refine ct rfl ?_ | ((try simp (disch := omega) only [go_sem, Nat.reduceBEq, Nat.reduceAdd]); (first | apply hK | (clear hK; apply hK) | (clear hK; clear hK; apply hK)); clear hK; (try clear K); (try dsimp only [behind, qs, qb])))
    refine AWP_ret ?_; simp (disch := omega) only [go_sem, Nat.reduceBEq, Nat.reduceAdd]
    rw [← hm, List.eq_nil_of_length_eq_zero hx0]; simp only [val, Nat.zero_mul]; exact N32.zero _
  have hp : 2 ^ (n % 32) ≤ 2147483648 := Nat.pow_le_pow_right (show 0 < 2 by omega) (show n % 32 ≤ 31 by omega)
  have hp0 : 0 < 2 ^ (n % 32) := Nat.pow_pos (by omega)
  repeat (first | (refine wo rfl (fun k hk => ?_); simp (disch := omega) only [go_sem, Nat.reduceBEq, Nat.reduceAdd]; refine hk _ _ ?_; clear hk k) | refine wkt rfl ?_ | refine wk0 ?_ | refine rg rfl rfl (fun K hK => ?_) | ((first | refine AWP_exit ?_ | refine AWP_skip ?_); simp (disch := decide) only [qs, qb, if_true, if_false, reduceIte]) | refine AWP_sq rfl (fun K hK => ?_) | refine ct rfl ?_ | ((try simp (disch := omega) only [go_sem, Nat.reduceBEq, Nat.reduceAdd]); (first | apply hK | (clear hK; apply hK) | (clear hK; clear hK; apply hK)); clear hK; (try clear K); (try dsimp only [behind, qs, qb])))
  refine AWP_loop (fun x : Nat × List Nat => ⟨[(5, .v (.int .i64 (n / 32 : Nat))), (6, .v (.int .u64 (n % 32 : Nat))), (7, .s 0 0 (xs.length + n / 32 + 1) (xs.length + n / 32 + 1)), (25, .v (.slice a xs.length c)), (26, .v (.int .i64 xs.length)), (27, .v (.int .i64 x.1))], [uw x.2]⟩)
      (fun x h' => Le h0 h' ∧ x.1 ≤ xs.length ∧ x.2.length = xs.length + n / 32 + 1 ∧ (∀ d ∈ x.2, d < 4294967296) ∧ x.2.getD (n / 32 + x.1) 0 < 2 ^ (n % 32) ∧ val 4294967296 (x.2.take (n / 32 + x.1 + 1)) = 4294967296 ^ (n / 32) * (2 ^ (n % 32) * val 4294967296 (xs.take x.1))) (fun x => xs.length - x.1) (0, List.replicate (xs.length + n / 32 + 1) 0) ?_ ⟨?_, by simp, by simp, lt_zeros (by decide), ?_, ?_⟩ ?_
  · simp (disch := omega) only [go_sem, Nat.reduceBEq, Nat.reduceAdd]
  · exact inferInstance
  · rw [getD_zeros]; exact hp0
  · simp [val, val_zeros]
  · rintro ⟨k, rs⟩ h1 ⟨hle, hk, hr, hlt, hd, hi⟩
    dsimp only at hk hr hlt hd hi ⊢
    by_cases hkl : k < xs.length
    · obtain ⟨ad, rfl, hat⟩ := ha.rd h1 (i := k) (by omega)
      have hx := getD_lt (by decide) ha.lt k
      have hb : xs.getD k 0 * 2 ^ (n % 32) ≤ 4294967295 * 2147483648 := Nat.mul_le_mul (by omega) hp
      have hor := or_shl (x := xs.getD k 0) (show n % 32 ≤ 32 by omega) hd
      have hi0 := hi
      rw [val_take_succ'] at hi0
      have hd2 := getD_lt (by decide) hlt (n / 32 + k)
      repeat (first | (refine wo rfl (fun k hk => ?_); simp (disch := omega) only [go_sem, Nat.reduceBEq, Nat.reduceAdd, hat]; refine hk _ _ ?_; clear hk k) | refine wkt rfl ?_ | refine wk0 ?_ | refine rg rfl rfl (fun K hK => ?_) | ((first | refine AWP_exit ?_ | refine AWP_skip ?_); simp (disch := decide) only [qs, qb, if_true, if_false, reduceIte]) | refine AWP_sq rfl (fun K hK => ?_) | refine ct rfl ?_ | ((try simp (disch := omega) only [go_sem, Nat.reduceBEq, Nat.reduceAdd]); (first | apply hK | (clear hK; apply hK) | (clear hK; clear hK; apply hK)); clear hK; (try clear K); (try dsimp only [behind, qs, qb])))
      refine ⟨(k + 1, (rs.set (n / 32 + k) (rs.getD (n / 32 + k) 0 ||| xs.getD k 0 * 2 ^ (n % 32) % 4294967296)).set (n / 32 + k + 1) (xs.getD k 0 * 2 ^ (n % 32) / 4294967296)), ?_, ⟨hle, by dsimp only; omega, by simp [hr], ?_, ?_, ?_⟩, by simp only; omega⟩
      · simp (disch := omega) only [go_sem, Nat.reduceBEq, Nat.reduceAdd]
      · refine lt_set (lt_set hlt ?_) (by omega)
        exact Nat.or_lt_two_pow (n := 32) hd2 (Nat.mod_lt _ (by decide))
      · dsimp only
        rw [show n / 32 + (k + 1) = n / 32 + k + 1 by omega, getD_set (by simp [hr]; omega)]
        exact Nat.div_lt_of_lt_mul (Nat.mul_lt_mul_of_pos_right hx hp0)
      · dsimp only
        rw [show n / 32 + (k + 1) + 1 = n / 32 + k + 1 + 1 by omega, val_set_take (by simp [hr]; omega), val_set_take (by omega), hor, Nat.pow_succ, val_take_succ' _ xs]
        exact shl_step hi0 rfl (Nat.pow_add _ _ _)
    · repeat (first | (refine rg rfl rfl (fun K hK => ?_); (repeat (first | (refine wo rfl (fun k hk => ?_); simp (disch := omega) only [go_sem, Nat.reduceBEq, Nat.reduceAdd]; refine hk _ _ ?_; clear hk k) | refine wkt rfl ?_)); (try refine wk0 ?_); refine hK _ _ ?_; clear hK K; (try dsimp only [behind, qs, qb])) | ((first | refine AWP_exit ?_ | refine AWP_skip ?_); simp (disch := decide) only [qs, qb, if_true, if_false, reduceIte]) | refine AWP_sq rfl (fun K hK => ?_) | refine ct rfl ?_ | ((first | refine hK _ _ ?_ | (clear hK; refine hK _ _ ?_) | (clear hK; clear hK; refine hK _ _ ?_)); clear hK; (try clear K)))
      obtain rfl : k = xs.length := by omega
      refine AWP_rsp [.o 0, .p 0, .o 1, .o 2] rfl rfl (fun K hK => ?_); (repeat (first | (refine wo rfl (fun k hk => ?_); simp (disch := omega) only [go_sem, Nat.reduceBEq, Nat.reduceAdd]; refine hk _ _ ?_; clear hk k) | refine wkt rfl ?_)); (try refine wk0 ?_)
      refine wkp ?_; simp (disch := omega) only [go_sem, Nat.reduceBEq, Nat.reduceAdd]; intro b h2 hs2 hb; (repeat (first | (refine wo rfl (fun k hk => ?_); simp (disch := omega) only [go_sem, Nat.reduceBEq, Nat.reduceAdd]; refine hk _ _ ?_; clear hk k) | refine wkt rfl ?_)); (try refine wk0 ?_)
      have hA : Arr h2 (some ⟨b, 0, none⟩) (xs.length + n / 32 + 1) rs := .of_row (fun hne => hb ((uw_ne _).1 hne)) hlt (by omega) (by omega)
      have hval : val 4294967296 rs = m * 2 ^ n := by
        rw [List.take_of_length_le (by omega), List.take_of_length_le (Nat.le_refl _), hm, ← B_pow, ← Nat.mul_assoc, ← Nat.pow_add, Nat.div_add_mod, Nat.mul_comm] at hi
        exact hi
      refine cN rfl rfl rfl rfl (by exact Of_L hA hr) ?_; rintro v h3 hs3 hv'; (repeat (first | (refine wo rfl (fun k hk => ?_); simp (disch := omega) only [go_sem, Nat.reduceBEq, Nat.reduceAdd]; refine hk _ _ ?_; clear hk k) | refine wkt rfl ?_)); (try refine wk0 ?_)
      (try (simp (disch := omega) only [go_sem, Nat.reduceBEq, Nat.reduceAdd])); refine hK _ _ ?_; clear hK; (try clear K); (try dsimp only [behind, qs])
      refine AWP_ret ?_; simp (disch := omega) only [go_sem, Nat.reduceBEq, Nat.reduceAdd]
      rwa [hval] at hv'
theorem or_32 {x y : Nat} (hx : x < 4294967296) : x ||| y * 4294967296 = x + y * 4294967296 := by
  have := or_add (r := 32) (s := y) hx
  rw [Nat.mul_comm, show (4294967296 : Nat) = 2 ^ 32 from by decide]; exact this
theorem shr_digit {t r : Nat} (hr : r ≤ 32) : (t % 4294967296 + t / 4294967296 % 4294967296 * 4294967296) / 2 ^ r % 4294967296 = t / 2 ^ r % 4294967296 := by
  have hp : 0 < 2 ^ r := Nat.pow_pos (by omega)
  have e : (4294967296 : Nat) = 2 ^ r * 2 ^ (32 - r) := by rw [← Nat.pow_add, show r + (32 - r) = 32 by omega]
  have h1 : t = 2 ^ r * (4294967296 * (2 ^ (32 - r) * (t / 4294967296 / 4294967296))) + (t % 4294967296 + t / 4294967296 % 4294967296 * 4294967296) := by
    have : 2 ^ r * (4294967296 * (2 ^ (32 - r) * (t / 4294967296 / 4294967296))) = 4294967296 * 4294967296 * (t / 4294967296 / 4294967296) := by
      rw [Nat.mul_left_comm, ← Nat.mul_assoc (2 ^ r), ← e, Nat.mul_assoc]
    omega
  conv => rhs; rw [h1]
  rw [Nat.mul_add_div hp, Nat.mul_add_mod]
theorem Shr_spec {h0 h : PH} [Le h0 h] {v : Value} {m n : Nat} (hv : N32 h0 v m) (bm : bl m ≤ 2 ^ 40) (hn : n ≤ 2 ^ 40) : Spec mach 71 #[v, .int .i64 n] h (fun v h' => N32 h' v (m / 2 ^ n)) NP := by
  obtain ⟨a, c, xs, rfl, ha, hxs, hm⟩ := hv.out
  have hs : xs.length ≤ 2 ^ 40 := by have := len_le_bl m; rw [hxs] at this; omega
  have hp : 0 < 2 ^ (n % 32) := Nat.pow_pos (by omega)
  have h2n : 2 ^ n = 4294967296 ^ (n / 32) * 2 ^ (n % 32) := by rw [← B_pow, ← Nat.pow_add, Nat.div_add_mod]
  have hml : m < 4294967296 ^ xs.length := by rw [← hxs]; exact lt_W_length (by decide) m
  have hdig : ∀ i, xs.getD i 0 = m / 4294967296 ^ i % 4294967296 := fun i => by rw [← hxs, W_getD (by decide)]
  refine Spec.enter (args := [_, _]) (n := 64) Tryz.func71 rfl (by kernel_rfl) rfl (by simp) [.tmp 4] rfl (fun C _ => ?_)
  by_cases hx0 : xs.length ≤ n / 32
  · repeat (first | (refine wo rfl (fun k hk => ?_); simp (disch := omega) only [go_sem, Nat.reduceBEq, Nat.reduceAdd]; refine hk _ _ ?_; clear hk k) | refine wkt rfl ?_ | refine wk0 ?_ | refine rg rfl rfl (fun K hK => ?_) | ((first | refine AWP_exit ?_ | refine AWP_skip ?_); simp (disch := decide) only [qs, qb, if_true, if_false, reduceIte]) | refine AWP_sq rfl (fun K hK => ?_) | refine ct rfl ?_ | ((try simp (disch := omega) only [go_sem, Nat.reduceBEq, Nat.reduceAdd]); (first | apply hK | (clear hK; apply hK) | (clear hK; clear hK; apply hK)); clear hK; (try clear K); (try dsimp only [behind, qs, qb])))
    refine AWP_ret ?_; simp (disch := omega) only [go_sem, Nat.reduceBEq, Nat.reduceAdd]
    have : m / 2 ^ n = 0 := by
      rw [h2n]
      apply Nat.div_eq_of_lt
      have h1 := Nat.pow_le_pow_right (show 0 < 4294967296 by decide) hx0
      have h2 := Nat.mul_le_mul_left (4294967296 ^ (n / 32)) hp
      omega
    rw [this]; exact N32.zero _
  repeat (first | (refine wo rfl (fun k hk => ?_); simp (disch := omega) only [go_sem, Nat.reduceBEq, Nat.reduceAdd]; refine hk _ _ ?_; clear hk k) | refine wkt rfl ?_ | refine wk0 ?_ | refine rg rfl rfl (fun K hK => ?_) | ((first | refine AWP_exit ?_ | refine AWP_skip ?_); simp (disch := decide) only [qs, qb, if_true, if_false, reduceIte]) | refine AWP_sq rfl (fun K hK => ?_) | refine ct rfl ?_ | ((try simp (disch := omega) only [go_sem, Nat.reduceBEq, Nat.reduceAdd]); (first | apply hK | (clear hK; apply hK) | (clear hK; clear hK; apply hK)); clear hK; (try clear K); (try dsimp only [behind, qs, qb])))
  refine AWP_loop (fun x : Nat × List Nat => ⟨[(0, .v (.slice a xs.length c)), (5, .v (.int .i64 (n / 32 : Nat))), (6, .v (.int .u64 (n % 32 : Nat))), (7, .s 0 0 (xs.length - n / 32) (xs.length - n / 32)), (25, .v (.int .i64 (xs.length - n / 32 : Nat))), (26, .v (.int .i64 x.1))], [uw x.2]⟩)
      (fun x h' => Le h0 h' ∧ x.1 ≤ xs.length - n / 32 ∧ x.2.length = xs.length - n / 32 ∧ (∀ d ∈ x.2, d < 4294967296) ∧ val 4294967296 (x.2.take x.1) = (m / 2 ^ n) % 4294967296 ^ x.1) (fun x => xs.length - n / 32 - x.1) (0, List.replicate (xs.length - n / 32) 0) ?_ ⟨?_, by simp, by simp, lt_zeros (by decide), ?_⟩ ?_
  · simp (disch := omega) only [go_sem, Nat.reduceBEq, Nat.reduceAdd]
  · exact inferInstance
  · simp [val, Nat.mod_one]
  · rintro ⟨k, rs⟩ h1 ⟨hle, hk, hr, hlt, hi⟩
    dsimp only at hk hr hlt hi ⊢
    by_cases hkl : k < xs.length - n / 32
    · obtain ⟨ad, rfl, hat⟩ := ha.rd h1 (i := n / 32 + k) (by omega)
      have hx := getD_lt (by decide) ha.lt (n / 32 + k)
      have hd : m / 2 ^ n / 4294967296 ^ k = m / 4294967296 ^ (n / 32 + k) / 2 ^ (n % 32) := by
        rw [h2n, Nat.div_div_eq_div_mul, Nat.div_div_eq_div_mul, Nat.pow_add]; congr 1; simp only [Nat.mul_assoc, Nat.mul_comm, Nat.mul_left_comm]
      have hdd := shr_digit (t := m / 4294967296 ^ (n / 32 + k)) (r := n % 32) (by omega)
      rw [← hd, Nat.div_div_eq_div_mul m, ← Nat.pow_succ, ← hdig, ← hdig] at hdd
      by_cases hk1 : n / 32 + k + 1 < xs.length
      · obtain ⟨ad', h', hat'⟩ := ha.rd h1 (i := n / 32 + k + 1) (by omega)
        obtain rfl : ad = ad' := by simpa using h'
        have hx' := getD_lt (by decide) ha.lt (n / 32 + k + 1)
        have hor := or_32 (y := xs.getD (n / 32 + k + 1) 0) hx
        simp (disch := omega) only [go_sem, Nat.reduceBEq, Nat.reduceAdd] at hat'
        repeat (first | (refine wo rfl (fun k hk => ?_); simp (disch := omega) only [go_sem, Nat.reduceBEq, Nat.reduceAdd, hat, hat', hor]; refine hk _ _ ?_; clear hk k) | refine wkt rfl ?_ | refine wk0 ?_ | refine rg rfl rfl (fun K hK => ?_) | ((first | refine AWP_exit ?_ | refine AWP_skip ?_); simp (disch := decide) only [qs, qb, if_true, if_false, reduceIte]) | refine AWP_sq rfl (fun K hK => ?_) | refine ct rfl ?_ | ((try simp (disch := omega) only [go_sem, Nat.reduceBEq, Nat.reduceAdd]); (first | apply hK | (clear hK; apply hK) | (clear hK; clear hK; apply hK)); clear hK; (try clear K); (try dsimp only [behind, qs, qb])))
        refine ⟨(k + 1, rs.set k ((xs.getD (n / 32 + k) 0 + xs.getD (n / 32 + k + 1) 0 * 4294967296) / 2 ^ (n % 32) % 4294967296)), ?_, ⟨hle, by dsimp only; omega, by simp [hr], lt_set hlt (Nat.mod_lt _ (by decide)), ?_⟩, by simp only; omega⟩
        · simp (disch := omega) only [go_sem, Nat.reduceBEq, Nat.reduceAdd]
        · dsimp only
          rw [val_set_take (by omega), hi, Nat.mod_pow_succ, ← hdd]
      · have hx' : xs.getD (n / 32 + k).succ 0 = 0 := getD_none (by omega)
        rw [hx', Nat.zero_mul, Nat.add_zero] at hdd
        repeat (first | (refine wo rfl (fun k hk => ?_); simp (disch := omega) only [go_sem, Nat.reduceBEq, Nat.reduceAdd, hat]; refine hk _ _ ?_; clear hk k) | refine wkt rfl ?_ | refine wk0 ?_ | refine rg rfl rfl (fun K hK => ?_) | ((first | refine AWP_exit ?_ | refine AWP_skip ?_); simp (disch := decide) only [qs, qb, if_true, if_false, reduceIte]) | refine AWP_sq rfl (fun K hK => ?_) | refine ct rfl ?_ | ((try simp (disch := omega) only [go_sem, Nat.reduceBEq, Nat.reduceAdd]); (first | apply hK | (clear hK; apply hK) | (clear hK; clear hK; apply hK)); clear hK; (try clear K); (try dsimp only [behind, qs, qb])))
        refine ⟨(k + 1, rs.set k (xs.getD (n / 32 + k) 0 / 2 ^ (n % 32) % 4294967296)), ?_, ⟨hle, by dsimp only; omega, by simp [hr], lt_set hlt (Nat.mod_lt _ (by decide)), ?_⟩, by simp only; omega⟩
        · simp (disch := omega) only [go_sem, Nat.reduceBEq, Nat.reduceAdd]
        · dsimp only
          rw [val_set_take (by omega), hi, Nat.mod_pow_succ, ← hdd]
    · repeat (first | (refine rg rfl rfl (fun K hK => ?_); (repeat (first | (refine wo rfl (fun k hk => ?_); simp (disch := omega) only [go_sem, Nat.reduceBEq, Nat.reduceAdd]; refine hk _ _ ?_; clear hk k) | refine wkt rfl ?_)); (try refine wk0 ?_); refine hK _ _ ?_; clear hK K; (try dsimp only [behind, qs, qb])) | ((first | refine AWP_exit ?_ | refine AWP_skip ?_); simp (disch := decide) only [qs, qb, if_true, if_false, reduceIte]) | refine AWP_sq rfl (fun K hK => ?_) | refine ct rfl ?_ | ((first | refine hK _ _ ?_ | (clear hK; refine hK _ _ ?_) | (clear hK; clear hK; refine hK _ _ ?_)); clear hK; (try clear K)))
      obtain rfl : k = xs.length - n / 32 := by omega
      refine AWP_rsp [.o 0, .p 0, .o 1, .o 2] rfl rfl (fun K hK => ?_); (repeat (first | (refine wo rfl (fun k hk => ?_); simp (disch := omega) only [go_sem, Nat.reduceBEq, Nat.reduceAdd]; refine hk _ _ ?_; clear hk k) | refine wkt rfl ?_)); (try refine wk0 ?_)
      refine wkp ?_; simp (disch := omega) only [go_sem, Nat.reduceBEq, Nat.reduceAdd]; intro b h2 hs2 hb; (repeat (first | (refine wo rfl (fun k hk => ?_); simp (disch := omega) only [go_sem, Nat.reduceBEq, Nat.reduceAdd]; refine hk _ _ ?_; clear hk k) | refine wkt rfl ?_)); (try refine wk0 ?_)
      have hA : Arr h2 (some ⟨b, 0, none⟩) (xs.length - n / 32) rs := .of_row (fun hne => hb ((uw_ne _).1 hne)) hlt (by omega) (by omega)
      have hval : val 4294967296 rs = m / 2 ^ n := by
        rw [List.take_of_length_le (by omega), Nat.mod_eq_of_lt] at hi
        · exact hi
        · rw [h2n, ← Nat.div_div_eq_div_mul]
          refine Nat.lt_of_le_of_lt (Nat.div_le_self _ _) ?_
          rw [Nat.div_lt_iff_lt_mul (Nat.pow_pos (by decide)), ← Nat.pow_add, show xs.length - n / 32 + n / 32 = xs.length by omega]
          exact hml
      refine cN rfl rfl rfl rfl (by exact Of_L hA hr) ?_; rintro v h3 hs3 hv'; (repeat (first | (refine wo rfl (fun k hk => ?_); simp (disch := omega) only [go_sem, Nat.reduceBEq, Nat.reduceAdd]; refine hk _ _ ?_; clear hk k) | refine wkt rfl ?_)); (try refine wk0 ?_)
      (try (simp (disch := omega) only [go_sem, Nat.reduceBEq, Nat.reduceAdd])); refine hK _ _ ?_; clear hK; (try clear K); (try dsimp only [behind, qs])
      refine AWP_ret ?_; simp (disch := omega) only [go_sem, Nat.reduceBEq, Nat.reduceAdd]
      rwa [hval] at hv'
theorem or_23 {x y : Nat} (hx : x < 4294967296) : y * 4294967296 ||| x = y * 4294967296 + x := by
  rw [Nat.or_comm, or_32 hx, Nat.add_comm]
theorem drop_getD {xs : List Nat} {j : Nat} (h : j < xs.length) : xs.drop j = xs.getD j 0 :: xs.drop (j + 1) := by rw [List.drop_eq_getElem_cons h]; simp [h]
theorem DivSmall_spec {h0 h : PH} [Le h0 h] {v : Value} {m d : Nat} (hv : N32 h0 v m) (bm : bl m ≤ 2 ^ 40) (hd0 : 0 < d) (hd : d < 4294967296) : Spec mach 112 #[v, .int .u32 d] h (fun v h' => ∃ q, v = .tuple #[q, .int .u32 (m % d : Nat)] ∧ N32 h' q (m / d)) NP := by
  obtain ⟨a, c, xs, rfl, ha, hxs, hm⟩ := hv.out
  have hs : xs.length ≤ 2 ^ 40 := by have := len_le_bl m; rw [hxs] at this; omega
  refine Spec.enter (args := [_, _]) (n := 44) Tryz.func112 rfl (by kernel_rfl) rfl (by simp) [.tmp 4, .tmp 5] rfl (fun C _ => ?_)
  repeat (first | (refine wo rfl (fun k hk => ?_); simp (disch := omega) only [go_sem, Nat.reduceBEq, Nat.reduceAdd]; refine hk _ _ ?_; clear hk k) | refine wkt rfl ?_ | refine wk0 ?_ | refine rg rfl rfl (fun K hK => ?_) | ((first | refine AWP_exit ?_ | refine AWP_skip ?_); simp (disch := decide) only [qs, qb, if_true, if_false, reduceIte]) | refine AWP_sq rfl (fun K hK => ?_) | refine ct rfl ?_ | ((try simp (disch := omega) only [go_sem, Nat.reduceBEq, Nat.reduceAdd]); (first | apply hK | (clear hK; apply hK) | (clear hK; clear hK; apply hK)); clear hK; (try clear K); (try dsimp only [behind, qs, qb])))
  refine AWP_loop (fun x : Nat × List Nat × Nat => ⟨[(0, .v (.slice a xs.length c)), (1, .v (.int .u32 d)), (6, .s 0 0 xs.length xs.length), (7, .v (.int .u64 x.2.2)), (8, .v (.int .i64 ((x.1 : Int) - 1)))], [uw x.2.1]⟩)
      (fun x h' => Le h0 h' ∧ x.1 ≤ xs.length ∧ x.2.1.length = xs.length ∧ (∀ d ∈ x.2.1, d < 4294967296) ∧ x.2.2 < d ∧ val 4294967296 (xs.drop x.1) = d * val 4294967296 (x.2.1.drop x.1) + x.2.2) (fun x => x.1) (xs.length, List.replicate xs.length 0, 0) ?_ ⟨?_, by simp, by simp, lt_zeros (by decide), hd0, ?_⟩ ?_
  · simp (disch := omega) only [go_sem, Nat.reduceBEq, Nat.reduceAdd]
  · exact inferInstance
  · simp [val]
  · rintro ⟨k, rs, r⟩ h1 ⟨hle, hk, hr, hlt, hrd, hi⟩
    dsimp only at hk hr hlt hrd hi ⊢
    by_cases hk0 : k = 0
    · subst hk0
      repeat (first | (refine rg rfl rfl (fun K hK => ?_); (repeat (first | (refine wo rfl (fun k hk => ?_); simp (disch := omega) only [go_sem, Nat.reduceBEq, Nat.reduceAdd]; refine hk _ _ ?_; clear hk k) | refine wkt rfl ?_)); (try refine wk0 ?_); refine hK _ _ ?_; clear hK K; (try dsimp only [behind, qs, qb])) | ((first | refine AWP_exit ?_ | refine AWP_skip ?_); simp (disch := decide) only [qs, qb, if_true, if_false, reduceIte]) | refine AWP_sq rfl (fun K hK => ?_) | refine ct rfl ?_ | ((first | refine hK _ _ ?_ | (clear hK; refine hK _ _ ?_) | (clear hK; clear hK; refine hK _ _ ?_)); clear hK; (try clear K)))
      refine AWP_rsp [.o 0, .p 0, .o 1, .o 2, .o 3, .o 4, .o 5] rfl rfl (fun K hK => ?_); (repeat (first | (refine wo rfl (fun k hk => ?_); simp (disch := omega) only [go_sem, Nat.reduceBEq, Nat.reduceAdd]; refine hk _ _ ?_; clear hk k) | refine wkt rfl ?_)); (try refine wk0 ?_)
      refine wkp ?_; simp (disch := omega) only [go_sem, Nat.reduceBEq, Nat.reduceAdd]; intro b h2 hs2 hb; (repeat (first | (refine wo rfl (fun k hk => ?_); simp (disch := omega) only [go_sem, Nat.reduceBEq, Nat.reduceAdd]; refine hk _ _ ?_; clear hk k) | refine wkt rfl ?_)); (try refine wk0 ?_)
      have hA : Arr h2 (some ⟨b, 0, none⟩) xs.length rs := .of_row (fun hne => hb ((uw_ne _).1 hne)) hlt (by omega) (by omega)
      simp only [List.drop_zero] at hi
      rw [hm] at hi
      have e1 : m / d = val 4294967296 rs := by rw [hi, Nat.mul_add_div hd0, Nat.div_eq_of_lt hrd, Nat.add_zero]
      have e2 : m % d = r := by rw [hi, Nat.mul_add_mod, Nat.mod_eq_of_lt hrd]
      refine cN rfl rfl rfl rfl (by exact Of_L hA hr) ?_; rintro v h3 hs3 hv'; (repeat (first | (refine wo rfl (fun k hk => ?_); simp (disch := omega) only [go_sem, Nat.reduceBEq, Nat.reduceAdd]; refine hk _ _ ?_; clear hk k) | refine wkt rfl ?_)); (try refine wk0 ?_)
      (try (simp (disch := omega) only [go_sem, Nat.reduceBEq, Nat.reduceAdd])); refine hK _ _ ?_; clear hK; (try clear K); (try dsimp only [behind, qs])
      refine AWP_ret ?_; simp (disch := omega) only [go_sem, Nat.reduceBEq, Nat.reduceAdd]
      exact ⟨v, by rw [e2], by rw [e1]; exact hv'⟩
    · obtain ⟨k, rfl⟩ : ∃ j, k = j + 1 := ⟨k - 1, by omega⟩
      obtain ⟨ad, rfl, hat⟩ := ha.rd h1 (i := k) (by omega)
      have hx := getD_lt (by decide) ha.lt k
      have hor := or_23 (y := r) hx
      have hq : (r * 4294967296 + xs.getD k 0) / d < 4294967296 := by
        apply Nat.div_lt_of_lt_mul
        have := Nat.mul_le_mul_right 4294967296 (show r + 1 ≤ d by omega)
        omega
      have hm' : (r * 4294967296 + xs.getD k 0) % d < d := Nat.mod_lt _ hd0
      have hs2 : d * ((r * 4294967296 + xs.getD k 0) / d) + (r * 4294967296 + xs.getD k 0) % d = r * 4294967296 + xs.getD k 0 := Nat.div_add_mod _ _
      obtain ⟨q, hqe⟩ : ∃ q, (r * 4294967296 + xs.getD k 0) / d = q := ⟨_, rfl⟩
      obtain ⟨r', hre⟩ : ∃ q, (r * 4294967296 + xs.getD k 0) % d = q := ⟨_, rfl⟩
      rw [hqe] at hq hs2
      rw [hre] at hm' hs2
      repeat (first | (refine wo rfl (fun k hk => ?_); simp (disch := omega) only [go_sem, Nat.reduceBEq, Nat.reduceAdd, hat, hor, hqe, hre]; refine hk _ _ ?_; clear hk k) | refine wkt rfl ?_ | refine wk0 ?_ | refine rg rfl rfl (fun K hK => ?_) | ((first | refine AWP_exit ?_ | refine AWP_skip ?_); simp (disch := decide) only [qs, qb, if_true, if_false, reduceIte]) | refine AWP_sq rfl (fun K hK => ?_) | refine ct rfl ?_ | ((try simp (disch := omega) only [go_sem, Nat.reduceBEq, Nat.reduceAdd]); (first | apply hK | (clear hK; apply hK) | (clear hK; clear hK; apply hK)); clear hK; (try clear K); (try dsimp only [behind, qs, qb])))
      refine ⟨(k, rs.set k q, r'), ?_, ⟨hle, by dsimp only; omega, by simp [hr], lt_set hlt hq, hm', ?_⟩, by simp only; omega⟩
      · simp (disch := omega) only [go_sem, Nat.reduceBEq, Nat.reduceAdd]
      · dsimp only
        rw [drop_getD (by omega), drop_getD (xs := rs.set k q) (by simp [hr]; omega), getD_set (by omega), List.drop_set_of_lt (by omega), val, val, hi]
        rw [Nat.mul_add d, Nat.mul_left_comm d, Nat.mul_add 4294967296]
        omega
end Go.Q
