/-
  Contracts of the reference's rational numbers: words of 32 bits and digits of 16. Conditions: the slices hold words (Arr), digits (N16).
  Contracts of the reference's rational numbers: reading them from values, and giving them back. Conditions: the slices hold words (Rw), digits (Qr).
  Contracts of the reference's rational numbers: reading, giving, sizes, signs. Conditions: the values are rational numbers (Rw, Qr), of at most 2^36 binary digits.
  Contracts of the reference's rational numbers: sizes, signs, sums, order. Conditions: the values are rational numbers (Rw, Qr), of at most 2^34 binary digits.
  Contracts of the reference's rational numbers: grids, quotients. Conditions: the values are rational numbers (Qr), of at most 2^30 binary digits.
  Contracts of the reference's rational numbers: rounding to grids, quotients, results. Conditions: the values are rational numbers (Qr), of at most 2^30 binary digits.
  From a law's contract to its statement: the arguments read as intervals and numbers; what was there stays as it was. Conditions: what is read is of bulk at most 1048576.
  Numbers as they come in (Rv) and as an operation of package number returns them (Nq). Conditions: none.
  Contracts of package number: canonical values, small integers; of package word: lowest digits. Conditions: the values are numbers.
  Contracts of package number: sums, products, quotients, comparison, whole parts, rounding, opposites. Conditions: the values are numbers of at most 2048 binary digits.
-/
import Derived.Test.YtmibfkpalmmheaaDoorKa482f2PkI
import Derived.Test.YtmibfkpalmmheaaDoorKabdecePkD
import Derived.Test.YtmibfkpalmmheaaDoorKddddb9PkG
import Derived.Test.YtmibfkpalmmheaaDoorCards
import Derived.Test.YtmibfkpalmmheaaDoorTie
import Derived.WalkKit
import Derived.ProofKit
import Derived.OpenShut
import Derived.Deep.DeepHandedRow
import Derived.Lib.LaidTab
set_option linter.unusedVariables false
set_option linter.unusedSimpArgs false
namespace Go.Q
open Go.Proofs
set_option maxRecDepth 100000
set_option maxHeartbeats 4000000
def halves : List Nat → List Nat
  | [] => []
  | x :: xs => x % 65536 :: x / 65536 :: halves xs
theorem val_halves : ∀ xs : List Nat, val 65536 (halves xs) = val 4294967296 xs
  | [] => rfl
  | x :: xs => by
    simp only [halves, val, val_halves xs]
    omega
theorem halves_lt : ∀ {xs : List Nat}, (∀ x ∈ xs, x < 4294967296) → ∀ d ∈ halves xs, d < 65536
  | [], _, d, hd => by cases hd
  | x :: xs, h, d, hd => by
    have hx := h x (List.mem_cons_self ..)
    simp only [halves, List.mem_cons] at hd
    rcases hd with rfl | rfl | hd
    · omega
    · omega
    · exact halves_lt (fun y hy => h y (List.mem_cons_of_mem _ hy)) d hd
theorem halves_len : ∀ xs : List Nat, (halves xs).length = 2 * xs.length
  | [] => rfl
  | x :: xs => by simp only [halves, List.length_cons, halves_len xs]; omega
theorem halves_snoc : ∀ (xs : List Nat) (x : Nat), halves (xs ++ [x]) = halves xs ++ [x % 65536, x / 65536]
  | [], x => rfl
  | y :: xs, x => by simp only [List.cons_append, halves, halves_snoc xs x]
theorem take_snoc_getD {xs : List Nat} {k : Nat} (h : k < xs.length) : xs.take (k + 1) = xs.take k ++ [xs.getD k 0] := by
  rw [List.take_succ_eq_append_getElem h]; simp [h]
theorem uw_two (ds : List Nat) (c d : Nat) (jk : List Value) : uw ds ++ (uw [c, d] ++ jk) = uw (ds ++ [c, d]) ++ jk := by simp [uw]
@[go_sem] theorem uw_mk2 (c d : Nat) : [Value.int .u32 (c : Nat), Value.int .u32 (d : Nat)] = uw [c, d] := rfl
@[go_sem] theorem spl2 (c d : Nat) : spl (spl [Value.int .u32 0, Value.int .u32 0] 0 (uw [c])) 1 (uw [d]) = uw [c, d] := rfl
@[go_sem] theorem take2 (c d : Nat) : (uw [c, d]).take 2 = uw [c, d] := rfl
theorem words_spec {h0 h : PH} [Le h0 h] {a : Option Addr} {c : Nat} {xs : List Nat} (ha : Arr h0 a c xs) (hs : xs.length ≤ 2 ^ 40) :
    Spec mach 24 #[.slice a xs.length c] h (fun v h' => N16 h' v (val 4294967296 xs)) NP := by
  refine Spec.enter (args := [_]) (n := 22) Tryd.func24 rfl (by kernel_rfl) rfl (by simp) [.tmp 2] rfl (fun C _ => ?_)
  repeat (first | (refine wo rfl (fun k hk => ?_); simp (disch := omega) only [go_sem, Nat.reduceBEq, Nat.reduceAdd]; refine hk _ _ ?_; clear hk k) | refine wkt rfl ?_ | refine wk0 ?_ | refine rg rfl rfl (fun K hK => ?_) | ((first | refine AWP_exit ?_ | refine AWP_skip ?_); simp (disch := decide) only [qs, qb, if_true, if_false, reduceIte]) | refine AWP_sq rfl (fun K hK => ?_) | refine ct rfl ?_ | ((try simp (disch := omega) only [go_sem, Nat.reduceBEq, Nat.reduceAdd]); (first | apply hK | (clear hK; apply hK) | (clear hK; clear hK; apply hK)); clear hK; (try clear K); (try dsimp only [behind, qs, qb])))
  refine AWP_loopS (fun x : Nat ⊕ (Nat × List Value) => match x with
      | .inl _ => ⟨[(3, .v (.slice none 0 0)), (6, .v (.slice a xs.length c)), (7, .v (.int .i64 xs.length)), (8, .v (.int .i64 0))], []⟩
      | .inr (k, jk) => ⟨[(3, .s 0 0 (2 * k) (2 * k + jk.length)), (6, .v (.slice a xs.length c)), (7, .v (.int .i64 xs.length)), (8, .v (.int .i64 k))], [uw (halves (xs.take k)) ++ jk]⟩)
    (fun x h' => Le h0 h' ∧ match x with
      | .inl _ => True
      | .inr (k, _) => k ≤ xs.length)
    (fun x => match x with
      | .inl _ => xs.length + 1
      | .inr (k, _) => xs.length - k) (.inl 0) [] ?_ ⟨inferInstance, trivial⟩ ?_
  · simp (disch := omega) only [go_sem, Nat.reduceBEq, Nat.reduceAdd]
  · rintro (r | ⟨i, jk⟩) h1 ⟨hle, hi⟩
    · dsimp only at hi ⊢
      by_cases hx0 : xs.length = 0
      · repeat (first | (refine wo rfl (fun k hk => ?_); simp (disch := omega) only [go_sem, Nat.reduceBEq, Nat.reduceAdd]; refine hk _ _ ?_; clear hk k) | refine wkt rfl ?_ | refine wk0 ?_ | refine rg rfl rfl (fun K hK => ?_) | ((first | refine AWP_exit ?_ | refine AWP_skip ?_); simp (disch := decide) only [qs, qb, if_true, if_false, reduceIte]) | refine AWP_sq rfl (fun K hK => ?_) | refine ct rfl ?_ | ((try simp (disch := omega) only [go_sem, Nat.reduceBEq, Nat.reduceAdd]); (first | apply hK | (clear hK; apply hK) | (clear hK; clear hK; apply hK)); clear hK; (try clear K); (try dsimp only [behind, qs, qb])))
        have hA : Arr h1 none 0 [] := Arr.nil h1
        refine cN rfl rfl rfl rfl (by exact trim_N (L := 0) hA (by simp) rfl) ?_; rintro v2 h2 s2 hv2; (repeat (first | (refine wo rfl (fun k hk => ?_); simp (disch := omega) only [go_sem, Nat.reduceBEq, Nat.reduceAdd]; refine hk _ _ ?_; clear hk k) | refine wkt rfl ?_)); (try refine wk0 ?_)
        (try (simp (disch := omega) only [go_sem, Nat.reduceBEq, Nat.reduceAdd])); refine hK _ _ ?_; clear hK; (try clear K); (try dsimp only [behind, qs])
        refine AWP_ret ?_; simp (disch := omega) only [go_sem, Nat.reduceBEq, Nat.reduceAdd]
        rw [List.eq_nil_of_length_eq_zero hx0]
        exact hv2
      · obtain ⟨ad, rfl, hat⟩ := ha.rd0 h1 (by omega)
        have hx := getD_lt (by decide) ha.lt 0
        repeat (first | (refine wo rfl (fun k hk => ?_); simp (disch := omega) only [go_sem, Nat.reduceBEq, Nat.reduceAdd, hat]; refine hk _ _ ?_; clear hk k) | refine wkt rfl ?_ | refine wk0 ?_ | refine rg rfl rfl (fun K hK => ?_) | ((first | refine AWP_exit ?_ | refine AWP_skip ?_); simp (disch := decide) only [qs, qb, if_true, if_false, reduceIte]) | refine AWP_sq rfl (fun K hK => ?_) | refine ct rfl ?_ | ((try simp (disch := omega) only [go_sem, Nat.reduceBEq, Nat.reduceAdd]); (first | apply hK | (clear hK; apply hK) | (clear hK; clear hK; apply hK)); clear hK; (try clear K); (try dsimp only [behind, qs, qb])))
        refine wo rfl (fun k hk => ?_); simp (disch := omega) only [go_sem, Nat.reduceBEq, Nat.reduceAdd]
        intro _ junk
        refine hk _ _ ?_; clear hk k
        (repeat (first | (refine wo rfl (fun k hk => ?_); simp (disch := omega) only [go_sem, Nat.reduceBEq, Nat.reduceAdd]; refine hk _ _ ?_; clear hk k) | refine wkt rfl ?_)); (try refine wk0 ?_)
        repeat (first | (refine wo rfl (fun k hk => ?_); simp (disch := omega) only [go_sem, Nat.reduceBEq, Nat.reduceAdd]; refine hk _ _ ?_; clear hk k) | refine wkt rfl ?_ | refine wk0 ?_ | refine rg rfl rfl (fun K hK => ?_) | ((first | refine AWP_exit ?_ | refine AWP_skip ?_); simp (disch := decide) only [qs, qb, if_true, if_false, reduceIte]) | refine AWP_sq rfl (fun K hK => ?_) | refine ct rfl ?_ | ((try simp (disch := omega) only [go_sem, Nat.reduceBEq, Nat.reduceAdd]); (first | apply hK | (clear hK; apply hK) | (clear hK; clear hK; apply hK)); clear hK; (try clear K); (try dsimp only [behind, qs, qb])))
        refine ⟨.inr (1, junk), [1], ?_, ⟨hle, by dsimp only; omega⟩, by dsimp only; omega⟩
        have e1 : xs.take 1 = [xs.getD 0 0] := by rw [take_snoc_getD (k := 0) (by omega)]; rfl
        simp (disch := omega) only [go_sem, Nat.reduceBEq, Nat.reduceAdd, e1, halves]
        rfl
    · dsimp only at hi ⊢
      by_cases hil : i < xs.length
      · obtain ⟨ad, rfl, hat⟩ := ha.rd h1 (i := i) (by omega)
        have hx := getD_lt (by decide) ha.lt i
        have hlen := halves_len (xs.take i)
        rw [List.length_take, Nat.min_eq_left (by omega)] at hlen
        repeat (first | (refine wo rfl (fun k hk => ?_); simp (disch := omega) only [go_sem, Nat.reduceBEq, Nat.reduceAdd, hat]; refine hk _ _ ?_; clear hk k) | refine wkt rfl ?_ | refine wk0 ?_ | refine rg rfl rfl (fun K hK => ?_) | ((first | refine AWP_exit ?_ | refine AWP_skip ?_); simp (disch := decide) only [qs, qb, if_true, if_false, reduceIte]) | refine AWP_sq rfl (fun K hK => ?_) | refine ct rfl ?_ | ((try simp (disch := omega) only [go_sem, Nat.reduceBEq, Nat.reduceAdd]); (first | apply hK | (clear hK; apply hK) | (clear hK; clear hK; apply hK)); clear hK; (try clear K); (try dsimp only [behind, qs, qb])))
        refine wo rfl (fun k hk => ?_); simp (disch := omega) only [go_sem, Nat.reduceBEq, Nat.reduceAdd]
        intro junk
        refine hk _ _ ?_; clear hk k
        (repeat (first | (refine wo rfl (fun k hk => ?_); simp (disch := omega) only [go_sem, Nat.reduceBEq, Nat.reduceAdd]; refine hk _ _ ?_; clear hk k) | refine wkt rfl ?_)); (try refine wk0 ?_)
        repeat (first | (refine wo rfl (fun k hk => ?_); simp (disch := omega) only [go_sem, Nat.reduceBEq, Nat.reduceAdd]; refine hk _ _ ?_; clear hk k) | refine wkt rfl ?_ | refine wk0 ?_ | refine rg rfl rfl (fun K hK => ?_) | ((first | refine AWP_exit ?_ | refine AWP_skip ?_); simp (disch := decide) only [qs, qb, if_true, if_false, reduceIte]) | refine AWP_sq rfl (fun K hK => ?_) | refine ct rfl ?_ | ((try simp (disch := omega) only [go_sem, Nat.reduceBEq, Nat.reduceAdd]); (first | apply hK | (clear hK; apply hK) | (clear hK; clear hK; apply hK)); clear hK; (try clear K); (try dsimp only [behind, qs, qb])))
        refine ⟨.inr (i + 1, junk), [2], ?_, ⟨hle, by dsimp only; omega⟩, by dsimp only; omega⟩
        have e1 := take_snoc_getD hil
        simp (disch := omega) only [go_sem, Nat.reduceBEq, Nat.reduceAdd, e1, halves_snoc, uw_two]
        rfl
      · obtain rfl : i = xs.length := by omega
        have hlen := halves_len xs
        rw [List.take_of_length_le (Nat.le_refl _)]
        repeat (first | (refine rg rfl rfl (fun K hK => ?_); (repeat (first | (refine wo rfl (fun k hk => ?_); simp (disch := omega) only [go_sem, Nat.reduceBEq, Nat.reduceAdd]; refine hk _ _ ?_; clear hk k) | refine wkt rfl ?_)); (try refine wk0 ?_); refine hK _ _ ?_; clear hK K; (try dsimp only [behind, qs, qb])) | ((first | refine AWP_exit ?_ | refine AWP_skip ?_); simp (disch := decide) only [qs, qb, if_true, if_false, reduceIte]) | refine AWP_sq rfl (fun K hK => ?_) | refine ct rfl ?_ | ((first | refine hK _ _ ?_ | (clear hK; refine hK _ _ ?_) | (clear hK; clear hK; refine hK _ _ ?_)); clear hK; (try clear K)))
        refine AWP_rsp [.p 0, .o 0, .o 1, .o 2] rfl rfl (fun K hK => ?_); (repeat (first | (refine wo rfl (fun k hk => ?_); simp (disch := omega) only [go_sem, Nat.reduceBEq, Nat.reduceAdd]; refine hk _ _ ?_; clear hk k) | refine wkt rfl ?_)); (try refine wk0 ?_)
        refine wkp ?_; simp (disch := omega) only [go_sem, Nat.reduceBEq, Nat.reduceAdd]; intro b h2 hs2 hb; (repeat (first | (refine wo rfl (fun k hk => ?_); simp (disch := omega) only [go_sem, Nat.reduceBEq, Nat.reduceAdd]; refine hk _ _ ?_; clear hk k) | refine wkt rfl ?_)); (try refine wk0 ?_)
        have hA : Arr h2 (some ⟨b, 0, none⟩) (2 * xs.length + jk.length) (halves xs) := .of_app hb (halves_lt ha.lt) (by omega) (by omega)
        refine cN rfl rfl rfl rfl (by exact trim_N hA (halves_lt ha.lt) hlen) ?_; rintro v2 h3 s2 hv2; (repeat (first | (refine wo rfl (fun k hk => ?_); simp (disch := omega) only [go_sem, Nat.reduceBEq, Nat.reduceAdd]; refine hk _ _ ?_; clear hk k) | refine wkt rfl ?_)); (try refine wk0 ?_)
        (try (simp (disch := omega) only [go_sem, Nat.reduceBEq, Nat.reduceAdd])); refine hK _ _ ?_; clear hK; (try clear K); (try dsimp only [behind, qs])
        refine AWP_ret ?_; simp (disch := omega) only [go_sem, Nat.reduceBEq, Nat.reduceAdd]
        rwa [val_halves] at hv2
end Go.Q
namespace Go.Q
open Go.Proofs
set_option maxRecDepth 100000
set_option maxHeartbeats 4000000
theorem P16_32 (k : Nat) : 65536 ^ (2 * k) = 4294967296 ^ k := by rw [Nat.pow_mul]
theorem len_16_32 {n k : Nat} : (W 65536 n).length ≤ 2 * k ↔ (W 4294967296 n).length ≤ k := by
  constructor
  · intro h
    refine W_length_le B32 ?_
    rw [← P16_32]
    exact Nat.lt_of_lt_of_le (lt_W_length B16 n) (Nat.pow_le_pow_right (by decide) h)
  · intro h
    refine W_length_le B16 ?_
    rw [P16_32]
    exact Nat.lt_of_lt_of_le (lt_W_length B32 n) (Nat.pow_le_pow_right (by decide) h)
theorem digit_16_32 (n k : Nat) : (W 65536 n).getD (2 * k) 0 + (W 65536 n).getD (2 * k + 1) 0 * 65536 = (W 4294967296 n).getD k 0 := by
  rw [W_getD B16, W_getD B16, W_getD B32, Nat.pow_succ, P16_32, ← Nat.div_div_eq_div_mul]
  omega
theorem N32.of_pub {h : PH} {b : Nat} {ds : List Nat} {junk : List Value} {n L c : Nat} (hb : uw ds ++ junk ≠ [] → h b = some (uw ds ++ junk).toArray) (hW : W 4294967296 n = ds) (hs : ds.length ≤ 2 ^ 46) (hL : ds.length = L) (hc : ds.length ≤ c) : N32 h (.slice (some ⟨b, 0, none⟩) L c) n := by
  refine ⟨_, c, by rw [hW, hL], ?_⟩
  rw [hW]
  have hlt : ∀ x ∈ ds, x < 4294967296 := by rw [← hW]; exact W_lt B32 n
  refine .of_block hb (fun i x hi => ?_) hlt hs hc
  have hil : i < ds.length := (List.getElem?_eq_some_iff.1 hi).1
  rw [List.getElem?_append_left (by simp [uw]; exact hil)]
  simp [uw, hi]
theorem list_spec {h0 h : PH} [Le h0 h] {v : Value} {n : Nat} (hv : N16 h0 v n) (bn : bl n ≤ 2 ^ 40) : Spec mach 46 #[v] h (fun v h' => N32 h' v n) NP := by
  obtain ⟨a, c, xs, rfl, ha, hxs, hm, hx16⟩ := hv.out
  obtain ⟨zs, hzs⟩ : ∃ zs, W 4294967296 n = zs := ⟨_, rfl⟩
  have hs : xs.length ≤ 2 ^ 40 := by have := len16_le_bl n; rw [hxs] at this; omega
  have hzl : zs.length ≤ 2 ^ 40 := by have := len_le_bl n; rw [hzs] at this; omega
  have hlen : ∀ k, xs.length ≤ 2 * k ↔ zs.length ≤ k := fun k => by rw [← hxs, ← hzs]; exact len_16_32
  have hdig : ∀ k, xs.getD (2 * k) 0 + xs.getD (2 * k + 1) 0 * 65536 = zs.getD k 0 := fun k => by rw [← hxs, ← hzs]; exact digit_16_32 n k
  refine Spec.enter (args := [_]) (n := 34) Tryd.func46 rfl (by kernel_rfl) rfl (by simp) [.tmp 2] rfl (fun C _ => ?_)
  repeat (first | (refine wo rfl (fun k hk => ?_); simp (disch := omega) only [go_sem, Nat.reduceBEq, Nat.reduceAdd]; refine hk _ _ ?_; clear hk k) | refine wkt rfl ?_ | refine wk0 ?_ | refine rg rfl rfl (fun K hK => ?_) | ((first | refine AWP_exit ?_ | refine AWP_skip ?_); simp (disch := decide) only [qs, qb, if_true, if_false, reduceIte]) | refine AWP_sq rfl (fun K hK => ?_) | refine ct rfl ?_ | ((try simp (disch := omega) only [go_sem, Nat.reduceBEq, Nat.reduceAdd]); (first | apply hK | (clear hK; apply hK) | (clear hK; clear hK; apply hK)); clear hK; (try clear K); (try dsimp only [behind, qs, qb])))
  refine AWP_loopS (fun x : Nat ⊕ (Nat × List Value) => match x with
      | .inl _ => ⟨[(0, .v (.slice a xs.length c)), (3, .v (.slice none 0 0)), (4, .v (.int .i64 0))], []⟩
      | .inr (k, jk) => ⟨[(0, .v (.slice a xs.length c)), (3, .s 0 0 k (k + jk.length)), (4, .v (.int .i64 (2 * k : Nat)))], [uw (zs.take k) ++ jk]⟩)
    (fun x h' => Le h0 h' ∧ match x with
      | .inl _ => True
      | .inr (k, _) => k ≤ zs.length)
    (fun x => match x with
      | .inl _ => zs.length + 1
      | .inr (k, _) => zs.length - k) (.inl 0) [] ?_ ⟨inferInstance, trivial⟩ ?_
  · simp (disch := omega) only [go_sem, Nat.reduceBEq, Nat.reduceAdd]
  · rintro (r | ⟨i, jk⟩) h1 ⟨hle, hi⟩
    · dsimp only at hi ⊢
      have hl0 := hlen 0
      have hd0 := hdig 0
      simp only [Nat.mul_zero, Nat.zero_add] at hl0 hd0
      by_cases hx0 : xs.length = 0
      · repeat (first | (refine wo rfl (fun k hk => ?_); simp (disch := omega) only [go_sem, Nat.reduceBEq, Nat.reduceAdd]; refine hk _ _ ?_; clear hk k) | refine wkt rfl ?_ | refine wk0 ?_ | refine rg rfl rfl (fun K hK => ?_) | ((first | refine AWP_exit ?_ | refine AWP_skip ?_); simp (disch := decide) only [qs, qb, if_true, if_false, reduceIte]) | refine AWP_sq rfl (fun K hK => ?_) | refine ct rfl ?_ | ((try simp (disch := omega) only [go_sem, Nat.reduceBEq, Nat.reduceAdd]); (first | apply hK | (clear hK; apply hK) | (clear hK; clear hK; apply hK)); clear hK; (try clear K); (try dsimp only [behind, qs, qb])))
        refine AWP_ret ?_; simp (disch := omega) only [go_sem, Nat.reduceBEq, Nat.reduceAdd]
        have : n = 0 := by rw [← hm, List.eq_nil_of_length_eq_zero hx0]; rfl
        rw [this]; exact N32.zero _
      · obtain ⟨ad, rfl, hat⟩ := ha.rd0 h1 (by omega)
        have hx := getD_lt (by decide) hx16 0
        have e1 : zs.take 1 = [zs.getD 0 0] := by rw [take_snoc_getD (k := 0) (by omega)]; rfl
        by_cases hx1 : 1 < xs.length
        · obtain ⟨ad', h', hat'⟩ := ha.rd h1 (i := 1) (by omega)
          obtain rfl : ad = ad' := by simpa using h'
          have hy := getD_lt (by decide) hx16 1
          have hat1 : h1.at (ad.add ((0 : Int) + 1).toNat) = some (.int .u32 (xs.getD 1 0 : Nat)) := hat'
          repeat (first | (refine wo rfl (fun k hk => ?_); simp (disch := omega) only [go_sem, Nat.reduceBEq, Nat.reduceAdd, hat, hat1, hd0]; refine hk _ _ ?_; clear hk k) | refine wkt rfl ?_ | refine wk0 ?_ | refine rg rfl rfl (fun K hK => ?_) | ((first | refine AWP_exit ?_ | refine AWP_skip ?_); simp (disch := decide) only [qs, qb, if_true, if_false, reduceIte]) | refine AWP_sq rfl (fun K hK => ?_) | refine ct rfl ?_ | ((try simp (disch := omega) only [go_sem, Nat.reduceBEq, Nat.reduceAdd]); (first | apply hK | (clear hK; apply hK) | (clear hK; clear hK; apply hK)); clear hK; (try clear K); (try dsimp only [behind, qs, qb])))
          refine wo rfl (fun k hk => ?_); simp (disch := omega) only [go_sem, Nat.reduceBEq, Nat.reduceAdd]
          intro _ junk
          refine hk _ _ ?_; clear hk k
          (repeat (first | (refine wo rfl (fun k hk => ?_); simp (disch := omega) only [go_sem, Nat.reduceBEq, Nat.reduceAdd]; refine hk _ _ ?_; clear hk k) | refine wkt rfl ?_)); (try refine wk0 ?_)
          repeat (first | (refine wo rfl (fun k hk => ?_); simp (disch := omega) only [go_sem, Nat.reduceBEq, Nat.reduceAdd]; refine hk _ _ ?_; clear hk k) | refine wkt rfl ?_ | refine wk0 ?_ | refine rg rfl rfl (fun K hK => ?_) | ((first | refine AWP_exit ?_ | refine AWP_skip ?_); simp (disch := decide) only [qs, qb, if_true, if_false, reduceIte]) | refine AWP_sq rfl (fun K hK => ?_) | refine ct rfl ?_ | ((try simp (disch := omega) only [go_sem, Nat.reduceBEq, Nat.reduceAdd]); (first | apply hK | (clear hK; apply hK) | (clear hK; clear hK; apply hK)); clear hK; (try clear K); (try dsimp only [behind, qs, qb])))
          refine ⟨.inr (1, junk), [1], ?_, ⟨hle, by dsimp only; omega⟩, by dsimp only; omega⟩
          simp (disch := omega) only [go_sem, Nat.reduceBEq, Nat.reduceAdd, e1]
          rfl
        · have hy : xs.getD 1 0 = 0 := getD_none (by omega)
          rw [hy, Nat.zero_mul, Nat.add_zero] at hd0
          repeat (first | (refine wo rfl (fun k hk => ?_); simp (disch := omega) only [go_sem, Nat.reduceBEq, Nat.reduceAdd, hat, hd0]; refine hk _ _ ?_; clear hk k) | refine wkt rfl ?_ | refine wk0 ?_ | refine rg rfl rfl (fun K hK => ?_) | ((first | refine AWP_exit ?_ | refine AWP_skip ?_); simp (disch := decide) only [qs, qb, if_true, if_false, reduceIte]) | refine AWP_sq rfl (fun K hK => ?_) | refine ct rfl ?_ | ((try simp (disch := omega) only [go_sem, Nat.reduceBEq, Nat.reduceAdd]); (first | apply hK | (clear hK; apply hK) | (clear hK; clear hK; apply hK)); clear hK; (try clear K); (try dsimp only [behind, qs, qb])))
          refine wo rfl (fun k hk => ?_); simp (disch := omega) only [go_sem, Nat.reduceBEq, Nat.reduceAdd]
          intro _ junk
          refine hk _ _ ?_; clear hk k
          (repeat (first | (refine wo rfl (fun k hk => ?_); simp (disch := omega) only [go_sem, Nat.reduceBEq, Nat.reduceAdd]; refine hk _ _ ?_; clear hk k) | refine wkt rfl ?_)); (try refine wk0 ?_)
          repeat (first | (refine wo rfl (fun k hk => ?_); simp (disch := omega) only [go_sem, Nat.reduceBEq, Nat.reduceAdd]; refine hk _ _ ?_; clear hk k) | refine wkt rfl ?_ | refine wk0 ?_ | refine rg rfl rfl (fun K hK => ?_) | ((first | refine AWP_exit ?_ | refine AWP_skip ?_); simp (disch := decide) only [qs, qb, if_true, if_false, reduceIte]) | refine AWP_sq rfl (fun K hK => ?_) | refine ct rfl ?_ | ((try simp (disch := omega) only [go_sem, Nat.reduceBEq, Nat.reduceAdd]); (first | apply hK | (clear hK; apply hK) | (clear hK; clear hK; apply hK)); clear hK; (try clear K); (try dsimp only [behind, qs, qb])))
          refine ⟨.inr (1, junk), [1], ?_, ⟨hle, by dsimp only; omega⟩, by dsimp only; omega⟩
          simp (disch := omega) only [go_sem, Nat.reduceBEq, Nat.reduceAdd, e1]
          rfl
    · dsimp only at hi ⊢
      have hli := hlen i
      have hdi := hdig i
      by_cases hil : i < zs.length
      · obtain ⟨ad, rfl, hat⟩ := ha.rd h1 (i := 2 * i) (by omega)
        have hx := getD_lt (by decide) hx16 (2 * i)
        have e1 := take_snoc_getD hil
        have ez : (zs.take i).length = i := by rw [List.length_take, Nat.min_eq_left (by omega)]
        by_cases hx1 : 2 * i + 1 < xs.length
        · obtain ⟨ad', h', hat'⟩ := ha.rd h1 (i := 2 * i + 1) (by omega)
          obtain rfl : ad = ad' := by simpa using h'
          have hy := getD_lt (by decide) hx16 (2 * i + 1)
          simp (disch := omega) only [go_sem, Nat.reduceBEq, Nat.reduceAdd] at hat'
          repeat (first | (refine wo rfl (fun k hk => ?_); simp (disch := omega) only [go_sem, Nat.reduceBEq, Nat.reduceAdd, hat, hat', hdi]; refine hk _ _ ?_; clear hk k) | refine wkt rfl ?_ | refine wk0 ?_ | refine rg rfl rfl (fun K hK => ?_) | ((first | refine AWP_exit ?_ | refine AWP_skip ?_); simp (disch := decide) only [qs, qb, if_true, if_false, reduceIte]) | refine AWP_sq rfl (fun K hK => ?_) | refine ct rfl ?_ | ((try simp (disch := omega) only [go_sem, Nat.reduceBEq, Nat.reduceAdd]); (first | apply hK | (clear hK; apply hK) | (clear hK; clear hK; apply hK)); clear hK; (try clear K); (try dsimp only [behind, qs, qb])))
          refine wo rfl (fun k hk => ?_); simp (disch := omega) only [go_sem, Nat.reduceBEq, Nat.reduceAdd]
          intro junk
          refine hk _ _ ?_; clear hk k
          (repeat (first | (refine wo rfl (fun k hk => ?_); simp (disch := omega) only [go_sem, Nat.reduceBEq, Nat.reduceAdd]; refine hk _ _ ?_; clear hk k) | refine wkt rfl ?_)); (try refine wk0 ?_)
          repeat (first | (refine wo rfl (fun k hk => ?_); simp (disch := omega) only [go_sem, Nat.reduceBEq, Nat.reduceAdd]; refine hk _ _ ?_; clear hk k) | refine wkt rfl ?_ | refine wk0 ?_ | refine rg rfl rfl (fun K hK => ?_) | ((first | refine AWP_exit ?_ | refine AWP_skip ?_); simp (disch := decide) only [qs, qb, if_true, if_false, reduceIte]) | refine AWP_sq rfl (fun K hK => ?_) | refine ct rfl ?_ | ((try simp (disch := omega) only [go_sem, Nat.reduceBEq, Nat.reduceAdd]); (first | apply hK | (clear hK; apply hK) | (clear hK; clear hK; apply hK)); clear hK; (try clear K); (try dsimp only [behind, qs, qb])))
          refine ⟨.inr (i + 1, junk), [2], ?_, ⟨hle, by dsimp only; omega⟩, by dsimp only; omega⟩
          simp (disch := omega) only [go_sem, Nat.reduceBEq, Nat.reduceAdd, e1, uw_snoc, Nat.mul_add]
        · have hy : xs.getD (2 * i + 1) 0 = 0 := getD_none (by omega)
          rw [hy, Nat.zero_mul, Nat.add_zero] at hdi
          repeat (first | (refine wo rfl (fun k hk => ?_); simp (disch := omega) only [go_sem, Nat.reduceBEq, Nat.reduceAdd, hat, hdi]; refine hk _ _ ?_; clear hk k) | refine wkt rfl ?_ | refine wk0 ?_ | refine rg rfl rfl (fun K hK => ?_) | ((first | refine AWP_exit ?_ | refine AWP_skip ?_); simp (disch := decide) only [qs, qb, if_true, if_false, reduceIte]) | refine AWP_sq rfl (fun K hK => ?_) | refine ct rfl ?_ | ((try simp (disch := omega) only [go_sem, Nat.reduceBEq, Nat.reduceAdd]); (first | apply hK | (clear hK; apply hK) | (clear hK; clear hK; apply hK)); clear hK; (try clear K); (try dsimp only [behind, qs, qb])))
          refine wo rfl (fun k hk => ?_); simp (disch := omega) only [go_sem, Nat.reduceBEq, Nat.reduceAdd]
          intro junk
          refine hk _ _ ?_; clear hk k
          (repeat (first | (refine wo rfl (fun k hk => ?_); simp (disch := omega) only [go_sem, Nat.reduceBEq, Nat.reduceAdd]; refine hk _ _ ?_; clear hk k) | refine wkt rfl ?_)); (try refine wk0 ?_)
          repeat (first | (refine wo rfl (fun k hk => ?_); simp (disch := omega) only [go_sem, Nat.reduceBEq, Nat.reduceAdd]; refine hk _ _ ?_; clear hk k) | refine wkt rfl ?_ | refine wk0 ?_ | refine rg rfl rfl (fun K hK => ?_) | ((first | refine AWP_exit ?_ | refine AWP_skip ?_); simp (disch := decide) only [qs, qb, if_true, if_false, reduceIte]) | refine AWP_sq rfl (fun K hK => ?_) | refine ct rfl ?_ | ((try simp (disch := omega) only [go_sem, Nat.reduceBEq, Nat.reduceAdd]); (first | apply hK | (clear hK; apply hK) | (clear hK; clear hK; apply hK)); clear hK; (try clear K); (try dsimp only [behind, qs, qb])))
          refine ⟨.inr (i + 1, junk), [2], ?_, ⟨hle, by dsimp only; omega⟩, by dsimp only; omega⟩
          simp (disch := omega) only [go_sem, Nat.reduceBEq, Nat.reduceAdd, e1, uw_snoc, Nat.mul_add]
      · obtain rfl : i = zs.length := by omega
        rw [List.take_of_length_le (Nat.le_refl _)]
        repeat (first | (refine rg rfl rfl (fun K hK => ?_); (repeat (first | (refine wo rfl (fun k hk => ?_); simp (disch := omega) only [go_sem, Nat.reduceBEq, Nat.reduceAdd]; refine hk _ _ ?_; clear hk k) | refine wkt rfl ?_)); (try refine wk0 ?_); refine hK _ _ ?_; clear hK K; (try dsimp only [behind, qs, qb])) | ((first | refine AWP_exit ?_ | refine AWP_skip ?_); simp (disch := decide) only [qs, qb, if_true, if_false, reduceIte]) | refine AWP_sq rfl (fun K hK => ?_) | refine ct rfl ?_ | ((first | refine hK _ _ ?_ | (clear hK; refine hK _ _ ?_) | (clear hK; clear hK; refine hK _ _ ?_)); clear hK; (try clear K)))
        refine AWP_pub 0 ?_
        simp (disch := omega) only [go_sem, Nat.reduceBEq, Nat.reduceAdd]
        intro b h2 hs2 hb
        refine AWP_ret ?_; simp (disch := omega) only [go_sem, Nat.reduceBEq, Nat.reduceAdd]
        exact N32.of_pub hb hzs (by omega) rfl (by omega)
end Go.Q
namespace Go.Q
open Go.Proofs
set_option maxRecDepth 100000
set_option maxHeartbeats 4000000
theorem bl_dz (d : Nat) : bl (dz d) ≤ bl d + 1 := by
  unfold dz; split
  · subst d; decide
  · omega
theorem words_N {h0 h : PH} [Le h0 h] {a : Option Addr} {c n L : Nat} {xs : List Nat} (ha : Arr h0 a c xs) (hl : xs.length = L) (hs : xs.length ≤ 2 ^ 40) (hn : val 4294967296 xs = n) :
    Spec mach 24 #[.slice a L c] h (fun v h' => N16 h' v n) NP := by subst hl hn; exact words_spec ha hs
theorem val_bl {xs : List Nat} (hlt : ∀ x ∈ xs, x < 4294967296) : bl (val 4294967296 xs) ≤ 32 * xs.length := by
  rw [bl_le, B_pow]; exact val_lt (by decide) xs hlt
theorem QOf_spec {h0 h : PH} [Le h0 h] {v : Value} {neg : Bool} {n d : Nat} (hv : Rw h0 v neg n d) :
    Spec mach 6 #[v] h (fun v h' => Qr h' v (qof neg n d)) NP := by
  obtain ⟨a, c, xs, a', c', ys, rfl, ha, ha', hn, hd, hsx, hsy⟩ := hv
  have bn : bl n ≤ 2 ^ 37 := by have := val_bl ha.lt; rw [hn] at this; omega
  have bd : bl d ≤ 2 ^ 37 := by have := val_bl ha'.lt; rw [hd] at this; omega
  have bz := bl_dz d
  refine Spec.enter (args := [_]) (n := 18) Tryd.func6 rfl (by kernel_rfl) rfl (by simp) [.cell 2 27] rfl (fun C _ => ?_)
  repeat (first | (refine wo rfl (fun k hk => ?_); simp (disch := omega) only [go_sem, Nat.reduceBEq, Nat.reduceAdd]; refine hk _ _ ?_; clear hk k) | refine wkt rfl ?_ | refine wk0 ?_ | refine rg rfl rfl (fun K hK => ?_) | refine rd [.o 0, .o 1, .o 2, .o 3, .o 5, .o 4, .o 6, .o 7] rfl (by decide +kernel) rfl (fun K hK => ?_) | ((first | refine AWP_exit ?_ | refine AWP_skip ?_); simp (disch := decide) only [qs, qb, if_true, if_false, reduceIte]) | refine AWP_sq rfl (fun K hK => ?_) | refine ct rfl ?_ | ((try simp (disch := omega) only [go_sem, Nat.reduceBEq, Nat.reduceAdd]); (first | apply hK | (clear hK; apply hK) | (clear hK; clear hK; apply hK)); clear hK; (try clear K); (try dsimp only [behind, qs, qb])))
  refine cN rfl rfl rfl rfl (by exact words_N ha' rfl (by omega) hd) ?_; rintro v1 h1 _ hv1; obtain ⟨v1, v1_l, v1_c, rfl, hv1⟩ := hv1.sl; (repeat (first | (refine wo rfl (fun k hk => ?_); simp (disch := omega) only [go_sem, Nat.reduceBEq, Nat.reduceAdd]; refine hk _ _ ?_; clear hk k) | refine wkt rfl ?_)); (try refine wk0 ?_)
  (try (simp (disch := omega) only [go_sem, Nat.reduceBEq, Nat.reduceAdd])); refine hK _ _ ?_; clear hK; (try clear K); (try dsimp only [behind, qs])
  have l1 := hv1.len0
  refine AWP_sqs (fun K hK => ?_)
  have rest : ∀ (va : Option Addr) (vl vc : Nat) (h' : PH) (S : AS), Le h0 h' → N16 h' (.slice va vl vc) (dz d) → S.le ⟨[(1, .p 0 0), (2, .p 1 0), (3, .v (.slice va vl vc))], [[.bool neg, .slice a xs.length c, .slice a' ys.length c'], [.bool false, .slice none 0 0, .slice none 0 0]]⟩ → K S h' := by
    intro va vl vc h' S _ hz hS
    refine hK _ _ (AWP_le _ hS ?_); clear hK K
    (first | refine rg rfl rfl (fun K hK => ?_) | refine rd [.o 0, .o 1, .o 2, .o 3, .o 5, .o 4, .o 6, .o 7] rfl (by decide +kernel) rfl (fun K hK => ?_)); (repeat (first | (refine wo rfl (fun k hk => ?_); simp (disch := omega) only [go_sem, Nat.reduceBEq, Nat.reduceAdd]; refine hk _ _ ?_; clear hk k) | refine wkt rfl ?_)); (try refine wk0 ?_)
    refine cN rfl rfl rfl rfl (by exact words_N ha rfl (by omega) hn) ?_; rintro v2 h2 _ hv2; obtain ⟨v2, v2_l, v2_c, rfl, hv2⟩ := hv2.sl; (repeat (first | (refine wo rfl (fun k hk => ?_); simp (disch := omega) only [go_sem, Nat.reduceBEq, Nat.reduceAdd]; refine hk _ _ ?_; clear hk k) | refine wkt rfl ?_)); (try refine wk0 ?_)
    refine cN rfl rfl rfl rfl (by exact Make_spec (neg := neg) hv2 (hz.to (h' := h2)) (by omega) (by omega)) ?_; rintro v3 h3 _ hv3; obtain ⟨v3_0, v3_1, v3_2, v3_3, v3_4, v3_5, v3_6, rfl, hv3⟩ := hv3.sa; (repeat (first | (refine wo rfl (fun k hk => ?_); simp (disch := omega) only [go_sem, Nat.reduceBEq, Nat.reduceAdd]; refine hk _ _ ?_; clear hk k) | refine wkt rfl ?_)); (try refine wk0 ?_)
    (try (simp (disch := omega) only [go_sem, Nat.reduceBEq, Nat.reduceAdd])); refine hK _ _ ?_; clear hK; (try clear K); (try dsimp only [behind, qs])
    refine AWP_ret ?_; simp (disch := omega) only [go_sem, Nat.reduceBEq, Nat.reduceAdd]
    exact hv3
  by_cases hd0 : d = 0
  · refine AWP_rs rfl (fun K hK => ?_); (repeat (first | (refine wo rfl (fun k hk => ?_); simp (disch := omega) only [go_sem, Nat.reduceBEq, Nat.reduceAdd]; refine hk _ _ ?_; clear hk k) | refine wkt rfl ?_)); (try refine wk0 ?_); (first | refine hK _ _ ?_ | (clear hK; refine hK _ _ ?_) | (clear hK; clear hK; refine hK _ _ ?_)); clear hK; (try clear K)
    refine AWP_condT rfl ?_
    (first | refine rg rfl rfl (fun K hK => ?_) | refine rd [.o 0, .o 1, .o 2, .o 3, .o 5, .o 4, .o 6, .o 7] rfl (by decide +kernel) rfl (fun K hK => ?_)); (repeat (first | (refine wo rfl (fun k hk => ?_); simp (disch := omega) only [go_sem, Nat.reduceBEq, Nat.reduceAdd]; refine hk _ _ ?_; clear hk k) | refine wkt rfl ?_)); (try refine wk0 ?_)
    refine cN rfl rfl rfl rfl (by exact NatOf_spec (n := 1) (by decide)) ?_; rintro w1 h2 _ hw1; obtain ⟨w1, w1_l, w1_c, rfl, hw1⟩ := hw1.sl; (repeat (first | (refine wo rfl (fun k hk => ?_); simp (disch := omega) only [go_sem, Nat.reduceBEq, Nat.reduceAdd]; refine hk _ _ ?_; clear hk k) | refine wkt rfl ?_)); (try refine wk0 ?_)
    (try (simp (disch := omega) only [go_sem, Nat.reduceBEq, Nat.reduceAdd])); refine hK _ _ ?_; clear hK; (try clear K); (try dsimp only [behind, qs])
    refine rest _ _ _ _ _ inferInstance (by rw [hd0]; exact hw1) ?_
    simp (disch := omega) only [go_sem, Nat.reduceBEq, Nat.reduceAdd]
  · refine AWP_rs rfl (fun K hK => ?_); (repeat (first | (refine wo rfl (fun k hk => ?_); simp (disch := omega) only [go_sem, Nat.reduceBEq, Nat.reduceAdd]; refine hk _ _ ?_; clear hk k) | refine wkt rfl ?_)); (try refine wk0 ?_); (first | refine hK _ _ ?_ | (clear hK; refine hK _ _ ?_) | (clear hK; clear hK; refine hK _ _ ?_)); clear hK; (try clear K)
    refine AWP_condF rfl ?_
    refine AWP_skip ?_; simp only [qs, qb, if_true, if_false, reduceIte]
    refine rest _ _ _ _ _ inferInstance (by rw [dz_self hd0]; exact hv1) ?_
    simp (disch := omega) only [go_sem, Nat.reduceBEq, Nat.reduceAdd]
theorem QRat_spec {h0 h : PH} [Le h0 h] {v : Value} {x : Rat} (hx : Qr h0 v x) (bx : sz x ≤ 2 ^ 36) : Spec mach 22 #[v] h (fun v h' => Cn h' v x) NP := by
  obtain ⟨na, nl, nc, da, dl, dc, e, rfl, hn, hd, he⟩ := hx.sl
  have b1 := sz_num x; have b2 := sz_den x
  have b3 : bl e ≤ sz x := by
    rcases Nat.eq_zero_or_pos e with h | h
    · subst h; have : bl 0 = 0 := by decide
      omega
    · rw [dz_self (by omega)] at he; rw [he]; exact b2
  have ln := hn.len0
  obtain ⟨neg, en⟩ : ∃ b, decide (x.num < 0) = b := ⟨_, rfl⟩
  rw [en] at hx ⊢
  have hnn : neg = true → 0 < nl := by
    intro e1
    rw [e1, decide_eq_true_eq] at en
    rcases Nat.eq_zero_or_pos nl with h | h
    · have := ln.1 h; omega
    · exact h
  refine Spec.enter (args := [_]) (n := 24) Tryd.func22 rfl (by kernel_rfl) rfl (by simp) [.cell 2 24] rfl (fun C _ => ?_)
  repeat (first | (refine rg rfl rfl (fun K hK => ?_); (repeat (first | (refine wo rfl (fun k hk => ?_); simp (disch := omega) only [go_sem, Nat.reduceBEq, Nat.reduceAdd]; refine hk _ _ ?_; clear hk k) | refine wkt rfl ?_)); (try refine wk0 ?_); refine hK _ _ ?_; clear hK K; (try dsimp only [behind, qs, qb])) | ((first | refine AWP_exit ?_ | refine AWP_skip ?_); simp (disch := decide) only [qs, qb, if_true, if_false, reduceIte]) | refine AWP_sq rfl (fun K hK => ?_) | refine ct rfl ?_ | ((first | refine hK _ _ ?_ | (clear hK; refine hK _ _ ?_) | (clear hK; clear hK; refine hK _ _ ?_)); clear hK; (try clear K)))
  (first | refine AWP_t (.seg [.o 0, .o 1, .o 2, .o 3, .o 4, .o 5, .o 6, .o 7, .o 8, .o 9] (.alt 10 (.seg [.o 11] (.alt 12 (.alt 13 .done .no) .no)) (.alt 12 (.alt 10 (.seg [.o 11] (.alt 13 .done .no)) .no) .no))) (by decide +kernel) rfl (fun K hK => ?_) | refine AWP_tk (.seg [.o 0, .o 1, .o 2, .o 3, .o 4, .o 5, .o 6, .o 7, .o 8, .o 9] (.alt 10 (.seg [.o 11] (.alt 12 (.alt 13 .done .no) .no)) (.alt 12 (.alt 10 (.seg [.o 11] (.alt 13 .done .no)) .no) .no))) (by decide +kernel) rfl (fun K hK => ?_))
  have rest : ∀ (va : Option Addr) (vl vc : Nat) (h' : PH) (S : AS), Le h0 h' → N32 h' (.slice va vl vc) x.num.natAbs → S.le ⟨[(1, .p 0 0), (2, .p 1 0), (3, .p 2 0)], [[.bool neg, .slice na nl nc, .slice da dl dc], [.bool false, .slice none 0 0, .slice none 0 0], [.bool neg, .slice va vl vc, .slice none 0 0]]⟩ → K S h' := by
    intro va vl vc h' S _ hz hS
    refine hK _ _ (AWP_le _ hS ?_); clear hK K
    refine AWP_sqs (fun K hK => ?_)
    refine rg rfl rfl (fun K hK => ?_); (repeat (first | (refine wo rfl (fun k hk => ?_); simp (disch := omega) only [go_sem, Nat.reduceBEq, Nat.reduceAdd]; refine hk _ _ ?_; clear hk k) | refine wkt rfl ?_ | with_reducible refine wk0 ?_ | with_reducible refine wt_seg ?_ | with_reducible refine wt_alt ?_ wt_no | with_reducible refine wt_done ?_))
    refine cN rfl rfl rfl rfl (by exact whole_spec hx) ?_; rintro v3 h3 s3 rfl; (repeat (first | (refine wo rfl (fun k hk => ?_); simp (disch := omega) only [go_sem, Nat.reduceBEq, Nat.reduceAdd]; refine hk _ _ ?_; clear hk k) | refine wkt rfl ?_ | with_reducible refine wk0 ?_ | with_reducible refine wt_seg ?_ | with_reducible refine wt_alt ?_ wt_no | with_reducible refine wt_done ?_))
    by_cases h1 : x.den = 1
    · ((try (simp (disch := omega) only [go_sem, Nat.reduceBEq, Nat.reduceAdd])); refine hK _ _ ?_; clear hK; (try clear K); (try dsimp only [behind, qs])); (repeat (first | (refine rg rfl rfl (fun K hK => ?_); (repeat (first | (refine wo rfl (fun k hk => ?_); simp (disch := omega) only [go_sem, Nat.reduceBEq, Nat.reduceAdd]; refine hk _ _ ?_; clear hk k) | refine wkt rfl ?_)); (try refine wk0 ?_); refine hK _ _ ?_; clear hK K; (try dsimp only [behind, qs, qb])) | ((first | refine AWP_exit ?_ | refine AWP_skip ?_); simp (disch := decide) only [qs, qb, if_true, if_false, reduceIte]) | refine AWP_sq rfl (fun K hK => ?_) | refine ct rfl ?_ | ((first | refine hK _ _ ?_ | (clear hK; refine hK _ _ ?_) | (clear hK; clear hK; refine hK _ _ ?_)); clear hK; (try clear K))))
      refine AWP_ret ?_; simp (disch := omega) only [go_sem, Nat.reduceBEq, Nat.reduceAdd]
      exact ⟨_, _, by rw [en], hz.to, by rw [if_pos h1]; exact N32.zero _⟩
    · have e1 : e = x.den := by
        rw [← he] at h1 ⊢
        unfold dz at h1 ⊢
        split at h1
        · exact (h1 rfl).elim
        · rename_i h2; rw [if_neg h2]
      rw [e1] at hd b3
      ((try (simp (disch := omega) only [go_sem, Nat.reduceBEq, Nat.reduceAdd])); refine hK _ _ ?_; clear hK; (try clear K); (try dsimp only [behind, qs])); (repeat (first | (refine rg rfl rfl (fun K hK => ?_); (repeat (first | (refine wo rfl (fun k hk => ?_); simp (disch := omega) only [go_sem, Nat.reduceBEq, Nat.reduceAdd]; refine hk _ _ ?_; clear hk k) | refine wkt rfl ?_)); (try refine wk0 ?_); refine hK _ _ ?_; clear hK K; (try dsimp only [behind, qs, qb])) | ((first | refine AWP_exit ?_ | refine AWP_skip ?_); simp (disch := decide) only [qs, qb, if_true, if_false, reduceIte]) | refine AWP_sq rfl (fun K hK => ?_) | refine ct rfl ?_ | ((first | refine hK _ _ ?_ | (clear hK; refine hK _ _ ?_) | (clear hK; clear hK; refine hK _ _ ?_)); clear hK; (try clear K)))); (refine rg rfl rfl (fun K hK => ?_); (repeat (first | (refine wo rfl (fun k hk => ?_); simp (disch := omega) only [go_sem, Nat.reduceBEq, Nat.reduceAdd]; refine hk _ _ ?_; clear hk k) | refine wkt rfl ?_ | with_reducible refine wk0 ?_ | with_reducible refine wt_seg ?_ | with_reducible refine wt_alt ?_ wt_no | with_reducible refine wt_done ?_)))
      refine cN rfl rfl rfl rfl (by exact list_spec hd (by omega)) ?_; rintro v4 h4 _ hv4; obtain ⟨v4, v4_l, v4_c, rfl, hv4⟩ := hv4.sl; (repeat (first | (refine wo rfl (fun k hk => ?_); simp (disch := omega) only [go_sem, Nat.reduceBEq, Nat.reduceAdd]; refine hk _ _ ?_; clear hk k) | refine wkt rfl ?_ | with_reducible refine wk0 ?_ | with_reducible refine wt_seg ?_ | with_reducible refine wt_alt ?_ wt_no | with_reducible refine wt_done ?_))
      ((try (simp (disch := omega) only [go_sem, Nat.reduceBEq, Nat.reduceAdd])); refine hK _ _ ?_; clear hK; (try clear K); (try dsimp only [behind, qs])); (repeat (first | (refine rg rfl rfl (fun K hK => ?_); (repeat (first | (refine wo rfl (fun k hk => ?_); simp (disch := omega) only [go_sem, Nat.reduceBEq, Nat.reduceAdd]; refine hk _ _ ?_; clear hk k) | refine wkt rfl ?_)); (try refine wk0 ?_); refine hK _ _ ?_; clear hK K; (try dsimp only [behind, qs, qb])) | ((first | refine AWP_exit ?_ | refine AWP_skip ?_); simp (disch := decide) only [qs, qb, if_true, if_false, reduceIte]) | refine AWP_sq rfl (fun K hK => ?_) | refine ct rfl ?_ | ((first | refine hK _ _ ?_ | (clear hK; refine hK _ _ ?_) | (clear hK; clear hK; refine hK _ _ ?_)); clear hK; (try clear K))))
      refine AWP_ret ?_; simp (disch := omega) only [go_sem, Nat.reduceBEq, Nat.reduceAdd]
      exact ⟨_, _, by rw [en], hz.to, by rw [if_neg h1]; exact hv4⟩
  cases neg with
  | true =>
    have hnn' := hnn rfl
    (repeat (first | (refine wo rfl (fun k hk => ?_); simp (disch := omega) only [go_sem, Nat.reduceBEq, Nat.reduceAdd]; refine hk _ _ ?_; clear hk k) | refine wkt rfl ?_ | with_reducible refine wk0 ?_ | with_reducible refine wt_seg ?_ | with_reducible refine wt_alt ?_ wt_no | with_reducible refine wt_done ?_))
    refine wt_alt ?_ (wt_alt ?_ wt_no)
    · refine cN rfl rfl rfl rfl (by exact list_spec hn (by omega)) ?_; rintro v2 h2 _ hv2; obtain ⟨v2, v2_l, v2_c, rfl, hv2⟩ := hv2.sl; (repeat (first | (refine wo rfl (fun k hk => ?_); simp (disch := omega) only [go_sem, Nat.reduceBEq, Nat.reduceAdd]; refine hk _ _ ?_; clear hk k) | refine wkt rfl ?_ | with_reducible refine wk0 ?_ | with_reducible refine wt_seg ?_ | with_reducible refine wt_alt ?_ wt_no | with_reducible refine wt_done ?_))
      refine rest _ _ _ _ _ inferInstance hv2 ?_
      simp (disch := omega) only [go_sem, Nat.reduceBEq, Nat.reduceAdd]
    · (repeat (first | (refine wo rfl (fun k hk => ?_); simp (disch := omega) only [go_sem, Nat.reduceBEq, Nat.reduceAdd]; refine hk _ _ ?_; clear hk k) | refine wkt rfl ?_ | with_reducible refine wk0 ?_ | with_reducible refine wt_seg ?_ | with_reducible refine wt_alt ?_ wt_no | with_reducible refine wt_done ?_))
      refine cN rfl rfl rfl rfl (by exact list_spec hn (by omega)) ?_; rintro v2 h2 _ hv2; obtain ⟨v2, v2_l, v2_c, rfl, hv2⟩ := hv2.sl; (repeat (first | (refine wo rfl (fun k hk => ?_); simp (disch := omega) only [go_sem, Nat.reduceBEq, Nat.reduceAdd]; refine hk _ _ ?_; clear hk k) | refine wkt rfl ?_ | with_reducible refine wk0 ?_ | with_reducible refine wt_seg ?_ | with_reducible refine wt_alt ?_ wt_no | with_reducible refine wt_done ?_))
      refine rest _ _ _ _ _ inferInstance hv2 ?_
      simp (disch := omega) only [go_sem, Nat.reduceBEq, Nat.reduceAdd]
  | false =>
    (repeat (first | (refine wo rfl (fun k hk => ?_); simp (disch := omega) only [go_sem, Nat.reduceBEq, Nat.reduceAdd]; refine hk _ _ ?_; clear hk k) | refine wkt rfl ?_ | with_reducible refine wk0 ?_ | with_reducible refine wt_seg ?_ | with_reducible refine wt_alt ?_ wt_no | with_reducible refine wt_done ?_))
    refine wt_alt ?_ (wt_alt ?_ wt_no)
    · refine cN rfl rfl rfl rfl (by exact list_spec hn (by omega)) ?_; rintro v2 h2 _ hv2; obtain ⟨v2, v2_l, v2_c, rfl, hv2⟩ := hv2.sl; (repeat (first | (refine wo rfl (fun k hk => ?_); simp (disch := omega) only [go_sem, Nat.reduceBEq, Nat.reduceAdd]; refine hk _ _ ?_; clear hk k) | refine wkt rfl ?_ | with_reducible refine wk0 ?_ | with_reducible refine wt_seg ?_ | with_reducible refine wt_alt ?_ wt_no | with_reducible refine wt_done ?_))
      refine rest _ _ _ _ _ inferInstance hv2 ?_
      simp (disch := omega) only [go_sem, Nat.reduceBEq, Nat.reduceAdd]
    · (repeat (first | (refine wo rfl (fun k hk => ?_); simp (disch := omega) only [go_sem, Nat.reduceBEq, Nat.reduceAdd]; refine hk _ _ ?_; clear hk k) | refine wkt rfl ?_ | with_reducible refine wk0 ?_ | with_reducible refine wt_seg ?_ | with_reducible refine wt_alt ?_ wt_no | with_reducible refine wt_done ?_))
      refine cN rfl rfl rfl rfl (by exact list_spec hn (by omega)) ?_; rintro v2 h2 _ hv2; obtain ⟨v2, v2_l, v2_c, rfl, hv2⟩ := hv2.sl; (repeat (first | (refine wo rfl (fun k hk => ?_); simp (disch := omega) only [go_sem, Nat.reduceBEq, Nat.reduceAdd]; refine hk _ _ ?_; clear hk k) | refine wkt rfl ?_ | with_reducible refine wk0 ?_ | with_reducible refine wt_seg ?_ | with_reducible refine wt_alt ?_ wt_no | with_reducible refine wt_done ?_))
      refine rest _ _ _ _ _ inferInstance hv2 ?_
      simp (disch := omega) only [go_sem, Nat.reduceBEq, Nat.reduceAdd]
end Go.Q
namespace Go.Q
open Go.Proofs
set_option maxRecDepth 100000
set_option maxHeartbeats 4000000
theorem W16_len_bl {n k : Nat} : (W 65536 n).length ≤ k ↔ bl n ≤ 16 * k := by
  rw [bl_le, B16_pow]
  refine ⟨fun h => ?_, fun h => W_length_le (by decide) h⟩
  exact Nat.lt_of_lt_of_le (lt_W_length (by decide) n) (Nat.pow_le_pow_right (by decide) h)
theorem N16.len {h : PH} {a : Option Addr} {l c n k : Nat} (r : N16 h (.slice a l c) n) : l ≤ k ↔ bl n ≤ 16 * k := by
  obtain ⟨a', c', h1, _⟩ := r
  cases h1
  exact W16_len_bl
theorem Sgn_spec {h0 h : PH} [Le h0 h] {v : Value} {x : Rat} (hx : Qr h0 v x) : Spec mach 34 #[v] h (fun v _ => v = .int .i64 (sgn3 x)) NP := by
  obtain ⟨na, nl, nc, da, dl, dc, e, rfl, hn, hd, he⟩ := hx.sl
  have ln := hn.len0
  refine Spec.go [] Tryd.func34 rfl rfl (by kernel_rfl) fun C _ => ?_
  try simp (maxSteps := 999999) (disch := omega) only [go_sem, Nat.reduceBEq, Nat.reduceAdd]
  by_cases h0 : x.num = 0
  · have e1 : x = 0 := Rat.num_eq_zero.1 h0
    try simp (maxSteps := 999999) (disch := omega) only [go_sem, Nat.reduceBEq, Nat.reduceAdd]
    subst e1; simp [sgn3]
  · by_cases h1 : x.num < 0
    · have e1 : decide (x.num < 0) = true := decide_eq_true h1
      try simp (maxSteps := 999999) (disch := omega) only [go_sem, Nat.reduceBEq, Nat.reduceAdd, e1]
      rw [sgn3, if_pos (num_neg.1 h1)]
    · have e1 : decide (x.num < 0) = false := decide_eq_false h1
      have e2 : 0 < x.num := by omega
      try simp (maxSteps := 999999) (disch := omega) only [go_sem, Nat.reduceBEq, Nat.reduceAdd, e1]
      rw [sgn3, if_neg (fun h => h1 (num_neg.2 h)), if_pos (num_pos.1 e2)]
theorem Opp_spec {h0 h : PH} [Le h0 h] {v : Value} {x : Rat} (hx : Qr h0 v x) : Spec mach 45 #[v] h (fun v h' => Qr h' v (-x)) NP := by
  obtain ⟨na, nl, nc, da, dl, dc, e, rfl, hn, hd, he⟩ := hx.sl
  have ln := hn.len0
  have hn2 : N16 h0 (.slice na nl nc) (-x).num.natAbs := by simpa using hn
  refine Spec.go [] Tryd.func45 rfl rfl (by kernel_rfl) fun C _ => ?_
  try simp (maxSteps := 999999) (disch := omega) only [go_sem, Nat.reduceBEq, Nat.reduceAdd]
  by_cases h1 : x.num < 0
  · have e1 : decide (x.num < 0) = true := decide_eq_true h1
    have e2 : decide ((-x).num < 0) = false := by rw [Rat.neg_num, decide_eq_false_iff_not]; omega
    try simp (maxSteps := 999999) (disch := omega) only [go_sem, Nat.reduceBEq, Nat.reduceAdd, e1]
    exact ⟨_, _, e, by rw [e2], hn2.to, hd.to, he⟩
  · have e1 : decide (x.num < 0) = false := decide_eq_false h1
    by_cases h0 : x.num = 0
    · have e2 : decide ((-x).num < 0) = false := by rw [Rat.neg_num, decide_eq_false_iff_not]; omega
      try simp (maxSteps := 999999) (disch := omega) only [go_sem, Nat.reduceBEq, Nat.reduceAdd, e1]
      exact ⟨_, _, e, by rw [e2], hn2.to, hd.to, he⟩
    · have e2 : decide ((-x).num < 0) = true := by rw [Rat.neg_num, decide_eq_true_eq]; omega
      have e3 : 0 < nl := by omega
      try simp (maxSteps := 999999) (disch := omega) only [go_sem, Nat.reduceBEq, Nat.reduceAdd, e1]
      exact ⟨_, _, e, by rw [e2], hn2.to, hd.to, he⟩
theorem Sum_spec {h0 h : PH} [Le h0 h] {v w : Value} {x y : Rat} (hx : Qr h0 v x) (hy : Qr h0 w y) (bx : sz x ≤ 2 ^ 35) (by_ : sz y ≤ 2 ^ 35) :
    Spec mach 23 #[v, w] h (fun v h' => Qr h' v (x + y)) NP := by
  have hx0 := hx
  have hy0 := hy
  obtain ⟨na, nl, nc, da, dl, dc, e, rfl, hn, hd, he⟩ := hx.sl
  obtain ⟨na', nl', nc', da', dl', dc', e', rfl, hn', hd', he'⟩ := hy.sl
  have b1 := sz_num x; have b2 := sz_den x; have b3 := sz_num y; have b4 := sz_den y
  have b5 := bl_mul x.num.natAbs y.den
  have b6 := bl_mul y.num.natAbs x.den
  have b7 := bl_mul x.den y.den
  have b8 := bl_add (x.num.natAbs * y.den) (y.num.natAbs * x.den)
  have b9 := bl_mono (Nat.sub_le (x.num.natAbs * y.den) (y.num.natAbs * x.den))
  have b10 := bl_mono (Nat.sub_le (y.num.natAbs * x.den) (x.num.natAbs * y.den))
  obtain ⟨n1, en1⟩ : ∃ b, decide (x.num < 0) = b := ⟨_, rfl⟩
  obtain ⟨n2, en2⟩ : ∃ b, decide (y.num < 0) = b := ⟨_, rfl⟩
  rw [en1] at hx0 ⊢
  rw [en2] at hy0 ⊢
  refine Spec.go [(1, .o [0, 1, 2, 5, 6, 7, 3, 4, 8, 9, 10, 11]), (2, .o [0, 2, 1, 3, 4, 5]), (4, .o [0, 1, 2, 3, 5, 4, 6, 7]), (6, .o [0, 1, 2, 3, 5, 4, 6, 7]), (7, .o [0, 1, 2, 3, 5, 4, 6, 7])] Tryd.func23 rfl rfl (by kernel_rfl) fun C _ => ?_
  try simp (maxSteps := 999999) (disch := omega) only [go_sem, Nat.reduceBEq, Nat.reduceAdd]
  refine caN (by exact den_spec hy0) ?_; rintro _ g1 _ hd1; obtain ⟨_, _, _, rfl, hd1⟩ := hd1.sl
  try simp (maxSteps := 999999) (disch := omega) only [go_sem, Nat.reduceBEq, Nat.reduceAdd]
  refine caN (by exact NatMul_spec (hn.to (h' := g1)) hd1 (by omega) (by omega)) ?_; rintro _ h1 _ hv1; obtain ⟨v1, _, _, rfl, hv1⟩ := hv1.sl
  try simp (maxSteps := 999999) (disch := omega) only [go_sem, Nat.reduceBEq, Nat.reduceAdd]
  refine caN (by exact den_spec hx0) ?_; rintro _ g2 _ hd2; obtain ⟨_, _, _, rfl, hd2⟩ := hd2.sl
  try simp (maxSteps := 999999) (disch := omega) only [go_sem, Nat.reduceBEq, Nat.reduceAdd]
  refine caN (by exact NatMul_spec (hn'.to (h' := g2)) hd2 (by omega) (by omega)) ?_; rintro _ h2 _ hv2; obtain ⟨v2, _, _, rfl, hv2⟩ := hv2.sl
  try simp (maxSteps := 999999) (disch := omega) only [go_sem, Nat.reduceBEq, Nat.reduceAdd]
  refine caN (by exact den_spec hx0) ?_; rintro _ g3 _ hd3; obtain ⟨_, _, _, rfl, hd3⟩ := hd3.sl
  try simp (maxSteps := 999999) (disch := omega) only [go_sem, Nat.reduceBEq, Nat.reduceAdd]
  refine caN (by exact den_spec hy0) ?_; rintro _ g4 _ hd4; obtain ⟨_, _, _, rfl, hd4⟩ := hd4.sl
  try simp (maxSteps := 999999) (disch := omega) only [go_sem, Nat.reduceBEq, Nat.reduceAdd]
  refine caN (by exact NatMul_spec (hd3.to (h' := g4)) hd4 (by omega) (by omega)) ?_; rintro _ h3 _ hv3; obtain ⟨v3, _, _, rfl, hv3⟩ := hv3.sl
  try simp (maxSteps := 999999) (disch := omega) only [go_sem, Nat.reduceBEq, Nat.reduceAdd]
  by_cases hee : n1 = n2
  · subst hee
    try simp (maxSteps := 999999) (disch := omega) only [go_sem, Nat.reduceBEq, Nat.reduceAdd]
    refine caN (by exact NatAdd_spec (hv1.to (h' := h2)) hv2 (by omega) (by omega)) ?_; rintro _ h4 _ hv4; obtain ⟨v4, _, _, rfl, hv4⟩ := hv4.sl
    try simp (maxSteps := 999999) (disch := omega) only [go_sem, Nat.reduceBEq, Nat.reduceAdd]
    refine caN (by exact Make_spec (hv4.to (h' := h4)) hv3.to (by omega) (by omega)) ?_; rintro _ h5 _ hv5; obtain ⟨_, _, _, _, _, _, _, rfl, hv5⟩ := hv5.sa
    try simp (maxSteps := 999999) (disch := omega) only [go_sem, Nat.reduceBEq, Nat.reduceAdd]
    rw [sgn_same en1 en2] at hv5
    exact hv5
  · have hb : (n1 == n2) = false := by cases n1 <;> cases n2 <;> simp_all
    have hb' : n2 = !n1 := by cases n1 <;> cases n2 <;> simp_all
    try simp (maxSteps := 999999) (disch := omega) only [go_sem, Nat.reduceBEq, Nat.reduceAdd, hb]
    refine caN (by exact NatCmp_spec (hv1.to (h' := h2)) hv2) ?_; rintro v4 h4 s4 rfl
    try simp (maxSteps := 999999) (disch := omega) only [go_sem, Nat.reduceBEq, Nat.reduceAdd]
    by_cases hle : y.num.natAbs * x.den ≤ x.num.natAbs * y.den
    · have hc : 0 ≤ cmp3 (x.num.natAbs * y.den) (y.num.natAbs * x.den) := by simp only [cmp3, if_neg (Nat.not_lt.2 hle)]; split <;> decide
      try simp (maxSteps := 999999) (disch := omega) only [go_sem, Nat.reduceBEq, Nat.reduceAdd]
      refine caN (by exact NatSub_spec (hv1.to (h' := h2)) hv2 hle (by omega)) ?_; rintro _ h5 _ hv5; obtain ⟨v5, _, _, rfl, hv5⟩ := hv5.sl
      try simp (maxSteps := 999999) (disch := omega) only [go_sem, Nat.reduceBEq, Nat.reduceAdd]
      refine caN (by exact Make_spec (hv5.to (h' := h5)) hv3.to (by omega) (by omega)) ?_; rintro _ h6 _ hv6; obtain ⟨_, _, _, _, _, _, _, rfl, hv6⟩ := hv6.sa
      try simp (maxSteps := 999999) (disch := omega) only [go_sem, Nat.reduceBEq, Nat.reduceAdd]
      rw [sgn_diff en1 (by rw [en2, hb']) hle] at hv6
      exact hv6
    · have hc : ¬ 0 ≤ cmp3 (x.num.natAbs * y.den) (y.num.natAbs * x.den) := by simp only [cmp3, if_pos (Nat.not_le.1 hle)]; decide
      try simp (maxSteps := 999999) (disch := omega) only [go_sem, Nat.reduceBEq, Nat.reduceAdd]
      refine caN (by exact NatSub_spec (hv2.to (h' := h2)) (hv1.to (h' := h2)) (Nat.le_of_lt (Nat.not_le.1 hle)) (by omega)) ?_; rintro _ h5 _ hv5; obtain ⟨v5, _, _, rfl, hv5⟩ := hv5.sl
      try simp (maxSteps := 999999) (disch := omega) only [go_sem, Nat.reduceBEq, Nat.reduceAdd]
      refine caN (by exact Make_spec (hv5.to (h' := h5)) hv3.to (by omega) (by omega)) ?_; rintro _ h6 _ hv6; obtain ⟨_, _, _, _, _, _, _, rfl, hv6⟩ := hv6.sa
      try simp (maxSteps := 999999) (disch := omega) only [go_sem, Nat.reduceBEq, Nat.reduceAdd]
      rw [Nat.mul_comm x.den, sgn_diff en2 (by rw [en1, hb', Bool.not_not]) (Nat.le_of_lt (Nat.not_le.1 hle)), Rat.add_comm] at hv6
      exact hv6
theorem Diff_spec {h0 h : PH} [Le h0 h] {v w : Value} {x y : Rat} (hx : Qr h0 v x) (hy : Qr h0 w y) (bx : sz x ≤ 2 ^ 35) (by_ : sz y ≤ 2 ^ 35) :
    Spec mach 20 #[v, w] h (fun v h' => Qr h' v (x - y)) NP := by
  obtain ⟨_, _, _, _, _, _, _, rfl, hx⟩ := hx.sa
  obtain ⟨_, _, _, _, _, _, _, rfl, hy⟩ := hy.sa
  refine Spec.go [] Tryd.func20 rfl rfl (by kernel_rfl) fun C _ => ?_
  try simp (maxSteps := 999999) (disch := omega) only [go_sem, Nat.reduceBEq, Nat.reduceAdd]
  refine caN (by exact Opp_spec hy) ?_; rintro _ h1 _ hv1; obtain ⟨_, _, _, _, _, _, _, rfl, hv1⟩ := hv1.sa
  try simp (maxSteps := 999999) (disch := omega) only [go_sem, Nat.reduceBEq, Nat.reduceAdd]
  refine caN (by exact Sum_spec (hx.to (h' := h1)) hv1 bx (by rw [sz_neg]; exact by_)) ?_; rintro _ h2 _ hv2; obtain ⟨_, _, _, _, _, _, _, rfl, hv2⟩ := hv2.sa
  try simp (maxSteps := 999999) (disch := omega) only [go_sem, Nat.reduceBEq, Nat.reduceAdd]
  rw [Rat.sub_eq_add_neg]; exact hv2
theorem sgn3_sub (x y : Rat) : sgn3 (x - y) = cmpQ x y := by
  unfold sgn3 cmpQ; grind
theorem QCmp_spec {h0 h : PH} [Le h0 h] {v w : Value} {x y : Rat} (hx : Qr h0 v x) (hy : Qr h0 w y) (bx : sz x ≤ 2 ^ 34) (by_ : sz y ≤ 2 ^ 34) :
    Spec mach 19 #[v, w] h (fun v _ => v = .int .i64 (cmpQ x y)) NP := by
  obtain ⟨_, _, _, _, _, _, _, rfl, hx⟩ := hx.sa
  obtain ⟨_, _, _, _, _, _, _, rfl, hy⟩ := hy.sa
  refine Spec.go [] Tryd.func19 rfl rfl (by kernel_rfl) fun C _ => ?_
  try simp (maxSteps := 999999) (disch := omega) only [go_sem, Nat.reduceBEq, Nat.reduceAdd]
  refine caN (by exact Diff_spec hx hy (by omega) (by omega)) ?_; rintro _ h1 _ hv1; obtain ⟨_, _, _, _, _, _, _, rfl, hv1⟩ := hv1.sa
  try simp (maxSteps := 999999) (disch := omega) only [go_sem, Nat.reduceBEq, Nat.reduceAdd]
  refine caN (by exact Sgn_spec hv1) ?_; rintro v2 h2 s2 rfl
  try simp (maxSteps := 999999) (disch := omega) only [go_sem, Nat.reduceBEq, Nat.reduceAdd]
  rw [sgn3_sub]
end Go.Q
namespace Go.Q
open Go.Proofs
set_option maxRecDepth 100000
set_option maxHeartbeats 4000000
end Go.Q
namespace Go.Q
open Go.Proofs
set_option maxRecDepth 100000
set_option maxHeartbeats 4000000
theorem sgn_quo (x y : Rat) : sgn (!(decide (x.num < 0) == decide (y.num < 0))) (x.num.natAbs * y.den) (x.den * y.num.natAbs) = x / y := by
  by_cases hy : y = 0
  · subst hy
    simp [sgn, Rat.div_def]
  · have hn0 : y.num ≠ 0 := fun e => hy (Rat.num_eq_zero.1 e)
    have hp := y.den_nz
    have e1 : decide ((y⁻¹).num < 0) = decide (y.num < 0) := by
      rw [Rat.num_inv]
      rcases Int.lt_trichotomy y.num 0 with h | h | h
      · rw [Int.sign_eq_neg_one_of_neg h, decide_eq_decide]; omega
      · exact (hn0 h).elim
      · rw [Int.sign_eq_one_of_pos h, decide_eq_decide]; omega
    have e2 : (y⁻¹).num.natAbs = y.den := by rw [Rat.num_inv, Int.natAbs_mul, Int.natAbs_sign_of_ne_zero hn0, Nat.one_mul, Int.natAbs_natCast]
    have e3 : (y⁻¹).den = y.num.natAbs := by rw [Rat.den_inv, if_neg hn0]
    have := sgn_mul x y⁻¹
    rw [e1, e2, e3] at this
    rw [this, Rat.div_def]
theorem QDiv_spec {h0 h : PH} [Le h0 h] {v w : Value} {x y : Rat} (hx : Qr h0 v x) (hy : Qr h0 w y) (bx : sz x ≤ 2 ^ 35) (by_ : sz y ≤ 2 ^ 35) :
    Spec mach 63 #[v, w] h (fun v h' => Qr h' v (x / y)) NP := by
  have hx0 := hx
  have hy0 := hy
  obtain ⟨na, nl, nc, da, dl, dc, e, rfl, hn, hd, he⟩ := hx.sl
  obtain ⟨na', nl', nc', da', dl', dc', e', rfl, hn', hd', he'⟩ := hy.sl
  have b1 := sz_num x; have b2 := sz_den x; have b3 := sz_num y; have b4 := sz_den y
  have b5 := bl_mul x.num.natAbs y.den
  have b6 := bl_mul x.den y.num.natAbs
  refine Spec.enter (args := [_, _]) (n := 21) Tryd.func63 rfl (by kernel_rfl) rfl (by simp) [.cell 4 27] rfl (fun C _ => ?_)
  repeat (first | (refine wo rfl (fun k hk => ?_); simp (disch := omega) only [go_sem, Nat.reduceBEq, Nat.reduceAdd]; refine hk _ _ ?_; clear hk k) | refine wkt rfl ?_ | refine wk0 ?_ | refine rg rfl rfl (fun K hK => ?_) | refine rd [.o 0, .o 1, .o 2, .o 3, .o 4, .o 5, .o 6, .o 7, .o 10, .o 12, .o 13, .o 8, .o 9, .o 11, .o 14, .o 15, .o 16] rfl (by decide +kernel) rfl (fun K hK => ?_) | ((first | refine AWP_exit ?_ | refine AWP_skip ?_); simp (disch := decide) only [qs, qb, if_true, if_false, reduceIte]) | refine AWP_sq rfl (fun K hK => ?_) | refine ct rfl ?_ | ((try simp (disch := omega) only [go_sem, Nat.reduceBEq, Nat.reduceAdd]); (first | apply hK | (clear hK; apply hK) | (clear hK; clear hK; apply hK)); clear hK; (try clear K); (try dsimp only [behind, qs, qb])))
  refine cN rfl rfl rfl rfl (by exact den_spec hy0) ?_; rintro d1 g1 _ hd1; obtain ⟨d1, d1_l, d1_c, rfl, hd1⟩ := hd1.sl; (repeat (first | (refine wo rfl (fun k hk => ?_); simp (disch := omega) only [go_sem, Nat.reduceBEq, Nat.reduceAdd]; refine hk _ _ ?_; clear hk k) | refine wkt rfl ?_)); (try refine wk0 ?_)
  refine cN rfl rfl rfl rfl (by exact NatMul_spec (hn.to (h' := g1)) hd1 (by omega) (by omega)) ?_; rintro v1 h1 _ hv1; obtain ⟨v1, v1_l, v1_c, rfl, hv1⟩ := hv1.sl; (repeat (first | (refine wo rfl (fun k hk => ?_); simp (disch := omega) only [go_sem, Nat.reduceBEq, Nat.reduceAdd]; refine hk _ _ ?_; clear hk k) | refine wkt rfl ?_)); (try refine wk0 ?_)
  refine cN rfl rfl rfl rfl (by exact den_spec hx0) ?_; rintro d2 g2 _ hd2; obtain ⟨d2, d2_l, d2_c, rfl, hd2⟩ := hd2.sl; (repeat (first | (refine wo rfl (fun k hk => ?_); simp (disch := omega) only [go_sem, Nat.reduceBEq, Nat.reduceAdd]; refine hk _ _ ?_; clear hk k) | refine wkt rfl ?_)); (try refine wk0 ?_)
  refine cN rfl rfl rfl rfl (by exact NatMul_spec hd2 (hn'.to (h' := g2)) (by omega) (by omega)) ?_; rintro v2 h2 _ hv2; obtain ⟨v2, v2_l, v2_c, rfl, hv2⟩ := hv2.sl; (repeat (first | (refine wo rfl (fun k hk => ?_); simp (disch := omega) only [go_sem, Nat.reduceBEq, Nat.reduceAdd]; refine hk _ _ ?_; clear hk k) | refine wkt rfl ?_)); (try refine wk0 ?_)
  refine cN rfl rfl rfl rfl (by exact Make_spec (hv1.to (h' := h2)) hv2 (by omega) (by omega)) ?_; rintro v3 h3 _ hv3; obtain ⟨v3_0, v3_1, v3_2, v3_3, v3_4, v3_5, v3_6, rfl, hv3⟩ := hv3.sa; (repeat (first | (refine wo rfl (fun k hk => ?_); simp (disch := omega) only [go_sem, Nat.reduceBEq, Nat.reduceAdd]; refine hk _ _ ?_; clear hk k) | refine wkt rfl ?_)); (try refine wk0 ?_)
  (try (simp (disch := omega) only [go_sem, Nat.reduceBEq, Nat.reduceAdd])); refine hK _ _ ?_; clear hK; (try clear K); (try dsimp only [behind, qs])
  refine AWP_ret ?_; simp (disch := omega) only [go_sem, Nat.reduceBEq, Nat.reduceAdd]
  rw [sgn_quo] at hv3
  exact hv3
theorem Canonical_cn {h0 h : PH} [Le h0 h] {v : Value} {x : Rat} (hx : Cn h0 v x) (bx : sz x ≤ 2 ^ 30) : Spec mach 33 #[v] h (fun v _ => v = .bool true) NP := by
  have hrw := hx.rw bx
  have hq := qof_cn x
  obtain ⟨sn, sd, rfl, h2, h3⟩ := hx
  obtain ⟨a, c, xs, rfl, ha, hxs, hxm⟩ := h2.out
  obtain ⟨a', c', ys, rfl, ha', hys, hym⟩ := h3.out
  have sx := ha.small
  have sy := ha'.small
  obtain ⟨neg, en⟩ : ∃ b, decide (x.num < 0) = b := ⟨_, rfl⟩
  rw [en] at hrw hq ⊢
  refine Spec.enter (args := [_]) (n := 68) Tryd.func33 rfl (by kernel_rfl) rfl (by simp) [.tmp 2] rfl (fun C _ => ?_)
  repeat (first | (refine wo rfl (fun k hk => ?_); simp (disch := omega) only [go_sem, Nat.reduceBEq, Nat.reduceAdd]; refine hk _ _ ?_; clear hk k) | refine wkt rfl ?_ | refine wk0 ?_ | refine rg rfl rfl (fun K hK => ?_) | refine rd [.o 0, .o 1, .o 2, .o 3, .o 4, .o 5, .o 6, .o 7, .o 8, .o 9, .o 10] rfl (by decide +kernel) rfl (fun K hK => ?_) | ((first | refine AWP_exit ?_ | refine AWP_skip ?_); simp (disch := decide) only [qs, qb, if_true, if_false, reduceIte]) | refine AWP_sq rfl (fun K hK => ?_) | refine ct rfl ?_ | ((try simp (disch := omega) only [go_sem, Nat.reduceBEq, Nat.reduceAdd]); (first | apply hK | (clear hK; apply hK) | (clear hK; clear hK; apply hK)); clear hK; (try clear K); (try dsimp only [behind, qs, qb])))
  refine cN rfl rfl rfl rfl (by exact QOf_spec hrw) ?_; rintro v1 h1 _ hv1; obtain ⟨v1_0, v1_1, v1_2, v1_3, v1_4, v1_5, v1_6, rfl, hv1⟩ := hv1.sa; (repeat (first | (refine wo rfl (fun k hk => ?_); simp (disch := omega) only [go_sem, Nat.reduceBEq, Nat.reduceAdd]; refine hk _ _ ?_; clear hk k) | refine wkt rfl ?_)); (try refine wk0 ?_)
  rw [hq] at hv1
  refine cN rfl rfl rfl rfl (by exact QRat_spec hv1 (by omega)) ?_; rintro v2 h2' s2 hv2; (repeat (first | (refine wo rfl (fun k hk => ?_); simp (disch := omega) only [go_sem, Nat.reduceBEq, Nat.reduceAdd]; refine hk _ _ ?_; clear hk k) | refine wkt rfl ?_)); (try refine wk0 ?_)
  obtain ⟨tn, td, rfl, t2, t3⟩ := hv2
  rw [en]
  obtain ⟨ta, tc, ts, rfl, hta, hts, _⟩ := t2.out
  obtain rfl : xs = ts := hxs.symm.trans hts
  obtain ⟨ta', tc', ts', rfl, hta', hts', _⟩ := t3.out
  obtain rfl : ys = ts' := hys.symm.trans hts'
  (repeat (first | (refine wo rfl (fun k hk => ?_); simp (disch := omega) only [go_sem, Nat.reduceBEq, Nat.reduceAdd]; refine hk _ _ ?_; clear hk k) | refine wkt rfl ?_)); (try refine wk0 ?_)
  have e0 : (neg == neg) = true := by simp
  repeat (first | (refine wo rfl (fun k hk => ?_); simp (disch := omega) only [go_sem, Nat.reduceBEq, Nat.reduceAdd, e0]; refine hk _ _ ?_; clear hk k) | refine wkt rfl ?_ | refine wk0 ?_ | refine rg rfl rfl (fun K hK => ?_) | refine rd [.o 0, .o 1, .o 2, .o 3, .o 4, .o 5, .o 6, .o 7, .o 8, .o 9, .o 10] rfl (by decide +kernel) rfl (fun K hK => ?_) | ((first | refine AWP_exit ?_ | refine AWP_skip ?_); simp (disch := decide) only [qs, qb, if_true, if_false, reduceIte]) | refine AWP_sq rfl (fun K hK => ?_) | refine ct rfl ?_ | ((try simp (disch := omega) only [go_sem, Nat.reduceBEq, Nat.reduceAdd]); (first | apply hK | (clear hK; apply hK) | (clear hK; clear hK; apply hK)); clear hK; (try clear K); (try dsimp only [behind, qs, qb])))
  refine AWP_loop (fun i : Nat => ⟨[(1, .p 0 0), (3, .p 1 0), (34, .v (.int .i64 xs.length)), (35, .v (.int .i64 i))], [[.bool neg, .slice a xs.length c, .slice a' ys.length c'], [.bool neg, .slice ta xs.length tc, .slice ta' ys.length tc']]⟩)
    (fun i h' => Le h2' h' ∧ Le h0 h' ∧ i ≤ xs.length) (fun i => xs.length - i) 0 ?_ ⟨inferInstance, inferInstance, by omega⟩ ?_
  · simp (disch := omega) only [go_sem, Nat.reduceBEq, Nat.reduceAdd]
  rintro i g1 ⟨hle, hle0, hi⟩
  by_cases hil : i < xs.length
  · obtain ⟨ad, rfl, hat⟩ := ha.rd g1 (i := i) (by omega)
    obtain ⟨ad', rfl, hat'⟩ := hta.rd g1 (i := i) (by omega)
    repeat (first | (refine wo rfl (fun k hk => ?_); simp (disch := omega) only [go_sem, Nat.reduceBEq, Nat.reduceAdd, hat, hat']; refine hk _ _ ?_; clear hk k) | refine wkt rfl ?_ | refine wk0 ?_ | refine rg rfl rfl (fun K hK => ?_) | refine rd [.o 0, .o 1, .o 2, .o 3, .o 4, .o 5, .o 6, .o 7, .o 8, .o 9, .o 10] rfl (by decide +kernel) rfl (fun K hK => ?_) | ((first | refine AWP_exit ?_ | refine AWP_skip ?_); simp (disch := decide) only [qs, qb, if_true, if_false, reduceIte]) | refine AWP_sq rfl (fun K hK => ?_) | refine ct rfl ?_ | ((try simp (disch := omega) only [go_sem, Nat.reduceBEq, Nat.reduceAdd]); (first | apply hK | (clear hK; apply hK) | (clear hK; clear hK; apply hK)); clear hK; (try clear K); (try dsimp only [behind, qs, qb])))
    refine ⟨i + 1, ?_, ⟨hle, hle0, by omega⟩, by omega⟩
    simp (disch := omega) only [go_sem, Nat.reduceBEq, Nat.reduceAdd]
  · repeat (first | (refine wo rfl (fun k hk => ?_); simp (disch := omega) only [go_sem, Nat.reduceBEq, Nat.reduceAdd]; refine hk _ _ ?_; clear hk k) | refine wkt rfl ?_ | refine wk0 ?_ | refine rg rfl rfl (fun K hK => ?_) | refine rd [.o 0, .o 1, .o 2, .o 3, .o 4, .o 5, .o 6, .o 7, .o 8, .o 9, .o 10] rfl (by decide +kernel) rfl (fun K hK => ?_) | ((first | refine AWP_exit ?_ | refine AWP_skip ?_); simp (disch := decide) only [qs, qb, if_true, if_false, reduceIte]) | refine AWP_sq rfl (fun K hK => ?_) | refine ct rfl ?_ | ((try simp (disch := omega) only [go_sem, Nat.reduceBEq, Nat.reduceAdd]); (first | apply hK | (clear hK; apply hK) | (clear hK; clear hK; apply hK)); clear hK; (try clear K); (try dsimp only [behind, qs, qb])))
    refine AWP_loop (fun i : Nat => ⟨[(1, .p 0 0), (3, .p 1 0), (52, .v (.int .i64 ys.length)), (53, .v (.int .i64 i))], [[.bool neg, .slice a xs.length c, .slice a' ys.length c'], [.bool neg, .slice ta xs.length tc, .slice ta' ys.length tc']]⟩)
      (fun i h' => Le h2' h' ∧ Le h0 h' ∧ i ≤ ys.length) (fun i => ys.length - i) 0 ?_ ⟨hle, hle0, by omega⟩ ?_
    · simp (disch := omega) only [go_sem, Nat.reduceBEq, Nat.reduceAdd]
    rintro i g2 ⟨hle, hle0, hi⟩
    by_cases hil : i < ys.length
    · obtain ⟨ad, rfl, hat⟩ := ha'.rd g2 (i := i) (by omega)
      obtain ⟨ad', rfl, hat'⟩ := hta'.rd g2 (i := i) (by omega)
      repeat (first | (refine wo rfl (fun k hk => ?_); simp (disch := omega) only [go_sem, Nat.reduceBEq, Nat.reduceAdd, hat, hat']; refine hk _ _ ?_; clear hk k) | refine wkt rfl ?_ | refine wk0 ?_ | refine rg rfl rfl (fun K hK => ?_) | refine rd [.o 0, .o 1, .o 2, .o 3, .o 4, .o 5, .o 6, .o 7, .o 8, .o 9, .o 10] rfl (by decide +kernel) rfl (fun K hK => ?_) | ((first | refine AWP_exit ?_ | refine AWP_skip ?_); simp (disch := decide) only [qs, qb, if_true, if_false, reduceIte]) | refine AWP_sq rfl (fun K hK => ?_) | refine ct rfl ?_ | ((try simp (disch := omega) only [go_sem, Nat.reduceBEq, Nat.reduceAdd]); (first | apply hK | (clear hK; apply hK) | (clear hK; clear hK; apply hK)); clear hK; (try clear K); (try dsimp only [behind, qs, qb])))
      refine ⟨i + 1, ?_, ⟨hle, hle0, by omega⟩, by omega⟩
      simp (disch := omega) only [go_sem, Nat.reduceBEq, Nat.reduceAdd]
    · repeat (first | (refine wo rfl (fun k hk => ?_); simp (disch := omega) only [go_sem, Nat.reduceBEq, Nat.reduceAdd]; refine hk _ _ ?_; clear hk k) | refine wkt rfl ?_ | refine wk0 ?_ | refine rg rfl rfl (fun K hK => ?_) | refine rd [.o 0, .o 1, .o 2, .o 3, .o 4, .o 5, .o 6, .o 7, .o 8, .o 9, .o 10] rfl (by decide +kernel) rfl (fun K hK => ?_) | ((first | refine AWP_exit ?_ | refine AWP_skip ?_); simp (disch := decide) only [qs, qb, if_true, if_false, reduceIte]) | refine AWP_sq rfl (fun K hK => ?_) | refine ct rfl ?_ | ((try simp (disch := omega) only [go_sem, Nat.reduceBEq, Nat.reduceAdd]); (first | apply hK | (clear hK; apply hK) | (clear hK; clear hK; apply hK)); clear hK; (try clear K); (try dsimp only [behind, qs, qb])))
      refine AWP_ret ?_; simp (disch := omega) only [go_sem, Nat.reduceBEq, Nat.reduceAdd]
end Go.Q
namespace Go.Q
open Go.Proofs Go.Proofs.YtmibfkpalmmheaaDoor
set_option maxRecDepth 100000
open Go.ChangeShapes Go.WideShapes Go.ChangeAt Go.RowKit
def pub (W : World) : PH := fun b => match W.heap[b]? with
  | some (.cells cs _ _) => some cs
  | _ => none
theorem pub_has (W : World) : Has W (pub W) := fun b cs hb => by
  unfold pub at hb
  split at hb
  · rename_i hx; cases hb; exact ⟨_, _, hx⟩
  · cases hb
theorem pub_at (W : World) (a : Addr) : (pub W).at a = W.cell? a := by
  unfold PH.at pub World.cell?
  cases hx : W.heap[a.block]? with
  | none => simp
  | some o => cases o <;> simp
def flds (P : Program) (t : TypeId) : Option (List (Nat × Nat)) := match P.underlying t with
  | some (.struct fs) => some (fs.toList.map fun f => (f.type, f.offset))
  | _ => none
theorem flds_some {P : Program} {t : TypeId} {l : List (Nat × Nat)} (h : flds P t = some l) : ∃ fs, P.underlying t = some (.struct fs) ∧ fs.toList.map (fun f => (f.type, f.offset)) = l := by
  unfold flds at h
  split at h
  · rename_i fs hx; cases h; exact ⟨fs, hx, rfl⟩
  · cases h
theorem fl24 : flds Tryd.prog 24 = some [(4, 0), (22, 1), (22, 2)] := by kernel_rfl
theorem un22 : Tryd.prog.underlying 22 = some (.slice 64) := by kernel_rfl
theorem un76 : Tryd.prog.underlying 64 = some (.int .u32) := by kernel_rfl
theorem un4 : Tryd.prog.underlying 4 = some .bool := by kernel_rfl
theorem un3 : Tryd.prog.underlying 3 = some (.int .i64) := by kernel_rfl
theorem ce4 : Tryd.prog.cellsOf 4 = 1 := by kernel_rfl
theorem ce22 : Tryd.prog.cellsOf 22 = 1 := by kernel_rfl
theorem ce76 : Tryd.prog.cellsOf 64 = 1 := by kernel_rfl
theorem ce24 : Tryd.prog.cellsOf 24 = 3 := by kernel_rfl
section
variable {H : Type} {enc : TypeId × Value → H} {W : World} {sp : Nat → Bool} {held : Bool}
theorem bulk_len (l : List (DataW H)) : l.length ≤ Rows.uptoBulkAll l := by
  induction l with
  | nil => simp [Rows.uptoBulkAll]
  | cons x r ih =>
    have : 1 ≤ Rows.uptoBulk x := by
      cases x with
      | lit l => cases l <;> simp [Rows.uptoBulk]
      | _ => simp [Rows.uptoBulk]
    simp only [Rows.uptoBulkAll, List.length_cons]
    omega
theorem open_words {fuel : Nat} {cs : List Value} {x : DataW H × List MemPlace} (h : DataW.trod enc Tryd.prog W 0 sp held fuel 22 cs = some x) {B : Nat} (hB : B ≤ 1048576) (hk : Rows.uptoBulk x.1 ≤ B) :
    ∃ a xs c, cs = [.slice a xs.length c] ∧ Arr (pub W) a c xs ∧ xs.length ≤ 2 ^ 30 := by
  rcases open_ints un22 un76 ce76 h with ⟨rfl, rfl⟩ | ⟨a, len, cap, zs, rfl, _, hl, hm, hz, rfl, hcell, hwf⟩
  · exact ⟨none, [], 0, rfl, Arr.nil _, by simp⟩
  · have hzl : len ≤ zs.length := by rw [hz]; split <;> omega
    have hb : len ≤ 1048576 := by
      simp only [Rows.uptoBulk] at hk
      have e : (lits (H := H) .u32 (zs.take len)).length = len := by simp [lits]; omega
      have := bulk_len (H := H) (lits .u32 (zs.take len))
      rw [e] at this
      omega
    refine ⟨some a, (zs.take len).map Int.toNat, cap, ?_, ⟨?_, ?_, ?_, ?_⟩, ?_⟩
    · simp; omega
    · simp; omega
    · simp; omega
    · intro y hy
      obtain ⟨z, hz, rfl⟩ := List.mem_map.1 hy
      have := bounds_u32 (hwf z (List.mem_of_mem_take hz))
      omega
    · intro i y hy
      rw [List.getElem?_map, Option.map_eq_some_iff] at hy
      obtain ⟨z, hz', rfl⟩ := hy
      rw [List.getElem?_take] at hz'
      split at hz'
      · refine ⟨a, rfl, ?_⟩
        have hi : i < zs.length := (List.getElem?_eq_some_iff.1 hz').1
        rw [pub_at, hcell i hi]
        have e : zs.getD i 0 = z := by simp [hz']
        have := bounds_u32 (hwf z (List.mem_of_getElem? hz'))
        rw [e]
        congr 2
        omega
      · cases hz'
    · simp; omega
theorem open_rat {fuel : Nat} {cs : List Value} {x : DataW H × List MemPlace} (h : DataW.trod enc Tryd.prog W 0 sp held fuel 24 cs = some x) {B : Nat} (hB : B ≤ 1048576) (hk : Rows.uptoBulk x.1 ≤ B) :
    ∃ neg n d, Rw (pub W) (.agg cs.toArray) neg n d ∧ cs.length = 3 := by
  obtain ⟨fs, hu, hf⟩ := flds_some fl24
  obtain ⟨xs, n, rfl, rfl, hl, hsz, hg⟩ := DataW.trod_struct hu h
  rw [ce24] at hl
  have hfs : fs.size = 3 := by
    have := congrArg List.length hf
    simpa using this
  match cs, hl with
  | [c0, c1, c2], _ =>
  have get : ∀ (i t o : Nat), (fs.toList.map fun f => (f.type, f.offset))[i]? = some (t, o) → ∃ f : Field, fs[i]? = some f ∧ f.type = t ∧ f.offset = o := by
    intro i t o hi
    rw [List.getElem?_map, Option.map_eq_some_iff] at hi
    obtain ⟨f, h1, h2⟩ := hi
    cases h2
    exact ⟨f, by simpa using h1, rfl, rfl⟩
  obtain ⟨f0, k0, e0, o0⟩ := get 0 4 0 (by rw [hf]; rfl)
  obtain ⟨f1, k1, e1, o1⟩ := get 1 22 1 (by rw [hf]; rfl)
  obtain ⟨f2, k2, e2, o2⟩ := get 2 22 2 (by rw [hf]; rfl)
  have g0 := hg 0 f0 k0
  have g1 := hg 1 f1 k1
  have g2 := hg 2 f2 k2
  rw [e0, o0, ce4] at g0
  rw [e1, o1, ce22] at g1
  rw [e2, o2, ce22] at g2
  rw [hfs] at hsz
  match xs, hsz with
  | [y0, y1, y2], _ =>
  simp only [List.drop_zero, List.take_succ_cons, List.take_zero, List.drop_succ_cons, List.getElem?_cons_zero, List.getElem?_cons_succ] at g0 g1 g2
  simp only [Rows.uptoBulk, List.map_cons, List.map_nil, Rows.uptoBulkAll] at hk
  obtain ⟨b, e, _⟩ := DataW.trod_bool un4 g0
  obtain ⟨a1, xs1, c1', e1, A1, l1⟩ := open_words g1 hB (by omega)
  obtain ⟨a2, xs2, c2', e2, A2, l2⟩ := open_words g2 hB (by omega)
  cases e
  cases e1
  cases e2
  exact ⟨b, _, _, ⟨a1, c1', xs1, a2, c2', xs2, rfl, A1, A2, rfl, rfl, l1, l2⟩, rfl⟩
theorem stays {P : Program} {W' : World} {sp : Nat → Bool} (hl : laidOutB P = true) (hb : Below W.heap.size W W') (ts : List TypeId) : ∀ (vs : List Value) (ds : List (DataW H)) (p : List MemPlace), (∀ t ∈ ts, P.readableRec t = true ∧ t < P.types.size) → (∀ x ∈ p, x.block < W.heap.size) → (∀ x ∈ p, sp x.block = true) →
    DataW.TrodAll enc P W 0 (fun _ => true) true ts vs ds p → DataW.TrodAll enc P W' 0 sp true ts vs ds p := by
  induction ts with
  | nil =>
    intro vs ds p _ _ _ h
    cases vs with
    | nil => cases ds with
      | nil => exact h
      | cons d ds => exact h.elim
    | cons v vs => exact h.elim
  | cons t ts ih =>
    intro vs ds p hr hlt hsp h
    cases vs with
    | nil => exact h.elim
    | cons v vs =>
      cases ds with
      | nil => exact h.elim
      | cons d ds =>
        obtain ⟨p, q, h1, h2, rfl⟩ := h
        have ht := hr t (by simp)
        exact ⟨p, q, WideElems.Trod_stays hl ht.1 ht.2 h1 (fun x hx => hb.same (hlt x (by simp [hx]))) (fun x hx => hsp x (by simp [hx])), ih vs ds q (fun u hu => hr u (by simp [hu])) (fun x hx => hlt x (by simp [hx])) (fun x hx => hsp x (by simp [hx])) h2, rfl⟩
theorem post_true {f : Func} {s : ChangeSpec} {W' : World} {args : Array Value} {ds : List (DataW H)} {before : List MemPlace} (hl : laidOutB Tryd.prog = true) (hv : s.vars = []) (hr : f.resultTypes = #[4]) (hs : s.fn H ds = { results := [.lit (.bool true)], args := ds })
    (hrd : ∀ t ∈ f.params.toList, Tryd.prog.readableRec t = true ∧ t < Tryd.prog.types.size)
    (hW : DataW.Whole enc Tryd.prog f.params.toList s.vars false W args.toList ds [] before) (hb : Below W.heap.size W W') : s.post enc Tryd.prog f false true false false W args (.bool true) W' := by
  have hlt : ∀ p ∈ before, p.block < W.heap.size := hW.lt
  have hW0 := hW
  rw [hv] at hW0
  obtain ⟨p, q, hA, hV, rfl, hz, hn⟩ := hW0
  obtain rfl : q = [] := hV
  rw [List.append_nil] at hlt hz
  have hold : ∀ x ∈ p, (fun b => decide (b < W.heap.size)) x.block = true := fun x hx => by simpa using hlt x hx
  have hres : ∀ (b : Nat) (sp : Nat → Bool) (hd : Bool), DataW.TrodAll enc Tryd.prog W' b sp hd f.resultTypes.toList ((Value.bool true).resultList f.resultTypes.size) (s.fn H (ds ++ [])).results [] := by
    intro b sp hd
    rw [List.append_nil, hs, hr]
    exact trodAll_cons_mk (shut_bool un4 _) trodAll_mk0
  have hargs : ∀ sp : Nat → Bool, (∀ x ∈ p, sp x.block = true) → DataW.TrodAll enc Tryd.prog W' 0 sp true f.params.toList args.toList (s.fn H (ds ++ [])).args p := by
    intro sp hsp
    rw [List.append_nil, hs]
    exact stays hl hb _ _ _ _ hrd hlt hsp hA
  have hvars : ∀ sp : Nat → Bool, DataW.TrodVars enc Tryd.prog W' sp s.vars (s.fn H (ds ++ [])).vars [] := by
    intro sp
    rw [List.append_nil, hs, hv]
    rfl
  refine ⟨ds, [], p ++ [], [], p, [], hW, hres _ _ _, hargs _ hold, hvars _, World.keptBut_mono (fun x hx => ⟨hx, ?_⟩) (hb.frame (· ∈ p ++ [])), fun h => by cases h⟩
  simpa using hx
theorem laid_gl {W : World} (h : laidMetH Tryd.prog [("math/bits.deBruijn32tab", Rows.laid_math_bits_deBruijn32tab)] W) : Sub mach.gl (pub W) := by
  have ht : Lib.TabIs Tryd.prog W "math/bits.deBruijn32tab" .u8 debruijn :=
    Lib.tabIs_of_head (rest := []) (g := 0) (t := 131) (e := 5) (n := 32) (by kernel_rfl) (by kernel_rfl) (by kernel_rfl) (by kernel_rfl) (by kernel_rfl) (by kernel_rfl) h
  have hg : Tryd.prog.globalNamed "math/bits.deBruijn32tab" = some 0 := by kernel_rfl
  unfold Lib.TabIs World.var? at ht
  rw [hg] at ht
  intro b cs hb
  have hb' : (if b = 0 then some tabCells else none) = some cs := hb
  split at hb'
  · rename_i e
    subst e
    cases hb'
    unfold pub
    simp only [Option.bind_some] at ht
    split at ht
    · rename_i hx
      rw [hx]
      simpa [tabCells] using ht
    · cases ht
  · cases hb'
end
end Go.Q
namespace Go.Q
open Go.Proofs
set_option maxRecDepth 100000
set_option maxHeartbeats 8000000
def Rv (h : PH) (v : Value) (q : Rat) : Prop := ∃ neg n d, Rw h v neg n d ∧ ¬ lg neg n d ∧ qof neg n d = q
theorem Rv.to {h h' : PH} {v : Value} {q : Rat} (r : Rv h v q) [Le h h'] : Rv h' v q := let ⟨a, b, c, h1, h2⟩ := r; ⟨a, b, c, h1.to, h2⟩
theorem Rv.of {h : PH} {v : Value} {q : Rat} (c : Cn h v q) (hs : sz q ≤ 2048) : Rv h v q := ⟨_, _, _, c.rw (Nat.le_trans hs (by decide)), by rw [lg_cn]; omega, qof_cn q⟩
theorem Rv.sz {h : PH} {v : Value} {q : Rat} (r : Rv h v q) : sz q ≤ 2048 := by
  obtain ⟨_, _, _, _, h2, rfl⟩ := r
  unfold lg at h2
  omega
theorem Rv.up {h : PH} {v : Value} {q : Rat} (r : Rv h v q) : Go.Q.sz q ≤ 2 ^ 36 := Nat.le_trans r.sz (by decide)
theorem Rv.sa {h : PH} {v : Value} {q : Rat} (r : Rv h v q) : ∃ b na nl nc da dl dc, v = .agg #[.bool b, .slice na nl nc, .slice da dl dc] ∧ Rv h (.agg #[.bool b, .slice na nl nc, .slice da dl dc]) q := by
  have r0 := r
  obtain ⟨_, _, _, h1, _, _⟩ := r
  obtain ⟨_, _, _, _, _, _, _, rfl, _⟩ := h1.sa
  exact ⟨_, _, _, _, _, _, _, rfl, r0⟩
theorem Read_rv {h0 h : PH} [Le h0 h] {v : Value} {q : Rat} (hv : Rv h0 v q) : Spec mach 69 #[v] h (fun r h' => ∃ f, r = .tuple #[f, .bool true] ∧ Fr h' f q) NP := by
  obtain ⟨_, _, _, h1, h2, rfl⟩ := hv
  exact Read_ok h1 h2
def Nc (h : PH) (r : Value) (q : Rat) : Prop := ∃ b na nl nc da dl dc e, r = .tuple #[.agg #[.bool b, .slice na nl nc, .slice da dl dc], .int .i64 e] ∧ (e = 1 ∧ 2048 < sz q ∨ e = 0 ∧ sz q ≤ 2048 ∧ Cn h (.agg #[.bool b, .slice na nl nc, .slice da dl dc]) q)
theorem Nc.mk {h : PH} {b : Bool} {na da : Option Addr} {nl nc dl dc : Nat} {e : Int} {q : Rat} (k : e = 1 ∧ 2048 < sz q ∨ e = 0 ∧ sz q ≤ 2048 ∧ Cn h (.agg #[.bool b, .slice na nl nc, .slice da dl dc]) q) : Nc h (.tuple #[.agg #[.bool b, .slice na nl nc, .slice da dl dc], .int .i64 e]) q := ⟨_, _, _, _, _, _, _, _, rfl, k⟩
theorem Nc.ok {h : PH} {r : Value} {q : Rat} (k : Nc h r q) (hs : sz q ≤ 2048) : ∃ b na nl nc da dl dc, r = .tuple #[.agg #[.bool b, .slice na nl nc, .slice da dl dc], .int .i64 0] ∧ Cn h (.agg #[.bool b, .slice na nl nc, .slice da dl dc]) q := by
  obtain ⟨_, _, _, _, _, _, _, _, rfl, ⟨_, k⟩ | ⟨rfl, _, k⟩⟩ := k
  · omega
  · exact ⟨_, _, _, _, _, _, _, rfl, k⟩
theorem Give_nc {h0 h : PH} [Le h0 h] {v : Value} {x : Rat} (hx : Fr h0 v x) : Spec mach 85 #[v] h (fun r h' => Nc h' r x) NP := by
  by_cases hs : sz x ≤ 2048
  · refine (Give_ok hx hs).mono (fun r h' _ k => ?_) (fun _ _ _ k => k)
    obtain ⟨u, rfl, c⟩ := k
    obtain ⟨_, _, _, _, _, _, _, rfl, c⟩ := c.sa
    exact Nc.mk (.inr ⟨rfl, hs, c⟩)
  · exact (Give_no hx hs).mono (fun r h' _ k => by subst k; exact Nc.mk (.inl ⟨rfl, by omega⟩)) (fun _ _ _ k => k)
end Go.Q
namespace Go.Q
open Go.Proofs
set_option maxRecDepth 100000
set_option maxHeartbeats 8000000
theorem Cn.nul (h : PH) : Cn h (.agg #[.bool false, .slice none 0 0, .slice none 0 0]) 0 := ⟨.slice none 0 0, .slice none 0 0, by simp, by simpa using N32.zero h, by simpa using N32.zero h⟩
theorem NumOne_spec {h0 h : PH} [Le h0 h] {v : Value} {x z : Rat} {g : FuncId} (hx : Rv h0 v x) (hg : ∀ {h0 h : PH} {a : Value} [Le h0 h], Fr h0 a x → Spec mach g #[a] h (fun v h' => Fr h' v z) NP) : Spec mach 64 #[v, .func (.func g) #[] #[]] h (fun r h' => Nc h' r z) NP := by
  have kX := fun {h} [Le h0 h] => Read_rv (h := h) hx
  obtain ⟨_, _, _, _, _, _, _, rfl, _⟩ := hx.sa
  refine Spec.go [] Tryd.func64 rfl rfl (by kernel_rfl) fun C _ => ?_
  simp (disch := omega) only [go_sem, Nat.reduceBEq, Nat.reduceAdd]
  refine caN (by exact kX) ?_; rintro v1 h1 s1 ⟨f, rfl, hf⟩; obtain ⟨_, _, _, _, _, _, _, rfl, hf⟩ := hf.sa
  simp (disch := omega) only [go_sem, Nat.reduceBEq, Nat.reduceAdd]
  refine caN (by exact hg hf) ?_; rintro v3 h3 s3 hz; obtain ⟨_, _, _, _, _, _, _, rfl, hz⟩ := hz.sa
  simp (disch := omega) only [go_sem, Nat.reduceBEq, Nat.reduceAdd]
  refine caN (by exact Give_nc hz) ?_; rintro v4 h4 s4 q4; obtain ⟨_, _, _, _, _, _, _, _, rfl, w4⟩ := q4
  simp (disch := omega) only [go_sem, Nat.reduceBEq, Nat.reduceAdd]
  exact Nc.mk w4
theorem NumOne_no {h0 h : PH} [Le h0 h] {v : Value} {neg : Bool} {n d : Nat} {g : FuncId} (hv : Rw h0 v neg n d) (hl : lg neg n d) : Spec mach 64 #[v, .func (.func g) #[] #[]] h (fun r _ => r = .tuple #[.agg #[.bool false, .slice none 0 0, .slice none 0 0], .int .i64 1]) NP := by
  have kX := fun {h} [Le h0 h] => Read_no (h := h) hv hl
  obtain ⟨_, _, _, _, _, _, _, rfl, _⟩ := hv.sa
  refine Spec.go [] Tryd.func64 rfl rfl (by kernel_rfl) fun C _ => ?_
  simp (disch := omega) only [go_sem, Nat.reduceBEq, Nat.reduceAdd]
  refine caN (by exact kX) ?_; rintro v1 h1 s1 ⟨_, _, _, _, _, _, _, rfl⟩
  simp (disch := omega) only [go_sem, Nat.reduceBEq, Nat.reduceAdd]
  all_goals omega
theorem Canon1_spec {h0 h : PH} [Le h0 h] {v : Value} {x : Rat} (hx : Fr h0 v x) : Spec mach 65 #[v] h (fun v h' => Fr h' v x) NP := by
  have hx0 := hx
  obtain ⟨_, _, _, _, _, _, _, rfl, hx1⟩ := hx.sa
  refine Spec.go [] Tryd.func65 rfl rfl (by kernel_rfl) fun C _ => ?_
  simp (disch := omega) only [go_sem, Nat.reduceBEq, Nat.reduceAdd]
  exact hx1.to
theorem NumCanon {h0 h : PH} [Le h0 h] {v : Value} {q : Rat} (hx : Rv h0 v q) : Spec mach 37 #[v] h (fun r h' => ∃ b na nl nc da dl dc, r = .tuple #[.agg #[.bool b, .slice na nl nc, .slice da dl dc], .int .i64 0] ∧ Cn h' (.agg #[.bool b, .slice na nl nc, .slice da dl dc]) q) NP := by
  have kX := fun {h} [Le h0 h] => Read_rv (h := h) hx
  have hs := hx.sz
  have kO : ∀ {h : PH} [Le h0 h], Spec mach 64 #[v, .func (.func 65) #[] #[]] h (fun r h' => ∃ b na nl nc da dl dc, r = .tuple #[.agg #[.bool b, .slice na nl nc, .slice da dl dc], .int .i64 0] ∧ Cn h' (.agg #[.bool b, .slice na nl nc, .slice da dl dc]) q) NP := by
    intro h _
    obtain ⟨_, _, _, _, _, _, _, rfl, _⟩ := hx.sa
    refine Spec.go [] Tryd.func64 rfl rfl (by kernel_rfl) fun C _ => ?_
    simp (disch := omega) only [go_sem, Nat.reduceBEq, Nat.reduceAdd]
    refine caN (by exact kX) ?_; rintro v1 h1 s1 ⟨f, rfl, hf⟩; obtain ⟨_, _, _, _, _, _, _, rfl, hf⟩ := hf.sa
    simp (disch := omega) only [go_sem, Nat.reduceBEq, Nat.reduceAdd]
    refine caN (by exact Canon1_spec hf) ?_; rintro v3 h3 s3 hz; obtain ⟨_, _, _, _, _, _, _, rfl, hz⟩ := hz.sa
    simp (disch := omega) only [go_sem, Nat.reduceBEq, Nat.reduceAdd]
    refine caN (by exact Give_ok hz hs) ?_; rintro v4 h4 s4 ⟨u, rfl, c⟩; obtain ⟨_, _, _, _, _, _, _, rfl, c⟩ := c.sa
    simp (disch := omega) only [go_sem, Nat.reduceBEq, Nat.reduceAdd]
    exact ⟨_, _, _, _, _, _, _, rfl, c⟩
  obtain ⟨_, _, _, _, _, _, _, rfl, _⟩ := hx.sa
  refine Spec.go [] Tryd.func37 rfl rfl (by kernel_rfl) fun C _ => ?_
  simp (disch := omega) only [go_sem, Nat.reduceBEq, Nat.reduceAdd]
  refine caN (by exact kO) ?_; rintro v1 h1 s1 ⟨_, _, _, _, _, _, _, rfl, c⟩
  simp (disch := omega) only [go_sem, Nat.reduceBEq, Nat.reduceAdd]
  exact ⟨_, _, _, _, _, _, _, rfl, c⟩
theorem NumCanon_no {h0 h : PH} [Le h0 h] {v : Value} {neg : Bool} {n d : Nat} (hv : Rw h0 v neg n d) (hl : lg neg n d) : Spec mach 37 #[v] h (fun r _ => r = .tuple #[.agg #[.bool false, .slice none 0 0, .slice none 0 0], .int .i64 1]) NP := by
  have kX := fun {h} [Le h0 h] => NumOne_no (h := h) (g := 65) hv hl
  obtain ⟨_, _, _, _, _, _, _, rfl, _⟩ := hv.sa
  refine Spec.go [] Tryd.func37 rfl rfl (by kernel_rfl) fun C _ => ?_
  simp (disch := omega) only [go_sem, Nat.reduceBEq, Nat.reduceAdd]
  refine caN (by exact kX) ?_; rintro v1 h1 s1 rfl
  simp (disch := omega) only [go_sem, Nat.reduceBEq, Nat.reduceAdd]
theorem FromInt_spec {h : PH} {n : Int} (h1 : -4611686018427387904 ≤ n) (h2 : n ≤ 4611686018427387904) : Spec mach 59 #[.int .i64 n] h (fun v h' => Cn h' v (n : Rat)) NP := by
  have hs : sz (n : Rat) ≤ 2048 := by
    unfold sz
    have e1 : bl ((n : Rat).num.natAbs) ≤ 64 := bl_le.2 (by simp; omega)
    have e2 : bl ((n : Rat).den) ≤ 64 := bl_le.2 (by simp)
    omega
  refine Spec.go [] Tryd.func59 rfl rfl (by kernel_rfl) fun C _ => ?_
  simp (disch := omega) only [go_sem, Nat.reduceBEq, Nat.reduceAdd]
  refine caN (by exact Int_spec (by omega) (by omega)) ?_; rintro v1 h1 s1 q1; obtain ⟨_, _, _, _, _, _, _, rfl, q1⟩ := q1.sa
  simp (disch := omega) only [go_sem, Nat.reduceBEq, Nat.reduceAdd]
  refine caN (by exact Give_ok q1 hs) ?_; rintro v4 h4 s4 ⟨u, rfl, c⟩; obtain ⟨_, _, _, _, _, _, _, rfl, c⟩ := c.sa
  simp (disch := omega) only [go_sem, Nat.reduceBEq, Nat.reduceAdd]
  exact c
theorem Low_spec {h0 h : PH} [Le h0 h] {v : Value} {m n : Nat} (hv : N32 h0 v m) (hn : n ≤ 2 ^ 40) : Spec mach 109 #[v, .int .i64 n] h (fun r _ => r = .bool (decide (m % 2 ^ n ≠ 0))) NP := by
  have kT := fun {h} [Le h0 h] => Twos_spec (h := h) hv
  have e1 : decide (m % 2 ^ n ≠ 0) = (decide (m ≠ 0) && decide (tw m < n)) := by
    by_cases hm : m = 0
    · subst hm; simp
    · obtain ⟨t, ht⟩ := tw_spec m hm
      by_cases hl : tw m < n
      · have : m % 2 ^ n ≠ 0 := by
          intro e
          have hd := Nat.dvd_of_mod_eq_zero e
          have h2 : 2 ^ (tw m + 1) ∣ m := Nat.dvd_trans (Nat.pow_dvd_pow 2 hl) hd
          have h3 := tw_odd hm rfl
          obtain ⟨c, hc⟩ := h2
          have e2 : m / 2 ^ tw m = 2 * c := Nat.div_eq_of_eq_mul_right (Nat.pow_pos (by decide)) (by rw [← Nat.mul_assoc, ← Nat.pow_succ]; exact hc)
          rw [e2] at h3
          omega
        simp [this, hm, hl]
      · have : m % 2 ^ n = 0 := Nat.mod_eq_zero_of_dvd (Nat.dvd_trans (Nat.pow_dvd_pow 2 (by omega)) (tw_dvd m))
        simp [this, hl]
  rw [e1]
  obtain ⟨a, c, xs, rfl, ha, hx, rfl⟩ := hv.out
  have hl0 := W_len0 (B := 4294967296) (by decide) (n := val 4294967296 xs)
  rw [hx] at hl0
  by_cases hm : val 4294967296 xs = 0
  · have e2 : decide ((xs.length : Int) > 0) = false := decide_eq_false (by omega)
    rw [show (decide (val 4294967296 xs ≠ 0) && decide (tw (val 4294967296 xs) < n)) = false by simp [hm]]
    refine Spec.go [] Tryd.func109 rfl rfl (by kernel_rfl) fun C _ => ?_
    simp (disch := omega) only [go_sem, Nat.reduceBEq, Nat.reduceAdd, e2]
  · have e2 : decide ((xs.length : Int) > 0) = true := decide_eq_true (by omega)
    rw [show (decide (val 4294967296 xs ≠ 0) && decide (tw (val 4294967296 xs) < n)) = decide ((tw (val 4294967296 xs) : Int) < (n : Int)) by simp [hm]]
    refine Spec.go [] Tryd.func109 rfl rfl (by kernel_rfl) fun C _ => ?_
    simp (disch := omega) only [go_sem, Nat.reduceBEq, Nat.reduceAdd, e2]
    refine caN (by exact kT) ?_; rintro v1 h1 s1 rfl
    simp (disch := omega) only [go_sem, Nat.reduceBEq, Nat.reduceAdd]
end Go.Q
namespace Go.Q
open Go.Proofs
set_option maxRecDepth 100000
set_option maxHeartbeats 8000000
theorem NumDiv {h0 h : PH} [Le h0 h] {v w : Value} {x y : Rat} (hx : Rv h0 v x) (hy : Rv h0 w y) (hz : y ≠ 0) : Spec mach 77 #[v, w] h (fun r h' => Nc h' r (x * y⁻¹)) NP := by
  have kX := fun {h} [Le h0 h] => Read_rv (h := h) hx
  have kY := fun {h} [Le h0 h] => Read_rv (h := h) hy
  have sx := hx.up
  have sy : sz y⁻¹ ≤ 2 ^ 36 := Nat.le_trans (sz_inv y) hy.up
  have hn : ¬ y.num.natAbs = 0 := by rw [Int.natAbs_eq_zero]; exact fun e => hz (Rat.num_eq_zero.1 e)
  obtain ⟨_, _, _, _, _, _, _, rfl, _⟩ := hx.sa
  obtain ⟨_, _, _, _, _, _, _, rfl, _⟩ := hy.sa
  clear hx hy
  refine Spec.go [] Tryd.func77 rfl rfl (by kernel_rfl) fun C _ => ?_
  try simp (disch := omega) only [go_sem, Nat.reduceBEq, Nat.reduceAdd]
  refine caN (by exact kX) ?_; rintro v1 h1 s1 ⟨f, rfl, hf⟩; obtain ⟨_, _, _, _, _, _, _, rfl, hf⟩ := hf.sa
  try simp (disch := omega) only [go_sem, Nat.reduceBEq, Nat.reduceAdd]
  refine caN (by exact kY) ?_; rintro v2 h2 s2 ⟨f', rfl, hf'⟩; have hf0 := hf'; obtain ⟨na, nl, nc, da, dl, dc, rfl, hnn, hdd⟩ := hf'.sl
  try simp (disch := omega) only [go_sem, Nat.reduceBEq, Nat.reduceAdd]
  refine caN (by exact Zero_spec hnn) ?_; rintro v3 h3 s3 rfl
  try simp (disch := omega) only [go_sem, Nat.reduceBEq, Nat.reduceAdd]
  refine caN (by exact Inverse_spec (hf0.to (h' := h3)) hz) ?_; rintro v4 h4 s4 q4; obtain ⟨_, _, _, _, _, _, _, rfl, q4⟩ := q4.sa
  try simp (disch := omega) only [go_sem, Nat.reduceBEq, Nat.reduceAdd]
  refine caN (by exact Mul_frac (hf.to (h' := h4)) q4 sx sy) ?_; rintro v5 h5 s5 q5
  try simp (disch := omega) only [go_sem, Nat.reduceBEq, Nat.reduceAdd]
  refine caN (by exact Give_nc q5) ?_; rintro v6 h6 s6 q6; obtain ⟨_, _, _, _, _, _, _, _, rfl, w6⟩ := q6
  try simp (disch := omega) only [go_sem, Nat.reduceBEq, Nat.reduceAdd]
  exact Nc.mk w6
theorem NumCompare {h0 h : PH} [Le h0 h] {v w : Value} {x y : Rat} (hx : Rv h0 v x) (hy : Rv h0 w y) : Spec mach 40 #[v, w] h (fun r _ => r = .tuple #[.int .i64 (cmpQ x y), .int .i64 0]) NP := by
  have kX := fun {h} [Le h0 h] => Read_rv (h := h) hx
  have kY := fun {h} [Le h0 h] => Read_rv (h := h) hy
  have sx := hx.up
  have sy := hy.up
  obtain ⟨_, _, _, _, _, _, _, rfl, _⟩ := hx.sa
  obtain ⟨_, _, _, _, _, _, _, rfl, _⟩ := hy.sa
  clear hx hy
  refine Spec.go [] Tryd.func40 rfl rfl (by kernel_rfl) fun C _ => ?_
  try simp (disch := omega) only [go_sem, Nat.reduceBEq, Nat.reduceAdd]
  refine caN (by exact kX) ?_; rintro v1 h1 s1 ⟨f, rfl, hf⟩; obtain ⟨_, _, _, _, _, _, _, rfl, hf⟩ := hf.sa
  try simp (disch := omega) only [go_sem, Nat.reduceBEq, Nat.reduceAdd]
  refine caN (by exact kY) ?_; rintro v2 h2 s2 ⟨f', rfl, hf'⟩; obtain ⟨_, _, _, _, _, _, _, rfl, hf'⟩ := hf'.sa
  try simp (disch := omega) only [go_sem, Nat.reduceBEq, Nat.reduceAdd]
  refine caN (by exact Cmp_frac (hf.to (h' := h2)) hf' sx sy) ?_; rintro v3 h3 s3 rfl
  try simp (disch := omega) only [go_sem, Nat.reduceBEq, Nat.reduceAdd]
theorem gdown_0 (x : Rat) : gdown x 0 = (x.floor : Rat) := by
  unfold gdown
  rw [Rat.pow_zero, Rat.mul_one, Rat.div_def, show (1 : Rat)⁻¹ = 1 by grind, Rat.mul_one]
theorem gup_0 (x : Rat) : gup x 0 = (x.ceil : Rat) := by
  unfold gup
  rw [Rat.pow_zero, Rat.mul_one, Rat.div_def, show (1 : Rat)⁻¹ = 1 by grind, Rat.mul_one]
theorem Floor1_spec {h0 h : PH} [Le h0 h] {v : Value} {x : Rat} (hx : Fr h0 v x) (sx : sz x ≤ 2 ^ 36) : Spec mach 106 #[v] h (fun v h' => Fr h' v (x.floor : Rat)) NP := by
  have kG := fun {h} [Le h0 h] => Grid_spec (h := h) (p := 0) (u := false) hx sx (by decide)
  have e : (if false = true then gup x 0 else gdown x 0) = (x.floor : Rat) := gdown_0 x
  rw [e] at kG
  obtain ⟨_, _, _, _, _, _, _, rfl, _⟩ := hx.sa
  refine Spec.go [] Tryd.func106 rfl rfl (by kernel_rfl) fun C _ => ?_
  try simp (disch := omega) only [go_sem, Nat.reduceBEq, Nat.reduceAdd]
  refine caN (by exact kG) ?_; rintro v1 h1 s1 q1; obtain ⟨_, _, _, _, _, _, _, rfl, q1⟩ := q1.sa
  try simp (disch := omega) only [go_sem, Nat.reduceBEq, Nat.reduceAdd]
  exact q1
theorem Ceil1_spec {h0 h : PH} [Le h0 h] {v : Value} {x : Rat} (hx : Fr h0 v x) (sx : sz x ≤ 2 ^ 36) : Spec mach 104 #[v] h (fun v h' => Fr h' v (x.ceil : Rat)) NP := by
  have kG := fun {h} [Le h0 h] => Grid_spec (h := h) (p := 0) (u := true) hx sx (by decide)
  have e : (if true = true then gup x 0 else gdown x 0) = (x.ceil : Rat) := gup_0 x
  rw [e] at kG
  obtain ⟨_, _, _, _, _, _, _, rfl, _⟩ := hx.sa
  refine Spec.go [] Tryd.func104 rfl rfl (by kernel_rfl) fun C _ => ?_
  try simp (disch := omega) only [go_sem, Nat.reduceBEq, Nat.reduceAdd]
  refine caN (by exact kG) ?_; rintro v1 h1 s1 q1; obtain ⟨_, _, _, _, _, _, _, rfl, q1⟩ := q1.sa
  try simp (disch := omega) only [go_sem, Nat.reduceBEq, Nat.reduceAdd]
  exact q1
theorem NumFloor {h0 h : PH} [Le h0 h] {v : Value} {x : Rat} (hx : Rv h0 v x) : Spec mach 79 #[v] h (fun r h' => Nc h' r (x.floor : Rat)) NP := by
  have kO := fun {h} [Le h0 h] => NumOne_spec (h := h) (g := 106) hx (fun a => Floor1_spec a hx.up)
  obtain ⟨_, _, _, _, _, _, _, rfl, _⟩ := hx.sa
  refine Spec.go [] Tryd.func79 rfl rfl (by kernel_rfl) fun C _ => ?_
  try simp (disch := omega) only [go_sem, Nat.reduceBEq, Nat.reduceAdd]
  refine caN (by exact kO) ?_; rintro v1 h1 s1 q1; obtain ⟨_, _, _, _, _, _, _, _, rfl, w1⟩ := q1
  try simp (disch := omega) only [go_sem, Nat.reduceBEq, Nat.reduceAdd]
  exact Nc.mk w1
theorem NumCeil {h0 h : PH} [Le h0 h] {v : Value} {x : Rat} (hx : Rv h0 v x) : Spec mach 78 #[v] h (fun r h' => Nc h' r (x.ceil : Rat)) NP := by
  have kO := fun {h} [Le h0 h] => NumOne_spec (h := h) (g := 104) hx (fun a => Ceil1_spec a hx.up)
  obtain ⟨_, _, _, _, _, _, _, rfl, _⟩ := hx.sa
  refine Spec.go [] Tryd.func78 rfl rfl (by kernel_rfl) fun C _ => ?_
  try simp (disch := omega) only [go_sem, Nat.reduceBEq, Nat.reduceAdd]
  refine caN (by exact kO) ?_; rintro v1 h1 s1 q1; obtain ⟨_, _, _, _, _, _, _, _, rfl, w1⟩ := q1
  try simp (disch := omega) only [go_sem, Nat.reduceBEq, Nat.reduceAdd]
  exact Nc.mk w1
end Go.Q
