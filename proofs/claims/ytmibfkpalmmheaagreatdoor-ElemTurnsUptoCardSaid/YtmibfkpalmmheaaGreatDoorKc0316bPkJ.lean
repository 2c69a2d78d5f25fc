/-
  Contracts of the reference's rational numbers: words of 32 bits and digits of 16. Conditions: the slices hold words (Arr), digits (N16).
  Contracts of the reference's rational numbers: reading them from values, and giving them back. Conditions: the slices hold words (Rw), digits (Qr).
  Contracts of the reference's rational numbers: reading, giving, sizes, signs. Conditions: the values are rational numbers (Rw, Qr), of at most 2^36 binary digits.
  Contracts of the reference's rational numbers: sizes, signs, sums, order. Conditions: the values are rational numbers (Rw, Qr), of at most 2^34 binary digits.
  Contracts of the reference's rational numbers: grids, quotients. Conditions: the values are rational numbers (Qr), of at most 2^30 binary digits.
  Contracts of the reference's rational numbers: rounding to grids, quotients, results. Conditions: the values are rational numbers (Qr), of at most 2^30 binary digits.
  Powers of numbers, plain: their order, their size; whole parts of roots, and the step that finds them. Conditions: none.
  Contracts of the reference's natural numbers: powers. Conditions: the slice holds digits (N16); the power has at most 2^30 bits.
  Contract of package word: powers of natural numbers. Conditions: the slice holds words (N32), the power has at most 2^36 bits.
  Contract of package word: whole parts of roots. Conditions: the slice holds words (N32), of at most 2^20 bits; the index is from 2 to 8.
  Contracts of the reference's natural numbers: binary digits, whole parts of roots. Conditions: the slice holds digits (N16), of at most 2^20 bits; the index is from 2 to 8.
-/
import Derived.Test.YtmibfkpalmmheaaGreatDoorK89f438PkI
import Derived.Test.YtmibfkpalmmheaaGreatDoorK24f055PkD
import Derived.Test.YtmibfkpalmmheaaGreatDoorK66984cPkF
import Derived.Test.YtmibfkpalmmheaaGreatDoorK891e42PkH
set_option linter.unusedVariables false
set_option linter.unusedSimpArgs false
namespace Go.Q
open Go.Proofs
set_option maxRecDepth 100000
set_option maxHeartbeats 4000000
def halves : List Nat → List Nat
  | [] => []
  | x :: xs => x % 65536 :: x / 65536 :: halves xs
theorem val_halves : ∀ xs : List Nat, val 65536 (halves xs) = val 4294967296 xs
  | [] => rfl
  | x :: xs => by
    simp only [halves, val, val_halves xs]
    omega
theorem halves_lt : ∀ {xs : List Nat}, (∀ x ∈ xs, x < 4294967296) → ∀ d ∈ halves xs, d < 65536
  | [], _, d, hd => by cases hd
  | x :: xs, h, d, hd => by
    have hx := h x (List.mem_cons_self ..)
    simp only [halves, List.mem_cons] at hd
    rcases hd with rfl | rfl | hd
    · omega
    · omega
    · exact halves_lt (fun y hy => h y (List.mem_cons_of_mem _ hy)) d hd
theorem halves_len : ∀ xs : List Nat, (halves xs).length = 2 * xs.length
  | [] => rfl
  | x :: xs => by simp only [halves, List.length_cons, halves_len xs]; omega
theorem halves_snoc : ∀ (xs : List Nat) (x : Nat), halves (xs ++ [x]) = halves xs ++ [x % 65536, x / 65536]
  | [], x => rfl
  | y :: xs, x => by simp only [List.cons_append, halves, halves_snoc xs x]
theorem take_snoc_getD {xs : List Nat} {k : Nat} (h : k < xs.length) : xs.take (k + 1) = xs.take k ++ [xs.getD k 0] := by
  rw [List.take_succ_eq_append_getElem h]; simp [h]
theorem uw_two (ds : List Nat) (c d : Nat) (jk : List Value) : uw ds ++ (uw [c, d] ++ jk) = uw (ds ++ [c, d]) ++ jk := by simp [uw]
@[go_sem] theorem uw_mk2 (c d : Nat) : [Value.int .u32 (c : Nat), Value.int .u32 (d : Nat)] = uw [c, d] := rfl
@[go_sem] theorem spl2 (c d : Nat) : spl (spl [Value.int .u32 0, Value.int .u32 0] 0 (uw [c])) 1 (uw [d]) = uw [c, d] := rfl
@[go_sem] theorem take2 (c d : Nat) : (uw [c, d]).take 2 = uw [c, d] := rfl
theorem words_spec {h0 h : PH} [Le h0 h] {a : Option Addr} {c : Nat} {xs : List Nat} (ha : Arr h0 a c xs) (hs : xs.length ≤ 2 ^ 40) :
    Spec mach 36 #[.slice a xs.length c] h (fun v h' => N16 h' v (val 4294967296 xs)) NP := by
  refine Spec.enter (args := [_]) (n := 22) Tryz.func36 rfl (by kernel_rfl) rfl (by simp) [.tmp 2] rfl (fun C _ => ?_)
  repeat (first | (refine wo rfl (fun k hk => ?_); simp (disch := omega) only [go_sem, Nat.reduceBEq, Nat.reduceAdd]; refine hk _ _ ?_; clear hk k) | refine wkt rfl ?_ | refine wk0 ?_ | refine rg rfl rfl (fun K hK => ?_) | ((first | refine AWP_exit ?_ | refine AWP_skip ?_); simp (disch := decide) only [qs, qb, if_true, if_false, reduceIte]) | refine AWP_sq rfl (fun K hK => ?_) | refine ct rfl ?_ | ((try simp (disch := omega) only [go_sem, Nat.reduceBEq, Nat.reduceAdd]); (first | apply hK | (clear hK; apply hK) | (clear hK; clear hK; apply hK)); clear hK; (try clear K); (try dsimp only [behind, qs, qb])))
  refine AWP_loopS (fun x : Nat ⊕ (Nat × List Value) => match x with
      | .inl _ => ⟨[(3, .v (.slice none 0 0)), (6, .v (.slice a xs.length c)), (7, .v (.int .i64 xs.length)), (8, .v (.int .i64 0))], []⟩
      | .inr (k, jk) => ⟨[(3, .s 0 0 (2 * k) (2 * k + jk.length)), (6, .v (.slice a xs.length c)), (7, .v (.int .i64 xs.length)), (8, .v (.int .i64 k))], [uw (halves (xs.take k)) ++ jk]⟩)
    (fun x h' => Le h0 h' ∧ match x with
      | .inl _ => True
      | .inr (k, _) => k ≤ xs.length)
    (fun x => match x with
      | .inl _ => xs.length + 1
      | .inr (k, _) => xs.length - k) (.inl 0) [] ?_ ⟨inferInstance, trivial⟩ ?_
  · simp (disch := omega) only [go_sem, Nat.reduceBEq, Nat.reduceAdd]
  · rintro (r | ⟨i, jk⟩) h1 ⟨hle, hi⟩
    · dsimp only at hi ⊢
      by_cases hx0 : xs.length = 0
      · repeat (first | (refine wo rfl (fun k hk => ?_); simp (disch := omega) only [go_sem, Nat.reduceBEq, Nat.reduceAdd]; refine hk _ _ ?_; clear hk k) | refine wkt rfl ?_ | refine wk0 ?_ | refine rg rfl rfl (fun K hK => ?_) | ((first | refine AWP_exit ?_ | refine AWP_skip ?_); simp (disch := decide) only [qs, qb, if_true, if_false, reduceIte]) | refine AWP_sq rfl (fun K hK => ?_) | refine ct rfl ?_ | ((try simp (disch := omega) only [go_sem, Nat.reduceBEq, Nat.reduceAdd]); (first | apply hK | (clear hK; apply hK) | (clear hK; clear hK; apply hK)); clear hK; (try clear K); (try dsimp only [behind, qs, qb])))
        have hA : Arr h1 none 0 [] := Arr.nil h1
        refine cN rfl rfl rfl rfl (by exact trim_N (L := 0) hA (by simp) rfl) ?_; rintro v2 h2 s2 hv2; (repeat (first | (refine wo rfl (fun k hk => ?_); simp (disch := omega) only [go_sem, Nat.reduceBEq, Nat.reduceAdd]; refine hk _ _ ?_; clear hk k) | refine wkt rfl ?_)); (try refine wk0 ?_)
        (try (simp (disch := omega) only [go_sem, Nat.reduceBEq, Nat.reduceAdd])); refine hK _ _ ?_; clear hK; (try clear K); (try dsimp only [behind, qs])
        refine AWP_ret ?_; simp (disch := omega) only [go_sem, Nat.reduceBEq, Nat.reduceAdd]
        rw [List.eq_nil_of_length_eq_zero hx0]
        exact hv2
      · obtain ⟨ad, rfl, hat⟩ := ha.rd0 h1 (by omega)
        have hx := getD_lt (by decide) ha.lt 0
        repeat (first | (refine wo rfl (fun k hk => ?_); simp (disch := omega) only [go_sem, Nat.reduceBEq, Nat.reduceAdd, hat]; refine hk _ _ ?_; clear hk k) | refine wkt rfl ?_ | refine wk0 ?_ | refine rg rfl rfl (fun K hK => ?_) | ((first | refine AWP_exit ?_ | refine AWP_skip ?_); simp (disch := decide) only [qs, qb, if_true, if_false, reduceIte]) | refine AWP_sq rfl (fun K hK => ?_) | refine ct rfl ?_ | ((try simp (disch := omega) only [go_sem, Nat.reduceBEq, Nat.reduceAdd]); (first | apply hK | (clear hK; apply hK) | (clear hK; clear hK; apply hK)); clear hK; (try clear K); (try dsimp only [behind, qs, qb])))
        refine wo rfl (fun k hk => ?_); simp (disch := omega) only [go_sem, Nat.reduceBEq, Nat.reduceAdd]
        intro _ junk
        refine hk _ _ ?_; clear hk k
        (repeat (first | (refine wo rfl (fun k hk => ?_); simp (disch := omega) only [go_sem, Nat.reduceBEq, Nat.reduceAdd]; refine hk _ _ ?_; clear hk k) | refine wkt rfl ?_)); (try refine wk0 ?_)
        repeat (first | (refine wo rfl (fun k hk => ?_); simp (disch := omega) only [go_sem, Nat.reduceBEq, Nat.reduceAdd]; refine hk _ _ ?_; clear hk k) | refine wkt rfl ?_ | refine wk0 ?_ | refine rg rfl rfl (fun K hK => ?_) | ((first | refine AWP_exit ?_ | refine AWP_skip ?_); simp (disch := decide) only [qs, qb, if_true, if_false, reduceIte]) | refine AWP_sq rfl (fun K hK => ?_) | refine ct rfl ?_ | ((try simp (disch := omega) only [go_sem, Nat.reduceBEq, Nat.reduceAdd]); (first | apply hK | (clear hK; apply hK) | (clear hK; clear hK; apply hK)); clear hK; (try clear K); (try dsimp only [behind, qs, qb])))
        refine ⟨.inr (1, junk), [1], ?_, ⟨hle, by dsimp only; omega⟩, by dsimp only; omega⟩
        have e1 : xs.take 1 = [xs.getD 0 0] := by rw [take_snoc_getD (k := 0) (by omega)]; rfl
        simp (disch := omega) only [go_sem, Nat.reduceBEq, Nat.reduceAdd, e1, halves]
        rfl
    · dsimp only at hi ⊢
      by_cases hil : i < xs.length
      · obtain ⟨ad, rfl, hat⟩ := ha.rd h1 (i := i) (by omega)
        have hx := getD_lt (by decide) ha.lt i
        have hlen := halves_len (xs.take i)
        rw [List.length_take, Nat.min_eq_left (by omega)] at hlen
        repeat (first | (refine wo rfl (fun k hk => ?_); simp (disch := omega) only [go_sem, Nat.reduceBEq, Nat.reduceAdd, hat]; refine hk _ _ ?_; clear hk k) | refine wkt rfl ?_ | refine wk0 ?_ | refine rg rfl rfl (fun K hK => ?_) | ((first | refine AWP_exit ?_ | refine AWP_skip ?_); simp (disch := decide) only [qs, qb, if_true, if_false, reduceIte]) | refine AWP_sq rfl (fun K hK => ?_) | refine ct rfl ?_ | ((try simp (disch := omega) only [go_sem, Nat.reduceBEq, Nat.reduceAdd]); (first | apply hK | (clear hK; apply hK) | (clear hK; clear hK; apply hK)); clear hK; (try clear K); (try dsimp only [behind, qs, qb])))
        refine wo rfl (fun k hk => ?_); simp (disch := omega) only [go_sem, Nat.reduceBEq, Nat.reduceAdd]
        intro junk
        refine hk _ _ ?_; clear hk k
        (repeat (first | (refine wo rfl (fun k hk => ?_); simp (disch := omega) only [go_sem, Nat.reduceBEq, Nat.reduceAdd]; refine hk _ _ ?_; clear hk k) | refine wkt rfl ?_)); (try refine wk0 ?_)
        repeat (first | (refine wo rfl (fun k hk => ?_); simp (disch := omega) only [go_sem, Nat.reduceBEq, Nat.reduceAdd]; refine hk _ _ ?_; clear hk k) | refine wkt rfl ?_ | refine wk0 ?_ | refine rg rfl rfl (fun K hK => ?_) | ((first | refine AWP_exit ?_ | refine AWP_skip ?_); simp (disch := decide) only [qs, qb, if_true, if_false, reduceIte]) | refine AWP_sq rfl (fun K hK => ?_) | refine ct rfl ?_ | ((try simp (disch := omega) only [go_sem, Nat.reduceBEq, Nat.reduceAdd]); (first | apply hK | (clear hK; apply hK) | (clear hK; clear hK; apply hK)); clear hK; (try clear K); (try dsimp only [behind, qs, qb])))
        refine ⟨.inr (i + 1, junk), [2], ?_, ⟨hle, by dsimp only; omega⟩, by dsimp only; omega⟩
        have e1 := take_snoc_getD hil
        simp (disch := omega) only [go_sem, Nat.reduceBEq, Nat.reduceAdd, e1, halves_snoc, uw_two]
        rfl
      · obtain rfl : i = xs.length := by omega
        have hlen := halves_len xs
        rw [List.take_of_length_le (Nat.le_refl _)]
        repeat (first | (refine rg rfl rfl (fun K hK => ?_); (repeat (first | (refine wo rfl (fun k hk => ?_); simp (disch := omega) only [go_sem, Nat.reduceBEq, Nat.reduceAdd]; refine hk _ _ ?_; clear hk k) | refine wkt rfl ?_)); (try refine wk0 ?_); refine hK _ _ ?_; clear hK K; (try dsimp only [behind, qs, qb])) | ((first | refine AWP_exit ?_ | refine AWP_skip ?_); simp (disch := decide) only [qs, qb, if_true, if_false, reduceIte]) | refine AWP_sq rfl (fun K hK => ?_) | refine ct rfl ?_ | ((first | refine hK _ _ ?_ | (clear hK; refine hK _ _ ?_) | (clear hK; clear hK; refine hK _ _ ?_)); clear hK; (try clear K)))
        refine AWP_rsp [.p 0, .o 0, .o 1, .o 2] rfl rfl (fun K hK => ?_); (repeat (first | (refine wo rfl (fun k hk => ?_); simp (disch := omega) only [go_sem, Nat.reduceBEq, Nat.reduceAdd]; refine hk _ _ ?_; clear hk k) | refine wkt rfl ?_)); (try refine wk0 ?_)
        refine wkp ?_; simp (disch := omega) only [go_sem, Nat.reduceBEq, Nat.reduceAdd]; intro b h2 hs2 hb; (repeat (first | (refine wo rfl (fun k hk => ?_); simp (disch := omega) only [go_sem, Nat.reduceBEq, Nat.reduceAdd]; refine hk _ _ ?_; clear hk k) | refine wkt rfl ?_)); (try refine wk0 ?_)
        have hA : Arr h2 (some ⟨b, 0, none⟩) (2 * xs.length + jk.length) (halves xs) := .of_app hb (halves_lt ha.lt) (by omega) (by omega)
        refine cN rfl rfl rfl rfl (by exact trim_N hA (halves_lt ha.lt) hlen) ?_; rintro v2 h3 s2 hv2; (repeat (first | (refine wo rfl (fun k hk => ?_); simp (disch := omega) only [go_sem, Nat.reduceBEq, Nat.reduceAdd]; refine hk _ _ ?_; clear hk k) | refine wkt rfl ?_)); (try refine wk0 ?_)
        (try (simp (disch := omega) only [go_sem, Nat.reduceBEq, Nat.reduceAdd])); refine hK _ _ ?_; clear hK; (try clear K); (try dsimp only [behind, qs])
        refine AWP_ret ?_; simp (disch := omega) only [go_sem, Nat.reduceBEq, Nat.reduceAdd]
        rwa [val_halves] at hv2
end Go.Q
namespace Go.Q
open Go.Proofs
set_option maxRecDepth 100000
set_option maxHeartbeats 4000000
theorem P16_32 (k : Nat) : 65536 ^ (2 * k) = 4294967296 ^ k := by rw [Nat.pow_mul]
theorem len_16_32 {n k : Nat} : (W 65536 n).length ≤ 2 * k ↔ (W 4294967296 n).length ≤ k := by
  constructor
  · intro h
    refine W_length_le B32 ?_
    rw [← P16_32]
    exact Nat.lt_of_lt_of_le (lt_W_length B16 n) (Nat.pow_le_pow_right (by decide) h)
  · intro h
    refine W_length_le B16 ?_
    rw [P16_32]
    exact Nat.lt_of_lt_of_le (lt_W_length B32 n) (Nat.pow_le_pow_right (by decide) h)
theorem digit_16_32 (n k : Nat) : (W 65536 n).getD (2 * k) 0 + (W 65536 n).getD (2 * k + 1) 0 * 65536 = (W 4294967296 n).getD k 0 := by
  rw [W_getD B16, W_getD B16, W_getD B32, Nat.pow_succ, P16_32, ← Nat.div_div_eq_div_mul]
  omega
theorem N32.of_pub {h : PH} {b : Nat} {ds : List Nat} {junk : List Value} {n L c : Nat} (hb : uw ds ++ junk ≠ [] → h b = some (uw ds ++ junk).toArray) (hW : W 4294967296 n = ds) (hs : ds.length ≤ 2 ^ 46) (hL : ds.length = L) (hc : ds.length ≤ c) : N32 h (.slice (some ⟨b, 0, none⟩) L c) n := by
  refine ⟨_, c, by rw [hW, hL], ?_⟩
  rw [hW]
  have hlt : ∀ x ∈ ds, x < 4294967296 := by rw [← hW]; exact W_lt B32 n
  refine .of_block hb (fun i x hi => ?_) hlt hs hc
  have hil : i < ds.length := (List.getElem?_eq_some_iff.1 hi).1
  rw [List.getElem?_append_left (by simp [uw]; exact hil)]
  simp [uw, hi]
theorem list_spec {h0 h : PH} [Le h0 h] {v : Value} {n : Nat} (hv : N16 h0 v n) (bn : bl n ≤ 2 ^ 40) : Spec mach 126 #[v] h (fun v h' => N32 h' v n) NP := by
  obtain ⟨a, c, xs, rfl, ha, hxs, hm, hx16⟩ := hv.out
  obtain ⟨zs, hzs⟩ : ∃ zs, W 4294967296 n = zs := ⟨_, rfl⟩
  have hs : xs.length ≤ 2 ^ 40 := by have := len16_le_bl n; rw [hxs] at this; omega
  have hzl : zs.length ≤ 2 ^ 40 := by have := len_le_bl n; rw [hzs] at this; omega
  have hlen : ∀ k, xs.length ≤ 2 * k ↔ zs.length ≤ k := fun k => by rw [← hxs, ← hzs]; exact len_16_32
  have hdig : ∀ k, xs.getD (2 * k) 0 + xs.getD (2 * k + 1) 0 * 65536 = zs.getD k 0 := fun k => by rw [← hxs, ← hzs]; exact digit_16_32 n k
  refine Spec.enter (args := [_]) (n := 34) Tryz.func126 rfl (by kernel_rfl) rfl (by simp) [.tmp 2] rfl (fun C _ => ?_)
  repeat (first | (refine wo rfl (fun k hk => ?_); simp (disch := omega) only [go_sem, Nat.reduceBEq, Nat.reduceAdd]; refine hk _ _ ?_; clear hk k) | refine wkt rfl ?_ | refine wk0 ?_ | refine rg rfl rfl (fun K hK => ?_) | ((first | refine AWP_exit ?_ | refine AWP_skip ?_); simp (disch := decide) only [qs, qb, if_true, if_false, reduceIte]) | refine AWP_sq rfl (fun K hK => ?_) | refine ct rfl ?_ | ((try simp (disch := omega) only [go_sem, Nat.reduceBEq, Nat.reduceAdd]); (first | apply hK | (clear hK; apply hK) | (clear hK; clear hK; apply hK)); clear hK; (try clear K); (try dsimp only [behind, qs, qb])))
  refine AWP_loopS (fun x : Nat ⊕ (Nat × List Value) => match x with
      | .inl _ => ⟨[(0, .v (.slice a xs.length c)), (3, .v (.slice none 0 0)), (4, .v (.int .i64 0))], []⟩
      | .inr (k, jk) => ⟨[(0, .v (.slice a xs.length c)), (3, .s 0 0 k (k + jk.length)), (4, .v (.int .i64 (2 * k : Nat)))], [uw (zs.take k) ++ jk]⟩)
    (fun x h' => Le h0 h' ∧ match x with
      | .inl _ => True
      | .inr (k, _) => k ≤ zs.length)
    (fun x => match x with
      | .inl _ => zs.length + 1
      | .inr (k, _) => zs.length - k) (.inl 0) [] ?_ ⟨inferInstance, trivial⟩ ?_
  · simp (disch := omega) only [go_sem, Nat.reduceBEq, Nat.reduceAdd]
  · rintro (r | ⟨i, jk⟩) h1 ⟨hle, hi⟩
    · dsimp only at hi ⊢
      have hl0 := hlen 0
      have hd0 := hdig 0
      simp only [Nat.mul_zero, Nat.zero_add] at hl0 hd0
      by_cases hx0 : xs.length = 0
      · repeat (first | (refine wo rfl (fun k hk => ?_); simp (disch := omega) only [go_sem, Nat.reduceBEq, Nat.reduceAdd]; refine hk _ _ ?_; clear hk k) | refine wkt rfl ?_ | refine wk0 ?_ | refine rg rfl rfl (fun K hK => ?_) | ((first | refine AWP_exit ?_ | refine AWP_skip ?_); simp (disch := decide) only [qs, qb, if_true, if_false, reduceIte]) | refine AWP_sq rfl (fun K hK => ?_) | refine ct rfl ?_ | ((try simp (disch := omega) only [go_sem, Nat.reduceBEq, Nat.reduceAdd]); (first | apply hK | (clear hK; apply hK) | (clear hK; clear hK; apply hK)); clear hK; (try clear K); (try dsimp only [behind, qs, qb])))
        refine AWP_ret ?_; simp (disch := omega) only [go_sem, Nat.reduceBEq, Nat.reduceAdd]
        have : n = 0 := by rw [← hm, List.eq_nil_of_length_eq_zero hx0]; rfl
        rw [this]; exact N32.zero _
      · obtain ⟨ad, rfl, hat⟩ := ha.rd0 h1 (by omega)
        have hx := getD_lt (by decide) hx16 0
        have e1 : zs.take 1 = [zs.getD 0 0] := by rw [take_snoc_getD (k := 0) (by omega)]; rfl
        by_cases hx1 : 1 < xs.length
        · obtain ⟨ad', h', hat'⟩ := ha.rd h1 (i := 1) (by omega)
          obtain rfl : ad = ad' := by simpa using h'
          have hy := getD_lt (by decide) hx16 1
          have hat1 : h1.at (ad.add ((0 : Int) + 1).toNat) = some (.int .u32 (xs.getD 1 0 : Nat)) := hat'
          repeat (first | (refine wo rfl (fun k hk => ?_); simp (disch := omega) only [go_sem, Nat.reduceBEq, Nat.reduceAdd, hat, hat1, hd0]; refine hk _ _ ?_; clear hk k) | refine wkt rfl ?_ | refine wk0 ?_ | refine rg rfl rfl (fun K hK => ?_) | ((first | refine AWP_exit ?_ | refine AWP_skip ?_); simp (disch := decide) only [qs, qb, if_true, if_false, reduceIte]) | refine AWP_sq rfl (fun K hK => ?_) | refine ct rfl ?_ | ((try simp (disch := omega) only [go_sem, Nat.reduceBEq, Nat.reduceAdd]); (first | apply hK | (clear hK; apply hK) | (clear hK; clear hK; apply hK)); clear hK; (try clear K); (try dsimp only [behind, qs, qb])))
          refine wo rfl (fun k hk => ?_); simp (disch := omega) only [go_sem, Nat.reduceBEq, Nat.reduceAdd]
          intro _ junk
          refine hk _ _ ?_; clear hk k
          (repeat (first | (refine wo rfl (fun k hk => ?_); simp (disch := omega) only [go_sem, Nat.reduceBEq, Nat.reduceAdd]; refine hk _ _ ?_; clear hk k) | refine wkt rfl ?_)); (try refine wk0 ?_)
          repeat (first | (refine wo rfl (fun k hk => ?_); simp (disch := omega) only [go_sem, Nat.reduceBEq, Nat.reduceAdd]; refine hk _ _ ?_; clear hk k) | refine wkt rfl ?_ | refine wk0 ?_ | refine rg rfl rfl (fun K hK => ?_) | ((first | refine AWP_exit ?_ | refine AWP_skip ?_); simp (disch := decide) only [qs, qb, if_true, if_false, reduceIte]) | refine AWP_sq rfl (fun K hK => ?_) | refine ct rfl ?_ | ((try simp (disch := omega) only [go_sem, Nat.reduceBEq, Nat.reduceAdd]); (first | apply hK | (clear hK; apply hK) | (clear hK; clear hK; apply hK)); clear hK; (try clear K); (try dsimp only [behind, qs, qb])))
          refine ⟨.inr (1, junk), [1], ?_, ⟨hle, by dsimp only; omega⟩, by dsimp only; omega⟩
          simp (disch := omega) only [go_sem, Nat.reduceBEq, Nat.reduceAdd, e1]
          rfl
        · have hy : xs.getD 1 0 = 0 := getD_none (by omega)
          rw [hy, Nat.zero_mul, Nat.add_zero] at hd0
          repeat (first | (refine wo rfl (fun k hk => ?_); simp (disch := omega) only [go_sem, Nat.reduceBEq, Nat.reduceAdd, hat, hd0]; refine hk _ _ ?_; clear hk k) | refine wkt rfl ?_ | refine wk0 ?_ | refine rg rfl rfl (fun K hK => ?_) | ((first | refine AWP_exit ?_ | refine AWP_skip ?_); simp (disch := decide) only [qs, qb, if_true, if_false, reduceIte]) | refine AWP_sq rfl (fun K hK => ?_) | refine ct rfl ?_ | ((try simp (disch := omega) only [go_sem, Nat.reduceBEq, Nat.reduceAdd]); (first | apply hK | (clear hK; apply hK) | (clear hK; clear hK; apply hK)); clear hK; (try clear K); (try dsimp only [behind, qs, qb])))
          refine wo rfl (fun k hk => ?_); simp (disch := omega) only [go_sem, Nat.reduceBEq, Nat.reduceAdd]
          intro _ junk
          refine hk _ _ ?_; clear hk k
          (repeat (first | (refine wo rfl (fun k hk => ?_); simp (disch := omega) only [go_sem, Nat.reduceBEq, Nat.reduceAdd]; refine hk _ _ ?_; clear hk k) | refine wkt rfl ?_)); (try refine wk0 ?_)
          repeat (first | (refine wo rfl (fun k hk => ?_); simp (disch := omega) only [go_sem, Nat.reduceBEq, Nat.reduceAdd]; refine hk _ _ ?_; clear hk k) | refine wkt rfl ?_ | refine wk0 ?_ | refine rg rfl rfl (fun K hK => ?_) | ((first | refine AWP_exit ?_ | refine AWP_skip ?_); simp (disch := decide) only [qs, qb, if_true, if_false, reduceIte]) | refine AWP_sq rfl (fun K hK => ?_) | refine ct rfl ?_ | ((try simp (disch := omega) only [go_sem, Nat.reduceBEq, Nat.reduceAdd]); (first | apply hK | (clear hK; apply hK) | (clear hK; clear hK; apply hK)); clear hK; (try clear K); (try dsimp only [behind, qs, qb])))
          refine ⟨.inr (1, junk), [1], ?_, ⟨hle, by dsimp only; omega⟩, by dsimp only; omega⟩
          simp (disch := omega) only [go_sem, Nat.reduceBEq, Nat.reduceAdd, e1]
          rfl
    · dsimp only at hi ⊢
      have hli := hlen i
      have hdi := hdig i
      by_cases hil : i < zs.length
      · obtain ⟨ad, rfl, hat⟩ := ha.rd h1 (i := 2 * i) (by omega)
        have hx := getD_lt (by decide) hx16 (2 * i)
        have e1 := take_snoc_getD hil
        have ez : (zs.take i).length = i := by rw [List.length_take, Nat.min_eq_left (by omega)]
        by_cases hx1 : 2 * i + 1 < xs.length
        · obtain ⟨ad', h', hat'⟩ := ha.rd h1 (i := 2 * i + 1) (by omega)
          obtain rfl : ad = ad' := by simpa using h'
          have hy := getD_lt (by decide) hx16 (2 * i + 1)
          simp (disch := omega) only [go_sem, Nat.reduceBEq, Nat.reduceAdd] at hat'
          repeat (first | (refine wo rfl (fun k hk => ?_); simp (disch := omega) only [go_sem, Nat.reduceBEq, Nat.reduceAdd, hat, hat', hdi]; refine hk _ _ ?_; clear hk k) | refine wkt rfl ?_ | refine wk0 ?_ | refine rg rfl rfl (fun K hK => ?_) | ((first | refine AWP_exit ?_ | refine AWP_skip ?_); simp (disch := decide) only [qs, qb, if_true, if_false, reduceIte]) | refine AWP_sq rfl (fun K hK => ?_) | refine ct rfl ?_ | ((try simp (disch := omega) only [go_sem, Nat.reduceBEq, Nat.reduceAdd]); (first | apply hK | (clear hK; apply hK) | (clear hK; clear hK; apply hK)); clear hK; (try clear K); (try dsimp only [behind, qs, qb])))
          refine wo rfl (fun k hk => ?_); simp (disch := omega) only [go_sem, Nat.reduceBEq, Nat.reduceAdd]
          intro junk
          refine hk _ _ ?_; clear hk k
          (repeat (first | (refine wo rfl (fun k hk => ?_); simp (disch := omega) only [go_sem, Nat.reduceBEq, Nat.reduceAdd]; refine hk _ _ ?_; clear hk k) | refine wkt rfl ?_)); (try refine wk0 ?_)
          repeat (first | (refine wo rfl (fun k hk => ?_); simp (disch := omega) only [go_sem, Nat.reduceBEq, Nat.reduceAdd]; refine hk _ _ ?_; clear hk k) | refine wkt rfl ?_ | refine wk0 ?_ | refine rg rfl rfl (fun K hK => ?_) | ((first | refine AWP_exit ?_ | refine AWP_skip ?_); simp (disch := decide) only [qs, qb, if_true, if_false, reduceIte]) | refine AWP_sq rfl (fun K hK => ?_) | refine ct rfl ?_ | ((try simp (disch := omega) only [go_sem, Nat.reduceBEq, Nat.reduceAdd]); (first | apply hK | (clear hK; apply hK) | (clear hK; clear hK; apply hK)); clear hK; (try clear K); (try dsimp only [behind, qs, qb])))
          refine ⟨.inr (i + 1, junk), [2], ?_, ⟨hle, by dsimp only; omega⟩, by dsimp only; omega⟩
          simp (disch := omega) only [go_sem, Nat.reduceBEq, Nat.reduceAdd, e1, uw_snoc, Nat.mul_add]
        · have hy : xs.getD (2 * i + 1) 0 = 0 := getD_none (by omega)
          rw [hy, Nat.zero_mul, Nat.add_zero] at hdi
          repeat (first | (refine wo rfl (fun k hk => ?_); simp (disch := omega) only [go_sem, Nat.reduceBEq, Nat.reduceAdd, hat, hdi]; refine hk _ _ ?_; clear hk k) | refine wkt rfl ?_ | refine wk0 ?_ | refine rg rfl rfl (fun K hK => ?_) | ((first | refine AWP_exit ?_ | refine AWP_skip ?_); simp (disch := decide) only [qs, qb, if_true, if_false, reduceIte]) | refine AWP_sq rfl (fun K hK => ?_) | refine ct rfl ?_ | ((try simp (disch := omega) only [go_sem, Nat.reduceBEq, Nat.reduceAdd]); (first | apply hK | (clear hK; apply hK) | (clear hK; clear hK; apply hK)); clear hK; (try clear K); (try dsimp only [behind, qs, qb])))
          refine wo rfl (fun k hk => ?_); simp (disch := omega) only [go_sem, Nat.reduceBEq, Nat.reduceAdd]
          intro junk
          refine hk _ _ ?_; clear hk k
          (repeat (first | (refine wo rfl (fun k hk => ?_); simp (disch := omega) only [go_sem, Nat.reduceBEq, Nat.reduceAdd]; refine hk _ _ ?_; clear hk k) | refine wkt rfl ?_)); (try refine wk0 ?_)
          repeat (first | (refine wo rfl (fun k hk => ?_); simp (disch := omega) only [go_sem, Nat.reduceBEq, Nat.reduceAdd]; refine hk _ _ ?_; clear hk k) | refine wkt rfl ?_ | refine wk0 ?_ | refine rg rfl rfl (fun K hK => ?_) | ((first | refine AWP_exit ?_ | refine AWP_skip ?_); simp (disch := decide) only [qs, qb, if_true, if_false, reduceIte]) | refine AWP_sq rfl (fun K hK => ?_) | refine ct rfl ?_ | ((try simp (disch := omega) only [go_sem, Nat.reduceBEq, Nat.reduceAdd]); (first | apply hK | (clear hK; apply hK) | (clear hK; clear hK; apply hK)); clear hK; (try clear K); (try dsimp only [behind, qs, qb])))
          refine ⟨.inr (i + 1, junk), [2], ?_, ⟨hle, by dsimp only; omega⟩, by dsimp only; omega⟩
          simp (disch := omega) only [go_sem, Nat.reduceBEq, Nat.reduceAdd, e1, uw_snoc, Nat.mul_add]
      · obtain rfl : i = zs.length := by omega
        rw [List.take_of_length_le (Nat.le_refl _)]
        repeat (first | (refine rg rfl rfl (fun K hK => ?_); (repeat (first | (refine wo rfl (fun k hk => ?_); simp (disch := omega) only [go_sem, Nat.reduceBEq, Nat.reduceAdd]; refine hk _ _ ?_; clear hk k) | refine wkt rfl ?_)); (try refine wk0 ?_); refine hK _ _ ?_; clear hK K; (try dsimp only [behind, qs, qb])) | ((first | refine AWP_exit ?_ | refine AWP_skip ?_); simp (disch := decide) only [qs, qb, if_true, if_false, reduceIte]) | refine AWP_sq rfl (fun K hK => ?_) | refine ct rfl ?_ | ((first | refine hK _ _ ?_ | (clear hK; refine hK _ _ ?_) | (clear hK; clear hK; refine hK _ _ ?_)); clear hK; (try clear K)))
        refine AWP_pub 0 ?_
        simp (disch := omega) only [go_sem, Nat.reduceBEq, Nat.reduceAdd]
        intro b h2 hs2 hb
        refine AWP_ret ?_; simp (disch := omega) only [go_sem, Nat.reduceBEq, Nat.reduceAdd]
        exact N32.of_pub hb hzs (by omega) rfl (by omega)
end Go.Q
namespace Go.Q
open Go.Proofs
set_option maxRecDepth 100000
set_option maxHeartbeats 4000000
theorem bl_dz (d : Nat) : bl (dz d) ≤ bl d + 1 := by
  unfold dz; split
  · subst d; decide
  · omega
theorem words_N {h0 h : PH} [Le h0 h] {a : Option Addr} {c n L : Nat} {xs : List Nat} (ha : Arr h0 a c xs) (hl : xs.length = L) (hs : xs.length ≤ 2 ^ 40) (hn : val 4294967296 xs = n) :
    Spec mach 36 #[.slice a L c] h (fun v h' => N16 h' v n) NP := by subst hl hn; exact words_spec ha hs
theorem val_bl {xs : List Nat} (hlt : ∀ x ∈ xs, x < 4294967296) : bl (val 4294967296 xs) ≤ 32 * xs.length := by
  rw [bl_le, B_pow]; exact val_lt (by decide) xs hlt
theorem QOf_spec {h0 h : PH} [Le h0 h] {v : Value} {neg : Bool} {n d : Nat} (hv : Rw h0 v neg n d) :
    Spec mach 13 #[v] h (fun v h' => Qr h' v (qof neg n d)) NP := by
  obtain ⟨a, c, xs, a', c', ys, rfl, ha, ha', hn, hd, hsx, hsy⟩ := hv
  have bn : bl n ≤ 2 ^ 37 := by have := val_bl ha.lt; rw [hn] at this; omega
  have bd : bl d ≤ 2 ^ 37 := by have := val_bl ha'.lt; rw [hd] at this; omega
  have bz := bl_dz d
  refine Spec.enter (args := [_]) (n := 18) Tryz.func13 rfl (by kernel_rfl) rfl (by simp) [.cell 2 33] rfl (fun C _ => ?_)
  repeat (first | (refine wo rfl (fun k hk => ?_); simp (disch := omega) only [go_sem, Nat.reduceBEq, Nat.reduceAdd]; refine hk _ _ ?_; clear hk k) | refine wkt rfl ?_ | refine wk0 ?_ | refine rg rfl rfl (fun K hK => ?_) | refine rd [.o 0, .o 1, .o 2, .o 3, .o 5, .o 4, .o 6, .o 7] rfl (by decide +kernel) rfl (fun K hK => ?_) | ((first | refine AWP_exit ?_ | refine AWP_skip ?_); simp (disch := decide) only [qs, qb, if_true, if_false, reduceIte]) | refine AWP_sq rfl (fun K hK => ?_) | refine ct rfl ?_ | ((try simp (disch := omega) only [go_sem, Nat.reduceBEq, Nat.reduceAdd]); (first | apply hK | (clear hK; apply hK) | (clear hK; clear hK; apply hK)); clear hK; (try clear K); (try dsimp only [behind, qs, qb])))
  refine cN rfl rfl rfl rfl (by exact words_N ha' rfl (by omega) hd) ?_; rintro v1 h1 _ hv1; obtain ⟨v1, v1_l, v1_c, rfl, hv1⟩ := hv1.sl; (repeat (first | (refine wo rfl (fun k hk => ?_); simp (disch := omega) only [go_sem, Nat.reduceBEq, Nat.reduceAdd]; refine hk _ _ ?_; clear hk k) | refine wkt rfl ?_)); (try refine wk0 ?_)
  (try (simp (disch := omega) only [go_sem, Nat.reduceBEq, Nat.reduceAdd])); refine hK _ _ ?_; clear hK; (try clear K); (try dsimp only [behind, qs])
  have l1 := hv1.len0
  refine AWP_sqs (fun K hK => ?_)
  have rest : ∀ (va : Option Addr) (vl vc : Nat) (h' : PH) (S : AS), Le h0 h' → N16 h' (.slice va vl vc) (dz d) → S.le ⟨[(1, .p 0 0), (2, .p 1 0), (3, .v (.slice va vl vc))], [[.bool neg, .slice a xs.length c, .slice a' ys.length c'], [.bool false, .slice none 0 0, .slice none 0 0]]⟩ → K S h' := by
    intro va vl vc h' S _ hz hS
    refine hK _ _ (AWP_le _ hS ?_); clear hK K
    (first | refine rg rfl rfl (fun K hK => ?_) | refine rd [.o 0, .o 1, .o 2, .o 3, .o 5, .o 4, .o 6, .o 7] rfl (by decide +kernel) rfl (fun K hK => ?_)); (repeat (first | (refine wo rfl (fun k hk => ?_); simp (disch := omega) only [go_sem, Nat.reduceBEq, Nat.reduceAdd]; refine hk _ _ ?_; clear hk k) | refine wkt rfl ?_)); (try refine wk0 ?_)
    refine cN rfl rfl rfl rfl (by exact words_N ha rfl (by omega) hn) ?_; rintro v2 h2 _ hv2; obtain ⟨v2, v2_l, v2_c, rfl, hv2⟩ := hv2.sl; (repeat (first | (refine wo rfl (fun k hk => ?_); simp (disch := omega) only [go_sem, Nat.reduceBEq, Nat.reduceAdd]; refine hk _ _ ?_; clear hk k) | refine wkt rfl ?_)); (try refine wk0 ?_)
    refine cN rfl rfl rfl rfl (by exact Make_spec (neg := neg) hv2 (hz.to (h' := h2)) (by omega) (by omega)) ?_; rintro v3 h3 _ hv3; obtain ⟨v3_0, v3_1, v3_2, v3_3, v3_4, v3_5, v3_6, rfl, hv3⟩ := hv3.sa; (repeat (first | (refine wo rfl (fun k hk => ?_); simp (disch := omega) only [go_sem, Nat.reduceBEq, Nat.reduceAdd]; refine hk _ _ ?_; clear hk k) | refine wkt rfl ?_)); (try refine wk0 ?_)
    (try (simp (disch := omega) only [go_sem, Nat.reduceBEq, Nat.reduceAdd])); refine hK _ _ ?_; clear hK; (try clear K); (try dsimp only [behind, qs])
    refine AWP_ret ?_; simp (disch := omega) only [go_sem, Nat.reduceBEq, Nat.reduceAdd]
    exact hv3
  by_cases hd0 : d = 0
  · refine AWP_rs rfl (fun K hK => ?_); (repeat (first | (refine wo rfl (fun k hk => ?_); simp (disch := omega) only [go_sem, Nat.reduceBEq, Nat.reduceAdd]; refine hk _ _ ?_; clear hk k) | refine wkt rfl ?_)); (try refine wk0 ?_); (first | refine hK _ _ ?_ | (clear hK; refine hK _ _ ?_) | (clear hK; clear hK; refine hK _ _ ?_)); clear hK; (try clear K)
    refine AWP_condT rfl ?_
    (first | refine rg rfl rfl (fun K hK => ?_) | refine rd [.o 0, .o 1, .o 2, .o 3, .o 5, .o 4, .o 6, .o 7] rfl (by decide +kernel) rfl (fun K hK => ?_)); (repeat (first | (refine wo rfl (fun k hk => ?_); simp (disch := omega) only [go_sem, Nat.reduceBEq, Nat.reduceAdd]; refine hk _ _ ?_; clear hk k) | refine wkt rfl ?_)); (try refine wk0 ?_)
    refine cN rfl rfl rfl rfl (by exact NatOf_spec (n := 1) (by decide)) ?_; rintro w1 h2 _ hw1; obtain ⟨w1, w1_l, w1_c, rfl, hw1⟩ := hw1.sl; (repeat (first | (refine wo rfl (fun k hk => ?_); simp (disch := omega) only [go_sem, Nat.reduceBEq, Nat.reduceAdd]; refine hk _ _ ?_; clear hk k) | refine wkt rfl ?_)); (try refine wk0 ?_)
    (try (simp (disch := omega) only [go_sem, Nat.reduceBEq, Nat.reduceAdd])); refine hK _ _ ?_; clear hK; (try clear K); (try dsimp only [behind, qs])
    refine rest _ _ _ _ _ inferInstance (by rw [hd0]; exact hw1) ?_
    simp (disch := omega) only [go_sem, Nat.reduceBEq, Nat.reduceAdd]
  · refine AWP_rs rfl (fun K hK => ?_); (repeat (first | (refine wo rfl (fun k hk => ?_); simp (disch := omega) only [go_sem, Nat.reduceBEq, Nat.reduceAdd]; refine hk _ _ ?_; clear hk k) | refine wkt rfl ?_)); (try refine wk0 ?_); (first | refine hK _ _ ?_ | (clear hK; refine hK _ _ ?_) | (clear hK; clear hK; refine hK _ _ ?_)); clear hK; (try clear K)
    refine AWP_condF rfl ?_
    refine AWP_skip ?_; simp only [qs, qb, if_true, if_false, reduceIte]
    refine rest _ _ _ _ _ inferInstance (by rw [dz_self hd0]; exact hv1) ?_
    simp (disch := omega) only [go_sem, Nat.reduceBEq, Nat.reduceAdd]
theorem QRat_spec {h0 h : PH} [Le h0 h] {v : Value} {x : Rat} (hx : Qr h0 v x) (bx : sz x ≤ 2 ^ 36) : Spec mach 73 #[v] h (fun v h' => Cn h' v x) NP := by
  obtain ⟨na, nl, nc, da, dl, dc, e, rfl, hn, hd, he⟩ := hx.sl
  have b1 := sz_num x; have b2 := sz_den x
  have b3 : bl e ≤ sz x := by
    rcases Nat.eq_zero_or_pos e with h | h
    · subst h; have : bl 0 = 0 := by decide
      omega
    · rw [dz_self (by omega)] at he; rw [he]; exact b2
  have ln := hn.len0
  obtain ⟨neg, en⟩ : ∃ b, decide (x.num < 0) = b := ⟨_, rfl⟩
  rw [en] at hx ⊢
  have hnn : neg = true → 0 < nl := by
    intro e1
    rw [e1, decide_eq_true_eq] at en
    rcases Nat.eq_zero_or_pos nl with h | h
    · have := ln.1 h; omega
    · exact h
  refine Spec.enter (args := [_]) (n := 24) Tryz.func73 rfl (by kernel_rfl) rfl (by simp) [.cell 2 24] rfl (fun C _ => ?_)
  repeat (first | (refine rg rfl rfl (fun K hK => ?_); (repeat (first | (refine wo rfl (fun k hk => ?_); simp (disch := omega) only [go_sem, Nat.reduceBEq, Nat.reduceAdd]; refine hk _ _ ?_; clear hk k) | refine wkt rfl ?_)); (try refine wk0 ?_); refine hK _ _ ?_; clear hK K; (try dsimp only [behind, qs, qb])) | ((first | refine AWP_exit ?_ | refine AWP_skip ?_); simp (disch := decide) only [qs, qb, if_true, if_false, reduceIte]) | refine AWP_sq rfl (fun K hK => ?_) | refine ct rfl ?_ | ((first | refine hK _ _ ?_ | (clear hK; refine hK _ _ ?_) | (clear hK; clear hK; refine hK _ _ ?_)); clear hK; (try clear K)))
  (first | refine AWP_t (.seg [.o 0, .o 1, .o 2, .o 3, .o 4, .o 5, .o 6, .o 7, .o 8, .o 9] (.alt 10 (.seg [.o 11] (.alt 12 (.alt 13 .done .no) .no)) (.alt 12 (.alt 10 (.seg [.o 11] (.alt 13 .done .no)) .no) .no))) (by decide +kernel) rfl (fun K hK => ?_) | refine AWP_tk (.seg [.o 0, .o 1, .o 2, .o 3, .o 4, .o 5, .o 6, .o 7, .o 8, .o 9] (.alt 10 (.seg [.o 11] (.alt 12 (.alt 13 .done .no) .no)) (.alt 12 (.alt 10 (.seg [.o 11] (.alt 13 .done .no)) .no) .no))) (by decide +kernel) rfl (fun K hK => ?_))
  have rest : ∀ (va : Option Addr) (vl vc : Nat) (h' : PH) (S : AS), Le h0 h' → N32 h' (.slice va vl vc) x.num.natAbs → S.le ⟨[(1, .p 0 0), (2, .p 1 0), (3, .p 2 0)], [[.bool neg, .slice na nl nc, .slice da dl dc], [.bool false, .slice none 0 0, .slice none 0 0], [.bool neg, .slice va vl vc, .slice none 0 0]]⟩ → K S h' := by
    intro va vl vc h' S _ hz hS
    refine hK _ _ (AWP_le _ hS ?_); clear hK K
    refine AWP_sqs (fun K hK => ?_)
    refine rg rfl rfl (fun K hK => ?_); (repeat (first | (refine wo rfl (fun k hk => ?_); simp (disch := omega) only [go_sem, Nat.reduceBEq, Nat.reduceAdd]; refine hk _ _ ?_; clear hk k) | refine wkt rfl ?_ | with_reducible refine wk0 ?_ | with_reducible refine wt_seg ?_ | with_reducible refine wt_alt ?_ wt_no | with_reducible refine wt_done ?_))
    refine cN rfl rfl rfl rfl (by exact whole_spec hx) ?_; rintro v3 h3 s3 rfl; (repeat (first | (refine wo rfl (fun k hk => ?_); simp (disch := omega) only [go_sem, Nat.reduceBEq, Nat.reduceAdd]; refine hk _ _ ?_; clear hk k) | refine wkt rfl ?_ | with_reducible refine wk0 ?_ | with_reducible refine wt_seg ?_ | with_reducible refine wt_alt ?_ wt_no | with_reducible refine wt_done ?_))
    by_cases h1 : x.den = 1
    · ((try (simp (disch := omega) only [go_sem, Nat.reduceBEq, Nat.reduceAdd])); refine hK _ _ ?_; clear hK; (try clear K); (try dsimp only [behind, qs])); (repeat (first | (refine rg rfl rfl (fun K hK => ?_); (repeat (first | (refine wo rfl (fun k hk => ?_); simp (disch := omega) only [go_sem, Nat.reduceBEq, Nat.reduceAdd]; refine hk _ _ ?_; clear hk k) | refine wkt rfl ?_)); (try refine wk0 ?_); refine hK _ _ ?_; clear hK K; (try dsimp only [behind, qs, qb])) | ((first | refine AWP_exit ?_ | refine AWP_skip ?_); simp (disch := decide) only [qs, qb, if_true, if_false, reduceIte]) | refine AWP_sq rfl (fun K hK => ?_) | refine ct rfl ?_ | ((first | refine hK _ _ ?_ | (clear hK; refine hK _ _ ?_) | (clear hK; clear hK; refine hK _ _ ?_)); clear hK; (try clear K))))
      refine AWP_ret ?_; simp (disch := omega) only [go_sem, Nat.reduceBEq, Nat.reduceAdd]
      exact ⟨_, _, by rw [en], hz.to, by rw [if_pos h1]; exact N32.zero _⟩
    · have e1 : e = x.den := by
        rw [← he] at h1 ⊢
        unfold dz at h1 ⊢
        split at h1
        · exact (h1 rfl).elim
        · rename_i h2; rw [if_neg h2]
      rw [e1] at hd b3
      ((try (simp (disch := omega) only [go_sem, Nat.reduceBEq, Nat.reduceAdd])); refine hK _ _ ?_; clear hK; (try clear K); (try dsimp only [behind, qs])); (repeat (first | (refine rg rfl rfl (fun K hK => ?_); (repeat (first | (refine wo rfl (fun k hk => ?_); simp (disch := omega) only [go_sem, Nat.reduceBEq, Nat.reduceAdd]; refine hk _ _ ?_; clear hk k) | refine wkt rfl ?_)); (try refine wk0 ?_); refine hK _ _ ?_; clear hK K; (try dsimp only [behind, qs, qb])) | ((first | refine AWP_exit ?_ | refine AWP_skip ?_); simp (disch := decide) only [qs, qb, if_true, if_false, reduceIte]) | refine AWP_sq rfl (fun K hK => ?_) | refine ct rfl ?_ | ((first | refine hK _ _ ?_ | (clear hK; refine hK _ _ ?_) | (clear hK; clear hK; refine hK _ _ ?_)); clear hK; (try clear K)))); (refine rg rfl rfl (fun K hK => ?_); (repeat (first | (refine wo rfl (fun k hk => ?_); simp (disch := omega) only [go_sem, Nat.reduceBEq, Nat.reduceAdd]; refine hk _ _ ?_; clear hk k) | refine wkt rfl ?_ | with_reducible refine wk0 ?_ | with_reducible refine wt_seg ?_ | with_reducible refine wt_alt ?_ wt_no | with_reducible refine wt_done ?_)))
      refine cN rfl rfl rfl rfl (by exact list_spec hd (by omega)) ?_; rintro v4 h4 _ hv4; obtain ⟨v4, v4_l, v4_c, rfl, hv4⟩ := hv4.sl; (repeat (first | (refine wo rfl (fun k hk => ?_); simp (disch := omega) only [go_sem, Nat.reduceBEq, Nat.reduceAdd]; refine hk _ _ ?_; clear hk k) | refine wkt rfl ?_ | with_reducible refine wk0 ?_ | with_reducible refine wt_seg ?_ | with_reducible refine wt_alt ?_ wt_no | with_reducible refine wt_done ?_))
      ((try (simp (disch := omega) only [go_sem, Nat.reduceBEq, Nat.reduceAdd])); refine hK _ _ ?_; clear hK; (try clear K); (try dsimp only [behind, qs])); (repeat (first | (refine rg rfl rfl (fun K hK => ?_); (repeat (first | (refine wo rfl (fun k hk => ?_); simp (disch := omega) only [go_sem, Nat.reduceBEq, Nat.reduceAdd]; refine hk _ _ ?_; clear hk k) | refine wkt rfl ?_)); (try refine wk0 ?_); refine hK _ _ ?_; clear hK K; (try dsimp only [behind, qs, qb])) | ((first | refine AWP_exit ?_ | refine AWP_skip ?_); simp (disch := decide) only [qs, qb, if_true, if_false, reduceIte]) | refine AWP_sq rfl (fun K hK => ?_) | refine ct rfl ?_ | ((first | refine hK _ _ ?_ | (clear hK; refine hK _ _ ?_) | (clear hK; clear hK; refine hK _ _ ?_)); clear hK; (try clear K))))
      refine AWP_ret ?_; simp (disch := omega) only [go_sem, Nat.reduceBEq, Nat.reduceAdd]
      exact ⟨_, _, by rw [en], hz.to, by rw [if_neg h1]; exact hv4⟩
  cases neg with
  | true =>
    have hnn' := hnn rfl
    (repeat (first | (refine wo rfl (fun k hk => ?_); simp (disch := omega) only [go_sem, Nat.reduceBEq, Nat.reduceAdd]; refine hk _ _ ?_; clear hk k) | refine wkt rfl ?_ | with_reducible refine wk0 ?_ | with_reducible refine wt_seg ?_ | with_reducible refine wt_alt ?_ wt_no | with_reducible refine wt_done ?_))
    refine wt_alt ?_ (wt_alt ?_ wt_no)
    · refine cN rfl rfl rfl rfl (by exact list_spec hn (by omega)) ?_; rintro v2 h2 _ hv2; obtain ⟨v2, v2_l, v2_c, rfl, hv2⟩ := hv2.sl; (repeat (first | (refine wo rfl (fun k hk => ?_); simp (disch := omega) only [go_sem, Nat.reduceBEq, Nat.reduceAdd]; refine hk _ _ ?_; clear hk k) | refine wkt rfl ?_ | with_reducible refine wk0 ?_ | with_reducible refine wt_seg ?_ | with_reducible refine wt_alt ?_ wt_no | with_reducible refine wt_done ?_))
      refine rest _ _ _ _ _ inferInstance hv2 ?_
      simp (disch := omega) only [go_sem, Nat.reduceBEq, Nat.reduceAdd]
    · (repeat (first | (refine wo rfl (fun k hk => ?_); simp (disch := omega) only [go_sem, Nat.reduceBEq, Nat.reduceAdd]; refine hk _ _ ?_; clear hk k) | refine wkt rfl ?_ | with_reducible refine wk0 ?_ | with_reducible refine wt_seg ?_ | with_reducible refine wt_alt ?_ wt_no | with_reducible refine wt_done ?_))
      refine cN rfl rfl rfl rfl (by exact list_spec hn (by omega)) ?_; rintro v2 h2 _ hv2; obtain ⟨v2, v2_l, v2_c, rfl, hv2⟩ := hv2.sl; (repeat (first | (refine wo rfl (fun k hk => ?_); simp (disch := omega) only [go_sem, Nat.reduceBEq, Nat.reduceAdd]; refine hk _ _ ?_; clear hk k) | refine wkt rfl ?_ | with_reducible refine wk0 ?_ | with_reducible refine wt_seg ?_ | with_reducible refine wt_alt ?_ wt_no | with_reducible refine wt_done ?_))
      refine rest _ _ _ _ _ inferInstance hv2 ?_
      simp (disch := omega) only [go_sem, Nat.reduceBEq, Nat.reduceAdd]
  | false =>
    (repeat (first | (refine wo rfl (fun k hk => ?_); simp (disch := omega) only [go_sem, Nat.reduceBEq, Nat.reduceAdd]; refine hk _ _ ?_; clear hk k) | refine wkt rfl ?_ | with_reducible refine wk0 ?_ | with_reducible refine wt_seg ?_ | with_reducible refine wt_alt ?_ wt_no | with_reducible refine wt_done ?_))
    refine wt_alt ?_ (wt_alt ?_ wt_no)
    · refine cN rfl rfl rfl rfl (by exact list_spec hn (by omega)) ?_; rintro v2 h2 _ hv2; obtain ⟨v2, v2_l, v2_c, rfl, hv2⟩ := hv2.sl; (repeat (first | (refine wo rfl (fun k hk => ?_); simp (disch := omega) only [go_sem, Nat.reduceBEq, Nat.reduceAdd]; refine hk _ _ ?_; clear hk k) | refine wkt rfl ?_ | with_reducible refine wk0 ?_ | with_reducible refine wt_seg ?_ | with_reducible refine wt_alt ?_ wt_no | with_reducible refine wt_done ?_))
      refine rest _ _ _ _ _ inferInstance hv2 ?_
      simp (disch := omega) only [go_sem, Nat.reduceBEq, Nat.reduceAdd]
    · (repeat (first | (refine wo rfl (fun k hk => ?_); simp (disch := omega) only [go_sem, Nat.reduceBEq, Nat.reduceAdd]; refine hk _ _ ?_; clear hk k) | refine wkt rfl ?_ | with_reducible refine wk0 ?_ | with_reducible refine wt_seg ?_ | with_reducible refine wt_alt ?_ wt_no | with_reducible refine wt_done ?_))
      refine cN rfl rfl rfl rfl (by exact list_spec hn (by omega)) ?_; rintro v2 h2 _ hv2; obtain ⟨v2, v2_l, v2_c, rfl, hv2⟩ := hv2.sl; (repeat (first | (refine wo rfl (fun k hk => ?_); simp (disch := omega) only [go_sem, Nat.reduceBEq, Nat.reduceAdd]; refine hk _ _ ?_; clear hk k) | refine wkt rfl ?_ | with_reducible refine wk0 ?_ | with_reducible refine wt_seg ?_ | with_reducible refine wt_alt ?_ wt_no | with_reducible refine wt_done ?_))
      refine rest _ _ _ _ _ inferInstance hv2 ?_
      simp (disch := omega) only [go_sem, Nat.reduceBEq, Nat.reduceAdd]
end Go.Q
namespace Go.Q
open Go.Proofs
set_option maxRecDepth 100000
set_option maxHeartbeats 4000000
theorem W16_len_bl {n k : Nat} : (W 65536 n).length ≤ k ↔ bl n ≤ 16 * k := by
  rw [bl_le, B16_pow]
  refine ⟨fun h => ?_, fun h => W_length_le (by decide) h⟩
  exact Nat.lt_of_lt_of_le (lt_W_length (by decide) n) (Nat.pow_le_pow_right (by decide) h)
theorem N16.len {h : PH} {a : Option Addr} {l c n k : Nat} (r : N16 h (.slice a l c) n) : l ≤ k ↔ bl n ≤ 16 * k := by
  obtain ⟨a', c', h1, _⟩ := r
  cases h1
  exact W16_len_bl
theorem bl_e {e d : Nat} (he : dz e = d) : (bl e ≤ 2048 ↔ bl d ≤ 2048) ∧ bl e ≤ bl d := by
  unfold dz at he
  split at he
  · subst he; rename_i h; subst h; decide
  · subst he; exact ⟨Iff.rfl, Nat.le_refl _⟩
theorem Over_spec {h0 h : PH} [Le h0 h] {v : Value} {x : Rat} (hx : Qr h0 v x) : Spec mach 37 #[v] h (fun v _ => v = .bool (decide (2048 < sz x))) NP := by
  obtain ⟨na, nl, nc, da, dl, dc, e, rfl, hn, hd, he⟩ := hx.sl
  have l1 := hn.len (k := 128)
  have l2 := hd.len (k := 128)
  have he' := bl_e he
  have hsz : sz x = max (bl x.num.natAbs) (bl x.den) := rfl
  refine Spec.go [] Tryz.func37 rfl rfl (by kernel_rfl) fun C _ => ?_
  try simp (maxSteps := 999999) (disch := omega) only [go_sem, Nat.reduceBEq, Nat.reduceAdd]
  by_cases h1 : nl ≤ 128
  · by_cases h2 : dl ≤ 128
    · have e1 : ¬ 2048 < sz x := by omega
      try simp (maxSteps := 999999) (disch := omega) only [go_sem, Nat.reduceBEq, Nat.reduceAdd]
      all_goals simp [e1]
    · have e1 : 2048 < sz x := by omega
      try simp (maxSteps := 999999) (disch := omega) only [go_sem, Nat.reduceBEq, Nat.reduceAdd]
      all_goals simp [e1]
  · have e1 : 2048 < sz x := by omega
    try simp (maxSteps := 999999) (disch := omega) only [go_sem, Nat.reduceBEq, Nat.reduceAdd]
    all_goals simp [e1]
theorem Large_spec {h0 h : PH} [Le h0 h] {v : Value} {neg : Bool} {n d : Nat} (hv : Rw h0 v neg n d) : Spec mach 11 #[v] h (fun r _ => r = .bool (decide (lg neg n d))) NP := by
  have hv0 := hv
  obtain ⟨a, c, xs, a', c', ys, rfl, ha, ha', hn, hd, hsx, hsy⟩ := hv
  refine Spec.go [] Tryz.func11 rfl rfl (by kernel_rfl) fun C _ => ?_
  try simp (maxSteps := 999999) (disch := omega) only [go_sem, Nat.reduceBEq, Nat.reduceAdd]
  by_cases hb1 : bl n ≤ 8192
  · by_cases hb2 : bl d ≤ 8192
    · try simp (maxSteps := 999999) (disch := omega) only [go_sem, Nat.reduceBEq, Nat.reduceAdd]
      refine caN (by exact words_N ha rfl (by omega) hn) ?_; rintro v1 h1 s1 hv1; obtain ⟨va1, vl1, vc1, rfl, hv1⟩ := hv1.sl; have e1 : vl1 ≤ 512 := (hv1.len (k := 512)).2 (by omega)
      try simp (maxSteps := 999999) (disch := omega) only [go_sem, Nat.reduceBEq, Nat.reduceAdd]
      refine caN (by exact words_N ha' rfl (by omega) hd) ?_; rintro v2 h2 s2 hv2; obtain ⟨va2, vl2, vc2, rfl, hv2⟩ := hv2.sl; have e2 : vl2 ≤ 512 := (hv2.len (k := 512)).2 (by omega)
      try simp (maxSteps := 999999) (disch := omega) only [go_sem, Nat.reduceBEq, Nat.reduceAdd]
      refine caN (by exact QOf_spec hv0) ?_; rintro _ h3 _ hv3; obtain ⟨_, _, _, _, _, _, _, rfl, hv3⟩ := hv3.sa
      try simp (maxSteps := 999999) (disch := omega) only [go_sem, Nat.reduceBEq, Nat.reduceAdd]
      refine caN (by exact Over_spec hv3) ?_; rintro v4 h4 s4 rfl
      try simp (maxSteps := 999999) (disch := omega) only [go_sem, Nat.reduceBEq, Nat.reduceAdd]
      have : lg neg n d ↔ 2048 < sz (qof neg n d) := by unfold lg; omega
      simp [this]
    · have e3 : lg neg n d := by unfold lg; omega
      try simp (maxSteps := 999999) (disch := omega) only [go_sem, Nat.reduceBEq, Nat.reduceAdd]
      refine caN (by exact words_N ha rfl (by omega) hn) ?_; rintro v1 h1 s1 hv1; obtain ⟨va1, vl1, vc1, rfl, hv1⟩ := hv1.sl; have e1 : vl1 ≤ 512 := (hv1.len (k := 512)).2 (by omega)
      try simp (maxSteps := 999999) (disch := omega) only [go_sem, Nat.reduceBEq, Nat.reduceAdd]
      refine caN (by exact words_N ha' rfl (by omega) hd) ?_; rintro v2 h2 s2 hv2; obtain ⟨va2, vl2, vc2, rfl, hv2⟩ := hv2.sl; have e2 : ¬ vl2 ≤ 512 := fun e => absurd ((hv2.len (k := 512)).1 e) (by omega)
      try simp (maxSteps := 999999) (disch := omega) only [go_sem, Nat.reduceBEq, Nat.reduceAdd]
      all_goals simp [e3]
  · have e3 : lg neg n d := by unfold lg; omega
    try simp (maxSteps := 999999) (disch := omega) only [go_sem, Nat.reduceBEq, Nat.reduceAdd]
    refine caN (by exact words_N ha rfl (by omega) hn) ?_; rintro v1 h1 s1 hv1; obtain ⟨va1, vl1, vc1, rfl, hv1⟩ := hv1.sl; have e1 : ¬ vl1 ≤ 512 := fun e => absurd ((hv1.len (k := 512)).1 e) (by omega)
    try simp (maxSteps := 999999) (disch := omega) only [go_sem, Nat.reduceBEq, Nat.reduceAdd]
    all_goals simp [e3]
theorem Sgn_spec {h0 h : PH} [Le h0 h] {v : Value} {x : Rat} (hx : Qr h0 v x) : Spec mach 74 #[v] h (fun v _ => v = .int .i64 (sgn3 x)) NP := by
  obtain ⟨na, nl, nc, da, dl, dc, e, rfl, hn, hd, he⟩ := hx.sl
  have ln := hn.len0
  refine Spec.go [] Tryz.func74 rfl rfl (by kernel_rfl) fun C _ => ?_
  try simp (maxSteps := 999999) (disch := omega) only [go_sem, Nat.reduceBEq, Nat.reduceAdd]
  by_cases h0 : x.num = 0
  · have e1 : x = 0 := Rat.num_eq_zero.1 h0
    try simp (maxSteps := 999999) (disch := omega) only [go_sem, Nat.reduceBEq, Nat.reduceAdd]
    subst e1; simp [sgn3]
  · by_cases h1 : x.num < 0
    · have e1 : decide (x.num < 0) = true := decide_eq_true h1
      try simp (maxSteps := 999999) (disch := omega) only [go_sem, Nat.reduceBEq, Nat.reduceAdd, e1]
      rw [sgn3, if_pos (num_neg.1 h1)]
    · have e1 : decide (x.num < 0) = false := decide_eq_false h1
      have e2 : 0 < x.num := by omega
      try simp (maxSteps := 999999) (disch := omega) only [go_sem, Nat.reduceBEq, Nat.reduceAdd, e1]
      rw [sgn3, if_neg (fun h => h1 (num_neg.2 h)), if_pos (num_pos.1 e2)]
theorem Opp_spec {h0 h : PH} [Le h0 h] {v : Value} {x : Rat} (hx : Qr h0 v x) : Spec mach 128 #[v] h (fun v h' => Qr h' v (-x)) NP := by
  obtain ⟨na, nl, nc, da, dl, dc, e, rfl, hn, hd, he⟩ := hx.sl
  have ln := hn.len0
  have hn2 : N16 h0 (.slice na nl nc) (-x).num.natAbs := by simpa using hn
  refine Spec.go [] Tryz.func128 rfl rfl (by kernel_rfl) fun C _ => ?_
  try simp (maxSteps := 999999) (disch := omega) only [go_sem, Nat.reduceBEq, Nat.reduceAdd]
  by_cases h1 : x.num < 0
  · have e1 : decide (x.num < 0) = true := decide_eq_true h1
    have e2 : decide ((-x).num < 0) = false := by rw [Rat.neg_num, decide_eq_false_iff_not]; omega
    try simp (maxSteps := 999999) (disch := omega) only [go_sem, Nat.reduceBEq, Nat.reduceAdd, e1]
    exact ⟨_, _, e, by rw [e2], hn2.to, hd.to, he⟩
  · have e1 : decide (x.num < 0) = false := decide_eq_false h1
    by_cases h0 : x.num = 0
    · have e2 : decide ((-x).num < 0) = false := by rw [Rat.neg_num, decide_eq_false_iff_not]; omega
      try simp (maxSteps := 999999) (disch := omega) only [go_sem, Nat.reduceBEq, Nat.reduceAdd, e1]
      exact ⟨_, _, e, by rw [e2], hn2.to, hd.to, he⟩
    · have e2 : decide ((-x).num < 0) = true := by rw [Rat.neg_num, decide_eq_true_eq]; omega
      have e3 : 0 < nl := by omega
      try simp (maxSteps := 999999) (disch := omega) only [go_sem, Nat.reduceBEq, Nat.reduceAdd, e1]
      exact ⟨_, _, e, by rw [e2], hn2.to, hd.to, he⟩
theorem Sum_spec {h0 h : PH} [Le h0 h] {v w : Value} {x y : Rat} (hx : Qr h0 v x) (hy : Qr h0 w y) (bx : sz x ≤ 2 ^ 35) (by_ : sz y ≤ 2 ^ 35) :
    Spec mach 127 #[v, w] h (fun v h' => Qr h' v (x + y)) NP := by
  have hx0 := hx
  have hy0 := hy
  obtain ⟨na, nl, nc, da, dl, dc, e, rfl, hn, hd, he⟩ := hx.sl
  obtain ⟨na', nl', nc', da', dl', dc', e', rfl, hn', hd', he'⟩ := hy.sl
  have b1 := sz_num x; have b2 := sz_den x; have b3 := sz_num y; have b4 := sz_den y
  have b5 := bl_mul x.num.natAbs y.den
  have b6 := bl_mul y.num.natAbs x.den
  have b7 := bl_mul x.den y.den
  have b8 := bl_add (x.num.natAbs * y.den) (y.num.natAbs * x.den)
  have b9 := bl_mono (Nat.sub_le (x.num.natAbs * y.den) (y.num.natAbs * x.den))
  have b10 := bl_mono (Nat.sub_le (y.num.natAbs * x.den) (x.num.natAbs * y.den))
  obtain ⟨n1, en1⟩ : ∃ b, decide (x.num < 0) = b := ⟨_, rfl⟩
  obtain ⟨n2, en2⟩ : ∃ b, decide (y.num < 0) = b := ⟨_, rfl⟩
  rw [en1] at hx0 ⊢
  rw [en2] at hy0 ⊢
  refine Spec.go [(1, .o [0, 1, 2, 5, 6, 7, 3, 4, 8, 9, 10, 11]), (2, .o [0, 2, 1, 3, 4, 5]), (4, .o [0, 1, 2, 3, 5, 4, 6, 7]), (6, .o [0, 1, 2, 3, 5, 4, 6, 7]), (7, .o [0, 1, 2, 3, 5, 4, 6, 7])] Tryz.func127 rfl rfl (by kernel_rfl) fun C _ => ?_
  try simp (maxSteps := 999999) (disch := omega) only [go_sem, Nat.reduceBEq, Nat.reduceAdd]
  refine caN (by exact den_spec hy0) ?_; rintro _ g1 _ hd1; obtain ⟨_, _, _, rfl, hd1⟩ := hd1.sl
  try simp (maxSteps := 999999) (disch := omega) only [go_sem, Nat.reduceBEq, Nat.reduceAdd]
  refine caN (by exact NatMul_spec (hn.to (h' := g1)) hd1 (by omega) (by omega)) ?_; rintro _ h1 _ hv1; obtain ⟨v1, _, _, rfl, hv1⟩ := hv1.sl
  try simp (maxSteps := 999999) (disch := omega) only [go_sem, Nat.reduceBEq, Nat.reduceAdd]
  refine caN (by exact den_spec hx0) ?_; rintro _ g2 _ hd2; obtain ⟨_, _, _, rfl, hd2⟩ := hd2.sl
  try simp (maxSteps := 999999) (disch := omega) only [go_sem, Nat.reduceBEq, Nat.reduceAdd]
  refine caN (by exact NatMul_spec (hn'.to (h' := g2)) hd2 (by omega) (by omega)) ?_; rintro _ h2 _ hv2; obtain ⟨v2, _, _, rfl, hv2⟩ := hv2.sl
  try simp (maxSteps := 999999) (disch := omega) only [go_sem, Nat.reduceBEq, Nat.reduceAdd]
  refine caN (by exact den_spec hx0) ?_; rintro _ g3 _ hd3; obtain ⟨_, _, _, rfl, hd3⟩ := hd3.sl
  try simp (maxSteps := 999999) (disch := omega) only [go_sem, Nat.reduceBEq, Nat.reduceAdd]
  refine caN (by exact den_spec hy0) ?_; rintro _ g4 _ hd4; obtain ⟨_, _, _, rfl, hd4⟩ := hd4.sl
  try simp (maxSteps := 999999) (disch := omega) only [go_sem, Nat.reduceBEq, Nat.reduceAdd]
  refine caN (by exact NatMul_spec (hd3.to (h' := g4)) hd4 (by omega) (by omega)) ?_; rintro _ h3 _ hv3; obtain ⟨v3, _, _, rfl, hv3⟩ := hv3.sl
  try simp (maxSteps := 999999) (disch := omega) only [go_sem, Nat.reduceBEq, Nat.reduceAdd]
  by_cases hee : n1 = n2
  · subst hee
    try simp (maxSteps := 999999) (disch := omega) only [go_sem, Nat.reduceBEq, Nat.reduceAdd]
    refine caN (by exact NatAdd_spec (hv1.to (h' := h2)) hv2 (by omega) (by omega)) ?_; rintro _ h4 _ hv4; obtain ⟨v4, _, _, rfl, hv4⟩ := hv4.sl
    try simp (maxSteps := 999999) (disch := omega) only [go_sem, Nat.reduceBEq, Nat.reduceAdd]
    refine caN (by exact Make_spec (hv4.to (h' := h4)) hv3.to (by omega) (by omega)) ?_; rintro _ h5 _ hv5; obtain ⟨_, _, _, _, _, _, _, rfl, hv5⟩ := hv5.sa
    try simp (maxSteps := 999999) (disch := omega) only [go_sem, Nat.reduceBEq, Nat.reduceAdd]
    rw [sgn_same en1 en2] at hv5
    exact hv5
  · have hb : (n1 == n2) = false := by cases n1 <;> cases n2 <;> simp_all
    have hb' : n2 = !n1 := by cases n1 <;> cases n2 <;> simp_all
    try simp (maxSteps := 999999) (disch := omega) only [go_sem, Nat.reduceBEq, Nat.reduceAdd, hb]
    refine caN (by exact NatCmp_spec (hv1.to (h' := h2)) hv2) ?_; rintro v4 h4 s4 rfl
    try simp (maxSteps := 999999) (disch := omega) only [go_sem, Nat.reduceBEq, Nat.reduceAdd]
    by_cases hle : y.num.natAbs * x.den ≤ x.num.natAbs * y.den
    · have hc : 0 ≤ cmp3 (x.num.natAbs * y.den) (y.num.natAbs * x.den) := by simp only [cmp3, if_neg (Nat.not_lt.2 hle)]; split <;> decide
      try simp (maxSteps := 999999) (disch := omega) only [go_sem, Nat.reduceBEq, Nat.reduceAdd]
      refine caN (by exact NatSub_spec (hv1.to (h' := h2)) hv2 hle (by omega)) ?_; rintro _ h5 _ hv5; obtain ⟨v5, _, _, rfl, hv5⟩ := hv5.sl
      try simp (maxSteps := 999999) (disch := omega) only [go_sem, Nat.reduceBEq, Nat.reduceAdd]
      refine caN (by exact Make_spec (hv5.to (h' := h5)) hv3.to (by omega) (by omega)) ?_; rintro _ h6 _ hv6; obtain ⟨_, _, _, _, _, _, _, rfl, hv6⟩ := hv6.sa
      try simp (maxSteps := 999999) (disch := omega) only [go_sem, Nat.reduceBEq, Nat.reduceAdd]
      rw [sgn_diff en1 (by rw [en2, hb']) hle] at hv6
      exact hv6
    · have hc : ¬ 0 ≤ cmp3 (x.num.natAbs * y.den) (y.num.natAbs * x.den) := by simp only [cmp3, if_pos (Nat.not_le.1 hle)]; decide
      try simp (maxSteps := 999999) (disch := omega) only [go_sem, Nat.reduceBEq, Nat.reduceAdd]
      refine caN (by exact NatSub_spec (hv2.to (h' := h2)) (hv1.to (h' := h2)) (Nat.le_of_lt (Nat.not_le.1 hle)) (by omega)) ?_; rintro _ h5 _ hv5; obtain ⟨v5, _, _, rfl, hv5⟩ := hv5.sl
      try simp (maxSteps := 999999) (disch := omega) only [go_sem, Nat.reduceBEq, Nat.reduceAdd]
      refine caN (by exact Make_spec (hv5.to (h' := h5)) hv3.to (by omega) (by omega)) ?_; rintro _ h6 _ hv6; obtain ⟨_, _, _, _, _, _, _, rfl, hv6⟩ := hv6.sa
      try simp (maxSteps := 999999) (disch := omega) only [go_sem, Nat.reduceBEq, Nat.reduceAdd]
      rw [Nat.mul_comm x.den, sgn_diff en2 (by rw [en1, hb', Bool.not_not]) (Nat.le_of_lt (Nat.not_le.1 hle)), Rat.add_comm] at hv6
      exact hv6
theorem Diff_spec {h0 h : PH} [Le h0 h] {v w : Value} {x y : Rat} (hx : Qr h0 v x) (hy : Qr h0 w y) (bx : sz x ≤ 2 ^ 35) (by_ : sz y ≤ 2 ^ 35) :
    Spec mach 75 #[v, w] h (fun v h' => Qr h' v (x - y)) NP := by
  obtain ⟨_, _, _, _, _, _, _, rfl, hx⟩ := hx.sa
  obtain ⟨_, _, _, _, _, _, _, rfl, hy⟩ := hy.sa
  refine Spec.go [] Tryz.func75 rfl rfl (by kernel_rfl) fun C _ => ?_
  try simp (maxSteps := 999999) (disch := omega) only [go_sem, Nat.reduceBEq, Nat.reduceAdd]
  refine caN (by exact Opp_spec hy) ?_; rintro _ h1 _ hv1; obtain ⟨_, _, _, _, _, _, _, rfl, hv1⟩ := hv1.sa
  try simp (maxSteps := 999999) (disch := omega) only [go_sem, Nat.reduceBEq, Nat.reduceAdd]
  refine caN (by exact Sum_spec (hx.to (h' := h1)) hv1 bx (by rw [sz_neg]; exact by_)) ?_; rintro _ h2 _ hv2; obtain ⟨_, _, _, _, _, _, _, rfl, hv2⟩ := hv2.sa
  try simp (maxSteps := 999999) (disch := omega) only [go_sem, Nat.reduceBEq, Nat.reduceAdd]
  rw [Rat.sub_eq_add_neg]; exact hv2
theorem sgn3_sub (x y : Rat) : sgn3 (x - y) = cmpQ x y := by
  unfold sgn3 cmpQ; grind
theorem QCmp_spec {h0 h : PH} [Le h0 h] {v w : Value} {x y : Rat} (hx : Qr h0 v x) (hy : Qr h0 w y) (bx : sz x ≤ 2 ^ 34) (by_ : sz y ≤ 2 ^ 34) :
    Spec mach 22 #[v, w] h (fun v _ => v = .int .i64 (cmpQ x y)) NP := by
  obtain ⟨_, _, _, _, _, _, _, rfl, hx⟩ := hx.sa
  obtain ⟨_, _, _, _, _, _, _, rfl, hy⟩ := hy.sa
  refine Spec.go [] Tryz.func22 rfl rfl (by kernel_rfl) fun C _ => ?_
  try simp (maxSteps := 999999) (disch := omega) only [go_sem, Nat.reduceBEq, Nat.reduceAdd]
  refine caN (by exact Diff_spec hx hy (by omega) (by omega)) ?_; rintro _ h1 _ hv1; obtain ⟨_, _, _, _, _, _, _, rfl, hv1⟩ := hv1.sa
  try simp (maxSteps := 999999) (disch := omega) only [go_sem, Nat.reduceBEq, Nat.reduceAdd]
  refine caN (by exact Sgn_spec hv1) ?_; rintro v2 h2 s2 rfl
  try simp (maxSteps := 999999) (disch := omega) only [go_sem, Nat.reduceBEq, Nat.reduceAdd]
  rw [sgn3_sub]
end Go.Q
namespace Go.Q
open Go.Proofs
set_option maxRecDepth 100000
set_option maxHeartbeats 4000000
theorem signed_mul (x : Rat) (k : Nat) : (if decide (x.num < 0) = true then -((x.num.natAbs * k : Nat) : Int) else ((x.num.natAbs * k : Nat) : Int)) = x.num * k := by
  generalize x.num = a
  by_cases h : a < 0
  · obtain ⟨m, rfl⟩ : ∃ m : Nat, a = -(m : Int) := ⟨a.natAbs, by omega⟩
    rw [decide_eq_true h, if_pos rfl]; simp [Int.neg_mul]
  · obtain ⟨m, rfl⟩ : ∃ m : Nat, a = (m : Int) := ⟨a.natAbs, by omega⟩
    rw [decide_eq_false h, if_neg (by simp)]; simp
theorem sgn_scale (x : Rat) (p : Nat) : sgn (decide (x.num < 0)) (x.num.natAbs * 2 ^ p) x.den = x * 2 ^ p := by
  rw [scaled]
  unfold sgn
  rw [signed_mul]
  congr 1
theorem two_pow_pos (p : Nat) : (0 : Rat) < 2 ^ p := Rat.pow_pos (by decide)
theorem sgn_unscale (x : Rat) (p : Nat) : sgn (decide (x.num < 0)) x.num.natAbs (x.den * 2 ^ p) = x / 2 ^ p := by
  have h2 : (2 ^ p : Nat) ≠ 0 := Nat.ne_of_gt (Nat.pow_pos (by decide))
  have e : sgn (decide (x.num < 0)) x.num.natAbs (x.den * 2 ^ p) * 2 ^ p = x := by
    unfold sgn
    have h1 := signed_mul x 1
    simp only [Nat.mul_one] at h1
    rw [h1, show (2 : Rat) ^ p = mkRat (2 ^ p : Nat) 1 from by rw [Rat.mkRat_eq_div, Rat.div_def]; simp [inv_one], Rat.mkRat_mul_mkRat]
    have : mkRat (x.num * ((1 : Nat) : Int) * ((2 ^ p : Nat) : Int)) (x.den * 2 ^ p * 1) = mkRat x.num x.den := by
      rw [Nat.mul_one]
      simp only [Int.natCast_one, Int.mul_one]
      exact Rat.mkRat_mul_right h2
    rw [this, Rat.mkRat_self]
  have hp := two_pow_pos p
  have h3 := Rat.mul_div_cancel (a := sgn (decide (x.num < 0)) x.num.natAbs (x.den * 2 ^ p)) (Rat.ne_of_gt hp)
  rw [e] at h3
  exact h3.symm
theorem Scaled_spec {h0 h : PH} [Le h0 h] {v : Value} {x : Rat} {p : Nat} (hx : Qr h0 v x) (bx : sz x ≤ 2 ^ 34) (hp : p ≤ 2 ^ 34) :
    Spec mach 82 #[v, .int .i64 p] h (fun v h' => Qr h' v (x * 2 ^ p)) NP := by
  have hx0 := hx
  obtain ⟨na, nl, nc, da, dl, dc, e, rfl, hn, hd, he⟩ := hx.sl
  have b1 := sz_num x; have b2 := sz_den x; have b3 := bl_shl x.num.natAbs p
  have hs := sgn_scale x p
  obtain ⟨n1, en1⟩ : ∃ b, decide (x.num < 0) = b := ⟨_, rfl⟩
  rw [en1] at hx0 hs ⊢
  refine Spec.enter (args := [_, _]) (n := 26) Tryz.func82 rfl (by kernel_rfl) rfl (by simp) [.cell 4 33] rfl (fun C _ => ?_)
  repeat (first | (refine wo rfl (fun k hk => ?_); simp (disch := omega) only [go_sem, Nat.reduceBEq, Nat.reduceAdd]; refine hk _ _ ?_; clear hk k) | refine wkt rfl ?_ | refine wk0 ?_ | refine rg rfl rfl (fun K hK => ?_) | refine rd [.o 0, .o 1, .o 2, .o 3, .o 4, .o 6, .o 7, .o 5, .o 8, .o 9, .o 10] rfl (by decide +kernel) rfl (fun K hK => ?_) | refine rd [.o 0, .o 1, .o 2, .o 3, .o 4, .o 6, .o 5, .o 7, .o 8, .o 9] rfl (by decide +kernel) rfl (fun K hK => ?_) | ((first | refine AWP_exit ?_ | refine AWP_skip ?_); simp (disch := decide) only [qs, qb, if_true, if_false, reduceIte]) | refine AWP_sq rfl (fun K hK => ?_) | refine ct rfl ?_ | ((try simp (disch := omega) only [go_sem, Nat.reduceBEq, Nat.reduceAdd]); (first | apply hK | (clear hK; apply hK) | (clear hK; clear hK; apply hK)); clear hK; (try clear K); (try dsimp only [behind, qs, qb])))
  refine cN rfl rfl rfl rfl (by exact NatShl_spec (n := p) hn (by omega)) ?_; rintro v1 h1 _ hv1; obtain ⟨v1, v1_l, v1_c, rfl, hv1⟩ := hv1.sl; (repeat (first | (refine wo rfl (fun k hk => ?_); simp (disch := omega) only [go_sem, Nat.reduceBEq, Nat.reduceAdd]; refine hk _ _ ?_; clear hk k) | refine wkt rfl ?_)); (try refine wk0 ?_)
  refine cN rfl rfl rfl rfl (by exact den_spec hx0) ?_; rintro v2 h2 _ hv2; obtain ⟨v2, v2_l, v2_c, rfl, hv2⟩ := hv2.sl; (repeat (first | (refine wo rfl (fun k hk => ?_); simp (disch := omega) only [go_sem, Nat.reduceBEq, Nat.reduceAdd]; refine hk _ _ ?_; clear hk k) | refine wkt rfl ?_)); (try refine wk0 ?_)
  refine cN rfl rfl rfl rfl (by exact Make_spec (neg := n1) (hv1.to (h' := h2)) hv2 (by omega) (by omega)) ?_; rintro v3 h3 _ hv3; obtain ⟨v3_0, v3_1, v3_2, v3_3, v3_4, v3_5, v3_6, rfl, hv3⟩ := hv3.sa; (repeat (first | (refine wo rfl (fun k hk => ?_); simp (disch := omega) only [go_sem, Nat.reduceBEq, Nat.reduceAdd]; refine hk _ _ ?_; clear hk k) | refine wkt rfl ?_)); (try refine wk0 ?_)
  (try (simp (disch := omega) only [go_sem, Nat.reduceBEq, Nat.reduceAdd])); refine hK _ _ ?_; clear hK; (try clear K); (try dsimp only [behind, qs])
  refine AWP_ret ?_; simp (disch := omega) only [go_sem, Nat.reduceBEq, Nat.reduceAdd]
  rw [hs] at hv3; exact hv3
theorem Unscaled_spec {h0 h : PH} [Le h0 h] {v : Value} {x : Rat} {p : Nat} {i : Int} (hx : Qr h0 v x) (hi : i = -(p : Int)) (bx : sz x ≤ 2 ^ 34) (hp : p ≤ 2 ^ 34) :
    Spec mach 82 #[v, .int .i64 i] h (fun v h' => Qr h' v (x / 2 ^ p)) NP := by
  by_cases h0' : p = 0
  · subst h0'
    have : i = ((0 : Nat) : Int) := by omega
    subst this
    have e : x / 2 ^ 0 = x * 2 ^ 0 := by simp [Rat.div_def, inv_one]
    rw [e]; exact Scaled_spec hx bx (by decide)
  subst hi
  have hx0 := hx
  obtain ⟨na, nl, nc, da, dl, dc, e, rfl, hn, hd, he⟩ := hx.sl
  have b1 := sz_num x; have b2 := sz_den x; have b3 := bl_shl x.den p
  have hs := sgn_unscale x p
  obtain ⟨n1, en1⟩ : ∃ b, decide (x.num < 0) = b := ⟨_, rfl⟩
  rw [en1] at hx0 hs ⊢
  have e1 : IntKind.i64.wrap (0 - -(p : Int)) = (p : Int) := by rw [wi64 (by omega) (by omega)]; omega
  refine Spec.enter (args := [_, _]) (n := 26) Tryz.func82 rfl (by kernel_rfl) rfl (by simp) [.cell 4 33] rfl (fun C _ => ?_)
  repeat (first | ((first | refine rg rfl rfl (fun K hK => ?_) | refine rd [.o 0, .o 1, .o 2, .o 3, .o 4, .o 6, .o 7, .o 5, .o 8, .o 9, .o 10] rfl (by decide +kernel) rfl (fun K hK => ?_) | refine rd [.o 0, .o 1, .o 2, .o 3, .o 4, .o 6, .o 5, .o 7, .o 8, .o 9] rfl (by decide +kernel) rfl (fun K hK => ?_)); (repeat (first | (refine wo rfl (fun k hk => ?_); simp (disch := omega) only [go_sem, Nat.reduceBEq, Nat.reduceAdd, e1]; refine hk _ _ ?_; clear hk k) | refine wkt rfl ?_)); (try refine wk0 ?_); refine hK _ _ ?_; clear hK K; (try dsimp only [behind, qs, qb])) | ((first | refine AWP_exit ?_ | refine AWP_skip ?_); simp (disch := decide) only [qs, qb, if_true, if_false, reduceIte]) | refine AWP_sq rfl (fun K hK => ?_) | refine ct rfl ?_ | ((first | refine hK _ _ ?_ | (clear hK; refine hK _ _ ?_) | (clear hK; clear hK; refine hK _ _ ?_)); clear hK; (try clear K)))
  (first | refine rg rfl rfl (fun K hK => ?_) | refine rd [.o 0, .o 1, .o 2, .o 3, .o 4, .o 6, .o 7, .o 5, .o 8, .o 9, .o 10] rfl (by decide +kernel) rfl (fun K hK => ?_) | refine rd [.o 0, .o 1, .o 2, .o 3, .o 4, .o 6, .o 5, .o 7, .o 8, .o 9] rfl (by decide +kernel) rfl (fun K hK => ?_)); (repeat (first | (refine wo rfl (fun k hk => ?_); simp (disch := omega) only [go_sem, Nat.reduceBEq, Nat.reduceAdd, e1]; refine hk _ _ ?_; clear hk k) | refine wkt rfl ?_)); (try refine wk0 ?_)
  refine cN rfl rfl rfl rfl (by exact den_spec hx0) ?_; rintro v2 h2 s2 hv2; obtain ⟨va2, vl2, vc2, rfl, hv2⟩ := hv2.sl; (repeat (first | (refine wo rfl (fun k hk => ?_); simp (disch := omega) only [go_sem, Nat.reduceBEq, Nat.reduceAdd]; refine hk _ _ ?_; clear hk k) | refine wkt rfl ?_)); (try refine wk0 ?_)
  (repeat (first | (refine wo rfl (fun k hk => ?_); simp (disch := omega) only [go_sem, Nat.reduceBEq, Nat.reduceAdd, e1]; refine hk _ _ ?_; clear hk k) | refine wkt rfl ?_)); (try refine wk0 ?_)
  refine cN rfl rfl rfl rfl (by exact NatShl_spec (n := p) hv2 (by omega)) ?_; rintro v1 h1 _ hv1; obtain ⟨v1, v1_l, v1_c, rfl, hv1⟩ := hv1.sl; (repeat (first | (refine wo rfl (fun k hk => ?_); simp (disch := omega) only [go_sem, Nat.reduceBEq, Nat.reduceAdd]; refine hk _ _ ?_; clear hk k) | refine wkt rfl ?_)); (try refine wk0 ?_)
  refine cN rfl rfl rfl rfl (by exact Make_spec (neg := n1) (hn.to (h' := h1)) hv1 (by omega) (by omega)) ?_; rintro v3 h3 _ hv3; obtain ⟨v3_0, v3_1, v3_2, v3_3, v3_4, v3_5, v3_6, rfl, hv3⟩ := hv3.sa; (repeat (first | (refine wo rfl (fun k hk => ?_); simp (disch := omega) only [go_sem, Nat.reduceBEq, Nat.reduceAdd]; refine hk _ _ ?_; clear hk k) | refine wkt rfl ?_)); (try refine wk0 ?_)
  (try (simp (disch := omega) only [go_sem, Nat.reduceBEq, Nat.reduceAdd])); refine hK _ _ ?_; clear hK; (try clear K); (try dsimp only [behind, qs])
  refine AWP_ret ?_; simp (disch := omega) only [go_sem, Nat.reduceBEq, Nat.reduceAdd]
  rw [hs] at hv3; exact hv3
theorem floor_val (x : Rat) : sgn (decide (x.num < 0)) (x.num.natAbs / x.den + (if decide (x.num < 0) = true ∧ x.num.natAbs % x.den ≠ 0 then 1 else 0)) 1 = (x.floor : Rat) := by
  rw [sgn_nat, Rat.floor_def]
  have hd := x.den_nz
  congr 1
  generalize x.num = a at *
  generalize x.den = d at *
  by_cases h : a < 0
  · obtain ⟨m, rfl⟩ : ∃ m : Nat, a = -(m : Int) := ⟨a.natAbs, by omega⟩
    rw [decide_eq_true h, neg_ediv m hd]
    simp only [Int.natAbs_neg, Int.natAbs_natCast, if_true]
    by_cases hr : m % d = 0 <;> simp [hr]
  · obtain ⟨m, rfl⟩ : ∃ m : Nat, a = (m : Int) := ⟨a.natAbs, by omega⟩
    rw [decide_eq_false h]
    simp
theorem Bottom_spec {h0 h : PH} [Le h0 h] {v : Value} {x : Rat} (hx : Qr h0 v x) (bx : sz x ≤ 2 ^ 35) :
    Spec mach 41 #[v] h (fun v h' => Qr h' v (x.floor : Rat)) NP := by
  have hx0 := hx
  obtain ⟨na, nl, nc, da, dl, dc, e, rfl, hn, hd, he⟩ := hx.sl
  have b1 := sz_num x; have b2 := sz_den x
  have b3 := bl_div_le x.num.natAbs x.den
  have b4 := bl_add (x.num.natAbs / x.den) 1
  have b5 := bl_one
  have hs := floor_val x
  obtain ⟨neg, en⟩ : ∃ b, decide (x.num < 0) = b := ⟨_, rfl⟩
  rw [en] at hx0 hs ⊢
  refine Spec.enter (args := [_]) (n := 28) Tryz.func41 rfl (by kernel_rfl) rfl (by simp) [.cell 2 33] rfl (fun C _ => ?_)
  repeat (first | (refine wo rfl (fun k hk => ?_); simp (disch := omega) only [go_sem, Nat.reduceBEq, Nat.reduceAdd]; refine hk _ _ ?_; clear hk k) | refine wkt rfl ?_ | refine wk0 ?_ | refine rg rfl rfl (fun K hK => ?_) | refine rd [.o 0, .o 1, .o 2, .o 3, .o 4, .o 5, .o 6, .o 7, .o 8, .o 9] rfl (by decide +kernel) rfl (fun K hK => ?_) | refine rd [.o 0, .o 1, .o 2, .o 3, .o 4, .o 5] rfl (by decide +kernel) rfl (fun K hK => ?_) | ((first | refine AWP_exit ?_ | refine AWP_skip ?_); simp (disch := decide) only [qs, qb, if_true, if_false, reduceIte]) | refine AWP_sq rfl (fun K hK => ?_) | refine ct rfl ?_ | ((try simp (disch := omega) only [go_sem, Nat.reduceBEq, Nat.reduceAdd]); (first | apply hK | (clear hK; apply hK) | (clear hK; clear hK; apply hK)); clear hK; (try clear K); (try dsimp only [behind, qs, qb])))
  refine cN rfl rfl rfl rfl (by exact den_spec hx0) ?_; rintro d1 g1 _ hd1; obtain ⟨d1, d1_l, d1_c, rfl, hd1⟩ := hd1.sl; (repeat (first | (refine wo rfl (fun k hk => ?_); simp (disch := omega) only [go_sem, Nat.reduceBEq, Nat.reduceAdd]; refine hk _ _ ?_; clear hk k) | refine wkt rfl ?_)); (try refine wk0 ?_)
  refine cN rfl rfl rfl rfl (by exact NatDiv_spec (hn.to (h' := g1)) hd1 x.den_nz (by omega) (by omega)) ?_; rintro v2 h2 s2 ⟨q, r, rfl, hq, hr⟩; (repeat (first | (refine wo rfl (fun k hk => ?_); simp (disch := omega) only [go_sem, Nat.reduceBEq, Nat.reduceAdd]; refine hk _ _ ?_; clear hk k) | refine wkt rfl ?_)); (try refine wk0 ?_)
  obtain ⟨qa, ql, qc, rfl, hq⟩ := hq.sl
  obtain ⟨ra, rl, rc, rfl, hr⟩ := hr.sl
  have lr := hr.len0
  (try (simp (disch := omega) only [go_sem, Nat.reduceBEq, Nat.reduceAdd])); refine hK _ _ ?_; clear hK; (try clear K); (try dsimp only [behind, qs])
  refine AWP_sqs (fun K hK => ?_)
  have rest : ∀ (v : Value) (q' : Nat) (S : AS) (h : PH), Le h0 h → N16 h v q' → bl q' ≤ 2 ^ 37 → sgn neg q' 1 = (x.floor : Rat) → S.le ⟨[(1, .p 0 0), (2, .p 1 0), (3, .v v)], [[.bool neg, .slice na nl nc, .slice da dl dc], [.bool false, .slice none 0 0, .slice none 0 0]]⟩ → K S h := by
    intro v q' S h _ hv bq hs hS
    refine hK _ _ (AWP_le _ hS ?_); clear hK K
    obtain ⟨va, vl, vc, rfl, hv⟩ := hv.sl
    (first | refine rg rfl rfl (fun K hK => ?_) | refine rd [.o 0, .o 1, .o 2, .o 3, .o 4, .o 5, .o 6, .o 7, .o 8, .o 9] rfl (by decide +kernel) rfl (fun K hK => ?_) | refine rd [.o 0, .o 1, .o 2, .o 3, .o 4, .o 5] rfl (by decide +kernel) rfl (fun K hK => ?_)); (repeat (first | (refine wo rfl (fun k hk => ?_); simp (disch := omega) only [go_sem, Nat.reduceBEq, Nat.reduceAdd]; refine hk _ _ ?_; clear hk k) | refine wkt rfl ?_)); (try refine wk0 ?_)
    refine cN rfl rfl rfl rfl (by exact NatOf_spec (n := 1) (by decide)) ?_; rintro w1 h3 _ hw1; obtain ⟨w1, w1_l, w1_c, rfl, hw1⟩ := hw1.sl; (repeat (first | (refine wo rfl (fun k hk => ?_); simp (disch := omega) only [go_sem, Nat.reduceBEq, Nat.reduceAdd]; refine hk _ _ ?_; clear hk k) | refine wkt rfl ?_)); (try refine wk0 ?_)
    refine cN rfl rfl rfl rfl (by exact Make_spec (neg := neg) (hv.to (h' := h3)) hw1 (by omega) (by decide)) ?_; rintro w3 h5 _ hw3; obtain ⟨w3_0, w3_1, w3_2, w3_3, w3_4, w3_5, w3_6, rfl, hw3⟩ := hw3.sa; (repeat (first | (refine wo rfl (fun k hk => ?_); simp (disch := omega) only [go_sem, Nat.reduceBEq, Nat.reduceAdd]; refine hk _ _ ?_; clear hk k) | refine wkt rfl ?_)); (try refine wk0 ?_)
    (try (simp (disch := omega) only [go_sem, Nat.reduceBEq, Nat.reduceAdd])); refine hK _ _ ?_; clear hK; (try clear K); (try dsimp only [behind, qs])
    refine AWP_ret ?_; simp (disch := omega) only [go_sem, Nat.reduceBEq, Nat.reduceAdd]
    rw [hs] at hw3
    exact hw3
  cases neg with
  | false =>
    rw [if_neg (by simp), Nat.add_zero] at hs
    refine AWP_rs rfl (fun K hK => ?_); (repeat (first | (refine wo rfl (fun k hk => ?_); simp (disch := omega) only [go_sem, Nat.reduceBEq, Nat.reduceAdd]; refine hk _ _ ?_; clear hk k) | refine wkt rfl ?_)); (try refine wk0 ?_); (first | refine hK _ _ ?_ | (clear hK; refine hK _ _ ?_) | (clear hK; clear hK; refine hK _ _ ?_)); clear hK; (try clear K)
    refine AWP_condF rfl ?_
    refine AWP_skip ?_; simp only [qs, qb, if_true, if_false, reduceIte]
    refine rest _ _ _ _ inferInstance hq (by omega) hs ?_
    simp (disch := omega) only [go_sem, Nat.reduceBEq, Nat.reduceAdd]
  | true =>
    by_cases hr0 : x.num.natAbs % x.den = 0
    · rw [if_neg (by simp [hr0]), Nat.add_zero] at hs
      refine AWP_rs rfl (fun K hK => ?_); (repeat (first | (refine wo rfl (fun k hk => ?_); simp (disch := omega) only [go_sem, Nat.reduceBEq, Nat.reduceAdd]; refine hk _ _ ?_; clear hk k) | refine wkt rfl ?_)); (try refine wk0 ?_); (first | refine hK _ _ ?_ | (clear hK; refine hK _ _ ?_) | (clear hK; clear hK; refine hK _ _ ?_)); clear hK; (try clear K)
      refine AWP_condF rfl ?_
      refine AWP_skip ?_; simp only [qs, qb, if_true, if_false, reduceIte]
      refine rest _ _ _ _ inferInstance hq (by omega) hs ?_
      simp (disch := omega) only [go_sem, Nat.reduceBEq, Nat.reduceAdd]
    · rw [if_pos ⟨rfl, hr0⟩] at hs
      have e3 : 0 < rl := by omega
      refine AWP_rs rfl (fun K hK => ?_); (repeat (first | (refine wo rfl (fun k hk => ?_); simp (disch := omega) only [go_sem, Nat.reduceBEq, Nat.reduceAdd]; refine hk _ _ ?_; clear hk k) | refine wkt rfl ?_)); (try refine wk0 ?_); (first | refine hK _ _ ?_ | (clear hK; refine hK _ _ ?_) | (clear hK; clear hK; refine hK _ _ ?_)); clear hK; (try clear K)
      refine AWP_condT rfl ?_
      (first | refine rg rfl rfl (fun K hK => ?_) | refine rd [.o 0, .o 1, .o 2, .o 3, .o 4, .o 5, .o 6, .o 7, .o 8, .o 9] rfl (by decide +kernel) rfl (fun K hK => ?_) | refine rd [.o 0, .o 1, .o 2, .o 3, .o 4, .o 5] rfl (by decide +kernel) rfl (fun K hK => ?_)); (repeat (first | (refine wo rfl (fun k hk => ?_); simp (disch := omega) only [go_sem, Nat.reduceBEq, Nat.reduceAdd]; refine hk _ _ ?_; clear hk k) | refine wkt rfl ?_)); (try refine wk0 ?_)
      refine cN rfl rfl rfl rfl (by exact NatOf_spec (n := 1) (by decide)) ?_; rintro w1 h4 _ hw1; obtain ⟨w1, w1_l, w1_c, rfl, hw1⟩ := hw1.sl; (repeat (first | (refine wo rfl (fun k hk => ?_); simp (disch := omega) only [go_sem, Nat.reduceBEq, Nat.reduceAdd]; refine hk _ _ ?_; clear hk k) | refine wkt rfl ?_)); (try refine wk0 ?_)
      refine cN rfl rfl rfl rfl (by exact NatAdd_spec (hq.to (h' := h4)) hw1 (by omega) (by decide)) ?_; rintro w2 h5 _ hw2; obtain ⟨w2, w2_l, w2_c, rfl, hw2⟩ := hw2.sl; (repeat (first | (refine wo rfl (fun k hk => ?_); simp (disch := omega) only [go_sem, Nat.reduceBEq, Nat.reduceAdd]; refine hk _ _ ?_; clear hk k) | refine wkt rfl ?_)); (try refine wk0 ?_)
      (try (simp (disch := omega) only [go_sem, Nat.reduceBEq, Nat.reduceAdd])); refine hK _ _ ?_; clear hK; (try clear K); (try dsimp only [behind, qs])
      refine rest _ _ _ _ inferInstance hw2 (by omega) hs ?_
      simp (disch := omega) only [go_sem, Nat.reduceBEq, Nat.reduceAdd]
end Go.Q
namespace Go.Q
open Go.Proofs
set_option maxRecDepth 100000
set_option maxHeartbeats 4000000
theorem sgn_quo (x y : Rat) : sgn (!(decide (x.num < 0) == decide (y.num < 0))) (x.num.natAbs * y.den) (x.den * y.num.natAbs) = x / y := by
  by_cases hy : y = 0
  · subst hy
    simp [sgn, Rat.div_def]
  · have hn0 : y.num ≠ 0 := fun e => hy (Rat.num_eq_zero.1 e)
    have hp := y.den_nz
    have e1 : decide ((y⁻¹).num < 0) = decide (y.num < 0) := by
      rw [Rat.num_inv]
      rcases Int.lt_trichotomy y.num 0 with h | h | h
      · rw [Int.sign_eq_neg_one_of_neg h, decide_eq_decide]; omega
      · exact (hn0 h).elim
      · rw [Int.sign_eq_one_of_pos h, decide_eq_decide]; omega
    have e2 : (y⁻¹).num.natAbs = y.den := by rw [Rat.num_inv, Int.natAbs_mul, Int.natAbs_sign_of_ne_zero hn0, Nat.one_mul, Int.natAbs_natCast]
    have e3 : (y⁻¹).den = y.num.natAbs := by rw [Rat.den_inv, if_neg hn0]
    have := sgn_mul x y⁻¹
    rw [e1, e2, e3] at this
    rw [this, Rat.div_def]
theorem QDiv_spec {h0 h : PH} [Le h0 h] {v w : Value} {x y : Rat} (hx : Qr h0 v x) (hy : Qr h0 w y) (bx : sz x ≤ 2 ^ 35) (by_ : sz y ≤ 2 ^ 35) :
    Spec mach 42 #[v, w] h (fun v h' => Qr h' v (x / y)) NP := by
  have hx0 := hx
  have hy0 := hy
  obtain ⟨na, nl, nc, da, dl, dc, e, rfl, hn, hd, he⟩ := hx.sl
  obtain ⟨na', nl', nc', da', dl', dc', e', rfl, hn', hd', he'⟩ := hy.sl
  have b1 := sz_num x; have b2 := sz_den x; have b3 := sz_num y; have b4 := sz_den y
  have b5 := bl_mul x.num.natAbs y.den
  have b6 := bl_mul x.den y.num.natAbs
  refine Spec.enter (args := [_, _]) (n := 21) Tryz.func42 rfl (by kernel_rfl) rfl (by simp) [.cell 4 33] rfl (fun C _ => ?_)
  repeat (first | (refine wo rfl (fun k hk => ?_); simp (disch := omega) only [go_sem, Nat.reduceBEq, Nat.reduceAdd]; refine hk _ _ ?_; clear hk k) | refine wkt rfl ?_ | refine wk0 ?_ | refine rg rfl rfl (fun K hK => ?_) | refine rd [.o 0, .o 1, .o 2, .o 3, .o 4, .o 5, .o 6, .o 7, .o 10, .o 12, .o 13, .o 8, .o 9, .o 11, .o 14, .o 15, .o 16] rfl (by decide +kernel) rfl (fun K hK => ?_) | ((first | refine AWP_exit ?_ | refine AWP_skip ?_); simp (disch := decide) only [qs, qb, if_true, if_false, reduceIte]) | refine AWP_sq rfl (fun K hK => ?_) | refine ct rfl ?_ | ((try simp (disch := omega) only [go_sem, Nat.reduceBEq, Nat.reduceAdd]); (first | apply hK | (clear hK; apply hK) | (clear hK; clear hK; apply hK)); clear hK; (try clear K); (try dsimp only [behind, qs, qb])))
  refine cN rfl rfl rfl rfl (by exact den_spec hy0) ?_; rintro d1 g1 _ hd1; obtain ⟨d1, d1_l, d1_c, rfl, hd1⟩ := hd1.sl; (repeat (first | (refine wo rfl (fun k hk => ?_); simp (disch := omega) only [go_sem, Nat.reduceBEq, Nat.reduceAdd]; refine hk _ _ ?_; clear hk k) | refine wkt rfl ?_)); (try refine wk0 ?_)
  refine cN rfl rfl rfl rfl (by exact NatMul_spec (hn.to (h' := g1)) hd1 (by omega) (by omega)) ?_; rintro v1 h1 _ hv1; obtain ⟨v1, v1_l, v1_c, rfl, hv1⟩ := hv1.sl; (repeat (first | (refine wo rfl (fun k hk => ?_); simp (disch := omega) only [go_sem, Nat.reduceBEq, Nat.reduceAdd]; refine hk _ _ ?_; clear hk k) | refine wkt rfl ?_)); (try refine wk0 ?_)
  refine cN rfl rfl rfl rfl (by exact den_spec hx0) ?_; rintro d2 g2 _ hd2; obtain ⟨d2, d2_l, d2_c, rfl, hd2⟩ := hd2.sl; (repeat (first | (refine wo rfl (fun k hk => ?_); simp (disch := omega) only [go_sem, Nat.reduceBEq, Nat.reduceAdd]; refine hk _ _ ?_; clear hk k) | refine wkt rfl ?_)); (try refine wk0 ?_)
  refine cN rfl rfl rfl rfl (by exact NatMul_spec hd2 (hn'.to (h' := g2)) (by omega) (by omega)) ?_; rintro v2 h2 _ hv2; obtain ⟨v2, v2_l, v2_c, rfl, hv2⟩ := hv2.sl; (repeat (first | (refine wo rfl (fun k hk => ?_); simp (disch := omega) only [go_sem, Nat.reduceBEq, Nat.reduceAdd]; refine hk _ _ ?_; clear hk k) | refine wkt rfl ?_)); (try refine wk0 ?_)
  refine cN rfl rfl rfl rfl (by exact Make_spec (hv1.to (h' := h2)) hv2 (by omega) (by omega)) ?_; rintro v3 h3 _ hv3; obtain ⟨v3_0, v3_1, v3_2, v3_3, v3_4, v3_5, v3_6, rfl, hv3⟩ := hv3.sa; (repeat (first | (refine wo rfl (fun k hk => ?_); simp (disch := omega) only [go_sem, Nat.reduceBEq, Nat.reduceAdd]; refine hk _ _ ?_; clear hk k) | refine wkt rfl ?_)); (try refine wk0 ?_)
  (try (simp (disch := omega) only [go_sem, Nat.reduceBEq, Nat.reduceAdd])); refine hK _ _ ?_; clear hK; (try clear K); (try dsimp only [behind, qs])
  refine AWP_ret ?_; simp (disch := omega) only [go_sem, Nat.reduceBEq, Nat.reduceAdd]
  rw [sgn_quo] at hv3
  exact hv3
theorem Canonical_cn {h0 h : PH} [Le h0 h] {v : Value} {x : Rat} (hx : Cn h0 v x) (bx : sz x ≤ 2 ^ 30) : Spec mach 21 #[v] h (fun v _ => v = .bool true) NP := by
  have hrw := hx.rw bx
  have hq := qof_cn x
  obtain ⟨sn, sd, rfl, h2, h3⟩ := hx
  obtain ⟨a, c, xs, rfl, ha, hxs, hxm⟩ := h2.out
  obtain ⟨a', c', ys, rfl, ha', hys, hym⟩ := h3.out
  have sx := ha.small
  have sy := ha'.small
  obtain ⟨neg, en⟩ : ∃ b, decide (x.num < 0) = b := ⟨_, rfl⟩
  rw [en] at hrw hq ⊢
  refine Spec.enter (args := [_]) (n := 68) Tryz.func21 rfl (by kernel_rfl) rfl (by simp) [.tmp 2] rfl (fun C _ => ?_)
  repeat (first | (refine wo rfl (fun k hk => ?_); simp (disch := omega) only [go_sem, Nat.reduceBEq, Nat.reduceAdd]; refine hk _ _ ?_; clear hk k) | refine wkt rfl ?_ | refine wk0 ?_ | refine rg rfl rfl (fun K hK => ?_) | refine rd [.o 0, .o 1, .o 2, .o 3, .o 4, .o 5, .o 6, .o 7, .o 8, .o 9, .o 10] rfl (by decide +kernel) rfl (fun K hK => ?_) | ((first | refine AWP_exit ?_ | refine AWP_skip ?_); simp (disch := decide) only [qs, qb, if_true, if_false, reduceIte]) | refine AWP_sq rfl (fun K hK => ?_) | refine ct rfl ?_ | ((try simp (disch := omega) only [go_sem, Nat.reduceBEq, Nat.reduceAdd]); (first | apply hK | (clear hK; apply hK) | (clear hK; clear hK; apply hK)); clear hK; (try clear K); (try dsimp only [behind, qs, qb])))
  refine cN rfl rfl rfl rfl (by exact QOf_spec hrw) ?_; rintro v1 h1 _ hv1; obtain ⟨v1_0, v1_1, v1_2, v1_3, v1_4, v1_5, v1_6, rfl, hv1⟩ := hv1.sa; (repeat (first | (refine wo rfl (fun k hk => ?_); simp (disch := omega) only [go_sem, Nat.reduceBEq, Nat.reduceAdd]; refine hk _ _ ?_; clear hk k) | refine wkt rfl ?_)); (try refine wk0 ?_)
  rw [hq] at hv1
  refine cN rfl rfl rfl rfl (by exact QRat_spec hv1 (by omega)) ?_; rintro v2 h2' s2 hv2; (repeat (first | (refine wo rfl (fun k hk => ?_); simp (disch := omega) only [go_sem, Nat.reduceBEq, Nat.reduceAdd]; refine hk _ _ ?_; clear hk k) | refine wkt rfl ?_)); (try refine wk0 ?_)
  obtain ⟨tn, td, rfl, t2, t3⟩ := hv2
  rw [en]
  obtain ⟨ta, tc, ts, rfl, hta, hts, _⟩ := t2.out
  obtain rfl : xs = ts := hxs.symm.trans hts
  obtain ⟨ta', tc', ts', rfl, hta', hts', _⟩ := t3.out
  obtain rfl : ys = ts' := hys.symm.trans hts'
  (repeat (first | (refine wo rfl (fun k hk => ?_); simp (disch := omega) only [go_sem, Nat.reduceBEq, Nat.reduceAdd]; refine hk _ _ ?_; clear hk k) | refine wkt rfl ?_)); (try refine wk0 ?_)
  have e0 : (neg == neg) = true := by simp
  repeat (first | (refine wo rfl (fun k hk => ?_); simp (disch := omega) only [go_sem, Nat.reduceBEq, Nat.reduceAdd, e0]; refine hk _ _ ?_; clear hk k) | refine wkt rfl ?_ | refine wk0 ?_ | refine rg rfl rfl (fun K hK => ?_) | refine rd [.o 0, .o 1, .o 2, .o 3, .o 4, .o 5, .o 6, .o 7, .o 8, .o 9, .o 10] rfl (by decide +kernel) rfl (fun K hK => ?_) | ((first | refine AWP_exit ?_ | refine AWP_skip ?_); simp (disch := decide) only [qs, qb, if_true, if_false, reduceIte]) | refine AWP_sq rfl (fun K hK => ?_) | refine ct rfl ?_ | ((try simp (disch := omega) only [go_sem, Nat.reduceBEq, Nat.reduceAdd]); (first | apply hK | (clear hK; apply hK) | (clear hK; clear hK; apply hK)); clear hK; (try clear K); (try dsimp only [behind, qs, qb])))
  refine AWP_loop (fun i : Nat => ⟨[(1, .p 0 0), (3, .p 1 0), (34, .v (.int .i64 xs.length)), (35, .v (.int .i64 i))], [[.bool neg, .slice a xs.length c, .slice a' ys.length c'], [.bool neg, .slice ta xs.length tc, .slice ta' ys.length tc']]⟩)
    (fun i h' => Le h2' h' ∧ Le h0 h' ∧ i ≤ xs.length) (fun i => xs.length - i) 0 ?_ ⟨inferInstance, inferInstance, by omega⟩ ?_
  · simp (disch := omega) only [go_sem, Nat.reduceBEq, Nat.reduceAdd]
  rintro i g1 ⟨hle, hle0, hi⟩
  by_cases hil : i < xs.length
  · obtain ⟨ad, rfl, hat⟩ := ha.rd g1 (i := i) (by omega)
    obtain ⟨ad', rfl, hat'⟩ := hta.rd g1 (i := i) (by omega)
    repeat (first | (refine wo rfl (fun k hk => ?_); simp (disch := omega) only [go_sem, Nat.reduceBEq, Nat.reduceAdd, hat, hat']; refine hk _ _ ?_; clear hk k) | refine wkt rfl ?_ | refine wk0 ?_ | refine rg rfl rfl (fun K hK => ?_) | refine rd [.o 0, .o 1, .o 2, .o 3, .o 4, .o 5, .o 6, .o 7, .o 8, .o 9, .o 10] rfl (by decide +kernel) rfl (fun K hK => ?_) | ((first | refine AWP_exit ?_ | refine AWP_skip ?_); simp (disch := decide) only [qs, qb, if_true, if_false, reduceIte]) | refine AWP_sq rfl (fun K hK => ?_) | refine ct rfl ?_ | ((try simp (disch := omega) only [go_sem, Nat.reduceBEq, Nat.reduceAdd]); (first | apply hK | (clear hK; apply hK) | (clear hK; clear hK; apply hK)); clear hK; (try clear K); (try dsimp only [behind, qs, qb])))
    refine ⟨i + 1, ?_, ⟨hle, hle0, by omega⟩, by omega⟩
    simp (disch := omega) only [go_sem, Nat.reduceBEq, Nat.reduceAdd]
  · repeat (first | (refine wo rfl (fun k hk => ?_); simp (disch := omega) only [go_sem, Nat.reduceBEq, Nat.reduceAdd]; refine hk _ _ ?_; clear hk k) | refine wkt rfl ?_ | refine wk0 ?_ | refine rg rfl rfl (fun K hK => ?_) | refine rd [.o 0, .o 1, .o 2, .o 3, .o 4, .o 5, .o 6, .o 7, .o 8, .o 9, .o 10] rfl (by decide +kernel) rfl (fun K hK => ?_) | ((first | refine AWP_exit ?_ | refine AWP_skip ?_); simp (disch := decide) only [qs, qb, if_true, if_false, reduceIte]) | refine AWP_sq rfl (fun K hK => ?_) | refine ct rfl ?_ | ((try simp (disch := omega) only [go_sem, Nat.reduceBEq, Nat.reduceAdd]); (first | apply hK | (clear hK; apply hK) | (clear hK; clear hK; apply hK)); clear hK; (try clear K); (try dsimp only [behind, qs, qb])))
    refine AWP_loop (fun i : Nat => ⟨[(1, .p 0 0), (3, .p 1 0), (52, .v (.int .i64 ys.length)), (53, .v (.int .i64 i))], [[.bool neg, .slice a xs.length c, .slice a' ys.length c'], [.bool neg, .slice ta xs.length tc, .slice ta' ys.length tc']]⟩)
      (fun i h' => Le h2' h' ∧ Le h0 h' ∧ i ≤ ys.length) (fun i => ys.length - i) 0 ?_ ⟨hle, hle0, by omega⟩ ?_
    · simp (disch := omega) only [go_sem, Nat.reduceBEq, Nat.reduceAdd]
    rintro i g2 ⟨hle, hle0, hi⟩
    by_cases hil : i < ys.length
    · obtain ⟨ad, rfl, hat⟩ := ha'.rd g2 (i := i) (by omega)
      obtain ⟨ad', rfl, hat'⟩ := hta'.rd g2 (i := i) (by omega)
      repeat (first | (refine wo rfl (fun k hk => ?_); simp (disch := omega) only [go_sem, Nat.reduceBEq, Nat.reduceAdd, hat, hat']; refine hk _ _ ?_; clear hk k) | refine wkt rfl ?_ | refine wk0 ?_ | refine rg rfl rfl (fun K hK => ?_) | refine rd [.o 0, .o 1, .o 2, .o 3, .o 4, .o 5, .o 6, .o 7, .o 8, .o 9, .o 10] rfl (by decide +kernel) rfl (fun K hK => ?_) | ((first | refine AWP_exit ?_ | refine AWP_skip ?_); simp (disch := decide) only [qs, qb, if_true, if_false, reduceIte]) | refine AWP_sq rfl (fun K hK => ?_) | refine ct rfl ?_ | ((try simp (disch := omega) only [go_sem, Nat.reduceBEq, Nat.reduceAdd]); (first | apply hK | (clear hK; apply hK) | (clear hK; clear hK; apply hK)); clear hK; (try clear K); (try dsimp only [behind, qs, qb])))
      refine ⟨i + 1, ?_, ⟨hle, hle0, by omega⟩, by omega⟩
      simp (disch := omega) only [go_sem, Nat.reduceBEq, Nat.reduceAdd]
    · repeat (first | (refine wo rfl (fun k hk => ?_); simp (disch := omega) only [go_sem, Nat.reduceBEq, Nat.reduceAdd]; refine hk _ _ ?_; clear hk k) | refine wkt rfl ?_ | refine wk0 ?_ | refine rg rfl rfl (fun K hK => ?_) | refine rd [.o 0, .o 1, .o 2, .o 3, .o 4, .o 5, .o 6, .o 7, .o 8, .o 9, .o 10] rfl (by decide +kernel) rfl (fun K hK => ?_) | ((first | refine AWP_exit ?_ | refine AWP_skip ?_); simp (disch := decide) only [qs, qb, if_true, if_false, reduceIte]) | refine AWP_sq rfl (fun K hK => ?_) | refine ct rfl ?_ | ((try simp (disch := omega) only [go_sem, Nat.reduceBEq, Nat.reduceAdd]); (first | apply hK | (clear hK; apply hK) | (clear hK; clear hK; apply hK)); clear hK; (try clear K); (try dsimp only [behind, qs, qb])))
      refine AWP_ret ?_; simp (disch := omega) only [go_sem, Nat.reduceBEq, Nat.reduceAdd]
end Go.Q
namespace Go.Q
end Go.Q
namespace Go.Q
open Go.Proofs
set_option maxRecDepth 100000
end Go.Q
namespace Go.Q
open Go.Proofs
set_option maxRecDepth 100000
end Go.Q
namespace Go.Q
open Go.Proofs
set_option maxRecDepth 100000
set_option maxHeartbeats 4000000
theorem N32.len0 {h : PH} {a : Option Addr} {l c n : Nat} (r : N32 h (.slice a l c) n) : l = 0 ↔ n = 0 := by
  obtain ⟨_, _, _, e, _, h2, _⟩ := r.out
  cases e
  have := W_len0 B32 (n := n)
  rw [h2] at this
  exact this
@[go_sem] theorem wrap_div {x y : Nat} (h : x < 4611686018427387904) : IntKind.i64.wrap ((x / y : Nat) : Int) = ((x / y : Nat) : Int) := by
  have := Nat.div_le_self x y
  generalize x / y = z at *
  exact wi64 (by omega) (by omega)
@[go_sem] theorem wrap_div1 {x y c : Nat} (h : x + c < 4611686018427387904) : IntKind.i64.wrap ((x / y + c : Nat) : Int) = ((x / y + c : Nat) : Int) := by
  have := Nat.div_le_self x y
  generalize x / y = z at *
  exact wi64 (by omega) (by omega)
end Go.Q
namespace Go.Q
open Go.Proofs
set_option maxRecDepth 100000
set_option maxHeartbeats 4000000
theorem B_pow16 (k : Nat) : 2 ^ (16 * k) = 65536 ^ k := by
  rw [Nat.pow_mul, show (2 : Nat) ^ 16 = 65536 from by decide]
theorem bl_half {y : Nat} (hy : y ≠ 0) : bl (y / 2) + 1 = bl y := by
  have h1 : y < 2 ^ (bl (y / 2) + 1) := by
    have := bl_le.1 (Nat.le_refl (bl (y / 2)))
    rw [Nat.pow_succ]; omega
  have h2 := bl_le.2 h1
  have h3 : y < 2 ^ bl y := bl_le.1 (Nat.le_refl _)
  obtain ⟨k, hk⟩ : ∃ k, bl y = k + 1 := by
    cases hb : bl y with
    | zero => rw [hb, Nat.pow_zero] at h3; omega
    | succ k => exact ⟨k, rfl⟩
  rw [hk, Nat.pow_succ] at h3
  have h4 : bl (y / 2) ≤ k := bl_le.2 (by omega)
  omega
theorem NatBits_spec {h0 h : PH} [Le h0 h] {v : Value} {n : Nat} (hv : N16 h0 v n) (bn : bl n ≤ 2 ^ 40) : Spec mach 100 #[v] h (fun v _ => v = .int .i64 (bl n)) NP := by
  obtain ⟨a, c, rfl, ha⟩ := hv
  have hs := ha.small
  have hc := ha.cap
  have hl := W_len0 B16 (n := n)
  refine Spec.enter (args := [_]) (n := 25) Tryz.func100 rfl (by kernel_rfl) rfl (by simp) [.tmp 2] rfl (fun C _ => ?_)
  by_cases hn : n = 0
  · repeat (first | (refine wo rfl (fun k hk => ?_); simp (disch := omega) only [go_sem, Nat.reduceBEq, Nat.reduceAdd]; refine hk _ _ ?_; clear hk k) | refine wkt rfl ?_ | refine wk0 ?_ | refine rg rfl rfl (fun K hK => ?_) | ((first | refine AWP_exit ?_ | refine AWP_skip ?_); simp (disch := decide) only [qs, qb, if_true, if_false, reduceIte]) | refine AWP_sq rfl (fun K hK => ?_) | refine ct rfl ?_ | ((try simp (disch := omega) only [go_sem, Nat.reduceBEq, Nat.reduceAdd]); (first | apply hK | (clear hK; apply hK) | (clear hK; clear hK; apply hK)); clear hK; (try clear K); (try dsimp only [behind, qs, qb])))
    refine AWP_ret ?_; simp (disch := omega) only [go_sem, Nat.reduceBEq, Nat.reduceAdd]
    subst hn; rfl
  · have hp := W_len_pos B16 hn
    obtain ⟨h1, h2, h3⟩ := W_top B16 hn
    obtain ⟨ad, rfl, hat⟩ := ha.rd h (i := (W 65536 n).length - 1) (by omega)
    rw [h1] at hat
    have h6 := bl_div (n := n) (k := 16 * ((W 65536 n).length - 1)) (by rw [B_pow16]; exact h2)
    rw [B_pow16] at h6
    clear h1 h2 ha
    generalize (W 65536 n).length = L at *
    generalize n / 65536 ^ (L - 1) = t at *
    repeat (first | (refine wo rfl (fun k hk => ?_); simp (disch := omega) only [go_sem, Nat.reduceBEq, Nat.reduceAdd, hat]; refine hk _ _ ?_; clear hk k) | refine wkt rfl ?_ | refine wk0 ?_ | refine rg rfl rfl (fun K hK => ?_) | ((first | refine AWP_exit ?_ | refine AWP_skip ?_); simp (disch := decide) only [qs, qb, if_true, if_false, reduceIte]) | refine AWP_sq rfl (fun K hK => ?_) | refine ct rfl ?_ | ((try simp (disch := omega) only [go_sem, Nat.reduceBEq, Nat.reduceAdd]); (first | apply hK | (clear hK; apply hK) | (clear hK; clear hK; apply hK)); clear hK; (try clear K); (try dsimp only [behind, qs, qb])))
    refine AWP_loop (fun x : Nat × Nat => ⟨[(3, .v (.int .i64 (x.1 : Nat))), (4, .v (.int .u32 (x.2 : Nat)))], []⟩) (fun x h' => x.2 < 65536 ∧ x.1 + bl x.2 = bl n) (fun x => x.2) (16 * (L - 1), t) ?_ ⟨h3, by dsimp only; omega⟩ ?_
    · simp (disch := omega) only [go_sem, Nat.reduceBEq, Nat.reduceAdd]
    · rintro ⟨s, y⟩ h' ⟨hy, he⟩
      dsimp only at hy he ⊢
      by_cases hy0 : y = 0
      · subst hy0
        rw [show bl 0 = 0 from by decide] at he
        repeat (first | (refine wo rfl (fun k hk => ?_); simp (disch := omega) only [go_sem, Nat.reduceBEq, Nat.reduceAdd]; refine hk _ _ ?_; clear hk k) | refine wkt rfl ?_ | refine wk0 ?_ | refine rg rfl rfl (fun K hK => ?_) | ((first | refine AWP_exit ?_ | refine AWP_skip ?_); simp (disch := decide) only [qs, qb, if_true, if_false, reduceIte]) | refine AWP_sq rfl (fun K hK => ?_) | refine ct rfl ?_ | ((try simp (disch := omega) only [go_sem, Nat.reduceBEq, Nat.reduceAdd]); (first | apply hK | (clear hK; apply hK) | (clear hK; clear hK; apply hK)); clear hK; (try clear K); (try dsimp only [behind, qs, qb])))
        refine AWP_ret ?_; simp (disch := omega) only [go_sem, Nat.reduceBEq, Nat.reduceAdd]
        refine iv ?_
        omega
      · have hb := bl_half hy0
        repeat (first | (refine wo rfl (fun k hk => ?_); simp (disch := omega) only [go_sem, Nat.reduceBEq, Nat.reduceAdd]; refine hk _ _ ?_; clear hk k) | refine wkt rfl ?_ | refine wk0 ?_ | refine rg rfl rfl (fun K hK => ?_) | ((first | refine AWP_exit ?_ | refine AWP_skip ?_); simp (disch := decide) only [qs, qb, if_true, if_false, reduceIte]) | refine AWP_sq rfl (fun K hK => ?_) | refine ct rfl ?_ | ((try simp (disch := omega) only [go_sem, Nat.reduceBEq, Nat.reduceAdd]); (first | apply hK | (clear hK; apply hK) | (clear hK; clear hK; apply hK)); clear hK; (try clear K); (try dsimp only [behind, qs, qb])))
        refine ⟨(s + 1, y / 2), ?_, ⟨by dsimp only; omega, by dsimp only; omega⟩, by dsimp only; omega⟩
        simp (disch := omega) only [go_sem, Nat.reduceBEq, Nat.reduceAdd]
end Go.Q
