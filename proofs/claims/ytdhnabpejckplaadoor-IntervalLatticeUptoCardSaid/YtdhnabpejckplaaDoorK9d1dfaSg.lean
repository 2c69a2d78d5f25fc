/-
  Contracts of the reference's intervals: whether two intervals denote the same set; the canonical interval. Conditions: the values are intervals (Iv) without large numbers.
-/
import Derived.Test.YtdhnabpejckplaaDoorKbb089cSc
set_option linter.unusedVariables false
set_option linter.unusedSimpArgs false
namespace Go.Q
open Go.Proofs
set_option maxRecDepth 100000
set_option maxHeartbeats 4000000
def sameN (x y : NS) : Bool := bif x.void || y.void then x.void && y.void else (x.loN == y.loN) && (x.hiN == y.hiN) && decide (x.lo0 = y.lo0) && decide (x.hi0 = y.hi0)
theorem sameN_iff {x y : NS} : sameN x y = true ↔ x = y := by
  cases x with
  | e => cases y <;> simp [sameN, NS.void]
  | i a b =>
    cases y with
    | e => simp [sameN, NS.void]
    | i c d =>
      cases a <;> cases b <;> cases c <;> cases d <;> simp [sameN, NS.void, NS.loN, NS.hiN, NS.lo0, NS.hi0]
      · exact decide_eq_true_iff
      · exact decide_eq_true_iff
      · exact and_congr decide_eq_true_iff decide_eq_true_iff
theorem cmpQ_ne {x y : Rat} (h : x ≠ y) : cmpQ x y ≠ 0 := by unfold cmpQ; grind
theorem RefSame2 {h0 h : PH} [Le h0 h] {v w : Value} {x y : RI} (hv : Iv h0 v x) (hw : Iv h0 w y) (g : x.big = false) (g' : y.big = false) : Spec mach 39 #[v, w] h (fun r _ => r = .bool (sameN x.set y.set)) NP := by
  have hz := (NS.le_ends (by decide)).1 (RI.le g)
  have hz' := (NS.le_ends (by decide)).1 (RI.le g')
  have kA := fun {h} [Le h0 h] => RefOf (h := h) hv g
  have kB := fun {h} [Le h0 h] => RefOf (h := h) hw g'
  obtain ⟨a1, m1, c1, a2, m2, c2, a3, m3, c3, a4, m4, c4, rfl, _, _⟩ := hv.sa
  obtain ⟨a1', m1', c1', a2', m2', c2', a3', m3', c3', a4', m4', c4', rfl, _, _⟩ := hw.sa
  clear hv hw
  generalize x.set = X at *
  generalize y.set = Y at *
  refine Spec.enter (args := [_, _]) (n := 51) Tryd.func39 rfl (by kernel_rfl) rfl (by simp) [.tmp 4] rfl (fun C _ => ?_)
  repeat (first | (refine rg rfl rfl (fun K hK => ?_); (repeat (first | (refine wo rfl (fun k hk => ?_); simp (disch := omega) only [go_sem, Nat.reduceBEq, Nat.reduceAdd]; refine hk _ _ ?_; clear hk k) | refine wkt rfl ?_)); (try refine wk0 ?_); refine hK _ _ ?_; clear hK K; (try dsimp only [behind, qs, qb])) | ((first | refine AWP_exit ?_ | refine AWP_skip ?_); simp (disch := decide) only [qs, qb, if_true, if_false, reduceIte]) | refine AWP_sq rfl (fun K hK => ?_) | refine ct rfl ?_ | ((first | refine hK _ _ ?_ | (clear hK; refine hK _ _ ?_) | (clear hK; clear hK; refine hK _ _ ?_)); clear hK; (try clear K)))
  (first | refine AWP_t (.seg [.o 0, .o 2] (.alt 1 (.alt 3 (.alt 4 (.alt 5 (.alt 6 (.alt 7 .done .no) .no) .no) (.alt 5 (.alt 4 (.alt 6 (.alt 7 .done .no) .no) .no) .no)) (.alt 4 (.alt 3 (.alt 5 (.alt 6 (.alt 7 .done .no) .no) .no) (.alt 5 (.alt 3 (.alt 6 (.alt 7 .done .no) .no) .no) .no)) (.alt 5 (.alt 3 (.alt 4 (.alt 6 (.alt 7 .done .no) .no) .no) (.alt 4 (.alt 3 (.alt 6 (.alt 7 .done .no) .no) .no) .no)) .no))) (.alt 4 (.alt 1 (.alt 3 (.alt 5 (.alt 6 (.alt 7 .done .no) .no) .no) (.alt 5 (.alt 3 (.alt 6 (.alt 7 .done .no) .no) .no) .no)) (.alt 5 (.alt 1 (.alt 3 (.alt 6 (.alt 7 .done .no) .no) .no) .no) .no)) (.alt 5 (.alt 1 (.alt 3 (.alt 4 (.alt 6 (.alt 7 .done .no) .no) .no) (.alt 4 (.alt 3 (.alt 6 (.alt 7 .done .no) .no) .no) .no)) (.alt 4 (.alt 1 (.alt 3 (.alt 6 (.alt 7 .done .no) .no) .no) .no) .no)) .no)))) (by decide +kernel) rfl (fun K hK => ?_) | refine AWP_tk (.seg [.o 0, .o 2] (.alt 1 (.alt 3 (.alt 4 (.alt 5 (.alt 6 (.alt 7 .done .no) .no) .no) (.alt 5 (.alt 4 (.alt 6 (.alt 7 .done .no) .no) .no) .no)) (.alt 4 (.alt 3 (.alt 5 (.alt 6 (.alt 7 .done .no) .no) .no) (.alt 5 (.alt 3 (.alt 6 (.alt 7 .done .no) .no) .no) .no)) (.alt 5 (.alt 3 (.alt 4 (.alt 6 (.alt 7 .done .no) .no) .no) (.alt 4 (.alt 3 (.alt 6 (.alt 7 .done .no) .no) .no) .no)) .no))) (.alt 4 (.alt 1 (.alt 3 (.alt 5 (.alt 6 (.alt 7 .done .no) .no) .no) (.alt 5 (.alt 3 (.alt 6 (.alt 7 .done .no) .no) .no) .no)) (.alt 5 (.alt 1 (.alt 3 (.alt 6 (.alt 7 .done .no) .no) .no) .no) .no)) (.alt 5 (.alt 1 (.alt 3 (.alt 4 (.alt 6 (.alt 7 .done .no) .no) .no) (.alt 4 (.alt 3 (.alt 6 (.alt 7 .done .no) .no) .no) .no)) (.alt 4 (.alt 1 (.alt 3 (.alt 6 (.alt 7 .done .no) .no) .no) .no) .no)) .no)))) (by decide +kernel) rfl (fun K hK => ?_))
  suffices rest : ∀ (cs ds : List Value) (h' : PH) (S : AS) (ix : List Nat), Rr h' (.agg cs.toArray) X → Rr h' (.agg ds.toArray) Y → S.leS ⟨[(5, .p 0 0), (6, .p 1 0)], [cs, ds]⟩ ix → K S h' by
    (repeat (first | (refine wo rfl (fun k hk => ?_); simp (disch := omega) only [go_sem, Nat.reduceBEq, Nat.reduceAdd]; refine hk _ _ ?_; clear hk k) | refine wkt rfl ?_ | with_reducible refine wk0 ?_ | with_reducible refine wt_seg ?_ | with_reducible refine wt_alt ?_ wt_no | with_reducible refine wt_done ?_))
    refine wt_alt ?_ (wt_alt ?_ (wt_alt ?_ wt_no))
    · refine cN rfl rfl rfl rfl (by exact kA) ?_; rintro v1 h1 st_h1 f1; obtain ⟨v1_0, v1_1, v1_2, v1_3, v1_4, v1_5, v1_6, v1_7, v1_8, v1_9, v1_10, v1_11, v1_12, v1_13, rfl, f1⟩ := f1.sa; (repeat (first | (refine wo rfl (fun k hk => ?_); simp (disch := omega) only [go_sem, Nat.reduceBEq, Nat.reduceAdd]; refine hk _ _ ?_; clear hk k) | refine wkt rfl ?_ | with_reducible refine wk0 ?_ | with_reducible refine wt_seg ?_ | with_reducible refine wt_alt ?_ wt_no | with_reducible refine wt_done ?_))
      refine wt_alt ?_ (wt_alt ?_ (wt_alt ?_ wt_no))
      · refine cN rfl rfl rfl rfl (by exact kB) ?_; rintro v2 h2 st_h2 f2; obtain ⟨v2_0, v2_1, v2_2, v2_3, v2_4, v2_5, v2_6, v2_7, v2_8, v2_9, v2_10, v2_11, v2_12, v2_13, rfl, f2⟩ := f2.sa; (repeat (first | (refine wo rfl (fun k hk => ?_); simp (disch := omega) only [go_sem, Nat.reduceBEq, Nat.reduceAdd]; refine hk _ _ ?_; clear hk k) | refine wkt rfl ?_ | with_reducible refine wk0 ?_ | with_reducible refine wt_seg ?_ | with_reducible refine wt_alt ?_ wt_no | with_reducible refine wt_done ?_))
        refine wt_alt ?_ (wt_alt ?_ wt_no)
        · (repeat (first | (refine wo rfl (fun k hk => ?_); simp (disch := omega) only [go_sem, Nat.reduceBEq, Nat.reduceAdd]; refine hk _ _ ?_; clear hk k) | refine wkt rfl ?_ | with_reducible refine wk0 ?_ | with_reducible refine wt_seg ?_ | with_reducible refine wt_alt ?_ wt_no | with_reducible refine wt_done ?_))
          refine rest _ _ _ _ [2, 3] f1.to f2.to ?_
          simp (disch := omega) only [go_sem, Nat.reduceBEq, Nat.reduceAdd, nodupB, true_or]
        · (repeat (first | (refine wo rfl (fun k hk => ?_); simp (disch := omega) only [go_sem, Nat.reduceBEq, Nat.reduceAdd]; refine hk _ _ ?_; clear hk k) | refine wkt rfl ?_ | with_reducible refine wk0 ?_ | with_reducible refine wt_seg ?_ | with_reducible refine wt_alt ?_ wt_no | with_reducible refine wt_done ?_))
          refine rest _ _ _ _ [3, 2] f1.to f2.to ?_
          simp (disch := omega) only [go_sem, Nat.reduceBEq, Nat.reduceAdd, nodupB, true_or]
      · (repeat (first | (refine wo rfl (fun k hk => ?_); simp (disch := omega) only [go_sem, Nat.reduceBEq, Nat.reduceAdd]; refine hk _ _ ?_; clear hk k) | refine wkt rfl ?_ | with_reducible refine wk0 ?_ | with_reducible refine wt_seg ?_ | with_reducible refine wt_alt ?_ wt_no | with_reducible refine wt_done ?_))
        refine wt_alt ?_ (wt_alt ?_ wt_no)
        · refine cN rfl rfl rfl rfl (by exact kB) ?_; rintro v2 h2 st_h2 f2; obtain ⟨v2_0, v2_1, v2_2, v2_3, v2_4, v2_5, v2_6, v2_7, v2_8, v2_9, v2_10, v2_11, v2_12, v2_13, rfl, f2⟩ := f2.sa; (repeat (first | (refine wo rfl (fun k hk => ?_); simp (disch := omega) only [go_sem, Nat.reduceBEq, Nat.reduceAdd]; refine hk _ _ ?_; clear hk k) | refine wkt rfl ?_ | with_reducible refine wk0 ?_ | with_reducible refine wt_seg ?_ | with_reducible refine wt_alt ?_ wt_no | with_reducible refine wt_done ?_))
          refine rest _ _ _ _ [2, 3] f1.to f2.to ?_
          simp (disch := omega) only [go_sem, Nat.reduceBEq, Nat.reduceAdd, nodupB, true_or]
        · (repeat (first | (refine wo rfl (fun k hk => ?_); simp (disch := omega) only [go_sem, Nat.reduceBEq, Nat.reduceAdd]; refine hk _ _ ?_; clear hk k) | refine wkt rfl ?_ | with_reducible refine wk0 ?_ | with_reducible refine wt_seg ?_ | with_reducible refine wt_alt ?_ wt_no | with_reducible refine wt_done ?_))
          refine cN rfl rfl rfl rfl (by exact kB) ?_; rintro v2 h2 st_h2 f2; obtain ⟨v2_0, v2_1, v2_2, v2_3, v2_4, v2_5, v2_6, v2_7, v2_8, v2_9, v2_10, v2_11, v2_12, v2_13, rfl, f2⟩ := f2.sa; (repeat (first | (refine wo rfl (fun k hk => ?_); simp (disch := omega) only [go_sem, Nat.reduceBEq, Nat.reduceAdd]; refine hk _ _ ?_; clear hk k) | refine wkt rfl ?_ | with_reducible refine wk0 ?_ | with_reducible refine wt_seg ?_ | with_reducible refine wt_alt ?_ wt_no | with_reducible refine wt_done ?_))
          refine rest _ _ _ _ [2, 3] f1.to f2.to ?_
          simp (disch := omega) only [go_sem, Nat.reduceBEq, Nat.reduceAdd, nodupB, true_or]
      · (repeat (first | (refine wo rfl (fun k hk => ?_); simp (disch := omega) only [go_sem, Nat.reduceBEq, Nat.reduceAdd]; refine hk _ _ ?_; clear hk k) | refine wkt rfl ?_ | with_reducible refine wk0 ?_ | with_reducible refine wt_seg ?_ | with_reducible refine wt_alt ?_ wt_no | with_reducible refine wt_done ?_))
        refine wt_alt ?_ (wt_alt ?_ wt_no)
        · refine cN rfl rfl rfl rfl (by exact kB) ?_; rintro v2 h2 st_h2 f2; obtain ⟨v2_0, v2_1, v2_2, v2_3, v2_4, v2_5, v2_6, v2_7, v2_8, v2_9, v2_10, v2_11, v2_12, v2_13, rfl, f2⟩ := f2.sa; (repeat (first | (refine wo rfl (fun k hk => ?_); simp (disch := omega) only [go_sem, Nat.reduceBEq, Nat.reduceAdd]; refine hk _ _ ?_; clear hk k) | refine wkt rfl ?_ | with_reducible refine wk0 ?_ | with_reducible refine wt_seg ?_ | with_reducible refine wt_alt ?_ wt_no | with_reducible refine wt_done ?_))
          refine rest _ _ _ _ [3, 2] f1.to f2.to ?_
          simp (disch := omega) only [go_sem, Nat.reduceBEq, Nat.reduceAdd, nodupB, true_or]
        · (repeat (first | (refine wo rfl (fun k hk => ?_); simp (disch := omega) only [go_sem, Nat.reduceBEq, Nat.reduceAdd]; refine hk _ _ ?_; clear hk k) | refine wkt rfl ?_ | with_reducible refine wk0 ?_ | with_reducible refine wt_seg ?_ | with_reducible refine wt_alt ?_ wt_no | with_reducible refine wt_done ?_))
          refine cN rfl rfl rfl rfl (by exact kB) ?_; rintro v2 h2 st_h2 f2; obtain ⟨v2_0, v2_1, v2_2, v2_3, v2_4, v2_5, v2_6, v2_7, v2_8, v2_9, v2_10, v2_11, v2_12, v2_13, rfl, f2⟩ := f2.sa; (repeat (first | (refine wo rfl (fun k hk => ?_); simp (disch := omega) only [go_sem, Nat.reduceBEq, Nat.reduceAdd]; refine hk _ _ ?_; clear hk k) | refine wkt rfl ?_ | with_reducible refine wk0 ?_ | with_reducible refine wt_seg ?_ | with_reducible refine wt_alt ?_ wt_no | with_reducible refine wt_done ?_))
          refine rest _ _ _ _ [3, 2] f1.to f2.to ?_
          simp (disch := omega) only [go_sem, Nat.reduceBEq, Nat.reduceAdd, nodupB, true_or]
    · (repeat (first | (refine wo rfl (fun k hk => ?_); simp (disch := omega) only [go_sem, Nat.reduceBEq, Nat.reduceAdd]; refine hk _ _ ?_; clear hk k) | refine wkt rfl ?_ | with_reducible refine wk0 ?_ | with_reducible refine wt_seg ?_ | with_reducible refine wt_alt ?_ wt_no | with_reducible refine wt_done ?_))
      refine wt_alt ?_ (wt_alt ?_ wt_no)
      · refine cN rfl rfl rfl rfl (by exact kA) ?_; rintro v1 h1 st_h1 f1; obtain ⟨v1_0, v1_1, v1_2, v1_3, v1_4, v1_5, v1_6, v1_7, v1_8, v1_9, v1_10, v1_11, v1_12, v1_13, rfl, f1⟩ := f1.sa; (repeat (first | (refine wo rfl (fun k hk => ?_); simp (disch := omega) only [go_sem, Nat.reduceBEq, Nat.reduceAdd]; refine hk _ _ ?_; clear hk k) | refine wkt rfl ?_ | with_reducible refine wk0 ?_ | with_reducible refine wt_seg ?_ | with_reducible refine wt_alt ?_ wt_no | with_reducible refine wt_done ?_))
        refine wt_alt ?_ (wt_alt ?_ wt_no)
        · refine cN rfl rfl rfl rfl (by exact kB) ?_; rintro v2 h2 st_h2 f2; obtain ⟨v2_0, v2_1, v2_2, v2_3, v2_4, v2_5, v2_6, v2_7, v2_8, v2_9, v2_10, v2_11, v2_12, v2_13, rfl, f2⟩ := f2.sa; (repeat (first | (refine wo rfl (fun k hk => ?_); simp (disch := omega) only [go_sem, Nat.reduceBEq, Nat.reduceAdd]; refine hk _ _ ?_; clear hk k) | refine wkt rfl ?_ | with_reducible refine wk0 ?_ | with_reducible refine wt_seg ?_ | with_reducible refine wt_alt ?_ wt_no | with_reducible refine wt_done ?_))
          refine rest _ _ _ _ [2, 3] f1.to f2.to ?_
          simp (disch := omega) only [go_sem, Nat.reduceBEq, Nat.reduceAdd, nodupB, true_or]
        · (repeat (first | (refine wo rfl (fun k hk => ?_); simp (disch := omega) only [go_sem, Nat.reduceBEq, Nat.reduceAdd]; refine hk _ _ ?_; clear hk k) | refine wkt rfl ?_ | with_reducible refine wk0 ?_ | with_reducible refine wt_seg ?_ | with_reducible refine wt_alt ?_ wt_no | with_reducible refine wt_done ?_))
          refine cN rfl rfl rfl rfl (by exact kB) ?_; rintro v2 h2 st_h2 f2; obtain ⟨v2_0, v2_1, v2_2, v2_3, v2_4, v2_5, v2_6, v2_7, v2_8, v2_9, v2_10, v2_11, v2_12, v2_13, rfl, f2⟩ := f2.sa; (repeat (first | (refine wo rfl (fun k hk => ?_); simp (disch := omega) only [go_sem, Nat.reduceBEq, Nat.reduceAdd]; refine hk _ _ ?_; clear hk k) | refine wkt rfl ?_ | with_reducible refine wk0 ?_ | with_reducible refine wt_seg ?_ | with_reducible refine wt_alt ?_ wt_no | with_reducible refine wt_done ?_))
          refine rest _ _ _ _ [2, 3] f1.to f2.to ?_
          simp (disch := omega) only [go_sem, Nat.reduceBEq, Nat.reduceAdd, nodupB, true_or]
      · (repeat (first | (refine wo rfl (fun k hk => ?_); simp (disch := omega) only [go_sem, Nat.reduceBEq, Nat.reduceAdd]; refine hk _ _ ?_; clear hk k) | refine wkt rfl ?_ | with_reducible refine wk0 ?_ | with_reducible refine wt_seg ?_ | with_reducible refine wt_alt ?_ wt_no | with_reducible refine wt_done ?_))
        refine cN rfl rfl rfl rfl (by exact kA) ?_; rintro v1 h1 st_h1 f1; obtain ⟨v1_0, v1_1, v1_2, v1_3, v1_4, v1_5, v1_6, v1_7, v1_8, v1_9, v1_10, v1_11, v1_12, v1_13, rfl, f1⟩ := f1.sa; (repeat (first | (refine wo rfl (fun k hk => ?_); simp (disch := omega) only [go_sem, Nat.reduceBEq, Nat.reduceAdd]; refine hk _ _ ?_; clear hk k) | refine wkt rfl ?_ | with_reducible refine wk0 ?_ | with_reducible refine wt_seg ?_ | with_reducible refine wt_alt ?_ wt_no | with_reducible refine wt_done ?_))
        refine cN rfl rfl rfl rfl (by exact kB) ?_; rintro v2 h2 st_h2 f2; obtain ⟨v2_0, v2_1, v2_2, v2_3, v2_4, v2_5, v2_6, v2_7, v2_8, v2_9, v2_10, v2_11, v2_12, v2_13, rfl, f2⟩ := f2.sa; (repeat (first | (refine wo rfl (fun k hk => ?_); simp (disch := omega) only [go_sem, Nat.reduceBEq, Nat.reduceAdd]; refine hk _ _ ?_; clear hk k) | refine wkt rfl ?_ | with_reducible refine wk0 ?_ | with_reducible refine wt_seg ?_ | with_reducible refine wt_alt ?_ wt_no | with_reducible refine wt_done ?_))
        refine rest _ _ _ _ [2, 3] f1.to f2.to ?_
        simp (disch := omega) only [go_sem, Nat.reduceBEq, Nat.reduceAdd, nodupB, true_or]
    · (repeat (first | (refine wo rfl (fun k hk => ?_); simp (disch := omega) only [go_sem, Nat.reduceBEq, Nat.reduceAdd]; refine hk _ _ ?_; clear hk k) | refine wkt rfl ?_ | with_reducible refine wk0 ?_ | with_reducible refine wt_seg ?_ | with_reducible refine wt_alt ?_ wt_no | with_reducible refine wt_done ?_))
      refine wt_alt ?_ (wt_alt ?_ wt_no)
      · refine cN rfl rfl rfl rfl (by exact kA) ?_; rintro v1 h1 st_h1 f1; obtain ⟨v1_0, v1_1, v1_2, v1_3, v1_4, v1_5, v1_6, v1_7, v1_8, v1_9, v1_10, v1_11, v1_12, v1_13, rfl, f1⟩ := f1.sa; (repeat (first | (refine wo rfl (fun k hk => ?_); simp (disch := omega) only [go_sem, Nat.reduceBEq, Nat.reduceAdd]; refine hk _ _ ?_; clear hk k) | refine wkt rfl ?_ | with_reducible refine wk0 ?_ | with_reducible refine wt_seg ?_ | with_reducible refine wt_alt ?_ wt_no | with_reducible refine wt_done ?_))
        refine wt_alt ?_ (wt_alt ?_ wt_no)
        · refine cN rfl rfl rfl rfl (by exact kB) ?_; rintro v2 h2 st_h2 f2; obtain ⟨v2_0, v2_1, v2_2, v2_3, v2_4, v2_5, v2_6, v2_7, v2_8, v2_9, v2_10, v2_11, v2_12, v2_13, rfl, f2⟩ := f2.sa; (repeat (first | (refine wo rfl (fun k hk => ?_); simp (disch := omega) only [go_sem, Nat.reduceBEq, Nat.reduceAdd]; refine hk _ _ ?_; clear hk k) | refine wkt rfl ?_ | with_reducible refine wk0 ?_ | with_reducible refine wt_seg ?_ | with_reducible refine wt_alt ?_ wt_no | with_reducible refine wt_done ?_))
          refine rest _ _ _ _ [3, 2] f1.to f2.to ?_
          simp (disch := omega) only [go_sem, Nat.reduceBEq, Nat.reduceAdd, nodupB, true_or]
        · (repeat (first | (refine wo rfl (fun k hk => ?_); simp (disch := omega) only [go_sem, Nat.reduceBEq, Nat.reduceAdd]; refine hk _ _ ?_; clear hk k) | refine wkt rfl ?_ | with_reducible refine wk0 ?_ | with_reducible refine wt_seg ?_ | with_reducible refine wt_alt ?_ wt_no | with_reducible refine wt_done ?_))
          refine cN rfl rfl rfl rfl (by exact kB) ?_; rintro v2 h2 st_h2 f2; obtain ⟨v2_0, v2_1, v2_2, v2_3, v2_4, v2_5, v2_6, v2_7, v2_8, v2_9, v2_10, v2_11, v2_12, v2_13, rfl, f2⟩ := f2.sa; (repeat (first | (refine wo rfl (fun k hk => ?_); simp (disch := omega) only [go_sem, Nat.reduceBEq, Nat.reduceAdd]; refine hk _ _ ?_; clear hk k) | refine wkt rfl ?_ | with_reducible refine wk0 ?_ | with_reducible refine wt_seg ?_ | with_reducible refine wt_alt ?_ wt_no | with_reducible refine wt_done ?_))
          refine rest _ _ _ _ [3, 2] f1.to f2.to ?_
          simp (disch := omega) only [go_sem, Nat.reduceBEq, Nat.reduceAdd, nodupB, true_or]
      · (repeat (first | (refine wo rfl (fun k hk => ?_); simp (disch := omega) only [go_sem, Nat.reduceBEq, Nat.reduceAdd]; refine hk _ _ ?_; clear hk k) | refine wkt rfl ?_ | with_reducible refine wk0 ?_ | with_reducible refine wt_seg ?_ | with_reducible refine wt_alt ?_ wt_no | with_reducible refine wt_done ?_))
        refine cN rfl rfl rfl rfl (by exact kA) ?_; rintro v1 h1 st_h1 f1; obtain ⟨v1_0, v1_1, v1_2, v1_3, v1_4, v1_5, v1_6, v1_7, v1_8, v1_9, v1_10, v1_11, v1_12, v1_13, rfl, f1⟩ := f1.sa; (repeat (first | (refine wo rfl (fun k hk => ?_); simp (disch := omega) only [go_sem, Nat.reduceBEq, Nat.reduceAdd]; refine hk _ _ ?_; clear hk k) | refine wkt rfl ?_ | with_reducible refine wk0 ?_ | with_reducible refine wt_seg ?_ | with_reducible refine wt_alt ?_ wt_no | with_reducible refine wt_done ?_))
        refine cN rfl rfl rfl rfl (by exact kB) ?_; rintro v2 h2 st_h2 f2; obtain ⟨v2_0, v2_1, v2_2, v2_3, v2_4, v2_5, v2_6, v2_7, v2_8, v2_9, v2_10, v2_11, v2_12, v2_13, rfl, f2⟩ := f2.sa; (repeat (first | (refine wo rfl (fun k hk => ?_); simp (disch := omega) only [go_sem, Nat.reduceBEq, Nat.reduceAdd]; refine hk _ _ ?_; clear hk k) | refine wkt rfl ?_ | with_reducible refine wk0 ?_ | with_reducible refine wt_seg ?_ | with_reducible refine wt_alt ?_ wt_no | with_reducible refine wt_done ?_))
        refine rest _ _ _ _ [3, 2] f1.to f2.to ?_
        simp (disch := omega) only [go_sem, Nat.reduceBEq, Nat.reduceAdd, nodupB, true_or]
  intro cs ds h' S ix r1 r2 hS
  refine hK _ _ (AWP_leS _ _ hS ?_); clear hK K kA kB
  obtain ⟨_, _, _, _, _, _, _, _, _, _, _, _, _, _, e1, p1, p2⟩ := r1.sa
  obtain ⟨_, _, _, _, _, _, _, _, _, _, _, _, _, _, e2, p3, p4⟩ := r2.sa
  simp only [Value.agg.injEq, Array.mk.injEq] at e1 e2
  subst e1
  subst e2
  unfold sameN
  have c1 := fun {h} [Le h' h] => QCmp_spec (h := h) p1 p3 (by omega) (by omega)
  have c2 := fun {h} [Le h' h] => QCmp_spec (h := h) p2 p4 (by omega) (by omega)
  generalize X.void = e at *
  generalize Y.void = e' at *
  cases e with
  | true =>
    cases e' <;>
    · repeat (first | (refine rg rfl rfl (fun K hK => ?_); (repeat (first | (refine wo rfl (fun k hk => ?_); simp (disch := omega) only [go_sem, Nat.reduceBEq, Nat.reduceAdd]; refine hk _ _ ?_; clear hk k) | refine wkt rfl ?_)); (try refine wk0 ?_); refine hK _ _ ?_; clear hK K; (try dsimp only [behind, qs, qb])) | ((first | refine AWP_exit ?_ | refine AWP_skip ?_); simp (disch := decide) only [qs, qb, if_true, if_false, reduceIte]) | refine AWP_sq rfl (fun K hK => ?_) | refine ct rfl ?_ | ((first | refine hK _ _ ?_ | (clear hK; refine hK _ _ ?_) | (clear hK; clear hK; refine hK _ _ ?_)); clear hK; (try clear K)))
      refine AWP_ret ?_; simp (disch := omega) only [go_sem, Nat.reduceBEq, Nat.reduceAdd]
      all_goals first | rfl | simp
  | false =>
    cases e' with
    | true =>
      repeat (first | (refine rg rfl rfl (fun K hK => ?_); (repeat (first | (refine wo rfl (fun k hk => ?_); simp (disch := omega) only [go_sem, Nat.reduceBEq, Nat.reduceAdd]; refine hk _ _ ?_; clear hk k) | refine wkt rfl ?_)); (try refine wk0 ?_); refine hK _ _ ?_; clear hK K; (try dsimp only [behind, qs, qb])) | ((first | refine AWP_exit ?_ | refine AWP_skip ?_); simp (disch := decide) only [qs, qb, if_true, if_false, reduceIte]) | refine AWP_sq rfl (fun K hK => ?_) | refine ct rfl ?_ | ((first | refine hK _ _ ?_ | (clear hK; refine hK _ _ ?_) | (clear hK; clear hK; refine hK _ _ ?_)); clear hK; (try clear K)))
      refine AWP_ret ?_; simp (disch := omega) only [go_sem, Nat.reduceBEq, Nat.reduceAdd]
      all_goals first | rfl | simp
    | false =>
      simp only [Bool.or_self, cond_false]
      generalize X.loN = l at *
      generalize Y.loN = l' at *
      generalize X.hiN = u at *
      generalize Y.hiN = u' at *
      generalize X.lo0 = q1 at *
      generalize Y.lo0 = q1' at *
      generalize X.hi0 = q2 at *
      generalize Y.hi0 = q2' at *
      by_cases hl : l = l'
      · subst hl
        by_cases hu : u = u'
        · subst hu
          by_cases e1 : q1 = q1'
          · subst e1
            have k1 := cmpQ_self q1
            by_cases e2 : q2 = q2'
            · subst e2
              have k2 := cmpQ_self q2
              cases l <;> cases u <;>
              · simp only [decide_true]
                repeat (first | (refine rg rfl rfl (fun K hK => ?_); (repeat (first | (refine wo rfl (fun k hk => ?_); simp (disch := omega) only [go_sem, Nat.reduceBEq, Nat.reduceAdd]; refine hk _ _ ?_; clear hk k) | refine wkt rfl ?_)); (try refine wk0 ?_); refine hK _ _ ?_; clear hK K; (try dsimp only [behind, qs, qb])) | ((first | refine AWP_exit ?_ | refine AWP_skip ?_); simp (disch := decide) only [qs, qb, if_true, if_false, reduceIte]) | refine AWP_sq rfl (fun K hK => ?_) | refine ct rfl ?_ | ((first | refine hK _ _ ?_ | (clear hK; refine hK _ _ ?_) | (clear hK; clear hK; refine hK _ _ ?_)); clear hK; (try clear K)))
                refine rg rfl rfl (fun K hK => ?_); (repeat (first | (refine wo rfl (fun k hk => ?_); simp (disch := omega) only [go_sem, Nat.reduceBEq, Nat.reduceAdd]; refine hk _ _ ?_; clear hk k) | refine wkt rfl ?_ | with_reducible refine wk0 ?_ | with_reducible refine wt_seg ?_ | with_reducible refine wt_alt ?_ wt_no | with_reducible refine wt_done ?_))
                refine cN rfl rfl rfl rfl (by exact c1) ?_; rintro v1 h1 s1 rfl; (repeat (first | (refine wo rfl (fun k hk => ?_); simp (disch := omega) only [go_sem, Nat.reduceBEq, Nat.reduceAdd]; refine hk _ _ ?_; clear hk k) | refine wkt rfl ?_ | with_reducible refine wk0 ?_ | with_reducible refine wt_seg ?_ | with_reducible refine wt_alt ?_ wt_no | with_reducible refine wt_done ?_))
                refine cN rfl rfl rfl rfl (by exact c2) ?_; rintro v2 h2 s2 rfl; (repeat (first | (refine wo rfl (fun k hk => ?_); simp (disch := omega) only [go_sem, Nat.reduceBEq, Nat.reduceAdd]; refine hk _ _ ?_; clear hk k) | refine wkt rfl ?_ | with_reducible refine wk0 ?_ | with_reducible refine wt_seg ?_ | with_reducible refine wt_alt ?_ wt_no | with_reducible refine wt_done ?_))
                (try (simp (disch := omega) only [go_sem, Nat.reduceBEq, Nat.reduceAdd])); refine hK _ _ ?_; clear hK; (try clear K); (try dsimp only [behind, qs])
                refine AWP_ret ?_; simp (disch := omega) only [go_sem, Nat.reduceBEq, Nat.reduceAdd]
                all_goals first | rfl | simp
            · have k2 := cmpQ_ne e2
              cases l <;> cases u <;>
              · simp only [e2, decide_true, decide_false]
                repeat (first | (refine rg rfl rfl (fun K hK => ?_); (repeat (first | (refine wo rfl (fun k hk => ?_); simp (disch := omega) only [go_sem, Nat.reduceBEq, Nat.reduceAdd]; refine hk _ _ ?_; clear hk k) | refine wkt rfl ?_)); (try refine wk0 ?_); refine hK _ _ ?_; clear hK K; (try dsimp only [behind, qs, qb])) | ((first | refine AWP_exit ?_ | refine AWP_skip ?_); simp (disch := decide) only [qs, qb, if_true, if_false, reduceIte]) | refine AWP_sq rfl (fun K hK => ?_) | refine ct rfl ?_ | ((first | refine hK _ _ ?_ | (clear hK; refine hK _ _ ?_) | (clear hK; clear hK; refine hK _ _ ?_)); clear hK; (try clear K)))
                refine rg rfl rfl (fun K hK => ?_); (repeat (first | (refine wo rfl (fun k hk => ?_); simp (disch := omega) only [go_sem, Nat.reduceBEq, Nat.reduceAdd]; refine hk _ _ ?_; clear hk k) | refine wkt rfl ?_ | with_reducible refine wk0 ?_ | with_reducible refine wt_seg ?_ | with_reducible refine wt_alt ?_ wt_no | with_reducible refine wt_done ?_))
                refine cN rfl rfl rfl rfl (by exact c1) ?_; rintro v1 h1 s1 rfl; (repeat (first | (refine wo rfl (fun k hk => ?_); simp (disch := omega) only [go_sem, Nat.reduceBEq, Nat.reduceAdd]; refine hk _ _ ?_; clear hk k) | refine wkt rfl ?_ | with_reducible refine wk0 ?_ | with_reducible refine wt_seg ?_ | with_reducible refine wt_alt ?_ wt_no | with_reducible refine wt_done ?_))
                refine cN rfl rfl rfl rfl (by exact c2) ?_; rintro v2 h2 s2 rfl; (repeat (first | (refine wo rfl (fun k hk => ?_); simp (disch := omega) only [go_sem, Nat.reduceBEq, Nat.reduceAdd]; refine hk _ _ ?_; clear hk k) | refine wkt rfl ?_ | with_reducible refine wk0 ?_ | with_reducible refine wt_seg ?_ | with_reducible refine wt_alt ?_ wt_no | with_reducible refine wt_done ?_))
                (try (simp (disch := omega) only [go_sem, Nat.reduceBEq, Nat.reduceAdd])); refine hK _ _ ?_; clear hK; (try clear K); (try dsimp only [behind, qs])
                refine AWP_ret ?_; simp (disch := omega) only [go_sem, Nat.reduceBEq, Nat.reduceAdd]
                all_goals first | rfl | simp
          · have k1 := cmpQ_ne e1
            cases l <;> cases u <;>
            · simp only [e1, decide_false, Bool.and_false, Bool.false_and]
              repeat (first | (refine rg rfl rfl (fun K hK => ?_); (repeat (first | (refine wo rfl (fun k hk => ?_); simp (disch := omega) only [go_sem, Nat.reduceBEq, Nat.reduceAdd]; refine hk _ _ ?_; clear hk k) | refine wkt rfl ?_)); (try refine wk0 ?_); refine hK _ _ ?_; clear hK K; (try dsimp only [behind, qs, qb])) | ((first | refine AWP_exit ?_ | refine AWP_skip ?_); simp (disch := decide) only [qs, qb, if_true, if_false, reduceIte]) | refine AWP_sq rfl (fun K hK => ?_) | refine ct rfl ?_ | ((first | refine hK _ _ ?_ | (clear hK; refine hK _ _ ?_) | (clear hK; clear hK; refine hK _ _ ?_)); clear hK; (try clear K)))
              refine rg rfl rfl (fun K hK => ?_); (repeat (first | (refine wo rfl (fun k hk => ?_); simp (disch := omega) only [go_sem, Nat.reduceBEq, Nat.reduceAdd]; refine hk _ _ ?_; clear hk k) | refine wkt rfl ?_ | with_reducible refine wk0 ?_ | with_reducible refine wt_seg ?_ | with_reducible refine wt_alt ?_ wt_no | with_reducible refine wt_done ?_))
              refine cN rfl rfl rfl rfl (by exact c1) ?_; rintro v1 h1 s1 rfl; (repeat (first | (refine wo rfl (fun k hk => ?_); simp (disch := omega) only [go_sem, Nat.reduceBEq, Nat.reduceAdd]; refine hk _ _ ?_; clear hk k) | refine wkt rfl ?_ | with_reducible refine wk0 ?_ | with_reducible refine wt_seg ?_ | with_reducible refine wt_alt ?_ wt_no | with_reducible refine wt_done ?_))
              (try (simp (disch := omega) only [go_sem, Nat.reduceBEq, Nat.reduceAdd])); refine hK _ _ ?_; clear hK; (try clear K); (try dsimp only [behind, qs])
              refine AWP_ret ?_; simp (disch := omega) only [go_sem, Nat.reduceBEq, Nat.reduceAdd]
              all_goals first | rfl | simp
        · obtain rfl : u' = !u := by cases u <;> cases u' <;> simp_all
          cases l <;> cases u <;>
          · repeat (first | (refine rg rfl rfl (fun K hK => ?_); (repeat (first | (refine wo rfl (fun k hk => ?_); simp (disch := omega) only [go_sem, Nat.reduceBEq, Nat.reduceAdd]; refine hk _ _ ?_; clear hk k) | refine wkt rfl ?_)); (try refine wk0 ?_); refine hK _ _ ?_; clear hK K; (try dsimp only [behind, qs, qb])) | ((first | refine AWP_exit ?_ | refine AWP_skip ?_); simp (disch := decide) only [qs, qb, if_true, if_false, reduceIte]) | refine AWP_sq rfl (fun K hK => ?_) | refine ct rfl ?_ | ((first | refine hK _ _ ?_ | (clear hK; refine hK _ _ ?_) | (clear hK; clear hK; refine hK _ _ ?_)); clear hK; (try clear K)))
            refine AWP_ret ?_; simp (disch := omega) only [go_sem, Nat.reduceBEq, Nat.reduceAdd]
            all_goals first | rfl | simp
      · obtain rfl : l' = !l := by cases l <;> cases l' <;> simp_all
        cases l <;>
        · repeat (first | (refine rg rfl rfl (fun K hK => ?_); (repeat (first | (refine wo rfl (fun k hk => ?_); simp (disch := omega) only [go_sem, Nat.reduceBEq, Nat.reduceAdd]; refine hk _ _ ?_; clear hk k) | refine wkt rfl ?_)); (try refine wk0 ?_); refine hK _ _ ?_; clear hK K; (try dsimp only [behind, qs, qb])) | ((first | refine AWP_exit ?_ | refine AWP_skip ?_); simp (disch := decide) only [qs, qb, if_true, if_false, reduceIte]) | refine AWP_sq rfl (fun K hK => ?_) | refine ct rfl ?_ | ((first | refine hK _ _ ?_ | (clear hK; refine hK _ _ ?_) | (clear hK; clear hK; refine hK _ _ ?_)); clear hK; (try clear K)))
          refine AWP_ret ?_; simp (disch := omega) only [go_sem, Nat.reduceBEq, Nat.reduceAdd]
          all_goals first | rfl | simp
theorem a2_law {h0 h : PH} [Le h0 h] {v : Value} {x : RI} (hv : Iv h0 v x) (g : x.big = false) : Spec mach 38 #[v] h (fun r h' => Cv h' r x.set) NP := by
  have hv0 := hv
  obtain ⟨a1, m1, c1, a2, m2, c2, a3, m3, c3, a4, m4, c4, rfl, _, _⟩ := hv.sa
  refine Spec.enter (args := [_]) (n := 6) Tryd.func38 rfl (by kernel_rfl) rfl (by simp) [.cell 2 26] rfl (fun C _ => ?_)
  repeat (first | (refine rg rfl rfl (fun K hK => ?_); (repeat (first | (refine wo rfl (fun k hk => ?_); simp (disch := omega) only [go_sem, Nat.reduceBEq, Nat.reduceAdd]; refine hk _ _ ?_; clear hk k) | refine wkt rfl ?_)); (try refine wk0 ?_); refine hK _ _ ?_; clear hK K; (try dsimp only [behind, qs, qb])) | ((first | refine AWP_exit ?_ | refine AWP_skip ?_); simp (disch := decide) only [qs, qb, if_true, if_false, reduceIte]) | refine AWP_sq rfl (fun K hK => ?_) | refine ct rfl ?_ | ((first | refine hK _ _ ?_ | (clear hK; refine hK _ _ ?_) | (clear hK; clear hK; refine hK _ _ ?_)); clear hK; (try clear K)))
  refine rg rfl rfl (fun K hK => ?_); (repeat (first | (refine wo rfl (fun k hk => ?_); simp (disch := omega) only [go_sem, Nat.reduceBEq, Nat.reduceAdd]; refine hk _ _ ?_; clear hk k) | refine wkt rfl ?_)); (try refine wk0 ?_)
  refine cN rfl rfl rfl rfl (by exact RefOf hv0 g) ?_; rintro v1 h1 st_h1 f1; obtain ⟨v1_0, v1_1, v1_2, v1_3, v1_4, v1_5, v1_6, v1_7, v1_8, v1_9, v1_10, v1_11, v1_12, v1_13, rfl, f1⟩ := f1.sa; (repeat (first | (refine wo rfl (fun k hk => ?_); simp (disch := omega) only [go_sem, Nat.reduceBEq, Nat.reduceAdd]; refine hk _ _ ?_; clear hk k) | refine wkt rfl ?_)); (try refine wk0 ?_)
  refine cN rfl rfl rfl rfl (by exact RefApi f1 ((RI.le g).up (by decide))) ?_; rintro v2 h2 st_h2 f2; obtain ⟨v2_0, v2_1, v2_2, v2_3, v2_4, v2_5, v2_6, v2_7, v2_8, v2_9, v2_10, v2_11, v2_12, v2_13, v2_14, v2_15, rfl, f2⟩ := f2.sa; (repeat (first | (refine wo rfl (fun k hk => ?_); simp (disch := omega) only [go_sem, Nat.reduceBEq, Nat.reduceAdd]; refine hk _ _ ?_; clear hk k) | refine wkt rfl ?_)); (try refine wk0 ?_)
  (try (simp (disch := omega) only [go_sem, Nat.reduceBEq, Nat.reduceAdd])); refine hK _ _ ?_; clear hK; (try clear K); (try dsimp only [behind, qs])
  refine AWP_ret ?_; simp (disch := omega) only [go_sem, Nat.reduceBEq, Nat.reduceAdd]
  exact f2
end Go.Q
