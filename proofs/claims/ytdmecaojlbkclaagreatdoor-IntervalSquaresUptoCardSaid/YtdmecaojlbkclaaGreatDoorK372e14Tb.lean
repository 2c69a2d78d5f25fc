/-
  The same of another type of result: truth values. Conditions: the closure's contract. (Printed by a program out of the text for intervals.)
-/
import Derived.Test.YtdmecaojlbkclaaGreatDoorK9b30feTy
set_option linter.unusedVariables false
set_option linter.unusedSimpArgs false
namespace Go.Q
open Go.Proofs
open Go.RowKit (Below)
set_option maxRecDepth 100000
set_option maxHeartbeats 4000000
theorem idle_Bo (p q : Value) (w : World) : CallsD mach.P 149 #[p, q] .returning w fun e u' w' => e = .returned (.tuple #[]) ∧ u' = .returning ∧ w' = w := by
  refine callsD_of_wpS Tryz.func149 rfl fun c₀ cs hu => ?_
  apply wpS_seq
  apply wpS_region
  simp [wpOpsS, go_sem, recoverD, hu, Exit.thenS]
  have hnil : ∀ w : World, (binOp BinOp.eql 20 .nilIface .nilIface).run mach.P w = .ok (.bool true) w := fun _ => by kernel_rfl
  refine wpS_of_wp (wp_block (wp_seq_k fun K hK => ?_))
  apply wp_region
  simp [wpOps, go_sem, hnil, Oper.upon, Exit.then]
  refine .inl (hK _ _ ?_)
  clear hK K
  refine wp_cond_true ?_ ?_
  · simp [Act.eval]
  apply wp_region
  simp [wpOps, go_sem]
  cases c₀
  simp_all [bodyPostS, results, Tryz.results149, Exit.inBlock]
theorem caught_Bo {C : Ctx} {h : PH} {β : Nat → Nat} {w : World} {rv re : List Value} {e : Int} (hf : Fine mach C h w) (hr : Rows C h w β [rv, re]) (h8 : rv.length = 1) (h1 : re.length = 1) :
    CallsD mach.P 149 #[.pointer (some ⟨β 0, 0, none⟩), .pointer (some ⟨β 1, 0, none⟩)] (.panicking [{ v := .iface 91 (.agg #[.int .i64 e]), recovered := false }]) w fun en u' w' =>
      en = .returned (.tuple #[]) ∧ u' = .panicking [{ v := .iface 91 (.agg #[.int .i64 e]), recovered := true }] ∧
      Fine mach C h w' ∧ Rows C h w' β [[.bool false], [.int .i64 e]] := by
  have hnil : ∀ w : World, (binOp BinOp.eql 20 (.iface 91 (.agg #[.int .i64 e])) .nilIface).run mach.P w = .ok (.bool false) w := fun _ => by kernel_rfl
  have has : ∀ w : World, (Instr.typeAssert (.iface 91 (.agg #[.int .i64 e])) 20 91 true).run mach.P w = .ok (.tuple #[.agg #[.int .i64 e], .bool true]) w := fun _ => by kernel_rfl
  refine callsD_of_wpS Tryz.func149 rfl fun c₀ cs hu => ?_
  apply wpS_seq
  apply wpS_region
  simp [wpOpsS, go_sem, recoverD, hu, Exit.thenS]
  refine wpS_of_wp (wp_block (wp_seq_k fun K hK => ?_))
  apply wp_region
  simp [wpOps, go_sem, hnil, Oper.upon, Exit.then]
  refine .inl (hK _ _ ?_)
  clear hK K
  refine wp_cond_false ?_ ?_
  · simp [Act.eval]
  refine wp_seq_k fun K hK => ?_
  apply wp_region
  simp [wpOps, go_sem, has, Oper.upon, Exit.then]
  repeat refine Or.inl ?_
  apply hK
  clear hK K
  refine wp_cond_true ?_ ?_
  · simp [Act.eval]
  match rv, re, h8, h1 with
  | [r0], [q0], _, _ =>
  refine wp_mono (AWP_use (M := mach) (n := 15) (C := ⟨C.w0, C.h0, [β 0, β 1], []⟩) (S := ⟨[(0, .p 0 0), (1, .p 1 0), (11, .v (.agg #[.int .i64 e]))], [[r0], [q0]]⟩) (h := h) (β := β) (E := NP)
    (Q := fun en S h' => en = .normal ∧ h' = h ∧ 2 ≤ S.bx.length ∧ S.box 0 = [.bool false] ∧ S.box 1 = [.int .i64 e]) ?_ ?_) ?_
  · refine ⟨by simp, rfl, hf.re rfl rfl, fun i cs hi hc => (hr.at_ i cs hi hc).re rfl, hr.inj, fun t => ?_, fun t i hi => ?_, by simp, fun i hi => ?_⟩
    · simp only [lk]
      by_cases h0 : t = 0
      · subst h0; exact .inr rfl
      · by_cases h1 : t = 1
        · subst h1; exact .inr rfl
        · by_cases h2 : t = 11
          · subst h2; exact .inr rfl
          · refine .inl ?_
            have e0 : (0 == t) = false := by simp; omega
            have e1 : (1 == t) = false := by simp; omega
            have e2 : (11 == t) = false := by simp; omega
            simp [e0, e1, e2]
    · simp only [lk] at hi
      by_cases h0 : t = 0
      · subst h0; simp [AV.ix] at hi; subst hi; simp
      · by_cases h1 : t = 1
        · subst h1; simp [AV.ix] at hi; subst hi; simp
        · have e0 : (0 == t) = false := by simp; omega
          have e1 : (1 == t) = false := by simp; omega
          rw [e0, e1] at hi
          cases hx : (11 == t) <;> rw [hx] at hi <;> cases hi
    · simp only [List.length_cons, List.length_nil] at hi
      match i, hi with
      | 0, _ => rfl
      | 1, _ => rfl
  · repeat (first | (refine rg rfl rfl (fun K hK => ?_); (repeat (first | (refine wo rfl (fun k hk => ?_); simp (disch := omega) only [go_sem, Nat.reduceBEq, Nat.reduceAdd]; apply hk; clear hk k) | refine wkt rfl ?_)); (try refine wk0 ?_); apply hK; clear hK K; (try dsimp only [behind, qs, qb])) | ((first | refine AWP_exit ?_ | refine AWP_skip ?_); simp (disch := decide) only [qs, qb, if_true, if_false, reduceIte]) | refine AWP_sq rfl (fun K hK => ?_) | refine ct rfl ?_ | ((first | apply hK | (clear hK; apply hK) | (clear hK; clear hK; apply hK)); clear hK; (try clear K)))
    refine AWP_yk (.alt 0 (.alt 1 (.alt 2 (.alt 3 (.alt 4 .done .no) .no) (.alt 3 (.alt 2 (.alt 4 .done .no) .no) .no)) (.alt 3 (.alt 1 (.alt 2 (.alt 4 .done .no) .no) .no) .no)) (.alt 1 (.alt 0 (.alt 2 (.alt 3 (.alt 4 .done .no) .no) (.alt 3 (.alt 2 (.alt 4 .done .no) .no) .no)) (.alt 2 (.alt 0 (.alt 3 (.alt 4 .done .no) .no) .no) .no)) .no)) (by decide +kernel) rfl (fun K hK => ?_)
    have fin : ∀ S h', h' = h → S.box 0 = [.bool false] → S.box 1 = [.int .i64 e] → 2 ≤ S.bx.length → K S h' := fun S h' e0 e1 e2 e3 => hK _ _ ⟨rfl, e0, e3, e1, e2⟩
    clear hK
    repeat' (first | exact wt_no | exact wt_done (fin _ _ rfl rfl rfl (by simp)) | refine wt_alt ?_ ?_ | (refine wk (fun k hk => ?_); simp (disch := omega) only [go_sem, Nat.reduceBEq, Nat.reduceAdd]; apply hk; clear hk k; with_reducible refine wk0 ?_))
  · intro en a' w' hq
    cases en with
    | normal =>
      obtain ⟨S', h', β', g', _, rfl, hl, hb0, hb1⟩ := hq
      have e0 : β' 0 = β 0 := g'.pin.2 0 (by simp)
      have e1 : β' 1 = β 1 := g'.pin.2 1 (by simp)
      have x0 := g'.boxes 0 _ (box_get hl) (by rw [hb0]; simp)
      have x1 := g'.boxes 1 _ (box_get hl) (by rw [hb1]; simp)
      have ne := g'.inj 0 1 _ _ (box_get hl) (box_get hl) (by rw [hb0]; simp) (by rw [hb1]; simp)
      rw [e0, hb0] at x0
      rw [e1, hb1] at x1
      rw [e0, e1] at ne
      cases c₀
      simp only [Exit.inBlock, bodyPostS]
      refine ⟨g'.defers, _, rfl, _, results_none rfl _ _ _, rfl, rfl, g'.fine.re rfl rfl, rows_two (x0.re rfl) (x1.re rfl) (fun e => by simpa using ne e)⟩
    | panic ch => obtain ⟨_, _, _, hq⟩ := hq; exact (hq : False).elim
    | outgrown => exact (hq : False).elim
    | _ => obtain ⟨_, _, _, _, hq, _⟩ := hq; cases hq
def offBo (β : Nat → Nat) : Deferred := { target := .fn (.func 149) #[.pointer (some ⟨β 0, 0, none⟩), .pointer (some ⟨β 1, 0, none⟩)], args := #[] }
theorem try_Bo {h : PH} {f : FuncId} {cap : Array Value} {w : World} (hw : Has w h) (hg : Sub mach.gl h) (hc : callable mach.P f = true) {Y : Ending → World → Prop}
    (hk : ∀ (w1 : World), Has w1 h → Calls mach.P f cap w1 fun e w2 => ∃ h3, Below w1.heap.size w1 w2 ∧ Has w2 h3 ∧ Sub h h3 ∧ New w1.heap.size h h3 ∧ match e with
        | .returned v => (∃ r0, v = Value.bool r0 ∧ [Value.bool r0].all Value.oneCell' = true) ∧ ∀ w3, Fine mach ⟨w, h, [], []⟩ h3 w3 → Y (.returned (.tuple #[v, .int .i64 0])) w3
        | .panicked ch => ∃ e, ch = [{ v := .iface 91 (.agg #[.int .i64 e]), recovered := false }] ∧ ∀ w3, Fine mach ⟨w, h, [], []⟩ h3 w3 → Y (.returned (.tuple #[.bool false, .int .i64 e])) w3
        | .outgrown => False) : Calls mach.P 113 #[.func (.func f) #[] cap] w Y := by
  refine calls_of_wp_defers Tryz.func113 rfl ?_
  refine wp_seq (wp_mono (AWP_use (E := NP) (Q := fun e S h' => e = .normal ∧ h' = h ∧ S = ⟨[(0, .v (.func (.func f) #[] cap)), (2, .p 0 0), (3, .p 1 0)], [[.bool false], [.int .i64 0]]⟩) (G.start (M := mach) (n := 7) (args := [(.func (.func f) #[] cap)]) [] rfl (by simp) hw hg) ?_) ?_)
  · refine AWP_s rfl ?_
    (repeat (first | (refine wo rfl (fun k hk => ?_); simp (disch := omega) only [go_sem, Nat.reduceBEq, Nat.reduceAdd]; apply hk; clear hk k) | refine wkt rfl ?_)); (try refine wk0 ?_)
    exact ⟨rfl, rfl, rfl⟩
  · intro en a w1 hq
    cases en with
    | normal =>
      obtain ⟨S', h', β, g, _, rfl, rfl⟩ := hq
      refine wp_seq (wp_region_s ?_)
      show RWc _ _ _ [0, 1] _ _
      refine RWc_r (.func (.func 149) #[] #[.pointer (some ⟨β 0, 0, none⟩), .pointer (some ⟨β 1, 0, none⟩)]) rfl rfl rfl (fun w' hb => ?_) ?_
      · simp [execOp, Instr.makeFunc, (g.below hb).ev_p (x := .tmp 2) rfl, (g.below hb).ev_p (x := .tmp 3) rfl]
      · have g4 := g.put (d := some 4) (fun k hk => by cases hk; decide) (x := .top) (v := (.func (.func 149) #[] #[.pointer (some ⟨β 0, 0, none⟩), .pointer (some ⟨β 1, 0, none⟩)])) (.inl rfl) (fun i hi => by cases hi)
        have e4 : (a.put (some 4) (.func (.func 149) #[] #[.pointer (some ⟨β 0, 0, none⟩), .pointer (some ⟨β 1, 0, none⟩)])).eval (.tmp 4) = (.func (.func 149) #[] #[.pointer (some ⟨β 0, 0, none⟩), .pointer (some ⟨β 1, 0, none⟩)]) := by
          have := g.size
          simp [Act.eval, Act.put, this]
        refine RWc_i rfl (by decide) rfl (wp_off (offBo β) ?_ ⟨.inr (Below.refl _ _), ?_⟩)
        · simp [execOp, offBo, resolve, Deferred.ofValue, e4]
        · refine RWc_then (a' := { a.put (some 4) (.func (.func 149) #[] #[.pointer (some ⟨β 0, 0, none⟩), .pointer (some ⟨β 1, 0, none⟩)]) with defers := [offBo β] }) ?_ ?_
          · simp [Act.put, show a.defers = [] from g.defers]
          · have g5 := g4.re (C' := ⟨w, h', [β 0, β 1], [offBo β]⟩) rfl rfl [offBo β] rfl ⟨by simp [AS.put], fun i hi => by
              match i, hi with
              | 0, _ => rfl
              | 1, _ => rfl⟩
            generalize ({ a.put (some 4) (.func (.func 149) #[] #[.pointer (some ⟨β 0, 0, none⟩), .pointer (some ⟨β 1, 0, none⟩)]) with defers := [offBo β] } : Act) = a5 at g5 ⊢
            clear e4 g4 g
            simp only [AS.put, st, Nat.reduceBEq, cond_false] at g5
            refine wp_seq (wp_region_s ?_)
            show RWc _ _ _ [0, 1, 2, 3] _ _
            refine RWc_r (.func (.func f) #[] cap) rfl rfl rfl (fun w' hb => ?_) ?_
            · simp [execOp, (g5.below hb).ev_v (x := .tmp 0) rfl]
            · have g6 := g5.put (d := some 5) (fun k hk => by cases hk; decide) (x := .v (.func (.func f) #[] cap)) (v := (.func (.func f) #[] cap)) (.inr rfl) (fun i hi => by cases hi)
              refine RWc_i rfl (by decide) rfl (wp_enter (f := f) (args := cap) ?_ ?_)
              · exact run_fv g6 (t := 5) rfl rfl hc
              · refine (hk w1 g6.fine.has).mono fun en w2 hp => ?_
                obtain ⟨h3, hb, hh, hs, hn, hp⟩ := hp
                cases en with
                | outgrown => exact hp
                | returned v =>
                  obtain ⟨⟨r0, rfl, hone⟩, hY⟩ := hp
                  refine ⟨.inr hb, ?_⟩
                  have g7 := (g6.grow hb hh hs hn).put (d := some 6) (fun k hk => by cases hk; decide) (x := .v (Value.bool r0)) (v := Value.bool r0) (.inr rfl) (fun i hi => by cases hi)
                  refine RWc_to (Q := LQ mach 7 ⟨w, h', [β 0, β 1], [offBo β]⟩ (fun e S h'' => e = .normal ∧ h'' = h3 ∧ 2 ≤ S.bx.length ∧ lk S.sl 2 = .p 0 0 ∧ lk S.sl 3 = .p 1 0 ∧ S.box 0 = [Value.bool r0] ∧ S.box 1 = [.int .i64 0]) NP) ?_ ?_ ?_ [2, 3] _ _ (RWc_of_walk [.o 2, .o 3] _ _ _ _ _ _ rfl ?_ g7)
                  · rintro a8 w3 ⟨S8, h8, β8, g8, _, rfl, hl, l2, l3, b0, b1⟩
                    refine wp_ret ?_
                    show Leaves mach.P _ a8.tmps Y a8.defers .returning w3
                    rw [show a8.defers = [offBo β] from g8.defers]
                    refine leaves_cons (f := 149) (args := #[.pointer (some ⟨β 0, 0, none⟩), .pointer (some ⟨β 1, 0, none⟩)]) (by simp) (by simp [go_sem]; exact run_call (by kernel_rfl) _ _) ?_
                    refine (idle_Bo _ _ _).mono ?_
                    rintro e u' w'' ⟨rfl, rfl, rfl⟩
                    simp only [settle, Leaves]
                    refine ⟨_, res_run g8 (v := .tuple #[Value.bool r0, .int .i64 0]) ?_, hY _ (g8.fine.re rfl rfl)⟩
                    show resA mach.P S8 [.cell 2 4, .cell 3 27] = _
                    have b0' : S8.bx.getD 0 [] = _ := b0
                    have b1' : S8.bx.getD 1 [] = _ := b1
                    simp only [resA, resL, res1, l2, l3, ldb, b0', b1', go_sem]
                    all_goals rfl
                  · rintro ch a w ⟨_, _, _, hq⟩; exact (hq : False).elim
                  · intro a w hq; exact (hq : False).elim
                  · simp only [AS.put, st, Nat.reduceBEq, cond_false]
                    refine wk (fun k hk => ?_)
                    simp (disch := omega) only [go_sem, Nat.reduceBEq, Nat.reduceAdd]
                    (first | refine ⟨by simpa [Value.oneCell'] using hone, hk _ _ ?_⟩ | apply hk)
                    clear hk k
                    (repeat (first | (refine wo rfl (fun k hk => ?_); simp (disch := omega) only [go_sem, Nat.reduceBEq, Nat.reduceAdd]; apply hk; clear hk k) | refine wkt rfl ?_)); (try refine wk0 ?_)
                    exact ⟨trivial, rfl, by simp, rfl, rfl, rfl, rfl⟩
                | panicked ch =>
                  obtain ⟨e, rfl, hY⟩ := hp
                  have g7 := g6.grow hb hh hs hn
                  show Leaves mach.P _ (a5.put (some 5) (.func (.func f) #[] cap)).tmps Y (a5.put (some 5) (.func (.func f) #[] cap)).defers (.panicking _) w2
                  rw [show (a5.put (some 5) (.func (.func f) #[] cap)).defers = [offBo β] from g7.defers]
                  refine leaves_cons (f := 149) (args := #[.pointer (some ⟨β 0, 0, none⟩), .pointer (some ⟨β 1, 0, none⟩)]) (by simp) (by simp [go_sem]; exact run_call (by kernel_rfl) _ _) ?_
                  refine (caught_Bo g7.fine ⟨g7.boxes, g7.inj⟩ rfl rfl).mono ?_
                  rintro en u' w'' ⟨rfl, rfl, hf, hr⟩
                  simp only [settle, Leaves, List.dropWhile_nil]
                  have g9 : G mach ⟨w, h', [β 0, β 1], [offBo β]⟩ 7 ⟨_, [[.bool false], [.int .i64 e]]⟩ h3 β (a5.put (some 5) (.func (.func f) #[] cap)) w'' := ⟨g7.size, g7.defers, hf, hr.at_, hr.inj, g7.slots, g7.wf, g7.pin⟩
                  refine ⟨_, res_run g9 (v := .tuple #[.bool false, .int .i64 e]) ?_, hY _ (hf.re rfl rfl)⟩
                  show resA mach.P _ [.cell 2 4, .cell 3 27] = _
                  simp only [resA, resL, res1, ldb, go_sem]
                  all_goals rfl
    | panic ch => obtain ⟨_, _, _, hq⟩ := hq; exact (hq : False).elim
    | outgrown => exact (hq : False).elim
    | _ => obtain ⟨_, _, _, _, hq, _⟩ := hq; cases hq
theorem tryBo_ok {h : PH} {f : FuncId} {cap : Array Value} {R R' : Value → PH → Prop} (s : Spec mach f cap h R NP) (hR : ∀ v h', Sub h h' → R v h' → (∃ r0, v = Value.bool r0 ∧ [Value.bool r0].all Value.oneCell' = true) ∧ R' (.tuple #[v, .int .i64 0]) h') :
    Spec mach 113 #[.func (.func f) #[] cap] h R' NP := ⟨by kernel_rfl, fun w hw hg => try_Bo hw hg s.ok fun w1 hw1 => (s.run w1 hw1 hg).mono fun e w2 hp => by
  cases e with
  | outgrown => exact (hp : False).elim
  | panicked ch => obtain ⟨_, _, _, _, _, hp⟩ := hp; exact (hp : False).elim
  | returned v =>
    obtain ⟨h3, hb, hh, hs, hn, hr⟩ := hp
    obtain ⟨hv, hr⟩ := hR v h3 hs hr
    exact ⟨h3, hb, hh, hs, hn, hv, fun w3 hf => ⟨h3, hf.below, hf.has, hf.sub, hf.new, hr⟩⟩⟩
theorem tryBo_fail {h : PH} {f : FuncId} {cap : Array Value} {e : Int} {R' : Value → PH → Prop} (s : Spec mach f cap h NR (fail e)) (hR : ∀ h', Sub h h' → R' (.tuple #[.bool false, .int .i64 e]) h') :
    Spec mach 113 #[.func (.func f) #[] cap] h R' NP := ⟨by kernel_rfl, fun w hw hg => try_Bo hw hg s.ok fun w1 hw1 => (s.run w1 hw1 hg).mono fun en w2 hp => by
  cases en with
  | outgrown => exact (hp : False).elim
  | returned v => obtain ⟨_, _, _, _, _, hp⟩ := hp; exact (hp : False).elim
  | panicked ch =>
    obtain ⟨h3, hb, hh, hs, hn, hr⟩ := hp
    exact ⟨h3, hb, hh, hs, hn, e, hr, fun w3 hf => ⟨h3, hf.below, hf.has, hf.sub, hf.new, hR h3 hs⟩⟩⟩
end Go.Q
