/-
  A region may be walked in one fixed order: if its impure operations wait for one another, and a reader that does not wait for an impure operation is walked before it, the walk in that order serves every order that Go allows. Conditions: the check 'regionOk' holds; each impure operation but a store leaves all blocks that were there as they were.
  A symbolic walk: the frame's slots and the memory of the call's own boxes are written out as lists; all other memory that is spoken of is a shared heap that only grows. Proved sound over the kit's Code.wp and Calls. Conditions: none beyond each rule's own.
  The operations that only read, on abstract states: what each leaves, and that the model does so in every world that keeps the blocks that are there. Conditions: none beyond each rule's own.
  The readers' rules are sound.
  The readers' rules are sound: slices of slices, structs built, and all of them together.
  The operations that make or write memory, on abstract states. Conditions: none beyond each rule's own.
  append and copy on the call's own rows; all writers together. Conditions: none beyond each rule's own.
  Whole bodies on abstract states: regions, sequences, tests, loops, the making shared of a row, and a function's contract out of its body. Conditions: none beyond each rule's own.
-/
import Derived.OrdersHeld
import Derived.Below
import Derived.KernelRfl
import Derived.WalkKit
import Derived.ProofKit
import Derived.WalkSpells
import Derived.Deep.LoopGhost
set_option linter.unusedVariables false
set_option linter.unusedSimpArgs false
namespace Go.Q
open Go.RowKit (Below)
/-- 0: it reads only; 1: it may make memory; 2: it may write old memory. -/
def cls : Op → Nat
  | .move _ | .assign _ | .pick .. | .load .. | .binOp .. | .unOp .. | .convert .. | .fieldAddr .. | .field .. | .indexAddr .. | .index .. | .extract .. | .slice .. | .build .. | .makeFunc .. | .makeInterface .. | .nilCheck _ | .typeAssert .. => 0
  | .call { callee := .builtin .len, .. } | .call { callee := .builtin .cap, .. } | .call { callee := .builtin .min, .. } | .call { callee := .builtin .max, .. } => 0
  | .store .. | .call { callee := .builtin .append, .. } | .call { callee := .builtin .copy, .. } => 2
  | .call { callee := .value (.func f), .. } => if f = 156 ∨ f = 126 then 2 else 1
  | _ => 1
section
variable (P : Program) (ops : Array Oper) (Q : Exit → Act → World → Prop)
/-- It yields v in w and in every world that keeps the blocks of w. -/
def RdC (o : Oper) (a : Act) (w : World) (v : Value) : Prop :=
  ∀ w', Below w.heap.size w w' → (execOp a.eval o).run P w' = .ok (.value v) w'
def RWc : List Nat → Act → World → Prop
  | [], a, w => Q .normal a w
  | i :: c, a, w => match ops[i]? with
    | none => False
    | some o =>
      if Region.wanted o (yielded ops a.tmps) = true then
        if cls o.op = 0 then ∃ v, RdC P o a w v ∧ RWc c (a.put o.dst v) w
        else o.wp P a w (fun a' w' => (cls o.op = 2 ∨ Below w.heap.size w w') ∧ RWc c a' w') Q
      else RWc c (a.put o.dst undef) w
end
section
variable {P : Program} {ops : Array Oper} {Q : Exit → Act → World → Prop}
theorem RdC.later {o : Oper} {a : Act} {w w1 : World} {v : Value} (h : RdC P o a w v) (hb : Below w.heap.size w w1) : RdC P o a w1 v :=
  fun w' hb' => h w' (hb.trans (hb'.mono hb.size))
/-- The value that a reader leaves. -/
def Yx (P : Program) (ops : Array Oper) (o : Oper) (v : Value) (a : Act) (w : World) : Prop :=
  (Region.wanted o (yielded ops a.tmps) = true ∧ RdC P o a w v) ∨ (Region.wanted o (yielded ops a.tmps) = false ∧ v = undef)
theorem RWc_reader {i : Nat} {o : Oper} {c : List Nat} {a : Act} {w : World} (hi : ops[i]? = some o) (hc : cls o.op = 0) :
    RWc P ops Q (i :: c) a w ↔ ∃ v, Yx P ops o v a w ∧ RWc P ops Q c (a.put o.dst v) w := by
  simp only [RWc, hi, hc, if_true, Yx]
  by_cases hw : Region.wanted o (yielded ops a.tmps) = true
  · simp [hw]
  · simp [hw]
theorem RWc_impure {i : Nat} {o : Oper} {c : List Nat} {a : Act} {w : World} (hi : ops[i]? = some o) (hc : cls o.op ≠ 0) :
    RWc P ops Q (i :: c) a w ↔ (if Region.wanted o (yielded ops a.tmps) = true then o.wp P a w (fun a' w' => (cls o.op = 2 ∨ Below w.heap.size w w') ∧ RWc P ops Q c a' w') Q
      else RWc P ops Q c (a.put o.dst undef) w) := by
  simp only [RWc, hi, hc, if_false]
theorem Yx.of_same {o : Oper} {v : Value} {a a' : Act} {w : World} (hy : Yx P ops o v a w) (he : execOp a'.eval o = execOp a.eval o)
    (hw : Region.wanted o (yielded ops a'.tmps) = Region.wanted o (yielded ops a.tmps)) : Yx P ops o v a' w := by
  unfold Yx RdC at *
  rw [he, hw]
  exact hy
theorem Yx.later {o : Oper} {v : Value} {a : Act} {w w1 : World} (hy : Yx P ops o v a w) (hb : Below w.heap.size w w1) : Yx P ops o v a w1 :=
  hy.imp (fun h => ⟨h.1, h.2.later hb⟩) id
theorem wp_mono' {o : Oper} {a : Act} {w : World} {K K' : Act → World → Prop} (h : ∀ a w, K a w → K' a w)
    (hh : o.wp P a w K Q) : o.wp P a w K' Q := Oper.wp_mono h hh
/-- One impure operation, apart from a reader whose value may or may not lie in its slot yet. -/
theorem wp_put {ox oi : Oper} {v : Value} (hap : ox.apart ops oi = true)
    (hsx : ∀ cs b, ox.op ≠ .select cs b) (hsi : ∀ cs b, oi.op ≠ .select cs b)
    (hQ : ∀ c a d v w, Q (.panic c) (Act.put a d v) w → Q (.panic c) a w) {K : Act → World → Prop} {a : Act} {w : World}
    (h : oi.wp P (a.put ox.dst v) w (fun a' w' => Below w.heap.size w w' ∧ K a' w') Q) (hy : Yx P ops ox v a w) :
    oi.wp P a w (fun a' w' => Below w.heap.size w w' ∧ Yx P ops ox v a' w' ∧ K (a'.put ox.dst v) w') Q := by
  obtain ⟨h1, h2, h3⟩ := Oper.apart_spec hap
  have keep : ∀ (a : Act) (w : World), Yx P ops ox v a w → ∀ u, Yx P ops ox v (a.put oi.dst u) w := fun a w hy u =>
    hy.of_same (execOp_put ox hsx a oi.dst u h3) (wanted_put ox a oi.dst u h3)
  have keepD : ∀ d, Yx P ops ox v { a with defers := d :: a.defers } w := fun d => hy.of_same rfl rfl
  unfold Oper.wp at *
  rw [execOp_put oi hsi a ox.dst v h1] at h
  generalize (execOp a.eval oi).run P w = r at *
  cases r with
  | ok n w' =>
    cases n <;> simp only [Oper.upon] at h ⊢
    case value u => exact ⟨h.1, (keep a w hy u).later h.1, by rw [← Act.put_comm a v u h2]; exact h.2⟩
    case skip => exact ⟨h.1, (keep a w hy _).later h.1, by rw [← Act.put_comm a v undef h2]; exact h.2⟩
    case defer d =>
      refine ⟨h.1, (keep _ w (keepD d) _).later h.1, ?_⟩
      rw [← Act.put_comm _ v undef h2, ← Act.put_defers]
      exact h.2
    case enter f args =>
      refine Calls.mono h fun e w'' he => ?_
      cases e with
      | returned u => exact ⟨he.1, (keep a w hy u).later he.1, by rw [← Act.put_comm a v u h2]; exact he.2⟩
      | panicked c => exact hQ _ _ _ _ _ he
      | outgrown => exact he
    case row row args => exact Rows.mono h fun u w'' he => ⟨he.1, (keep a w hy u).later he.1, by rw [← Act.put_comm a v u h2]; exact he.2⟩
  | halt x w' =>
    cases x <;> simp only [Oper.upon] at h ⊢
    case panic u => exact hQ _ _ _ _ _ h
/-- Number i, which waits for none of the readers ahead of it, may come first. -/
theorem RWc_front {i : Nat} {oi : Oper} (hi : ops[i]? = some oi) (hsel : ∀ (j : Nat) (o : Oper) cs b, ops[j]? = some o → o.op ≠ .select cs b)
    (hQ : ∀ c a d v w, Q (.panic c) (Act.put a d v) w → Q (.panic c) a w) (post : List Nat) :
    ∀ (pre : List Nat) (a : Act) (w : World), (pre = [] ∨ cls oi.op ≠ 2) →
      (∀ x ∈ pre, ∃ ox, ops[x]? = some ox ∧ cls ox.op = 0 ∧ ox.apart ops oi = true) →
      RWc P ops Q (pre ++ i :: post) a w → RWc P ops Q (i :: (pre ++ post)) a w := by
  intro pre
  induction pre with
  | nil => intro a w _ _ h; exact h
  | cons x pre ih =>
    intro a w hc hx h
    have hc2 : cls oi.op ≠ 2 := hc.resolve_left (by simp)
    obtain ⟨ox, hox, hcx, hap⟩ := hx x (List.mem_cons_self ..)
    obtain ⟨h1, h2, h3⟩ := Oper.apart_spec hap
    rw [List.cons_append, RWc_reader hox hcx] at h
    obtain ⟨v, hy, h⟩ := h
    have h := ih (a.put ox.dst v) w (.inr hc2) (fun y hy => hx y (List.mem_cons_of_mem _ hy)) h
    have keep : ∀ u, Yx P ops ox v (a.put oi.dst u) w := fun u =>
      hy.of_same (execOp_put ox (fun cs b => hsel x ox cs b hox) a oi.dst u h3) (wanted_put ox a oi.dst u h3)
    have hwi : Region.wanted oi (yielded ops (a.put ox.dst v).tmps) = Region.wanted oi (yielded ops a.tmps) := wanted_put oi a ox.dst v h1
    have hei : execOp (a.put ox.dst v).eval oi = execOp a.eval oi := execOp_put oi (fun cs b => hsel i oi cs b hi) a ox.dst v h1
    by_cases hci : cls oi.op = 0
    · rw [RWc_reader hi hci] at h ⊢
      obtain ⟨u, hu, h⟩ := h
      refine ⟨u, hu.of_same hei.symm hwi.symm, ?_⟩
      rw [List.cons_append, RWc_reader hox hcx]
      exact ⟨v, keep u, by rw [← Act.put_comm a v u h2]; exact h⟩
    · rw [RWc_impure hi hci] at h ⊢
      rw [hwi] at h
      split
      · rename_i hw
        rw [if_pos hw] at h
        have h' : oi.wp P (a.put ox.dst v) w (fun a' w' => Below w.heap.size w w' ∧ RWc P ops Q (pre ++ post) a' w') Q :=
          wp_mono' (fun a' w' k => ⟨k.1.resolve_left hc2, k.2⟩) h
        refine wp_mono' (fun a' w' k => ⟨.inr k.1, ?_⟩) (wp_put hap (fun cs b => hsel x ox cs b hox) (fun cs b => hsel i oi cs b hi) hQ h' hy)
        rw [List.cons_append, RWc_reader hox hcx]
        exact ⟨v, k.2.1, k.2.2⟩
      · rename_i hw
        rw [if_neg hw] at h
        rw [List.cons_append, RWc_reader hox hcx]
        exact ⟨v, keep undef, by rw [← Act.put_comm a v undef h2]; exact h⟩
/-! ### The check -/
/-- y waits for x, by one edge. -/
def direct (ops : Array Oper) (y x : Nat) : Bool := match ops[y]? with
  | some o => o.after.any fun e => Region.binds .any e && e.on == x
  | none => false
/-- y waits for x, by edges one behind the other. -/
inductive Reach (ops : Array Oper) : Nat → Nat → Prop where
  | one {y x} : direct ops y x = true → Reach ops y x
  | more {y z x} : direct ops y z = true → Reach ops z x → Reach ops y x
def masksL (ops : Array Oper) : Nat → List Nat
  | 0 => []
  | n + 1 =>
    let acc := masksL ops n
    acc ++ [match ops[n]? with
      | some o => o.after.toList.foldl (fun s e => if Region.binds .any e then s ||| 2 ^ e.on ||| acc.getD e.on 0 else s) 0
      | none => 0]
theorem masksL_length (n : Nat) : (masksL ops n).length = n := by
  induction n with
  | zero => rfl
  | succ n ih => simp [masksL, ih]
theorem masksL_get {n y : Nat} (h : y < n) : (masksL ops n).getD y 0 = (masksL ops (y + 1)).getD y 0 := by
  induction n with
  | zero => omega
  | succ n ih =>
    by_cases hy : y = n
    · subst hy; rfl
    · rw [show (masksL ops (n + 1)).getD y 0 = (masksL ops n).getD y 0 from by
        simp only [masksL, List.getD_eq_getElem?_getD]
        rw [List.getElem?_append_left (by rw [masksL_length]; omega)]]
      exact ih (by omega)
theorem fold_mask (acc : List Nat) (x : Nat) : ∀ (es : List Edge) (s : Nat),
    (es.foldl (fun s e => if Region.binds .any e then s ||| 2 ^ e.on ||| acc.getD e.on 0 else s) s).testBit x = true →
    s.testBit x = true ∨ ∃ e ∈ es, Region.binds .any e = true ∧ (e.on = x ∨ (acc.getD e.on 0).testBit x = true) := by
  intro es
  induction es with
  | nil => intro s h; exact .inl h
  | cons e es ih =>
    intro s h
    rw [List.foldl_cons] at h
    rcases ih _ h with h | ⟨e', he', hb, h⟩
    · split at h
      · rename_i hb
        rw [Nat.testBit_or, Nat.testBit_or, Bool.or_eq_true, Bool.or_eq_true] at h
        rcases h with (h | h) | h
        · exact .inl h
        · refine .inr ⟨e, List.mem_cons_self .., hb, .inl ?_⟩
          rw [Nat.testBit_two_pow] at h
          simpa using h
        · exact .inr ⟨e, List.mem_cons_self .., hb, .inr h⟩
      · exact .inl h
    · exact .inr ⟨e', List.mem_cons_of_mem _ he', hb, h⟩
theorem reach_of_mask : ∀ (n y x : Nat), y < n → ((masksL ops n).getD y 0).testBit x = true → Reach ops y x := by
  intro n
  induction n using Nat.strongRecOn with
  | _ n ih =>
    intro y x hy h
    rw [masksL_get hy] at h
    have e : (masksL ops (y + 1)).getD y 0 = (match ops[y]? with
      | some o => o.after.toList.foldl (fun s e => if Region.binds .any e then s ||| 2 ^ e.on ||| (masksL ops y).getD e.on 0 else s) 0
      | none => 0) := by
      simp only [masksL, List.getD_eq_getElem?_getD]
      rw [List.getElem?_append_right (by rw [masksL_length]; omega)]
      simp [masksL_length]
    rw [e] at h
    cases ho : ops[y]? with
    | none => rw [ho] at h; simp at h
    | some o =>
      rw [ho] at h
      rcases fold_mask _ _ _ _ h with h | ⟨e, he, hb, h⟩
      · simp at h
      · have hd : direct ops y e.on = true := by
          simp only [direct, ho]
          exact Array.any_eq_true'.2 ⟨e, Array.mem_toList_iff.1 he, by simp [hb]⟩
        rcases h with h | h
        · subst h; exact .one hd
        · have hlt : e.on < y := by
            rcases Nat.lt_or_ge e.on y with h' | h'
            · exact h'
            · exfalso
              rw [List.getD_eq_getElem?_getD, List.getElem?_eq_none (by rw [masksL_length]; exact h')] at h
              simp at h
          exact .more hd (ih y hy e.on x hlt h)
def okPair (ops : Array Oper) (masks : List Nat) (x y : Nat) : Bool :=
  !direct ops x y && ((masks.getD y 0).testBit x || match ops[x]?, ops[y]? with
    | some ox, some oy => cls ox.op == 0 && cls oy.op != 2 && ox.apart ops oy
    | _, _ => false)
def pairsOk (ops : Array Oper) (masks : List Nat) : List Nat → Bool
  | [] => true
  | x :: c => c.all (fun y => okPair ops masks x y) && pairsOk ops masks c
def edgesOk (ops : Array Oper) : Bool := ops.all fun o => o.after.all fun e => !Region.binds .any e || e.on < ops.size
def nodupB : List Nat → Bool
  | [] => true
  | x :: c => !c.contains x && nodupB c
/-- The check. -/
def regionOk (ops : Array Oper) (c : List Nat) : Bool :=
  c.length == ops.size && c.all (· < ops.size) && nodupB c && edgesOk ops && c.all (fun x => !direct ops x x) && Region.noSelect ops && pairsOk ops (masksL ops ops.size) c
structure Good (ops : Array Oper) (listed : Array Bool) (c : List Nat) : Prop where
  size : listed.size = ops.size
  mem : ∀ j, j < ops.size → (listed.getD j false = false ↔ j ∈ c)
  lt : ∀ j ∈ c, j < ops.size
  nodup : c.Nodup
  pairs : c.Pairwise fun x y => okPair ops (masksL ops ops.size) x y = true
  closed : ∀ j, listed.getD j false = true → ∀ x, direct ops j x = true → listed.getD x false = true
  edges : ∀ y x, direct ops y x = true → x < ops.size
  irr : ∀ x ∈ c, direct ops x x = false
theorem reach_listed {listed : Array Bool} (hcl : ∀ j, listed.getD j false = true → ∀ x, direct ops j x = true → listed.getD x false = true) {y x : Nat} (h : Reach ops y x) :
    (∀ z, direct ops y z = true → listed.getD z false = true) → listed.getD x false = true := by
  induction h with
  | one h => exact fun hy => hy _ h
  | more h _ ih => exact fun hy => ih (fun z hz => hcl _ (hy _ h) z hz)
theorem getD_ft {listed : Array Bool} {j : Nat} (h : j < listed.size) : listed.getD j true = listed.getD j false := by
  simp [h]
theorem ready_iff {listed : Array Bool} {j : Nat} (hs : listed.size = ops.size) : j ∈ Region.ready .any ops listed ↔
    j < ops.size ∧ listed.getD j false = false ∧ ∀ x, direct ops j x = true → listed.getD x false = true := by
  rw [mem_ready]
  constructor
  · rintro ⟨h0, o, ho, hall⟩
    have hlt : j < ops.size := (Array.getElem?_eq_some_iff.1 ho).1
    refine ⟨hlt, by rw [← getD_ft (by omega)]; exact h0, fun x hx => ?_⟩
    simp only [direct, ho] at hx
    obtain ⟨e, he, hb⟩ := Array.any_eq_true'.1 hx
    simp only [Bool.and_eq_true, beq_iff_eq] at hb
    rw [← hb.2]; exact hall e he hb.1
  · rintro ⟨hlt, h0, hall⟩
    refine ⟨by rw [getD_ft (by omega)]; exact h0, ops[j], by simp [hlt], fun e he hb => hall _ ?_⟩
    simp only [direct, Array.getElem?_eq_getElem hlt]
    exact Array.any_eq_true'.2 ⟨e, he, by simp [hb]⟩
theorem wpAny_of_RWc (hsel : ∀ (j : Nat) (o : Oper) cs b, ops[j]? = some o → o.op ≠ .select cs b)
    (hQ : ∀ c a d v w, Q (.panic c) (Act.put a d v) w → Q (.panic c) a w) :
    ∀ (fuel : Nat) (c : List Nat) (listed : Array Bool) (a : Act) (w : World), Good ops listed c → c.length ≤ fuel → RWc P ops Q c a w →
      wpAny P .any ops Q fuel listed a w := by
  have headReady : ∀ (c : List Nat) (listed : Array Bool) (i : Nat), Good ops listed (i :: c) → i ∈ Region.ready .any ops listed := by
    intro c listed i hg
    rw [ready_iff hg.size]
    have hi := hg.lt i (List.mem_cons_self ..)
    refine ⟨hi, (hg.mem i hi).2 (List.mem_cons_self ..), fun x hx => ?_⟩
    have hxl := hg.edges _ _ hx
    cases hl : listed.getD x false with
    | true => rfl
    | false =>
      have hxc := (hg.mem x hxl).1 hl
      rcases List.mem_cons.1 hxc with rfl | hxc
      · rw [hg.irr x (List.mem_cons_self ..)] at hx; cases hx
      · have := (List.pairwise_cons.1 hg.pairs).1 x hxc
        simp [okPair, hx] at this
  intro fuel
  induction fuel with
  | zero =>
    intro c listed a w hg hl h
    obtain rfl : c = [] := List.eq_nil_of_length_eq_zero (by omega)
    refine ⟨?_, h⟩
    apply List.eq_nil_iff_forall_not_mem.2
    intro j hj
    have := (ready_iff hg.size).1 hj
    have := (hg.mem j this.1).1 this.2.1
    cases this
  | succ fuel ih =>
    intro c listed a w hg hl h
    refine ⟨fun hr => ?_, fun i hi => ?_⟩
    · cases c with
      | nil => exact h
      | cons i c => have := headReady c listed i hg; rw [hr] at this; cases this
    · have hri := (ready_iff hg.size).1 hi
      have hic : i ∈ c := (hg.mem i hri.1).1 hri.2.1
      obtain ⟨pre, post, rfl⟩ := List.append_of_mem hic
      have hoi : ops[i]? = some ops[i] := by simp [hri.1]
      have hpw := List.pairwise_append.1 hg.pairs
      have hpre : ∀ x ∈ pre, ∃ ox, ops[x]? = some ox ∧ cls ox.op = 0 ∧ cls ops[i].op ≠ 2 ∧ ox.apart ops ops[i] = true := by
        intro x hx
        have hp := hpw.2.2 x hx i (List.mem_cons_self ..)
        have hxlt := hg.lt x (List.mem_append_left _ hx)
        have hun : listed.getD x false = false := (hg.mem x hxlt).2 (List.mem_append_left _ hx)
        have hnm : ((masksL ops ops.size).getD i 0).testBit x = false := by
          cases hb : ((masksL ops ops.size).getD i 0).testBit x with
          | false => rfl
          | true =>
            have := reach_listed hg.closed (reach_of_mask _ i x hri.1 hb) hri.2.2
            rw [hun] at this; cases this
        simp only [okPair, hnm, Bool.false_or, hoi, Array.getElem?_eq_getElem hxlt, Bool.and_eq_true, beq_iff_eq, bne_iff_ne] at hp
        exact ⟨ops[x], by simp [hxlt], hp.2.1.1, hp.2.1.2, hp.2.2⟩
      have hc2 : pre = [] ∨ cls ops[i].op ≠ 2 := by
        cases pre with
        | nil => exact .inl rfl
        | cons x pre => obtain ⟨_, _, _, h2, _⟩ := hpre x (List.mem_cons_self ..); exact .inr h2
      have hf := RWc_front hoi hsel hQ post pre a w hc2 (fun x hx => let ⟨ox, h1, h2, _, h4⟩ := hpre x hx; ⟨ox, h1, h2, h4⟩) h
      have hg' : Good ops (listed.setIfInBounds i true) (pre ++ post) := by
        have hnd := hg.nodup
        have hni : i ∉ pre ++ post := by
          rw [List.nodup_append] at hnd
          intro hm
          rcases List.mem_append.1 hm with hm | hm
          · exact hnd.2.2 i hm i (List.mem_cons_self ..) rfl
          · exact (List.nodup_cons.1 hnd.2.1).1 hm
        have hsub : (pre ++ post).Sublist (pre ++ i :: post) := List.Sublist.append (List.Sublist.refl _) (List.sublist_cons_self ..)
        refine ⟨by simpa using hg.size, fun j hj => ?_, fun j hj => hg.lt j (hsub.subset hj), hnd.sublist hsub, hg.pairs.sublist hsub, fun j hj x hx => ?_, hg.edges, fun x hx => hg.irr x (hsub.subset hx)⟩
        · by_cases hij : i = j
          · subst hij
            have : (listed.setIfInBounds i true).getD i false = true := by simp [hg.size, hj]
            simp only [this, Bool.true_eq_false, false_iff]
            exact hni
          · rw [getD_set_ne false hij, hg.mem j hj]
            simp only [List.mem_append, List.mem_cons]
            constructor
            · rintro (h | h | h)
              · exact .inl h
              · exact absurd h.symm hij
              · exact .inr h
            · rintro (h | h)
              · exact .inl h
              · exact .inr (.inr h)
        · by_cases hij : i = j
          · subst hij; exact getD_set_true (hri.2.2 x hx)
          · rw [getD_set_ne false hij] at hj
            exact getD_set_true (hg.closed j hj x hx)
      have hlen : (pre ++ post).length ≤ fuel := by simp at hl ⊢; omega
      unfold wpOp
      simp only [hoi]
      by_cases hci : cls ops[i].op = 0
      · rw [RWc_reader hoi hci] at hf
        obtain ⟨v, hy, hf⟩ := hf
        have hk := ih (pre ++ post) _ _ w hg' hlen hf
        rcases hy with ⟨hw, hv⟩ | ⟨hw, rfl⟩
        · rw [if_pos hw]
          refine .inl ?_
          simp only [Oper.wp, hv w (Below.refl _ _), Oper.upon]
          exact hk
        · rw [if_neg (by rw [hw]; simp)]
          exact hk
      · rw [RWc_impure hoi hci] at hf
        split
        · rename_i hw
          rw [if_pos hw] at hf
          exact .inl (Oper.wp_mono (fun a' w' k => ih (pre ++ post) _ a' w' hg' hlen k.2) hf)
        · rename_i hw
          rw [if_neg hw] at hf
          exact ih (pre ++ post) _ _ w hg' hlen hf
theorem nodup_of_B : ∀ {c : List Nat}, nodupB c = true → c.Nodup
  | [], _ => List.nodup_nil
  | x :: c, h => by
    simp only [nodupB, Bool.and_eq_true, Bool.not_eq_true', List.contains_eq_mem, decide_eq_false_iff_not] at h
    exact List.nodup_cons.2 ⟨h.1, nodup_of_B h.2⟩
theorem pairs_of_B {m : List Nat} : ∀ {c : List Nat}, pairsOk ops m c = true → c.Pairwise fun x y => okPair ops m x y = true
  | [], _ => .nil
  | x :: c, h => by
    simp only [pairsOk, Bool.and_eq_true, List.all_eq_true] at h
    exact .cons h.1 (pairs_of_B h.2)
/-- As many distinct numbers below n as n: all of them. -/
theorem all_of_length : ∀ (n : Nat) (c : List Nat), c.Nodup → (∀ x ∈ c, x < n) → c.length = n → ∀ j, j < n → j ∈ c := by
  intro n
  induction n with
  | zero => intro c _ _ _ j hj; omega
  | succ n ih =>
    intro c hnd hlt hlen j hj
    have hn : n ∈ c := by
      rcases Classical.em (n ∈ c) with h | h
      · exact h
      · exfalso
        have hlt' : ∀ x ∈ c, x < n := fun x hx => by
          have := hlt x hx
          have : x ≠ n := fun e => h (e ▸ hx)
          omega
        have : ∀ (m : Nat) (d : List Nat), d.Nodup → (∀ x ∈ d, x < m) → d.length ≤ m := by
          intro m
          induction m with
          | zero => intro d _ hd; cases d with | nil => simp | cons y d => have := hd y (List.mem_cons_self ..); omega
          | succ m ihm =>
            intro d hdn hd
            by_cases hm : m ∈ d
            · have h1 := ihm (d.erase m) (hdn.erase m) (fun x hx => by
                have h2 := hd x (List.mem_of_mem_erase hx)
                have h3 : x ≠ m := fun e => by subst e; exact (List.Nodup.not_mem_erase hdn) hx
                omega)
              rw [List.length_erase_of_mem hm] at h1
              have : 0 < d.length := List.length_pos_of_mem hm
              omega
            · have := ihm d hdn (fun x hx => by
                have h2 := hd x hx
                have h3 : x ≠ m := fun e => hm (e ▸ hx)
                omega)
              omega
        have := this n c hnd hlt'
        omega
    by_cases hjn : j = n
    · subst hjn; exact hn
    · have hm := ih (c.erase n) (hnd.erase n) (fun x hx => by
          have h2 := hlt x (List.mem_of_mem_erase hx)
          have h3 : x ≠ n := fun e => by subst e; exact (List.Nodup.not_mem_erase hnd) hx
          omega) (by rw [List.length_erase_of_mem hn]; omega) j (by omega)
      exact List.mem_of_mem_erase hm
theorem good_of_ok {c : List Nat} (h : regionOk ops c = true) : Good ops (Array.replicate ops.size false) c := by
  simp only [regionOk, Bool.and_eq_true, beq_iff_eq, List.all_eq_true, decide_eq_true_eq, Bool.not_eq_true'] at h
  obtain ⟨⟨⟨⟨⟨⟨h1, h2⟩, h3⟩, h4⟩, h5⟩, _⟩, h7⟩ := h
  have hnd := nodup_of_B h3
  refine ⟨by simp, fun j hj => ?_, h2, hnd, pairs_of_B h7, fun j hj => ?_, fun y x hx => ?_, h5⟩
  · have := all_of_length ops.size c hnd h2 h1 j hj
    simp [hj, this]
  · exfalso
    rcases Nat.lt_or_ge j ops.size with h | h
    · simp [h] at hj
    · simp [Nat.not_lt.2 h] at hj
  · cases ho : ops[y]? with
    | none => simp [direct, ho] at hx
    | some o =>
      simp only [direct, ho] at hx
      obtain ⟨e, he, hb⟩ := Array.any_eq_true'.1 hx
      simp only [Bool.and_eq_true, beq_iff_eq] at hb
      have h6 := Array.all_eq_true_iff_forall_mem.1 (Array.all_eq_true_iff_forall_mem.1 h4 o (Array.mem_of_getElem? ho)) e he
      simp only [hb.1, Bool.not_true, Bool.false_or, decide_eq_true_eq] at h6
      rw [← hb.2]; exact h6
/-- A region that draws its order, walked in the order c. -/
theorem wp_region_c {id : Nat} {a : Act} {w : World} (hm : P.follows .mixedOrders = true) (c : List Nat) (hc : regionOk ops c = true)
    (hQ : ∀ c a d v w, Q (.panic c) (Act.put a d v) w → Q (.panic c) a w) (h : RWc P ops Q c a { w with drawn := w.drawn + 1 }) :
    (Code.region id ops true).wp P Q a w := by
  have hg := good_of_ok hc
  have hs : Region.noSelect ops = true := by simp only [regionOk, Bool.and_eq_true] at hc; exact hc.1.2
  have hl : c.length = ops.size := by simp only [regionOk, Bool.and_eq_true, beq_iff_eq] at hc; exact hc.1.1.1.1.1.1
  exact wp_region_any hm (wpAny_of_RWc (Region.noSelect_spec hs) hQ _ c _ a _ hg (by omega) h)
theorem wpOps_of_RWc : ∀ (c : List Nat) (a : Act) (w : World), RWc P ops Q c a w → wpOps P ops Q c a w := by
  intro c
  induction c with
  | nil => intro a w h; exact h
  | cons i c ih =>
    intro a w h
    rw [wpOps_cons]
    unfold wpOp
    cases hi : ops[i]? with
    | none => simp [RWc, hi] at h
    | some o =>
      simp only []
      by_cases hc : cls o.op = 0
      · obtain ⟨v, hy, h⟩ := (RWc_reader hi hc).1 h
        rcases hy with ⟨hw, hv⟩ | ⟨hw, rfl⟩
        · rw [if_pos hw]
          refine .inl ?_
          simp only [Oper.wp, hv w (Below.refl _ _), Oper.upon]
          exact ih _ _ h
        · rw [if_neg (by rw [hw]; simp)]
          exact ih _ _ h
      · have h := (RWc_impure hi hc).1 h
        split
        · rename_i hw
          rw [if_pos hw] at h
          exact .inl (Oper.wp_mono (fun a' w' k => ih a' w' k.2) h)
        · rename_i hw
          rw [if_neg hw] at h
          exact ih _ _ h
/-- A region that does not draw, in the text's order. -/
theorem wp_region_s {id : Nat} {a : Act} {w : World} (h : RWc P ops Q (List.range ops.size) a w) : (Code.region id ops false).wp P Q a w :=
  wp_region (wpOps_of_RWc _ _ _ h)
end
end Go.Q
namespace Go.Q
open Go.RowKit (Below)
/-- The shared heap: of some blocks, the cells. -/
abbrev PH := Nat → Option (Array Value)
def Sub (h h' : PH) : Prop := ∀ b cs, h b = some cs → h' b = some cs
theorem Sub.refl (h : PH) : Sub h h := fun _ _ h => h
theorem Sub.trans {a b c : PH} (h : Sub a b) (k : Sub b c) : Sub a c := fun _ _ x => k _ _ (h _ _ x)
/-- The shared heap has grown from a to b in one step. -/
class Step (a : outParam PH) (b : PH) : Prop where
  sub : Sub a b
/-- b holds what a holds. -/
class Le (a b : PH) : Prop where
  sub : Sub a b
instance Le.rfl' (h : PH) : Le h h := ⟨Sub.refl h⟩
instance Le.step (a b c : PH) [s : Step b c] [l : Le a b] : Le a c := ⟨l.sub.trans s.sub⟩
def PH.at (h : PH) (a : Addr) : Option Value := if a.spot.isSome then none else (h a.block).bind (·[a.off]?)
theorem Sub.at {h h' : PH} (hs : Sub h h') {a : Addr} {v : Value} (ha : h.at a = some v) : h'.at a = some v := by
  unfold PH.at at *
  split
  · rename_i hx; simp [hx] at ha
  · rename_i hx
    simp only [hx, Bool.false_eq_true, if_false] at ha
    cases hb : h a.block with
    | none => rw [hb] at ha; cases ha
    | some cs => rw [hs _ _ hb]; rw [hb] at ha; exact ha
def Has (w : World) (h : PH) : Prop := ∀ b cs, h b = some cs → ∃ T f, w.heap[b]? = some (.cells cs T f)
theorem Has.below {w w' : World} {h : PH} (hh : Has w h) (hb : Below w.heap.size w w') : Has w' h := fun b cs hx => by
  obtain ⟨T, f, hw⟩ := hh b cs hx
  have hlt : b < w.heap.size := (Array.getElem?_eq_some_iff.1 hw).1
  exact ⟨T, f, by rw [hb.block b hlt]; exact hw⟩
theorem Has.lt {w : World} {h : PH} (hh : Has w h) {b : Nat} {cs : Array Value} (hx : h b = some cs) : b < w.heap.size := by
  obtain ⟨T, f, hw⟩ := hh b cs hx
  exact (Array.getElem?_eq_some_iff.1 hw).1
theorem Has.cell {w : World} {h : PH} (hh : Has w h) {a : Addr} {v : Value} (ha : h.at a = some v) : w.cell? a = some v := by
  unfold PH.at at ha
  split at ha
  · cases ha
  · rename_i hx
    cases hb : h a.block with
    | none => rw [hb] at ha; cases ha
    | some cs =>
      rw [hb] at ha
      obtain ⟨T, f, hw⟩ := hh _ _ hb
      unfold World.cell?
      rw [hw]
      simp only [hx, Bool.false_eq_true, if_false]
      exact ha
/-- Only blocks from B on have been added. -/
def New (B : Nat) (h h' : PH) : Prop := ∀ b, h' b ≠ none → h b ≠ none ∨ B ≤ b
structure Mach where
  P : Program
  gl : PH
  mixed : P.follows .mixedOrders = true
/-- What an ending says. -/
def Post (w : World) (h : PH) (R : Value → PH → Prop) (E : List PanicEntry → PH → Prop) : Ending → World → Prop
  | .returned v, w' => ∃ h', Below w.heap.size w w' ∧ Has w' h' ∧ Sub h h' ∧ New w.heap.size h h' ∧ R v h'
  | .panicked ch, w' => ∃ h', Below w.heap.size w w' ∧ Has w' h' ∧ Sub h h' ∧ New w.heap.size h h' ∧ E ch h'
  | .outgrown, _ => False
/-- It has a body, and the model enters it. -/
def callable (P : Program) (f : FuncId) : Bool := match P.funcs[f]? with
  | some fn => fn.name != "runtime.NumGoroutine" && fn.body.isSome
  | none => false
/-- A function's contract. -/
structure Spec (M : Mach) (f : FuncId) (args : Array Value) (h : PH) (R : Value → PH → Prop) (E : List PanicEntry → PH → Prop) : Prop where
  ok : callable M.P f = true
  run : ∀ w, Has w h → Sub M.gl h → Calls M.P f args w (Post w h R E)
theorem Spec.mono {M : Mach} {f : FuncId} {args : Array Value} {h : PH} {R R' : Value → PH → Prop} {E E' : List PanicEntry → PH → Prop} (s : Spec M f args h R E)
    (hR : ∀ v h', Sub h h' → R v h' → R' v h') (hE : ∀ c h', Sub h h' → E c h' → E' c h') : Spec M f args h R' E' := ⟨s.ok, fun w hw hg =>
  (s.run w hw hg).mono fun e w' hp => by
    cases e with
    | returned v => obtain ⟨h', a, b, c, d, r⟩ := hp; exact ⟨h', a, b, c, d, hR _ _ c r⟩
    | panicked ch => obtain ⟨h', a, b, c, d, r⟩ := hp; exact ⟨h', a, b, c, d, hE _ _ c r⟩
    | outgrown => exact hp⟩
theorem run_call {P : Program} {f : FuncId} (h : callable P f = true) (args : Array Value) (w : World) : (callFunc f args).run P w = .ok (.enter f args) w := by
  unfold callable at h
  cases hf : P.funcs[f]? with
  | none => rw [hf] at h; cases h
  | some fn =>
    rw [hf] at h
    simp only [Bool.and_eq_true, bne_iff_ne, ne_eq] at h
    have h2 : ¬ fn.body = none := by intro e; rw [e] at h; simp at h
    simp [callFunc, hf, h.1, h2]
/-- No panic. -/
def NP : List PanicEntry → PH → Prop := fun _ _ => False
/-! ### Abstract values and states -/
inductive AV where
  | top
  | v (x : Value)
  | p (i off : Nat)
  | s (i off len cap : Nat)
structure AS where
  sl : List (Nat × AV)
  bx : List (List Value)
@[go_sem] def lk : List (Nat × AV) → Nat → AV
  | [], _ => .top
  | (k, x) :: l, t => bif k == t then x else lk l t
@[go_sem] def st : List (Nat × AV) → Nat → AV → List (Nat × AV)
  | [], d, x => [(d, x)]
  | (k, y) :: l, d, x => bif k == d then (d, x) :: l else (k, y) :: st l d x
@[go_sem] def AS.ev (S : AS) : Operand → AV
  | .tmp t => lk S.sl t
  | .const c => .v c
  | .global g => .v (.pointer (some ⟨g, 0, none⟩))
  | .func f => .v (.func (.func f) #[] #[])
@[go_sem] def AS.put (S : AS) (d : Option Nat) (x : AV) : AS := match d with
  | none => S
  | some d => ⟨st S.sl d x, S.bx⟩
@[go_sem] def AS.push (S : AS) (cs : List Value) : AS := ⟨S.sl, S.bx ++ [cs]⟩
@[go_sem] def AS.box (S : AS) (i : Nat) : List Value := S.bx.getD i []
@[go_sem] def AS.setBox (S : AS) (i : Nat) (cs : List Value) : AS := ⟨S.sl, S.bx.set i cs⟩
theorem lk_st (l : List (Nat × AV)) (d t : Nat) (x : AV) : lk (st l d x) t = if t = d then x else lk l t := by
  induction l with
  | nil =>
    simp only [st, lk]
    by_cases h : t = d
    · simp [h]
    · have : (d == t) = false := by simp; omega
      simp [h, this]
  | cons y l ih =>
    obtain ⟨k, y⟩ := y
    simp only [st]
    by_cases hk : k = d
    · subst hk
      simp only [beq_self_eq_true, cond_true, lk]
      by_cases h : t = k
      · simp [h]
      · have : (k == t) = false := by simp; omega
        simp [h, this]
    · have hk' : (k == d) = false := by simpa using hk
      simp only [hk', cond_false, lk]
      by_cases h : k = t
      · subst h; simp [hk]
      · have : (k == t) = false := by simpa using h
        simp only [this, cond_false]
        exact ih
def cv (β : Nat → Nat) : AV → Value
  | .top => undef
  | .v x => x
  | .p i off => .pointer (some ⟨β i, off, none⟩)
  | .s i off len cap => .slice (some ⟨β i, off, none⟩) len cap
def AV.ix : AV → Option Nat
  | .p i _ => some i
  | .s i _ _ _ => some i
  | _ => none
def Conc (β : Nat → Nat) (x : AV) (y : Value) : Prop := x = .top ∨ y = cv β x
structure Ctx where
  w0 : World
  h0 : PH
  /-- The places of the boxes that the caller lent. -/
  pin : List Nat
  /-- The calls that are put off. -/
  df : List Deferred
/-- Nothing is lent. -/
class NoPin (C : Ctx) : Prop where
  nil : C.pin = []
structure Fine (M : Mach) (C : Ctx) (h : PH) (w : World) : Prop where
  below : Below C.w0.heap.size C.w0 w
  has : Has w h
  sub : Sub C.h0 h
  new : New C.w0.heap.size C.h0 h
  gl : Sub M.gl h
structure BoxAt (C : Ctx) (h : PH) (w : World) (b : Nat) (cs : List Value) : Prop where
  row : ∃ T, w.heap[b]? = some (.cells cs.toArray T (0, 0))
  old : C.w0.heap.size ≤ b
  own : h b = none
structure G (M : Mach) (C : Ctx) (n : Nat) (S : AS) (h : PH) (β : Nat → Nat) (a : Act) (w : World) : Prop where
  size : a.tmps.size = n
  defers : a.defers = C.df
  fine : Fine M C h w
  boxes : ∀ i cs, S.bx[i]? = some cs → cs ≠ [] → BoxAt C h w (β i) cs
  inj : ∀ i j ci cj, S.bx[i]? = some ci → S.bx[j]? = some cj → ci ≠ [] → cj ≠ [] → β i = β j → i = j
  slots : ∀ t, Conc β (lk S.sl t) (a.tmps.getD t undef)
  wf : ∀ t i, (lk S.sl t).ix = some i → i < S.bx.length
  pin : C.pin.length ≤ S.bx.length ∧ ∀ i, i < C.pin.length → β i = C.pin.getD i 0
section
variable {M : Mach} {C : Ctx} {n : Nat} {S : AS} {h : PH} {β : Nat → Nat} {a : Act} {w : World}
theorem Fine.lt (f : Fine M C h w) {b : Nat} {cs : Array Value} (hx : h b = some cs) : b < w.heap.size := f.has.lt hx
theorem BoxAt.lt {b : Nat} {cs : List Value} (x : BoxAt C h w b cs) : b < w.heap.size := by
  obtain ⟨T, hw⟩ := x.row
  exact (Array.getElem?_eq_some_iff.1 hw).1
theorem BoxAt.cell {b : Nat} {cs : List Value} (x : BoxAt C h w b cs) (i : Nat) : w.cell? ⟨b, i, none⟩ = cs[i]? := by
  obtain ⟨T, hw⟩ := x.row
  simp [World.cell?, hw]
theorem BoxAt.free {b : Nat} {cs : List Value} (x : BoxAt C h w b cs) (i : Nat) : w.frozen? ⟨b, i, none⟩ = false := by
  obtain ⟨T, hw⟩ := x.row
  simp [World.frozen?, hw]
theorem BoxAt.below {b : Nat} {cs : List Value} {w' : World} {h' : PH} (x : BoxAt C h w b cs) (hb : Below w.heap.size w w') (hn : New w.heap.size h h') : BoxAt C h' w' b cs := by
  obtain ⟨T, hw⟩ := x.row
  refine ⟨⟨T, by rw [hb.block b x.lt]; exact hw⟩, x.old, ?_⟩
  cases hx : h' b with
  | none => rfl
  | some _ =>
    rcases hn b (by rw [hx]; simp) with k | k
    · exact absurd x.own k
    · have := x.lt; omega
theorem G.ev (g : G M C n S h β a w) {x : Operand} (hx : S.ev x ≠ .top) : a.eval x = cv β (S.ev x) := by
  cases x with
  | tmp t => exact (g.slots t).resolve_left hx
  | const c => rfl
  | global g => rfl
  | func f => rfl
theorem G.ev_v (g : G M C n S h β a w) {x : Operand} {v : Value} (hx : S.ev x = .v v) : a.eval x = v := by
  rw [g.ev (by rw [hx]; simp), hx]; rfl
theorem G.ev_p (g : G M C n S h β a w) {x : Operand} {i off : Nat} (hx : S.ev x = .p i off) : a.eval x = .pointer (some ⟨β i, off, none⟩) := by
  rw [g.ev (by rw [hx]; simp), hx]; rfl
theorem G.ev_s (g : G M C n S h β a w) {x : Operand} {i off len cap : Nat} (hx : S.ev x = .s i off len cap) : a.eval x = .slice (some ⟨β i, off, none⟩) len cap := by
  rw [g.ev (by rw [hx]; simp), hx]; rfl
/-- A slot is written. -/
theorem G.put (g : G M C n S h β a w) {d : Option Nat} (hd : ∀ k, d = some k → k < n) {x : AV} {v : Value} (hv : Conc β x v) (hx : ∀ i, x.ix = some i → i < S.bx.length) : G M C n (S.put d x) h β (a.put d v) w := by
  cases d with
  | none => exact g
  | some d =>
    have hdn := hd d rfl
    refine ⟨by simp [Act.put, g.size], g.defers, g.fine, g.boxes, g.inj, fun t => ?_, fun t i hi => ?_, g.pin⟩
    case refine_2 =>
      simp only [AS.put, lk_st] at hi
      split at hi
      · exact hx i hi
      · exact g.wf t i hi
    simp only [AS.put, lk_st, Act.put]
    by_cases h : t = d
    · subst h
      have : ((a.tmps.setIfInBounds t v).getD t undef) = v := by simp [g.size, hdn]
      rw [this, if_pos rfl]; exact hv
    · rw [if_neg h]
      have : ((a.tmps.setIfInBounds d v).getD t undef) = a.tmps.getD t undef := by simp [Array.getElem?_setIfInBounds_ne (Ne.symm h)]
      rw [this]; exact g.slots t
/-- The world has grown. -/
theorem G.grow (g : G M C n S h β a w) {w' : World} {h' : PH} (hb : Below w.heap.size w w') (hh : Has w' h') (hs : Sub h h') (hn : New w.heap.size h h') : G M C n S h' β a w' := by
  have hle := g.fine.below.size
  refine ⟨g.size, g.defers, ⟨g.fine.below.trans (hb.mono hle), hh, g.fine.sub.trans hs, fun b hx => ?_, g.fine.gl.trans hs⟩, fun i cs hi hc => (g.boxes i cs hi hc).below hb hn, g.inj, g.slots, g.wf, g.pin⟩
  rcases hn b hx with k | k
  · exact g.fine.new b k
  · exact .inr (Nat.le_trans hle k)
theorem New.refl (B : Nat) (h : PH) : New B h h := fun _ k => .inl k
theorem G.below (g : G M C n S h β a w) {w' : World} (hb : Below w.heap.size w w') : G M C n S h β a w' := g.grow hb (g.fine.has.below hb) (Sub.refl h) (New.refl _ h)
/-- A new box. -/
theorem G.push (g : G M C n S h β a w) (cs : List Value) (T : TypeId) :
    ∃ β', (∀ i, i < S.bx.length → β' i = β i) ∧ β' S.bx.length = w.heap.size ∧ G M C n (S.push cs) h β' a (w.alloc (.cells cs.toArray T)) := by
  have hnew : (w.alloc (.cells cs.toArray T)).heap[w.heap.size]? = some (.cells cs.toArray T (0, 0)) := by
    show (w.heap.push _)[w.heap.size]? = _
    simp
  have hb : Below w.heap.size w (w.alloc (.cells cs.toArray T)) := (Below.refl _ _).alloc (Nat.le_refl _) _
  have g' := g.below hb
  refine ⟨fun i => if i = S.bx.length then w.heap.size else β i, fun i hi => by simp; omega, by simp, ?_⟩
  have hget : ∀ (i : Nat) (ci : List Value), (S.push cs).bx[i]? = some ci → (i < S.bx.length ∧ S.bx[i]? = some ci) ∨ (i = S.bx.length ∧ ci = cs) := by
    simp only [AS.push]
    intro i ci hi
    rcases Nat.lt_trichotomy i S.bx.length with h | h | h
    · rw [List.getElem?_append_left h] at hi; exact .inl ⟨h, hi⟩
    · subst h; simp at hi; exact .inr ⟨rfl, hi.symm⟩
    · rw [List.getElem?_append_right (by omega)] at hi
      rw [List.getElem?_eq_none (by simp; omega)] at hi; cases hi
  have hltb : ∀ (i : Nat) (ci : List Value), S.bx[i]? = some ci → ci ≠ [] → β i < w.heap.size := fun i ci hi hc => (g.boxes i ci hi hc).lt
  refine ⟨g.size, g.defers, g'.fine, fun i ci hi hc => ?_, fun i j ci cj hi hj hci hcj hij => ?_, fun t => ?_, fun t i hi => ?_, ?_, fun i hi => ?_⟩
  · rcases hget i ci hi with ⟨hl, hi⟩ | ⟨rfl, rfl⟩
    · simp only [if_neg (show ¬ i = S.bx.length by omega)]
      exact g'.boxes i ci hi hc
    · simp only [if_true]
      refine ⟨⟨T, hnew⟩, g.fine.below.size, ?_⟩
      cases hx : h w.heap.size with
      | none => rfl
      | some _ => have := g.fine.lt hx; omega
  · rcases hget i ci hi with ⟨hl, hi'⟩ | ⟨hl, _⟩ <;> rcases hget j cj hj with ⟨hl', hj'⟩ | ⟨hl', _⟩
    · simp only [if_neg (show ¬ i = S.bx.length by omega), if_neg (show ¬ j = S.bx.length by omega)] at hij
      exact g.inj i j ci cj hi' hj' hci hcj hij
    · simp only [if_neg (show ¬ i = S.bx.length by omega), if_pos hl'] at hij
      have := hltb i ci hi' hci; omega
    · simp only [if_pos hl, if_neg (show ¬ j = S.bx.length by omega)] at hij
      have := hltb j cj hj' hcj; omega
    · omega
  · have hw := g.wf t
    rcases g.slots t with hs | hs
    · exact .inl hs
    · refine .inr ?_
      rw [hs]
      simp only [AS.push]
      cases hx : lk S.sl t with
      | top => rfl
      | v x => rfl
      | p i off => have := hw i (by rw [hx]; rfl); simp only [cv, if_neg (show ¬ i = S.bx.length by omega)]
      | s i off len cap => have := hw i (by rw [hx]; rfl); simp only [cv, if_neg (show ¬ i = S.bx.length by omega)]
  · have := g.wf t i hi
    simp only [AS.push, List.length_append]
    omega
  · have := g.pin.1
    simp only [AS.push, List.length_append]
    omega
  · have := g.pin.1
    simp only [if_neg (show ¬ i = S.bx.length by omega)]
    exact g.pin.2 i hi
/-! ### Rows that are lent -/
structure Rows (C : Ctx) (h : PH) (w : World) (β : Nat → Nat) (bx : List (List Value)) : Prop where
  at_ : ∀ i cs, bx[i]? = some cs → cs ≠ [] → BoxAt C h w (β i) cs
  inj : ∀ i j ci cj, bx[i]? = some ci → bx[j]? = some cj → ci ≠ [] → cj ≠ [] → β i = β j → i = j
/-- The contract of a function that writes a row of its caller (box 0 of its arguments). -/
structure SpecL (M : Mach) (f : FuncId) (args : List AV) (row : List Value) (h : PH) (R : Value → List Value → PH → Prop) : Prop where
  ok : callable M.P f = true
  run : ∀ (C : Ctx) (β : Nat → Nat) (rest : List (List Value)) (w : World), Fine M C h w → Rows C h w β (row :: rest) → Calls M.P f (args.map (cv β)).toArray w fun e w' => match e with
    | .returned v => ∃ row' h', Fine M C h' w' ∧ Sub h h' ∧ Rows C h' w' β (row' :: rest) ∧ R v row' h'
    | _ => False
/-- The contract of a function whose result is a slice that it made and leaves to its caller. -/
structure SpecO (M : Mach) (f : FuncId) (args : Array Value) (h : PH) (R : List Value → Nat → PH → Prop) : Prop where
  ok : callable M.P f = true
  run : ∀ w, Has w h → Sub M.gl h → Calls M.P f args w fun e w' => match e with
    | .returned v => ∃ h', Below w.heap.size w w' ∧ Has w' h' ∧ Sub h h' ∧ New w.heap.size h h' ∧ ((v = .slice none 0 0 ∧ R [] 0 h') ∨
        ∃ b row len T, v = .slice (some ⟨b, 0, none⟩) len row.length ∧ w.heap.size ≤ b ∧ h' b = none ∧ w'.heap[b]? = some (.cells row.toArray T (0, 0)) ∧ row ≠ [] ∧ R row len h')
    | _ => False
/-- All that the arguments say is plain, or of box i. -/
def onlyOf (i : Nat) : List AV → Bool
  | [] => true
  | .v _ :: l => onlyOf i l
  | .p j _ :: l => (j == i) && onlyOf i l
  | .s j _ _ _ :: l => (j == i) && onlyOf i l
  | .top :: _ => false
def ren0 : AV → AV
  | .p _ off => .p 0 off
  | .s _ off len cap => .s 0 off len cap
  | x => x
theorem ren_cv {β β' : Nat → Nat} {i : Nat} (hb : β' 0 = β i) : ∀ {l : List AV}, onlyOf i l = true → (l.map ren0).map (cv β') = l.map (cv β)
  | [], _ => rfl
  | .v _ :: l, hl => by simp only [List.map_cons, ren0, cv]; rw [ren_cv hb (l := l) hl]
  | .p j off :: l, hl => by
    simp only [onlyOf, Bool.and_eq_true, beq_iff_eq] at hl
    simp only [List.map_cons, ren0, cv, hb, hl.1]; rw [ren_cv hb hl.2]
  | .s j off len cap :: l, hl => by
    simp only [onlyOf, Bool.and_eq_true, beq_iff_eq] at hl
    simp only [List.map_cons, ren0, cv, hb, hl.1]; rw [ren_cv hb hl.2]
  | .top :: _, hl => by cases hl
theorem only_cv {β : Nat → Nat} {i : Nat} : ∀ {l : List AV}, onlyOf i l = true → l.map (cv fun _ => β i) = l.map (cv β)
  | [], _ => rfl
  | .v _ :: l, hl => by simp only [List.map_cons, cv]; rw [only_cv (l := l) hl]
  | .p j off :: l, hl => by
    simp only [onlyOf, Bool.and_eq_true, beq_iff_eq] at hl
    simp only [List.map_cons, cv, hl.1]; rw [only_cv hl.2]
  | .s j off len cap :: l, hl => by
    simp only [onlyOf, Bool.and_eq_true, beq_iff_eq] at hl
    simp only [List.map_cons, cv, hl.1]; rw [only_cv hl.2]
  | .top :: _, hl => by cases hl
theorem only_ev (g : G M C n S h β a w) {i : Nat} : ∀ {l : List Operand}, onlyOf i (l.map S.ev) = true → l.map a.eval = (l.map S.ev).map (cv β)
  | [], _ => rfl
  | x :: l, hl => by
    simp only [List.map_cons] at hl ⊢
    cases hx : S.ev x with
    | v u => rw [hx] at hl; rw [g.ev_v hx, only_ev g (l := l) hl]; rfl
    | p j off => rw [hx] at hl; simp only [onlyOf, Bool.and_eq_true] at hl; rw [g.ev_p hx, only_ev g (l := l) hl.2]; rfl
    | s j off len cap => rw [hx] at hl; simp only [onlyOf, Bool.and_eq_true] at hl; rw [g.ev_s hx, only_ev g (l := l) hl.2]; rfl
    | top => rw [hx] at hl; cases hl
/-- The caller's boxes as the callee counts them. -/
def shift (i : Nat) (β : Nat → Nat) : Nat → Nat
  | 0 => β i
  | j + 1 => β j
theorem G.rows (g : G M C n S h β a w) {i : Nat} {row : List Value} (hi : S.bx[i]? = some row) (hne : row ≠ []) : Rows C h w (shift i β) (row :: S.bx.set i []) := by
  have hlen : i < S.bx.length := (List.getElem?_eq_some_iff.1 hi).1
  have hget : ∀ (j : Nat) (cj : List Value), (S.bx.set i [])[j]? = some cj → cj ≠ [] → j ≠ i ∧ S.bx[j]? = some cj := by
    intro j cj hj hn
    by_cases hji : j = i
    · subst hji; rw [List.getElem?_set_self hlen] at hj; exact (hn (Option.some.inj hj).symm).elim
    · rw [List.getElem?_set_ne (Ne.symm hji)] at hj; exact ⟨hji, hj⟩
  refine ⟨fun j cs hj hn => ?_, fun p q cp cq hp hq hnp hnq hpq => ?_⟩
  · cases j with
    | zero => simp at hj; subst hj; exact g.boxes i _ hi hne
    | succ j => simp only [List.getElem?_cons_succ] at hj; exact g.boxes j cs (hget j cs hj hn).2 hn
  · cases p with
    | zero =>
      simp at hp; subst hp
      cases q with
      | zero => rfl
      | succ q =>
        simp only [List.getElem?_cons_succ] at hq
        have h1 := hget q cq hq hnq
        exact (h1.1 (g.inj i q _ _ hi h1.2 hnp hnq hpq).symm).elim
    | succ p =>
      simp only [List.getElem?_cons_succ] at hp
      have h2 := hget p cp hp hnp
      cases q with
      | zero =>
        simp at hq; subst hq
        exact (h2.1 (g.inj p i _ _ h2.2 hi hnp hnq hpq)).elim
      | succ q =>
        simp only [List.getElem?_cons_succ] at hq
        have h1 := hget q cq hq hnq
        rw [g.inj p q _ _ h2.2 h1.2 hnp hnq hpq]
theorem G.back (g : G M C n S h β a w) {i : Nat} {row row' : List Value} (hi : S.bx[i]? = some row) (hne : row ≠ []) {h' : PH} {w' : World} (hf : Fine M C h' w') (hr : Rows C h' w' (shift i β) (row' :: S.bx.set i [])) : G M C n (S.setBox i row') h' β a w' := by
  have hlen : i < S.bx.length := (List.getElem?_eq_some_iff.1 hi).1
  have hget : ∀ (j : Nat) (cj : List Value), (S.bx.set i row')[j]? = some cj → (j = i ∧ cj = row') ∨ (j ≠ i ∧ S.bx[j]? = some cj) := by
    intro j cj hj
    by_cases h : j = i
    · subst h; rw [List.getElem?_set_self hlen] at hj; exact .inl ⟨rfl, (Option.some.inj hj).symm⟩
    · rw [List.getElem?_set_ne (Ne.symm h)] at hj; exact .inr ⟨h, hj⟩
  have hold : ∀ (j : Nat) (cj : List Value), (S.bx.set i row')[j]? = some cj → cj ≠ [] → ∃ cj', S.bx[j]? = some cj' ∧ cj' ≠ [] := by
    intro j cj hj hn
    rcases hget j cj hj with ⟨rfl, rfl⟩ | ⟨_, hj⟩
    · exact ⟨row, hi, hne⟩
    · exact ⟨cj, hj, hn⟩
  refine ⟨g.size, g.defers, hf, fun j cj hj hn => ?_, fun p q cp cq hp hq hnp hnq hpq => ?_, g.slots, fun t q hq => ?_, by simpa [AS.setBox] using g.pin⟩
  · rcases hget j cj hj with ⟨rfl, rfl⟩ | ⟨hji, hj⟩
    · exact hr.at_ 0 _ rfl hn
    · exact hr.at_ (j + 1) cj (by rw [List.getElem?_cons_succ, List.getElem?_set_ne (Ne.symm hji)]; exact hj) hn
  · obtain ⟨cp', hp', hnp'⟩ := hold p cp hp hnp
    obtain ⟨cq', hq', hnq'⟩ := hold q cq hq hnq
    exact g.inj p q cp' cq' hp' hq' hnp' hnq' hpq
  · have := g.wf t q hq
    simpa [AS.setBox] using this
/-- A row that another function made becomes a box. -/
theorem G.adopt (g : G M C n S h β a w) {w' : World} {h' : PH} (hb : Below w.heap.size w w') (hh : Has w' h') (hs : Sub h h') (hn : New w.heap.size h h') {b : Nat} {cs : List Value} {T : TypeId} (hlb : w.heap.size ≤ b) (hfree : h' b = none) (hrow : w'.heap[b]? = some (.cells cs.toArray T (0, 0))) :
    ∃ β', (∀ i, i < S.bx.length → β' i = β i) ∧ β' S.bx.length = b ∧ G M C n (S.push cs) h' β' a w' := by
  have g' := g.grow hb hh hs hn
  refine ⟨fun i => if i = S.bx.length then b else β i, fun i hi => by simp; omega, by simp, ?_⟩
  have hget : ∀ (i : Nat) (ci : List Value), (S.push cs).bx[i]? = some ci → (i < S.bx.length ∧ S.bx[i]? = some ci) ∨ (i = S.bx.length ∧ ci = cs) := by
    simp only [AS.push]
    intro i ci hi
    rcases Nat.lt_trichotomy i S.bx.length with h | h | h
    · rw [List.getElem?_append_left h] at hi; exact .inl ⟨h, hi⟩
    · subst h; simp at hi; exact .inr ⟨rfl, hi.symm⟩
    · rw [List.getElem?_append_right (by omega)] at hi
      rw [List.getElem?_eq_none (by simp; omega)] at hi; cases hi
  have hltb : ∀ (i : Nat) (ci : List Value), S.bx[i]? = some ci → ci ≠ [] → β i < w.heap.size := fun i ci hi hc => (g.boxes i ci hi hc).lt
  refine ⟨g.size, g.defers, g'.fine, fun i ci hi hc => ?_, fun i j ci cj hi hj hci hcj hij => ?_, fun t => ?_, fun t i hi => ?_, ?_, fun i hi => ?_⟩
  · rcases hget i ci hi with ⟨hl, hi⟩ | ⟨rfl, rfl⟩
    · simp only [if_neg (show ¬ i = S.bx.length by omega)]
      exact g'.boxes i ci hi hc
    · simp only [if_true]
      exact ⟨⟨T, hrow⟩, Nat.le_trans g.fine.below.size hlb, hfree⟩
  · rcases hget i ci hi with ⟨hl, hi'⟩ | ⟨hl, _⟩ <;> rcases hget j cj hj with ⟨hl', hj'⟩ | ⟨hl', _⟩
    · simp only [if_neg (show ¬ i = S.bx.length by omega), if_neg (show ¬ j = S.bx.length by omega)] at hij
      exact g.inj i j ci cj hi' hj' hci hcj hij
    · simp only [if_neg (show ¬ i = S.bx.length by omega), if_pos hl'] at hij
      have := hltb i ci hi' hci; omega
    · simp only [if_pos hl, if_neg (show ¬ j = S.bx.length by omega)] at hij
      have := hltb j cj hj' hcj; omega
    · omega
  · have hw := g.wf t
    rcases g.slots t with hs | hs
    · exact .inl hs
    · refine .inr ?_
      rw [hs]
      simp only [AS.push]
      cases hx : lk S.sl t with
      | top => rfl
      | v x => rfl
      | p i off => have := hw i (by rw [hx]; rfl); simp only [cv, if_neg (show ¬ i = S.bx.length by omega)]
      | s i off len cap => have := hw i (by rw [hx]; rfl); simp only [cv, if_neg (show ¬ i = S.bx.length by omega)]
  · have := g.wf t i hi
    simp only [AS.push, List.length_append]
    omega
  · have := g.pin.1
    simp only [AS.push, List.length_append]
    omega
  · have := g.pin.1
    simp only [if_neg (show ¬ i = S.bx.length by omega)]
    exact g.pin.2 i hi
end
end Go.Q
namespace Go.Q
open Go.RowKit (Below)
@[go_sem] def opt {α : Type} (o : Option α) (k : α → Prop) : Prop := match o with
  | some a => k a
  | none => False
theorem opt_iff {α : Type} {o : Option α} {k : α → Prop} : opt o k ↔ ∃ a, o = some a ∧ k a := by
  cases o <;> simp [opt]
/-! ### What the type table says -/
inductive UK where
  | slice | string | array (n : Nat) | int (k : IntKind) | bool | iface | ptr | struct | func | other
  deriving DecidableEq
def uk (P : Program) (T : TypeId) : UK := match P.underlying T with
  | some (.slice _) => .slice
  | some .string => .string
  | some (.array n _) => .array n
  | some (.int k) => .int k
  | some .bool => .bool
  | some (.interface _) => .iface
  | some (.pointer _) => .ptr
  | some (.struct _) => .struct
  | some (.func ..) => .func
  | _ => .other
/-- none: no such type; some none: one cell; some (some m): a struct or an array of m cells. -/
def tk (P : Program) (T : TypeId) : Option (Option Nat) := match P.info? T, P.underlying T with
  | some i, some (.struct _) => some (some i.size)
  | some i, some (.array ..) => some (some i.size)
  | some i, some _ => if i.size = 1 then some none else none
  | _, _ => none
def zer (P : Program) (T : TypeId) : Option (List Value) := (P.info? T).bind fun i => i.zero.map (·.cells.toList)
def fo (P : Program) (T : TypeId) (f : Nat) : Option Nat := match P.underlying T with
  | some (.struct fields) => match fields[f]? with
    | some fl => match P.info? fl.type with
      | some i => if i.size = 0 then none else some fl.offset
      | none => none
    | none => none
  | _ => none
/-- The cells of a slice's or an array's element. -/
def esz (P : Program) (T : TypeId) : Option Nat := match P.underlying T with
  | some (.slice e) => (P.info? e).map (·.size)
  | some (.array _ e) => (P.info? e).map (·.size)
  | _ => none
def alen (P : Program) (T : TypeId) : Option Nat := match P.underlying T with
  | some (.array n _) => some n
  | _ => none
/-- The kind of an array's element. -/
def etk (P : Program) (T : TypeId) : Option (Option Nat) := match P.underlying T with
  | some (.array _ e) => tk P e
  | _ => none
/-- A field's place and kind. -/
def fpl (P : Program) (T : TypeId) (f : Nat) : Option (Nat × Option Nat) := match P.underlying T with
  | some (.struct fields) => match fields[f]? with
    | some fl => (tk P fl.type).map fun t => (fl.offset, t)
    | none => none
  | _ => none
@[go_sem] def ldb : Option Nat → List Value → Nat → Option Value
  | none, cs, off => cs[off]?
  | some m, cs, off => bif Nat.ble (off + m) cs.length then some (.agg ((cs.drop off).take m).toArray) else none
@[go_sem] def vals : List AV → Option (List Value)
  | [] => some []
  | .v x :: l => match vals l with
    | some vs => some (x :: vs)
    | none => none
  | _ :: _ => none
/-- Cells stored one behind the other. -/
@[go_sem] def spl : List Value → Nat → List Value → List Value
  | cs, _, [] => cs
  | cs, off, v :: vs => spl (cs.set off v) (off + 1) vs
@[go_sem] def partSize : Option Nat → Nat
  | none => 1
  | some m => m
/-- The cells of a value that is to fill a place of a kind. -/
@[go_sem] def fits : Option Nat → Value → Option (List Value)
  | none, .agg _ => none
  | none, .tuple _ => none
  | none, v => some [v]
  | some m, .agg cs => bif cs.toList.length == m then some cs.toList else none
  | some _, _ => none
@[go_sem] def fillA (place : Nat → Option (Nat × Option Nat)) : List Value → List (Nat × AV) → Option (List Value)
  | cs, [] => some cs
  | cs, (i, .v x) :: rest => match place i with
    | some (off, t) => match fits t x with
      | some vs => bif Nat.ble (off + vs.length) cs.length then fillA place (spl cs off vs) rest else none
      | none => none
    | none => none
  | _, _ :: _ => none
/-- All fields' places and kinds. -/
def fpls (P : Program) (T : TypeId) : Option (List (Nat × Option Nat)) := match P.underlying T with
  | some (.struct fields) => fields.toList.mapM fun fl => (tk P fl.type).map fun t => (fl.offset, t)
  | _ => none
@[go_sem] def buildA (P : Program) (T : TypeId) (parts : List (Nat × AV)) : Option (List Value) := match zer P T, uk P T with
  | some z, .struct => match fpls P T with
    | some pl => fillA (fun i => pl[i]?) z parts
    | none => none
  | some z, .array _ => match esz P T, etk P T with
    | some e, some t => bif e == partSize t then fillA (fun i => some (i * e, t)) z parts else none
    | _, _ => none
  | _, _ => none
/-! ### Operators -/
def andI (K : IntKind) (a b : Int) : Int := K.wrap (BitVec.ofInt K.bits a &&& BitVec.ofInt K.bits b).toNat
def orI (K : IntKind) (a b : Int) : Int := K.wrap (BitVec.ofInt K.bits a ||| BitVec.ofInt K.bits b).toNat
def xorI (K : IntKind) (a b : Int) : Int := K.wrap (BitVec.ofInt K.bits a ^^^ BitVec.ofInt K.bits b).toNat
@[go_sem] def binI (op : BinOp) (K : IntKind) (a b : Int) (k : Value → Prop) : Prop := match op with
  | .add => k (.int K (K.wrap (a + b)))
  | .sub => k (.int K (K.wrap (a - b)))
  | .mul => k (.int K (K.wrap (a * b)))
  | .quo => b ≠ 0 ∧ k (.int K (K.wrap (a.tdiv b)))
  | .rem => b ≠ 0 ∧ k (.int K (a.tmod b))
  | .and => k (.int K (andI K a b))
  | .or => k (.int K (orI K a b))
  | .xor => k (.int K (xorI K a b))
  | .eql => k (.bool (a == b))
  | .neq => k (.bool (a != b))
  | .lss => k (.bool (decide (a < b)))
  | .leq => k (.bool (decide (a ≤ b)))
  | .gtr => k (.bool (decide (a > b)))
  | .geq => k (.bool (decide (a ≥ b)))
  | _ => False
@[go_sem] def binA (P : Program) (op : BinOp) (T : TypeId) (x y : AV) (k : Value → Prop) : Prop := match x, y with
  | .v (.int K a), .v (.int K' b) => match op with
    | .shl => 0 ≤ b ∧ k (.int K (K.wrap (a * 2 ^ (min b.toNat K.bits))))
    | .shr => 0 ≤ b ∧ k (.int K (a.fdiv (2 ^ (min b.toNat K.bits))))
    | op => K = K' ∧ binI op K a b k
  | .v (.bool a), .v (.bool b) => match op with
    | .eql => uk P T = .bool ∧ k (.bool (a == b))
    | .neq => uk P T = .bool ∧ k (.bool (!(a == b)))
    | _ => False
  | .v (.slice a _ _), .v (.slice none _ _) => match op with
    | .eql => uk P T = .slice ∧ k (.bool a.isNone)
    | .neq => uk P T = .slice ∧ k (.bool (!a.isNone))
    | _ => False
  | .v (.string a), .v (.string b) => match op with
    | .eql => k (.bool (a.toList == b.toList))
    | .neq => k (.bool (!(a.toList == b.toList)))
    | .add => ((a.size + b.size : Nat) : Int) ≤ IntKind.i64.max ∧ k (.string (a ++ b))
    | _ => False
  | _, _ => False
@[go_sem] def lenA (P : Program) (T : TypeId) (x : AV) : Option Value := match uk P T, x with
  | .slice, .v (.slice _ n _) => some (.int .i64 n)
  | .slice, .s _ _ n _ => some (.int .i64 n)
  | .string, .v (.string s) => some (.int .i64 s.size)
  | .array n, _ => some (.int .i64 n)
  | _, _ => none
/-- A slice's bounds: the lower one, the upper one, both with what they must be. -/
@[go_sem] def lowA : Option AV → Option Int
  | none => some 0
  | some (.v (.int _ i)) => some i
  | _ => none
@[go_sem] def highA (len : Nat) : Option AV → Option Int
  | none => some len
  | some (.v (.int _ i)) => some i
  | _ => none
@[go_sem] def rdA (M : Mach) (op : Op) (S : AS) (h : PH) (k : AV → Prop) : Prop := match op with
  | .move x => k (S.ev x)
  | .assign x => k (S.ev x)
  | .pick c x y => match S.ev c with
    | .v (.bool t) => k (bif t then S.ev x else S.ev y)
    | _ => False
  | .load T x => match S.ev x with
    | .p i off => opt (tk M.P T) fun t => opt (ldb t (S.box i) off) fun v => k (.v v)
    | .v (.pointer (some a)) => opt (tk M.P T) fun t => match t with
      | none => ∃ v, h.at a = some v ∧ k (.v v)
      | some m => ∃ cs : List Value, cs.length = m ∧ (∀ j v, cs[j]? = some v → h.at (a.add j) = some v) ∧ k (.v (.agg cs.toArray))
    | _ => False
  | .binOp op T x y _ => binA M.P op T (S.ev x) (S.ev y) fun v => k (.v v)
  | .unOp op _ x => match op, S.ev x with
    | .not, .v (.bool b) => k (.v (.bool (!b)))
    | .neg, .v (.int K a) => k (.v (.int K (K.wrap (0 - a))))
    | _, _ => False
  | .convert src dst x => match uk M.P src, uk M.P dst, S.ev x with
    | .int _, .int K, .v (.int _ a) => k (.v (.int K (K.wrap a)))
    | _, _, _ => False
  | .fieldAddr T x f => opt (fo M.P T f) fun o => match S.ev x with
    | .p i off => k (.p i (off + o))
    | .v (.pointer (some a)) => k (.v (.pointer (some (a.add o))))
    | _ => False
  | .field T x f => match S.ev x with
    | .v (.agg cs) => opt (fpl M.P T f) fun (o, t) => opt (ldb t cs.toList o) fun v => k (.v v)
    | _ => False
  | .indexAddr T x i => opt (esz M.P T) fun e => match S.ev x, S.ev i with
    | .v (.slice a len _), .v (.int _ j) => uk M.P T = .slice ∧ ∃ ad, a = some ad ∧ 0 ≤ j ∧ j < len ∧ k (.v (.pointer (some (ad.add (j.toNat * e)))))
    | .s b off len _, .v (.int _ j) => uk M.P T = .slice ∧ 0 ≤ j ∧ j < len ∧ k (.p b (off + j.toNat * e))
    | .p b off, .v (.int _ j) => opt (alen M.P T) fun m => 0 ≤ j ∧ j < m ∧ k (.p b (off + j.toNat * e))
    | .v (.pointer (some a)), .v (.int _ j) => opt (alen M.P T) fun m => 0 ≤ j ∧ j < m ∧ k (.v (.pointer (some (a.add (j.toNat * e)))))
    | _, _ => False
  | .index T x i => match S.ev x, S.ev i with
    | .v (.agg cs), .v (.int _ j) => opt (alen M.P T) fun m => opt (esz M.P T) fun e => opt (etk M.P T) fun t => 0 ≤ j ∧ j < m ∧ opt (ldb t cs.toList (j.toNat * e)) fun v => k (.v v)
    | .v (.string s), .v (.int _ j) => uk M.P T = .string ∧ 0 ≤ j ∧ ∃ b, s[j.toNat]? = some b ∧ k (.v (.int .u8 b.toNat))
    | _, _ => False
  | .extract x i => match S.ev x with
    | .v (.tuple vs) => opt (vs.toList[i]?) fun v => k (.v v)
    | _ => False
  | .slice T x lo hi none => match S.ev x with
    | .v (.slice a len cap) => uk M.P T = .slice ∧ opt (esz M.P T) fun e => opt (lowA (lo.map S.ev)) fun l => opt (highA len (hi.map S.ev)) fun u =>
        0 ≤ l ∧ l ≤ u ∧ u ≤ cap ∧ k (.v (.slice (if cap = l.toNat then a else a.map (·.add (l.toNat * e))) (u.toNat - l.toNat) (cap - l.toNat)))
    | .s b off len cap => uk M.P T = .slice ∧ opt (esz M.P T) fun e => opt (lowA (lo.map S.ev)) fun l => opt (highA len (hi.map S.ev)) fun u =>
        0 ≤ l ∧ l ≤ u ∧ u ≤ cap ∧ k (.s b (if cap = l.toNat then off else off + l.toNat * e) (u.toNat - l.toNat) (cap - l.toNat))
    | _ => False
  | .makeInterface T x => match S.ev x with
    | .v v => M.P.concrete T = true ∧ k (.v (.iface T v))
    | _ => False
  | .makeFunc fn first captured => opt (vals (first.toList.map S.ev)) fun fs => opt (vals (captured.toList.map S.ev)) fun cs => k (.v (.func fn fs.toArray cs.toArray))
  | .build T parts => opt (buildA M.P T (parts.toList.map fun p => (p.1, S.ev p.2))) fun cs => k (.v (.agg cs.toArray))
  | .call { callee := .builtin .len, args, argTypes } => match args.toList, argTypes.toList with
    | [x], [T] => opt (lenA M.P T (S.ev x)) fun v => k (.v v)
    | _, _ => False
  | .call { callee := .builtin .min, args, argTypes := _ } => match args.toList with
    | [x, y] => match S.ev x, S.ev y with
      | .v (.int K a), .v (.int _ b) => k (.v (.int K (if b < a then b else a)))
      | _, _ => False
    | _ => False
  | .call { callee := .builtin .max, args, argTypes := _ } => match args.toList with
    | [x, y] => match S.ev x, S.ev y with
      | .v (.int K a), .v (.int _ b) => k (.v (.int K (if b > a then b else a)))
      | _, _ => False
    | _ => False
  | _ => False
end Go.Q
namespace Go.Q
open Go.RowKit (Below)
theorem uk_slice {P : Program} {T : TypeId} (h : uk P T = .slice) : ∃ e, P.underlying T = some (.slice e) := by
  unfold uk at h; split at h <;> first | (cases h; done) | exact ⟨_, by assumption⟩
theorem uk_string {P : Program} {T : TypeId} (h : uk P T = .string) : P.underlying T = some .string := by
  unfold uk at h; split at h <;> first | (cases h; done) | assumption
theorem uk_bool {P : Program} {T : TypeId} (h : uk P T = .bool) : P.underlying T = some .bool := by
  unfold uk at h; split at h <;> first | (cases h; done) | assumption
theorem uk_int {P : Program} {T : TypeId} {k : IntKind} (h : uk P T = .int k) : P.underlying T = some (.int k) := by
  unfold uk at h; split at h <;> first | (cases h; done) | (cases h; assumption)
theorem uk_array {P : Program} {T : TypeId} {n : Nat} (h : uk P T = .array n) : ∃ e, P.underlying T = some (.array n e) := by
  unfold uk at h; split at h <;> first | (cases h; done) | (cases h; exact ⟨_, by assumption⟩)
theorem uk_struct {P : Program} {T : TypeId} (h : uk P T = .struct) : ∃ e, P.underlying T = some (.struct e) := by
  unfold uk at h; split at h <;> first | (cases h; done) | exact ⟨_, by assumption⟩
theorem tk_some {P : Program} {T : TypeId} {m : Nat} (h : tk P T = some (some m)) (w : World) : (isAgg T).run P w = .ok true w ∧ (sizeOf T).run P w = .ok m w := by
  unfold tk at h
  split at h
  · rename_i i fs hi hu; cases h; simp [isAgg, sizeOf, typeInfo, run_underlying hu, hi]
  · rename_i i n e hi hu; cases h; simp [isAgg, sizeOf, typeInfo, run_underlying hu, hi]
  · split at h <;> cases h
  · cases h
theorem tk_none {P : Program} {T : TypeId} (h : tk P T = some none) (w : World) : (isAgg T).run P w = .ok false w ∧ (sizeOf T).run P w = .ok 1 w := by
  unfold tk at h
  split at h
  · cases h
  · cases h
  · rename_i i d hn1 hn2 hi hu
    split at h
    · rename_i hs
      constructor
      · simp only [isAgg, Sem.run_bind, run_underlying hu, Result.andThen_ok]
        cases d <;> first | exact (hn1 _ rfl).elim | exact (hn2 _ _ rfl).elim | rfl
      · simp [sizeOf, typeInfo, hi, hs]
    · cases h
  · cases h
theorem run_size {P : Program} {T : TypeId} {i : TypeInfo} (h : P.info? T = some i) (w : World) : (sizeOf T).run P w = .ok i.size w := by
  simp [sizeOf, typeInfo, h]
section
variable {M : Mach} {C : Ctx} {n : Nat} {S : AS} {h : PH} {β : Nat → Nat} {a : Act} {w : World}
theorem G.wf_ev (g : G M C n S h β a w) {x : Operand} {i : Nat} (hx : (S.ev x).ix = some i) : i < S.bx.length := by
  cases x with
  | tmp t => exact g.wf t i hx
  | const c => cases hx
  | global g => cases hx
  | func f => cases hx
theorem G.box_get (g : G M C n S h β a w) {i : Nat} {off : Nat} {v : Value} (hi : i < S.bx.length) (hv : (S.box i)[off]? = some v) : w.cell? ⟨β i, off, none⟩ = some v := by
  have hb : S.bx[i]? = some (S.box i) := by simp [AS.box, hi]
  have hne : S.box i ≠ [] := by intro e; rw [e] at hv; cases hv
  rw [(g.boxes i _ hb hne).cell]; exact hv
theorem add_none (b off k : Nat) : (⟨b, off, none⟩ : Addr).add k = ⟨b, off + k, none⟩ := by
  unfold Addr.add; split <;> simp_all
theorem run_loadVar_agg {P : Program} {T : TypeId} {m : Nat} (ht : tk P T = some (some m)) {w : World} {ad : Addr} {cs : List Value} (hl : cs.length = m)
    (hc : ∀ (j : Nat) (v : Value), cs[j]? = some v → w.cell? (ad.add j) = some v) : (loadVar T ad).run P w = .ok (.agg cs.toArray) w := by
  have := tk_some ht w
  simp only [loadVar, Sem.run_bind, this.1, this.2, Result.andThen_ok, if_true]
  subst hl
  rw [run_loadCells_list _ _ _ hc]
  rfl
theorem run_loadVar_one {P : Program} {T : TypeId} (ht : tk P T = some none) {w : World} {ad : Addr} {v : Value} (hc : w.cell? ad = some v) :
    (loadVar T ad).run P w = .ok v w := by
  simp [loadVar, (tk_none ht w).1, hc]
/-- What a rule for a reader gives. -/
def RdOk (M : Mach) (C : Ctx) (n : Nat) (S : AS) (h : PH) (β : Nat → Nat) (a : Act) (o : Oper) (k : AV → Prop) : Prop :=
  ∃ v x, (∀ w', G M C n S h β a w' → (execOp a.eval o).run M.P w' = .ok (.value v) w') ∧ Conc β x v ∧ (∀ i, x.ix = some i → i < S.bx.length) ∧ k x
theorem RdOk.mk_v {o : Oper} {k : AV → Prop} {v : Value} (hr : ∀ w', G M C n S h β a w' → (execOp a.eval o).run M.P w' = .ok (.value v) w') (hk : k (.v v)) : RdOk M C n S h β a o k :=
  ⟨v, .v v, hr, .inr rfl, fun _ h => (by cases h), hk⟩
theorem rd_load (g : G M C n S h β a w) {o : Oper} {T : TypeId} {x : Operand} (ho : o.op = .load T x) {k : AV → Prop} (hk : rdA M o.op S h k) : RdOk M C n S h β a o k := by
  rw [ho] at hk
  simp only [rdA] at hk
  split at hk
  · rename_i i off hx
    obtain ⟨t, ht, hk⟩ := opt_iff.1 hk
    obtain ⟨v, hv, hk⟩ := opt_iff.1 hk
    have hi : i < S.bx.length := g.wf_ev (by rw [hx]; rfl)
    refine .mk_v (fun w' g' => ?_) hk
    simp only [execOp, ho, Instr.loadAt, Instr.sureAddr, g'.ev_p hx, Sem.run_bind, Sem.run_pure, Result.andThen_ok]
    cases t with
    | none => rw [run_loadVar_one ht (g'.box_get hi hv)]; rfl
    | some m =>
      simp only [ldb] at hv
      cases hb : Nat.ble (off + m) (S.box i).length with
      | false => rw [hb] at hv; cases hv
      | true =>
        rw [hb] at hv
        cases hv
        have hle : off + m ≤ (S.box i).length := Nat.le_of_ble_eq_true hb
        rw [run_loadVar_agg (cs := ((S.box i).drop off).take m) ht (by simp; omega) (fun j v hj => ?_)]
        · rfl
        · rw [add_none]
          refine g'.box_get hi ?_
          rw [List.getElem?_take] at hj
          split at hj
          · rw [List.getElem?_drop] at hj; exact hj
          · cases hj
  · rename_i ad hx
    obtain ⟨t, ht, hk⟩ := opt_iff.1 hk
    cases t with
    | none =>
      obtain ⟨v, hv, hk⟩ := hk
      refine .mk_v (fun w' g' => ?_) hk
      simp only [execOp, ho, Instr.loadAt, Instr.sureAddr, g'.ev_v hx, Sem.run_bind, Sem.run_pure, Result.andThen_ok]
      rw [run_loadVar_one ht (g'.fine.has.cell hv)]; rfl
    | some m =>
      obtain ⟨cs, hl, hc, hk⟩ := hk
      refine .mk_v (fun w' g' => ?_) hk
      simp only [execOp, ho, Instr.loadAt, Instr.sureAddr, g'.ev_v hx, Sem.run_bind, Sem.run_pure, Result.andThen_ok]
      rw [run_loadVar_agg ht hl (fun j v hj => g'.fine.has.cell (hc j v hj))]; rfl
  · exact hk.elim
theorem bin_sound {P : Program} {op : BinOp} {T : TypeId} {x y : Value} {k : Value → Prop} (hk : binA P op T (.v x) (.v y) k) :
    ∃ v, (∀ w, (binOp op T x y).run P w = .ok v w) ∧ k v := by
  unfold binA at hk
  split at hk
  · rename_i hx hy
    cases hx; cases hy
    split at hk
    · rename_i hop
      exact ⟨_, fun w => by simp [binOp, Op.shift, Int.not_lt.2 hk.1], hk.2⟩
    · exact ⟨_, fun w => by simp [binOp, Op.shift, Int.not_lt.2 hk.1], hk.2⟩
    · rename_i h1 h2
      obtain ⟨rfl, hk⟩ := hk
      cases op <;> simp only [binI] at hk <;> first
        | exact hk.elim
        | exact (h1 rfl).elim
        | exact (h2 rfl).elim
        | exact ⟨_, fun w => by simp only [binOp]; rw [if_neg (by simp)]; rfl, hk⟩
        | exact ⟨_, fun w => by simp only [binOp]; rw [if_neg (by simp)]; simp only [Op.intDiv]; rw [if_neg hk.1]; rfl, hk.2⟩
  · rename_i hx hy
    cases hx; cases hy
    split at hk
    · exact ⟨_, fun w => run_eql_bool w T _ _ (uk_bool hk.1), hk.2⟩
    · exact ⟨_, fun w => run_neq_bool w T _ _ (uk_bool hk.1), hk.2⟩
    · exact hk.elim
  · rename_i hx hy
    cases hx; cases hy
    split at hk
    · obtain ⟨e, he⟩ := uk_slice hk.1
      exact ⟨_, fun w => Lib.run_eql_slice_nil w T e _ _ _ _ _ he, hk.2⟩
    · obtain ⟨e, he⟩ := uk_slice hk.1
      exact ⟨_, fun w => run_neq_slice_nil_any w T e _ _ _ _ _ he, hk.2⟩
    · exact hk.elim
  · rename_i hx hy
    cases hx; cases hy
    split at hk
    · exact ⟨_, fun w => by simp only [binOp]; rfl, hk⟩
    · exact ⟨_, fun w => by simp only [binOp]; rfl, hk⟩
    · exact ⟨_, fun w => by simp only [binOp, Op.stringOp]; rw [if_neg (Int.not_lt.2 hk.1)]; rfl, hk.2⟩
    · exact hk.elim
  · exact hk.elim
theorem eqGuard_not {P : Program} {op : BinOp} {t : TypeId} {x y : Operand} {a b : Value} (h : a ≠ .nilIface) (h' : ∀ cs, a ≠ .agg cs) (w : World) :
    (eqGuard op t x y a b).run P w = .ok () w := by
  cases op <;> cases a <;> first | rfl | exact (h rfl).elim | exact (h' _ rfl).elim
theorem binA_shape {P : Program} {op : BinOp} {T : TypeId} {x y : AV} {k : Value → Prop} (hk : binA P op T x y k) :
    ∃ a b, x = .v a ∧ y = .v b ∧ a ≠ .nilIface ∧ ∀ cs, a ≠ .agg cs := by
  unfold binA at hk
  split at hk <;> first
    | exact hk.elim
    | exact ⟨_, _, rfl, rfl, by simp, by simp⟩
theorem rd_bin (_g : G M C n S h β a w) {o : Oper} {op : BinOp} {T T' : TypeId} {x y : Operand} (ho : o.op = .binOp op T x y T') {k : AV → Prop} (hk : rdA M o.op S h k) : RdOk M C n S h β a o k := by
  rw [ho] at hk
  simp only [rdA] at hk
  obtain ⟨u, v, hx, hy, h1, h2⟩ := binA_shape hk
  rw [hx, hy] at hk
  obtain ⟨r, hr, hk⟩ := bin_sound hk
  refine .mk_v (fun w' g' => ?_) hk
  simp only [execOp, ho, g'.ev_v hx, g'.ev_v hy, Sem.run_bind, eqGuard_not h1 h2, hr, Result.andThen_ok, Sem.run_pure]
theorem rd_simple (g : G M C n S h β a w) {o : Oper} {x : Operand} (ho : o.op = .move x ∨ o.op = .assign x) {k : AV → Prop} (hk : rdA M o.op S h k) : RdOk M C n S h β a o k := by
  have hk' : k (S.ev x) := by rcases ho with ho | ho <;> (rw [ho] at hk; exact hk)
  refine ⟨a.eval x, S.ev x, fun w' _ => by rcases ho with ho | ho <;> simp [execOp, ho], ?_, fun i hi => g.wf_ev hi, hk'⟩
  rcases Classical.em (S.ev x = .top) with ht | ht
  · exact .inl ht
  · exact .inr (g.ev ht)
theorem rd_pick (g : G M C n S h β a w) {o : Oper} {c x y : Operand} (ho : o.op = .pick c x y) {k : AV → Prop} (hk : rdA M o.op S h k) : RdOk M C n S h β a o k := by
  rw [ho] at hk
  simp only [rdA] at hk
  split at hk
  · rename_i t hc
    refine ⟨if t then a.eval x else a.eval y, _, fun w' g' => by cases t <;> simp [execOp, ho, g'.ev_v hc, asBool], ?_, ?_, hk⟩
    · cases t
      · rcases Classical.em (S.ev y = .top) with ht | ht
        · exact .inl ht
        · exact .inr (g.ev ht)
      · rcases Classical.em (S.ev x = .top) with ht | ht
        · exact .inl ht
        · exact .inr (g.ev ht)
    · intro i hi
      cases t
      · exact g.wf_ev hi
      · exact g.wf_ev hi
  · exact hk.elim
theorem rd_un (_g : G M C n S h β a w) {o : Oper} {op : UnOp} {T : TypeId} {x : Operand} (ho : o.op = .unOp op T x) {k : AV → Prop} (hk : rdA M o.op S h k) : RdOk M C n S h β a o k := by
  rw [ho] at hk
  simp only [rdA] at hk
  split at hk
  · rename_i b hx
    exact .mk_v (fun w' g' => by simp [execOp, ho, g'.ev_v hx, Op.unary]) hk
  · rename_i K z hx
    exact .mk_v (fun w' g' => by simp only [execOp, ho, g'.ev_v hx, Op.unary, Op.intArith, Sem.run_bind, Sem.run_pure, Result.andThen_ok]) hk
  · exact hk.elim
theorem rd_conv (_g : G M C n S h β a w) {o : Oper} {T T' : TypeId} {x : Operand} (ho : o.op = .convert T T' x) {k : AV → Prop} (hk : rdA M o.op S h k) : RdOk M C n S h β a o k := by
  rw [ho] at hk
  simp only [rdA] at hk
  split at hk
  · rename_i K0 K K1 z hs hd hx
    refine .mk_v (fun w' g' => ?_) hk
    simp only [execOp, ho, g'.ev_v hx, convert, Sem.run_bind, run_underlying (uk_int hs), run_underlying (uk_int hd), Result.andThen_ok]
    rfl
  · exact hk.elim
theorem fo_some {P : Program} {T : TypeId} {f k : Nat} (hf : fo P T f = some k) (ad : Addr) (w : World) : (Instr.fieldAt T (.pointer (some ad)) f).run P w = .ok (.pointer (some (ad.add k))) w := by
  unfold fo at hf
  split at hf
  · rename_i fields hu
    split at hf
    · rename_i fl hfl
      split at hf
      · rename_i i hi
        split at hf
        · cases hf
        · rename_i hne
          cases hf
          simp [Instr.fieldAt, run_underlying hu, hfl, Instr.sureAddr, fieldPlace, run_size hi, hne]
      · cases hf
    · cases hf
  · cases hf
theorem rd_fieldAddr (g : G M C n S h β a w) {o : Oper} {T : TypeId} {x : Operand} {f : Nat} (ho : o.op = .fieldAddr T x f) {k : AV → Prop} (hk : rdA M o.op S h k) : RdOk M C n S h β a o k := by
  rw [ho] at hk
  simp only [rdA] at hk
  obtain ⟨q, hq, hk⟩ := opt_iff.1 hk
  split at hk
  · rename_i i off hx
    refine ⟨_, .p i (off + q), fun w' g' => ?_, .inr rfl, fun j hj => g.wf_ev (x := x) (by rw [hx]; exact hj), hk⟩
    simp only [execOp, ho, g'.ev_p hx, Sem.run_bind, fo_some hq, add_none, Result.andThen_ok, Sem.run_pure, cv]
  · rename_i ad hx
    refine .mk_v (fun w' g' => ?_) hk
    simp only [execOp, ho, g'.ev_v hx, Sem.run_bind, fo_some hq, Result.andThen_ok, Sem.run_pure]
  · exact hk.elim
theorem run_part {P : Program} {T : TypeId} {t : Option Nat} (ht : tk P T = some t) {cs : Array Value} {off : Nat} {v : Value} (hv : ldb t cs.toList off = some v) (w : World) :
    (part T cs off).run P w = .ok v w := by
  cases t with
  | none =>
    simp only [ldb] at hv
    have hv' : cs[off]? = some v := by simpa using hv
    simp [part, (tk_none ht w).1, hv']
  | some m =>
    simp only [ldb] at hv
    cases hb : Nat.ble (off + m) cs.toList.length with
    | false => rw [hb] at hv; cases hv
    | true =>
      rw [hb] at hv
      cases hv
      simp only [part, (tk_some ht w).1, (tk_some ht w).2, Sem.run_bind, Result.andThen_ok, if_true, Sem.run_pure]
      congr 2
      apply Array.ext'
      simp [List.extract_eq_take_drop]
theorem rd_field (_g : G M C n S h β a w) {o : Oper} {T : TypeId} {x : Operand} {f : Nat} (ho : o.op = .field T x f) {k : AV → Prop} (hk : rdA M o.op S h k) : RdOk M C n S h β a o k := by
  rw [ho] at hk
  simp only [rdA] at hk
  split at hk
  · rename_i cs hx
    obtain ⟨⟨q, t⟩, hq, hk⟩ := opt_iff.1 hk
    obtain ⟨v, hv, hk⟩ := opt_iff.1 hk
    refine .mk_v (fun w' g' => ?_) hk
    unfold fpl at hq
    split at hq
    · rename_i fields hu
      split at hq
      · rename_i fl hfl
        cases htk : tk M.P fl.type with
        | none => rw [htk] at hq; cases hq
        | some t' =>
          rw [htk] at hq; cases hq
          simp only [execOp, ho, g'.ev_v hx, Instr.field, Sem.run_bind, run_underlying hu, Result.andThen_ok, hfl, asAgg, Sem.run_pure, run_part htk hv]
      · cases hq
    · cases hq
  · exact hk.elim
theorem esz_slice {P : Program} {T : TypeId} {e : Nat} (he : esz P T = some e) (hu : uk P T = .slice) : ∃ E, P.underlying T = some (.slice E) ∧ ∀ w, (sizeOf E).run P w = .ok e w := by
  obtain ⟨E, hE⟩ := uk_slice hu
  refine ⟨E, hE, fun w => ?_⟩
  simp only [esz, hE] at he
  cases hi : P.info? E with
  | none => rw [hi] at he; cases he
  | some i => rw [hi] at he; cases he; exact run_size hi w
theorem esz_array {P : Program} {T : TypeId} {e m : Nat} (he : esz P T = some e) (hu : alen P T = some m) : ∃ E, P.underlying T = some (.array m E) ∧ ∀ w, (sizeOf E).run P w = .ok e w := by
  unfold alen at hu
  split at hu
  · rename_i m' E hE
    cases hu
    refine ⟨E, hE, fun w => ?_⟩
    simp only [esz, hE] at he
    cases hi : P.info? E with
    | none => rw [hi] at he; cases he
    | some i => rw [hi] at he; cases he; exact run_size hi w
  · cases hu
theorem rd_indexAddr (g : G M C n S h β a w) {o : Oper} {T : TypeId} {x i : Operand} (ho : o.op = .indexAddr T x i) {k : AV → Prop} (hk : rdA M o.op S h k) : RdOk M C n S h β a o k := by
  rw [ho] at hk
  simp only [rdA] at hk
  obtain ⟨e, he, hk⟩ := opt_iff.1 hk
  split at hk
  · rename_i b len cap K j hx hi
    obtain ⟨hu, ad, rfl, h0, h1, hk⟩ := hk
    obtain ⟨E, hE, hs⟩ := esz_slice he hu
    refine .mk_v (fun w' g' => ?_) hk
    simp [execOp, ho, g'.ev_v hx, g'.ev_v hi, Instr.indexAt, asIntOf, run_underlying hE, h0, h1, hs]
  · rename_i b off len cap K j hx hi
    obtain ⟨hu, h0, h1, hk⟩ := hk
    obtain ⟨E, hE, hs⟩ := esz_slice he hu
    refine ⟨_, .p b (off + j.toNat * e), fun w' g' => ?_, .inr rfl, fun q hq => g.wf_ev (x := x) (by rw [hx]; exact hq), hk⟩
    simp [execOp, ho, g'.ev_s hx, g'.ev_v hi, Instr.indexAt, asIntOf, run_underlying hE, h0, h1, hs, add_none, cv]
  · rename_i b off K j hx hi
    obtain ⟨m, hm, hk⟩ := opt_iff.1 hk
    obtain ⟨h0, h1, hk⟩ := hk
    obtain ⟨E, hE, hs⟩ := esz_array he hm
    refine ⟨_, .p b (off + j.toNat * e), fun w' g' => ?_, .inr rfl, fun q hq => g.wf_ev (x := x) (by rw [hx]; exact hq), hk⟩
    simp [execOp, ho, g'.ev_p hx, g'.ev_v hi, Instr.indexAt, asIntOf, run_underlying hE, h0, h1, hs, add_none, cv, Instr.sureAddr]
  · rename_i ad K j hx hi
    obtain ⟨m, hm, hk⟩ := opt_iff.1 hk
    obtain ⟨h0, h1, hk⟩ := hk
    obtain ⟨E, hE, hs⟩ := esz_array he hm
    refine .mk_v (fun w' g' => ?_) hk
    simp [execOp, ho, g'.ev_v hx, g'.ev_v hi, Instr.indexAt, asIntOf, run_underlying hE, h0, h1, hs, Instr.sureAddr]
  · exact hk.elim
theorem rd_index (_g : G M C n S h β a w) {o : Oper} {T : TypeId} {x i : Operand} (ho : o.op = .index T x i) {k : AV → Prop} (hk : rdA M o.op S h k) : RdOk M C n S h β a o k := by
  rw [ho] at hk
  simp only [rdA] at hk
  split at hk
  · rename_i cs K j hx hi
    obtain ⟨m, hm, hk⟩ := opt_iff.1 hk
    obtain ⟨e, he, hk⟩ := opt_iff.1 hk
    obtain ⟨t, ht, hk⟩ := opt_iff.1 hk
    obtain ⟨h0, h1, hk⟩ := hk
    obtain ⟨v, hv, hk⟩ := opt_iff.1 hk
    obtain ⟨E, hE, hs⟩ := esz_array he hm
    have htk : tk M.P E = some t := by simpa [etk, hE] using ht
    refine .mk_v (fun w' g' => ?_) hk
    simp [execOp, ho, g'.ev_v hx, g'.ev_v hi, Instr.index, asIntOf, run_underlying hE, h0, h1, hs, run_part htk hv]
  · rename_i s K j hx hi
    obtain ⟨hu, h0, b, hb, hk⟩ := hk
    refine .mk_v (fun w' g' => ?_) hk
    simp [execOp, ho, g'.ev_v hx, g'.ev_v hi, Instr.index, asIntOf, run_underlying (uk_string hu), h0, hb]
  · exact hk.elim
theorem rd_extract (_g : G M C n S h β a w) {o : Oper} {x : Operand} {i : Nat} (ho : o.op = .extract x i) {k : AV → Prop} (hk : rdA M o.op S h k) : RdOk M C n S h β a o k := by
  rw [ho] at hk
  simp only [rdA] at hk
  split at hk
  · rename_i vs hx
    obtain ⟨v, hv, hk⟩ := opt_iff.1 hk
    have hv' : vs[i]? = some v := by simpa using hv
    refine .mk_v (fun w' g' => ?_) hk
    simp [execOp, ho, g'.ev_v hx, Instr.extract, hv']
  · exact hk.elim
theorem vals_eval (g : G M C n S h β a w) : ∀ (l : List Operand) (vs : List Value), vals (l.map S.ev) = some vs → l.map a.eval = vs := by
  intro l
  induction l with
  | nil => intro vs hv; cases hv; rfl
  | cons x l ih =>
    intro vs hv
    simp only [List.map_cons] at hv ⊢
    cases hx : S.ev x with
    | v u =>
      rw [hx] at hv
      simp only [vals] at hv
      split at hv
      · rename_i vs' hvs
        cases hv
        rw [g.ev_v hx, ih _ hvs]
      · cases hv
    | _ => rw [hx] at hv; cases hv
theorem vals_eval' (g : G M C n S h β a w) {l : Array Operand} {vs : List Value} (hv : vals (l.toList.map S.ev) = some vs) : l.map a.eval = vs.toArray := by
  have := vals_eval g _ _ hv
  apply Array.ext'
  simp [this]
theorem rd_iface (_g : G M C n S h β a w) {o : Oper} {T : TypeId} {x : Operand} (ho : o.op = .makeInterface T x) {k : AV → Prop} (hk : rdA M o.op S h k) : RdOk M C n S h β a o k := by
  rw [ho] at hk
  simp only [rdA] at hk
  split at hk
  · rename_i v hx
    exact .mk_v (fun w' g' => by simp [execOp, ho, g'.ev_v hx, run_makeInterface _ T v hk.1]) hk.2
  · exact hk.elim
theorem rd_func (_g : G M C n S h β a w) {o : Oper} {fn : Fn} {x y : Array Operand} (ho : o.op = .makeFunc fn x y) {k : AV → Prop} (hk : rdA M o.op S h k) : RdOk M C n S h β a o k := by
  rw [ho] at hk
  simp only [rdA] at hk
  obtain ⟨fs, hf, hk⟩ := opt_iff.1 hk
  obtain ⟨cs, hc, hk⟩ := opt_iff.1 hk
  exact .mk_v (fun w' g' => by simp [execOp, ho, Instr.makeFunc, vals_eval' g' hf, vals_eval' g' hc]) hk
theorem rd_len (_g : G M C n S h β a w) {o : Oper} {args : Array Operand} {ts : Array TypeId} (ho : o.op = .call { callee := .builtin .len, args, argTypes := ts }) {k : AV → Prop} (hk : rdA M o.op S h k) : RdOk M C n S h β a o k := by
  rw [ho] at hk
  simp only [rdA] at hk
  split at hk
  · rename_i x T hargs hts
    obtain rfl : args = #[x] := by apply Array.ext'; simpa using hargs
    obtain rfl : ts = #[T] := by apply Array.ext'; simpa using hts
    obtain ⟨v, hv, hk⟩ := opt_iff.1 hk
    refine .mk_v (fun w' g' => ?_) hk
    unfold lenA at hv
    split at hv
    · rename_i hu hx
      cases hv
      obtain ⟨E, hE⟩ := uk_slice hu
      simp [execOp, ho, resolve, invoke, builtin, g'.ev_v hx, Builtin.len_, run_underlying hE, goInt]
    · rename_i hu hx
      cases hv
      obtain ⟨E, hE⟩ := uk_slice hu
      simp [execOp, ho, resolve, invoke, builtin, g'.ev_s hx, Builtin.len_, run_underlying hE, goInt]
    · rename_i hu hx
      cases hv
      simp [execOp, ho, resolve, invoke, builtin, g'.ev_v hx, Builtin.len_, run_underlying (uk_string hu), goInt]
    · rename_i hu
      cases hv
      obtain ⟨E, hE⟩ := uk_array hu
      simp [execOp, ho, resolve, invoke, builtin, Builtin.len_, run_underlying hE, goInt]
    · cases hv
  · exact hk.elim
theorem rd_min (_g : G M C n S h β a w) {o : Oper} {args : Array Operand} {ts : Array TypeId} (ho : o.op = .call { callee := .builtin .min, args, argTypes := ts }) {k : AV → Prop} (hk : rdA M o.op S h k) : RdOk M C n S h β a o k := by
  rw [ho] at hk
  simp only [rdA] at hk
  split at hk
  · rename_i x y hargs
    obtain rfl : args = #[x, y] := by apply Array.ext'; simpa using hargs
    split at hk
    · rename_i K p K' q hx hy
      refine .mk_v (fun w' g' => ?_) hk
      simp [execOp, ho, resolve, invoke, builtin, g'.ev_v hx, g'.ev_v hy, run_min_int2]
    · exact hk.elim
  · exact hk.elim
theorem rd_max (_g : G M C n S h β a w) {o : Oper} {args : Array Operand} {ts : Array TypeId} (ho : o.op = .call { callee := .builtin .max, args, argTypes := ts }) {k : AV → Prop} (hk : rdA M o.op S h k) : RdOk M C n S h β a o k := by
  rw [ho] at hk
  simp only [rdA] at hk
  split at hk
  · rename_i x y hargs
    obtain rfl : args = #[x, y] := by apply Array.ext'; simpa using hargs
    split at hk
    · rename_i K p K' q hx hy
      refine .mk_v (fun w' g' => ?_) hk
      simp [execOp, ho, resolve, invoke, builtin, g'.ev_v hx, g'.ev_v hy, run_max_int2]
    · exact hk.elim
  · exact hk.elim
end
end Go.Q
namespace Go.Q
open Go.RowKit (Below)
section
variable {M : Mach} {C : Ctx} {n : Nat} {S : AS} {h : PH} {β : Nat → Nat} {a : Act} {w : World}
theorem bounds_run {P : Program} {len cap : Nat} {lo hi : Option Value} {l u : Int} (hl : lo = none ∧ l = 0 ∨ ∃ K, lo = some (.int K l))
    (hu : hi = none ∧ u = len ∨ ∃ K, hi = some (.int K u)) (h0 : 0 ≤ l) (h1 : l ≤ u) (h2 : u ≤ cap) (w : World) :
    (Instr.sliceBounds true len cap lo hi none).run P w = .ok (l.toNat, u.toNat, cap) w := by
  have hun : ((u.toNat : Nat) : Int) = u := by omega
  have hb : ∀ (K : IntKind) (i : Int) (y : Nat) (c : BoundsCode), 0 ≤ i → i ≤ y → (Instr.sliceBound (.int K i) y c).run P w = .ok i.toNat w := fun K i y c h h' => by
    simp [Instr.sliceBound, asIntOf, h, h']
  rcases hl with ⟨rfl, rfl⟩ | ⟨K, rfl⟩ <;> rcases hu with ⟨rfl, rfl⟩ | ⟨K', rfl⟩ <;> simp only [Instr.sliceBounds, Sem.run_bind, Sem.run_pure, Result.andThen_ok]
  · rfl
  · rw [hb _ _ _ _ (by omega) h2]; rfl
  · rw [hb _ _ _ _ h0 h1]; rfl
  · rw [hb _ _ _ _ (by omega) h2]
    simp only [Result.andThen_ok]
    rw [hb _ _ _ _ h0 (by omega)]
    rfl
theorem sliceAt_run {P : Program} {T E : TypeId} (hE : P.underlying T = some (.slice E)) {e : Nat} (hs : ∀ w, (sizeOf E).run P w = .ok e w) {ad : Option Addr} {len cap : Nat} {lo hi : Option Value} {l u : Int} (hl : lo = none ∧ l = 0 ∨ ∃ K, lo = some (.int K l))
    (hu : hi = none ∧ u = len ∨ ∃ K, hi = some (.int K u)) (h0 : 0 ≤ l) (h1 : l ≤ u) (h2 : u ≤ cap) (w : World) :
    (Instr.sliceAt T (.slice ad len cap) lo hi none).run P w = .ok (.slice (if cap = l.toNat then ad else ad.map (·.add (l.toNat * e))) (u.toNat - l.toNat) (cap - l.toNat)) w := by
  simp only [Instr.sliceAt, Instr.slice, Sem.run_bind, run_underlying hE, Result.andThen_ok, bounds_run hl hu h0 h1 h2, hs, Sem.run_pure]
theorem low_of {lo : Option Operand} {l : Int} (g : G M C n S h β a w) (hl : lowA (lo.map S.ev) = some l) : lo.map a.eval = none ∧ l = 0 ∨ ∃ K, lo.map a.eval = some (.int K l) := by
  cases lo with
  | none => simp [lowA] at hl; exact .inl ⟨rfl, hl.symm⟩
  | some x =>
    simp only [Option.map_some] at hl ⊢
    unfold lowA at hl
    split at hl
    · rename_i h; cases h
    · rename_i K i hx
      cases hl
      exact .inr ⟨K, by rw [g.ev_v (Option.some.inj hx)]⟩
    · cases hl
theorem high_of {len : Nat} {hi : Option Operand} {u : Int} (g : G M C n S h β a w) (hl : highA len (hi.map S.ev) = some u) : hi.map a.eval = none ∧ u = len ∨ ∃ K, hi.map a.eval = some (.int K u) := by
  cases hi with
  | none => simp [highA] at hl; exact .inl ⟨rfl, hl.symm⟩
  | some x =>
    simp only [Option.map_some] at hl ⊢
    unfold highA at hl
    split at hl
    · rename_i h; cases h
    · rename_i K i hx
      cases hl
      exact .inr ⟨K, by rw [g.ev_v (Option.some.inj hx)]⟩
    · cases hl
theorem rd_slice (_g : G M C n S h β a w) {o : Oper} {T : TypeId} {x : Operand} {lo hi mx : Option Operand} (ho : o.op = .slice T x lo hi mx) {k : AV → Prop} (hk : rdA M o.op S h k) : RdOk M C n S h β a o k := by
  rw [ho] at hk
  cases mx with
  | some m => simp [rdA] at hk
  | none =>
    simp only [rdA] at hk
    split at hk
    · rename_i ad len cap hx
      obtain ⟨hu, hk⟩ := hk
      obtain ⟨e, he, hk⟩ := opt_iff.1 hk
      obtain ⟨l, hl, hk⟩ := opt_iff.1 hk
      obtain ⟨u, hh, hk⟩ := opt_iff.1 hk
      obtain ⟨h0, h1, h2, hk⟩ := hk
      obtain ⟨E, hE, hs⟩ := esz_slice he hu
      refine .mk_v (fun w' g' => ?_) hk
      simp only [execOp, ho, g'.ev_v hx, Option.map_none, Sem.run_bind]
      rw [sliceAt_run hE hs (low_of g' hl) (high_of g' hh) h0 h1 h2]
      rfl
    · rename_i b off len cap hx
      obtain ⟨hu, hk⟩ := hk
      obtain ⟨e, he, hk⟩ := opt_iff.1 hk
      obtain ⟨l, hl, hk⟩ := opt_iff.1 hk
      obtain ⟨u, hh, hk⟩ := opt_iff.1 hk
      obtain ⟨h0, h1, h2, hk⟩ := hk
      obtain ⟨E, hE, hs⟩ := esz_slice he hu
      refine ⟨_, _, fun w' g' => ?_, .inr rfl, fun q hq => _g.wf_ev (x := x) (by rw [hx]; exact hq), hk⟩
      simp only [execOp, ho, g'.ev_s hx, Option.map_none, Sem.run_bind]
      rw [sliceAt_run hE hs (low_of g' hl) (high_of g' hh) h0 h1 h2]
      simp only [cv, Result.andThen_ok, Sem.run_pure]
      split <;> simp [add_none]
    · exact hk.elim
theorem foldl_spl : ∀ (vs : List Value) (cs : Array Value) (off i : Nat), (vs.zipIdx i).foldl (fun (cs : Array Value) (p : Value × Nat) => cs.setIfInBounds (off + p.2) p.1) cs = (spl cs.toList (off + i) vs).toArray := by
  intro vs
  induction vs with
  | nil => intro cs off i; simp [spl]
  | cons v vs ih =>
    intro cs off i
    rw [List.zipIdx_cons, List.foldl_cons, ih]
    simp [spl, Nat.add_assoc]
theorem spl_length : ∀ (vs cs : List Value) (off : Nat), (spl cs off vs).length = cs.length := by
  intro vs
  induction vs with
  | nil => intro cs off; rfl
  | cons v vs ih => intro cs off; simp [spl, ih]
theorem fits_some {t : Option Nat} {v : Value} {vs : List Value} (hf : fits t v = some vs) : v.cells = vs.toArray ∧ vs.length = partSize t := by
  cases t with
  | none =>
    cases v <;> simp only [fits] at hf <;> first | (cases hf; done) | (cases hf; exact ⟨rfl, rfl⟩)
  | some m =>
    cases v <;> simp only [fits] at hf <;> first
      | (cases hf; done)
      | (cases hb : (Array.toList _ == m) with | _ => simp at hf)
      | skip
    rename_i cs
    cases hb : (cs.toList.length == m) with
    | false => rw [hb] at hf; cases hf
    | true =>
      rw [hb] at hf
      cases hf
      exact ⟨by simp [Value.cells], by simpa [partSize] using hb⟩
theorem fill_ok (g : G M C n S h β a w) {place : Nat → Option (Nat × Option Nat)} {place' : Nat → Option (Nat × Nat)} (hp : ∀ i off t, place i = some (off, t) → place' i = some (off, partSize t)) :
    ∀ (parts : List (Nat × Operand)) (cs r : List Value), fillA place cs (parts.map fun p => (p.1, S.ev p.2)) = some r →
      Instr.fill place' cs.toArray (parts.map fun p => (p.1, a.eval p.2)) = some r.toArray := by
  intro parts
  induction parts with
  | nil => intro cs r hr; cases hr; rfl
  | cons p parts ih =>
    intro cs r hr
    obtain ⟨i, x⟩ := p
    simp only [List.map_cons] at hr ⊢
    cases hx : S.ev x with
    | v v =>
      rw [hx] at hr
      simp only [fillA] at hr
      split at hr
      · rename_i off t hpl
        split at hr
        · rename_i vs hvs
          obtain ⟨hc, hl⟩ := fits_some hvs
          cases hb : Nat.ble (off + vs.length) cs.length with
          | false => rw [hb] at hr; cases hr
          | true =>
            rw [hb] at hr
            have hle := Nat.le_of_ble_eq_true hb
            simp only [Instr.fill, hp i off t hpl, g.ev_v hx, hc]
            rw [if_neg (by simp [hl]; omega)]
            have hsz : (vs.toArray.zipIdx.foldl (fun (cs : Array Value) (p : Value × Nat) => cs.setIfInBounds (off + p.2) p.1) cs.toArray) = (spl cs off vs).toArray := by
              rw [← Array.foldl_toList]
              have := foldl_spl vs cs.toArray off 0
              simpa using this
            have := ih (spl cs off vs) r hr
            rw [← this]
            congr 1
        · cases hr
      · cases hr
    | _ => rw [hx] at hr; simp [fillA] at hr
theorem zer_run {P : Program} {T : TypeId} {z : List Value} (hz : zer P T = some z) (w : World) : ∃ v, (zeroValue T).run P w = .ok v w ∧ v.cells = z.toArray := by
  unfold zer at hz
  cases hi : P.info? T with
  | none => rw [hi] at hz; cases hz
  | some i =>
    rw [hi] at hz
    simp only [Option.bind_some] at hz
    cases hv : i.zero with
    | none => rw [hv] at hz; cases hz
    | some v =>
      rw [hv] at hz
      cases hz
      exact ⟨v, by simp [zeroValue, typeInfo, hi, hv], by simp⟩
theorem mapM_places {P : Program} : ∀ (fs : List Field) (pl : List (Nat × Option Nat)), (fs.mapM fun fl => (tk P fl.type).map fun t => (fl.offset, t)) = some pl →
    ∀ w, (fs.mapM (m := Sem) fun f => do pure (f.offset, ← sizeOf f.type)).run P w = .ok (pl.map fun p => (p.1, partSize p.2)) w := by
  intro fs
  induction fs with
  | nil => intro pl hpl w; simp at hpl; subst hpl; rfl
  | cons f fs ih =>
    intro pl hpl w
    rw [List.mapM_cons] at hpl
    cases ht : tk P f.type with
    | none => rw [ht] at hpl; simp at hpl
    | some t =>
      rw [ht] at hpl
      cases hr : (fs.mapM fun fl => (tk P fl.type).map fun t => (fl.offset, t)) with
      | none => rw [hr] at hpl; simp at hpl
      | some pl' =>
        rw [hr] at hpl
        simp at hpl
        subst hpl
        rw [List.mapM_cons]
        have hsz : (sizeOf f.type).run P w = .ok (partSize t) w := by
          cases t with
          | none => exact (tk_none ht w).2
          | some m => exact (tk_some ht w).2
        simp only [Sem.run_bind, hsz, Result.andThen_ok, Sem.run_pure, ih _ hr w, List.map_cons]
theorem rd_build (_g : G M C n S h β a w) {o : Oper} {T : TypeId} {parts : Array (Nat × Operand)} (ho : o.op = .build T parts) {k : AV → Prop} (hk : rdA M o.op S h k) : RdOk M C n S h β a o k := by
  rw [ho] at hk
  simp only [rdA] at hk
  obtain ⟨cs, hcs, hk⟩ := opt_iff.1 hk
  refine .mk_v (fun w' g' => ?_) hk
  have hparts : (parts.map fun (i, x) => (i, a.eval x)).toList = parts.toList.map fun p => (p.1, a.eval p.2) := by simp
  unfold buildA at hcs
  split at hcs
  · rename_i z hz hu
    obtain ⟨v, hv, hvc⟩ := zer_run hz w'
    obtain ⟨fs, hfs⟩ := uk_struct hu
    split at hcs
    · rename_i pl hpl
      simp only [fpls, hfs] at hpl
      have hm := mapM_places fs.toList pl hpl w'
      have hfill := fill_ok (place' := fun i => (pl.map fun p => (p.1, partSize p.2)).toArray[i]?) g' (fun i off t hp => by simp [hp]) parts.toList z cs hcs
      simp only [execOp, ho, Instr.build, Sem.run_bind, hv, Result.andThen_ok, run_underlying hfs]
      rw [← Array.toArray_toList (xs := fs), List.mapM_toArray, Sem.run_map]
      simp only [hm, Result.andThen_ok, hparts, hvc]
      have hf2 : Instr.fill (fun x => (List.map (fun p : Nat × Option Nat => (p.1, partSize p.2)) pl).toArray[x]?) z.toArray (List.map (fun p => (p.1, a.eval p.2)) parts.toList) = some cs.toArray := hfill
      rw [hf2]
      rfl
    · cases hcs
  · rename_i z m hz hu
    obtain ⟨v, hv, hvc⟩ := zer_run hz w'
    obtain ⟨E, hE⟩ := uk_array hu
    split at hcs
    · rename_i e t he ht
      cases hb : (e == partSize t) with
      | false => rw [hb] at hcs; cases hcs
      | true =>
        rw [hb] at hcs
        obtain rfl : e = partSize t := by simpa using hb
        have hs : (sizeOf E).run M.P w' = .ok (partSize t) w' := by
          simp only [esz, hE] at he
          cases hi : M.P.info? E with
          | none => rw [hi] at he; cases he
          | some i => rw [hi] at he; simp at he; rw [← he]; exact run_size hi w'
        have hfill := fill_ok (place' := fun i => some (i * partSize t, partSize t)) g' (fun i off t' hp => by cases hp; rfl) parts.toList z cs hcs
        simp only [execOp, ho, Instr.build, Sem.run_bind, hv, Result.andThen_ok, run_underlying hE, hs, hparts, hvc, hfill, Sem.run_pure]
    · cases hcs
  · cases hcs
/-- Each reader's rule is sound. -/
theorem rd_sound (g : G M C n S h β a w) {o : Oper} {k : AV → Prop} (hk : rdA M o.op S h k) : RdOk M C n S h β a o k := by
  cases ho : o.op with
  | move x => exact rd_simple g (.inl ho) hk
  | assign x => exact rd_simple g (.inr ho) hk
  | pick c x y => exact rd_pick g ho hk
  | load T x => exact rd_load g ho hk
  | binOp op T x y T' => exact rd_bin g ho hk
  | unOp op T x => exact rd_un g ho hk
  | convert T T' x => exact rd_conv g ho hk
  | fieldAddr T x f => exact rd_fieldAddr g ho hk
  | field T x f => exact rd_field g ho hk
  | indexAddr T x i => exact rd_indexAddr g ho hk
  | index T x i => exact rd_index g ho hk
  | extract x i => exact rd_extract g ho hk
  | slice T x lo hi mx => exact rd_slice g ho hk
  | makeInterface T x => exact rd_iface g ho hk
  | makeFunc fn x y => exact rd_func g ho hk
  | build T parts => exact rd_build g ho hk
  | call c =>
    obtain ⟨callee, args, ts⟩ := c
    cases callee with
    | builtin b =>
      cases b <;> first
        | exact rd_len g ho hk
        | exact rd_min g ho hk
        | exact rd_max g ho hk
        | (rw [ho] at hk; exact hk.elim)
    | _ => rw [ho] at hk; exact hk.elim
  | _ => rw [ho] at hk; exact hk.elim
end
end Go.Q
namespace Go.Q
open Go.RowKit (Below)
/-- A slice type's element of one cell: its zero, and its bytes. -/
def mk1 (P : Program) (T : TypeId) : Option (Value × Nat) := match P.underlying T with
  | some (.slice e) => match P.info? e with
    | some i => match i.zero with
      | some v => if i.size = 1 ∧ v.oneCell' = true ∧ 1 ≤ i.bytes then some (v, i.bytes) else none
      | none => none
    | none => none
  | _ => none
/-- The cells of a slice that is read. -/
@[go_sem] def srcA (S : AS) (h : PH) (y : AV) (k : Nat → List Value → Prop) : Prop := match y with
  | .v (.slice a m _) => ∃ news : List Value, news.length = m ∧ (m ≠ 0 → ∃ ad, a = some ad ∧ ∀ (j : Nat) (v : Value), news[j]? = some v → h.at (ad.add j) = some v) ∧ k m news
  | .s i off m _ => off + m ≤ (S.box i).length ∧ k m (((S.box i).drop off).take m)
  | _ => False
@[go_sem] def appA (S : AS) (h : PH) (b : Nat) (x y : AV) (k : AS → PH → AV → Prop) : Prop := srcA S h y fun m news => news.all Value.oneCell' = true ∧ match x with
  | .v (.slice none 0 0) => (m = 0 → k S h (.v (.slice none 0 0))) ∧ (m ≠ 0 → (2 * m + 1024) * b ≤ 2 ^ 48 ∧ ∀ junk : List Value, k (S.push (news ++ junk)) h (.s S.bx.length 0 m (m + junk.length)))
  | .s i off len cap => off = 0 ∧ len ≤ cap ∧ cap = (S.box i).length ∧ (2 * (len + m) + 1024) * b ≤ 2 ^ 48 ∧
      ∀ junk : List Value, k ((S.setBox i []).push ((S.box i).take len ++ news ++ junk)) h (.s S.bx.length 0 (len + m) (len + m + junk.length))
  | _ => False
@[go_sem] def copA (S : AS) (h : PH) (x y : AV) (k : AS → PH → AV → Prop) : Prop := match x, y with
  | .s i off dlen _, .v (.slice a m _) => ∃ news : List Value, news.length = min m dlen ∧ (m ≠ 0 → ∃ ad, a = some ad ∧ ∀ (j : Nat) (v : Value), news[j]? = some v → h.at (ad.add j) = some v) ∧ news.all Value.oneCell' = true ∧ off < (S.box i).length ∧ off + min m dlen ≤ (S.box i).length ∧
      k (S.setBox i (spl (S.box i) off news)) h (.v (.int .i64 (min m dlen : Nat)))
  | _, _ => False
/-- A call whose result is a row that the callee made. -/
def ownA (M : Mach) (f : FuncId) (vs : List Value) (S : AS) (h : PH) (k : AS → PH → AV → Prop) : Prop :=
  ∃ R, SpecO M f vs.toArray h R ∧ (∀ h', Step h h' → R [] 0 h' → k S h' (.v (.slice none 0 0))) ∧ ∀ row len h', Step h h' → row ≠ [] → R row len h' → k (S.push row) h' (.s S.bx.length 0 len row.length)
/-- A call that writes a row of the caller. -/
def loanA (M : Mach) (c : Nat) (f : FuncId) (args : List AV) (S : AS) (h : PH) (k : AS → PH → AV → Prop) : Prop :=
  c = 2 ∧ ∃ i R, S.bx[i]? = some (S.box i) ∧ S.box i ≠ [] ∧ onlyOf i args = true ∧ SpecL M f (args.map ren0) (S.box i) h R ∧ ∀ v row' h', Step h h' → R v row' h' → k (S.setBox i row') h' (.v v)
/-- A call that reads a row of the caller, and says nothing of it afterwards. -/
def lendA (M : Mach) (f : FuncId) (args : List AV) (S : AS) (h : PH) (k : AS → PH → AV → Prop) : Prop :=
  ∃ (i : Nat) (R : AV → Prop), S.bx[i]? = some (S.box i) ∧ S.box i ≠ [] ∧ onlyOf i args = true ∧ (∀ b h', Step h h' → h' b = some (S.box i).toArray → Spec M f (args.map (cv fun _ => b)).toArray h' (fun v _ => ∃ x, R x ∧ onlyOf i [x] = true ∧ v = cv (fun _ => b) x) NP) ∧ ∀ x, R x → k S h x
@[go_sem] def imA (M : Mach) (op : Op) (S : AS) (h : PH) (E : List PanicEntry → PH → Prop) (k : AS → PH → AV → Prop) : Prop := match op with
  | .alloc T => opt (zer M.P T) fun z => k (S.push z) h (.p S.bx.length 0)
  | .box _ x => match S.ev x with
    | .v v => k (S.push v.cells.toList) h (.p S.bx.length 0)
    | _ => False
  | .store T x y => match S.ev x, S.ev y with
    | .p i off, .v v => opt (tk M.P T) fun t => opt (fits t v) fun vs => vs.all Value.oneCell' = true ∧ off < (S.box i).length ∧ off + vs.length ≤ (S.box i).length ∧ k (S.setBox i (spl (S.box i) off vs)) h .top
    | _, _ => False
  | .makeSlice T l c => match S.ev l, S.ev c with
    | .v (.int _ l), .v (.int _ c) => opt (mk1 M.P T) fun (z, b) => 0 ≤ l ∧ l ≤ c ∧ (b : Int) * c ≤ 2 ^ 48 ∧ k (S.push (List.replicate c.toNat z)) h (.s S.bx.length 0 l.toNat c.toNat)
    | _, _ => False
  | .buildSlice T len parts => opt (mk1 M.P T) fun (z, _) => len ≤ 2 ^ 24 ∧ opt (fillA (fun i => some (i, none)) (List.replicate len z) (parts.toList.map fun p => (p.1, S.ev p.2))) fun cs => k (S.push cs) h (.s S.bx.length 0 len len)
  | .call { callee := .value f, args, argTypes := _ } => match S.ev f with
    | .v (.func (.func f) first cap) => match vals (args.toList.map S.ev) with
      | some vs => (∃ R E', Spec M f (first.toList ++ vs ++ cap.toList).toArray h R E' ∧ (∀ v h', Step h h' → R v h' → k S h' (.v v)) ∧ (∀ ch h', Step h h' → E' ch h' → E ch h')) ∨ ownA M f (first.toList ++ vs ++ cap.toList) S h k
      | none => first.toList = [] ∧ cap.toList = [] ∧ (loanA M (cls op) f (args.toList.map S.ev) S h k ∨ lendA M f (args.toList.map S.ev) S h k)
    | _ => False
  | .call { callee := .builtin .append, args, argTypes } => match args.toList, argTypes.toList with
    | [x, y], [T, U] => uk M.P U = .slice ∧ opt (mk1 M.P T) fun (_, b) => appA S h b (S.ev x) (S.ev y) k
    | _, _ => False
  | .call { callee := .builtin .copy, args, argTypes } => match args.toList, argTypes.toList with
    | [x, y], T :: _ => opt (mk1 M.P T) fun _ => copA S h (S.ev x) (S.ev y) k
    | _, _ => False
  | .panic x => match S.ev x with
    | .v (.iface t v) => E [{ v := .iface t v, recovered := false }] h
    | _ => False
  | _ => False
/-- A call by a contract that does not panic. -/
theorem call_np {M : Mach} {f : FuncId} {args : Array Value} {h : PH} {R : Value → PH → Prop} {E : List PanicEntry → PH → Prop} {k : PH → Value → Prop} {X : Prop} (s : Spec M f args h R NP) (hk : ∀ v h', Step h h' → R v h' → k h' v) :
    (∃ R E', Spec M f args h R E' ∧ (∀ v h', Step h h' → R v h' → k h' v) ∧ (∀ ch h', Step h h' → E' ch h' → E ch h')) ∨ X := .inl ⟨R, NP, s, hk, fun _ _ _ x => (x : False).elim⟩
/-- A call by a contract that may panic. -/
theorem call_p {M : Mach} {f : FuncId} {args : Array Value} {h : PH} {R : Value → PH → Prop} {E E' : List PanicEntry → PH → Prop} {k : PH → Value → Prop} {X : Prop} (s : Spec M f args h R E') (hk : ∀ v h', Step h h' → R v h' → k h' v) (hE : ∀ ch h', Step h h' → E' ch h' → E ch h') :
    (∃ R E', Spec M f args h R E' ∧ (∀ v h', Step h h' → R v h' → k h' v) ∧ (∀ ch h', Step h h' → E' ch h' → E ch h')) ∨ X := .inl ⟨R, E', s, hk, hE⟩
theorem call_own {M : Mach} {f : FuncId} {vs : List Value} {S : AS} {h : PH} {R : List Value → Nat → PH → Prop} {k : AS → PH → AV → Prop} {X : Prop} (s : SpecO M f vs.toArray h R) (h0 : ∀ h', Step h h' → R [] 0 h' → k S h' (.v (.slice none 0 0))) (hk : ∀ row len h', Step h h' → row ≠ [] → R row len h' → k (S.push row) h' (.s S.bx.length 0 len row.length)) :
    X ∨ ownA M f vs S h k := .inr ⟨R, s, h0, hk⟩
theorem call_loan {M : Mach} {f : FuncId} {args : List AV} {S : AS} {h : PH} {R : Value → List Value → PH → Prop} {k : AS → PH → AV → Prop} {X : Prop} (i : Nat) (hi : S.bx[i]? = some (S.box i)) (hne : S.box i ≠ []) (ho : onlyOf i args = true) (s : SpecL M f (args.map ren0) (S.box i) h R) (hk : ∀ v row' h', Step h h' → R v row' h' → k (S.setBox i row') h' (.v v)) :
    loanA M 2 f args S h k ∨ X := .inl ⟨rfl, i, R, hi, hne, ho, s, hk⟩
theorem call_lend {M : Mach} {f : FuncId} {args : List AV} {S : AS} {h : PH} {R : Value → Prop} {k : AS → PH → AV → Prop} {X : Prop} (i : Nat) (hi : S.bx[i]? = some (S.box i)) (hne : S.box i ≠ []) (ho : onlyOf i args = true) (s : ∀ b h', Step h h' → h' b = some (S.box i).toArray → Spec M f (args.map (cv fun _ => b)).toArray h' (fun v _ => R v) NP) (hk : ∀ v, R v → k S h (.v v)) :
    X ∨ lendA M f args S h k := .inr ⟨i, fun x => ∃ v, x = .v v ∧ R v, hi, hne, ho, fun b h' hs hb => (s b h' hs hb).mono (fun v _ _ hr => ⟨.v v, ⟨v, rfl, hr⟩, rfl, rfl⟩) (fun _ _ _ h => h), fun x ⟨v, hx, hr⟩ => hx ▸ hk v hr⟩
/-- A call that reads a row of the caller and may answer with a place in it. -/
theorem call_view {M : Mach} {f : FuncId} {args : List AV} {S : AS} {h : PH} {R : AV → Prop} {k : AS → PH → AV → Prop} {X : Prop} (i : Nat) (hi : S.bx[i]? = some (S.box i)) (hne : S.box i ≠ []) (ho : onlyOf i args = true) (s : ∀ b h', Step h h' → h' b = some (S.box i).toArray → Spec M f (args.map (cv fun _ => b)).toArray h' (fun v _ => ∃ x, R x ∧ onlyOf i [x] = true ∧ v = cv (fun _ => b) x) NP) (hk : ∀ x, R x → k S h x) :
    X ∨ lendA M f args S h k := .inr ⟨i, R, hi, hne, ho, s, hk⟩
theorem only_ix {i : Nat} {x : AV} (h : onlyOf i [x] = true) : ∀ j, x.ix = some j → j = i := by
  intro j hj
  cases x with
  | top => cases h
  | v x => cases hj
  | p k off => cases hj; simpa [onlyOf] using h
  | s k off len cap => cases hj; simpa [onlyOf] using h
theorem only_cv1 {β : Nat → Nat} {i : Nat} {x : AV} (h : onlyOf i [x] = true) : cv (fun _ => β i) x = cv β x := by
  have := only_cv (β := β) h
  simpa using this
section
variable {M : Mach} {C : Ctx} {n : Nat} {S : AS} {h : PH} {β : Nat → Nat} {a : Act} {w : World}
/-- What a rule for an operation that is no reader gives. -/
def ImOk (M : Mach) (C : Ctx) (n : Nat) (a : Act) (w : World) (o : Oper) (E : List PanicEntry → PH → Prop) (k : AS → PH → AV → Prop) : Prop :=
  ∀ Q : Exit → Act → World → Prop, (∀ ch h' w', Fine M C h' w' → E ch h' → Q (.panic ch) a w') →
    o.wp M.P a w (fun a' w' => (cls o.op = 2 ∨ Below w.heap.size w w') ∧ ∃ S' h' x β', G M C n (S'.put o.dst x) h' β' a' w' ∧ k S' h' x) Q
theorem ImOk.mk {o : Oper} {E : List PanicEntry → PH → Prop} {k : AS → PH → AV → Prop} (hd : ∀ d, o.dst = some d → d < n) {v : Value} {w' : World} {S' : AS} {h' : PH} {x : AV} {β' : Nat → Nat}
    (hr : (execOp a.eval o).run M.P w = .ok (.value v) w') (hw : cls o.op = 2 ∨ Below w.heap.size w w') (g' : G M C n S' h' β' a w') (hc : Conc β' x v) (hx : ∀ i, x.ix = some i → i < S'.bx.length) (hk : k S' h' x) :
    ImOk M C n a w o E k := fun Q _ => by
  simp only [Oper.wp, hr, Oper.upon]
  exact ⟨hw, S', h', x, β', g'.put hd hc hx, hk⟩
theorem im_alloc (g : G M C n S h β a w) {o : Oper} (hd : ∀ d, o.dst = some d → d < n) {T : TypeId} (ho : o.op = .alloc T) {E : List PanicEntry → PH → Prop} {k : AS → PH → AV → Prop} (hk : imA M o.op S h E k) : ImOk M C n a w o E k := by
  rw [ho] at hk
  simp only [imA] at hk
  obtain ⟨z, hz, hk⟩ := opt_iff.1 hk
  obtain ⟨v, hv, hvc⟩ := zer_run hz w
  obtain ⟨β', h1, h2, g'⟩ := g.push z T
  refine .mk hd (v := .pointer (some ⟨w.heap.size, 0, none⟩)) (x := .p S.bx.length 0) ?_ (.inr ((Below.refl _ _).alloc (Nat.le_refl _) _)) g' (.inr (by simp [cv, h2])) (fun i hi => by cases hi; simp [AS.push]) hk
  simp [execOp, ho, Instr.alloc, hv, newVar, newRow, hvc]
theorem im_box (g : G M C n S h β a w) {o : Oper} (hd : ∀ d, o.dst = some d → d < n) {T : TypeId} {y : Operand} (ho : o.op = .box T y) {E : List PanicEntry → PH → Prop} {k : AS → PH → AV → Prop} (hk : imA M o.op S h E k) : ImOk M C n a w o E k := by
  rw [ho] at hk
  simp only [imA] at hk
  split at hk
  · rename_i v hy
    obtain ⟨β', h1, h2, g'⟩ := g.push v.cells.toList T
    refine .mk hd (v := .pointer (some ⟨w.heap.size, 0, none⟩)) (x := .p S.bx.length 0) ?_ (.inr ((Below.refl _ _).alloc (Nat.le_refl _) _)) g' (.inr (by simp [cv, h2])) (fun i hi => by cases hi; simp [AS.push]) hk
    simp [execOp, ho, Instr.box, newVar, newRow, g.ev_v hy]
  · exact hk.elim
/-- One row is written, all else is as it was. -/
structure RowStep (w w' : World) (b : Nat) : Prop where
  os : w'.os = w.os
  tape : w'.tape = w.tape
  output : w'.output = w.output
  size : w'.heap.size = w.heap.size
  other : ∀ k, k ≠ b → w'.heap[k]? = w.heap[k]?
theorem RowStep.refl (w : World) (b : Nat) : RowStep w w b := ⟨rfl, rfl, rfl, rfl, fun _ _ => rfl⟩
theorem RowStep.trans {w w' w'' : World} {b : Nat} (x : RowStep w w' b) (y : RowStep w' w'' b) : RowStep w w'' b :=
  ⟨y.os.trans x.os, y.tape.trans x.tape, y.output.trans x.output, y.size.trans x.size, fun k hk => (y.other k hk).trans (x.other k hk)⟩
theorem row_setCell (w : World) (b off : Nat) (v : Value) : RowStep w (w.setCell ⟨b, off, none⟩ v) b :=
  ⟨rfl, rfl, rfl, by simp, fun k hk => heap_setCell_other w _ k v hk⟩
theorem run_storeCells_row {P : Program} {b : Nat} {T : TypeId} : ∀ (vs : List Value) (cs : List Value) (off i : Nat) (w : World), w.heap[b]? = some (.cells cs.toArray T (0, 0)) → off + i + vs.length ≤ cs.length →
    vs.all Value.oneCell' = true → ∃ w', (storeCells ⟨b, off, none⟩ vs i).run P w = .ok () w' ∧ w'.heap[b]? = some (.cells (spl cs (off + i) vs).toArray T (0, 0)) ∧ RowStep w w' b := by
  intro vs
  induction vs with
  | nil => intro cs off i w hw _ _; exact ⟨w, rfl, hw, .refl _ _⟩
  | cons v vs ih =>
    intro cs off i w hw hle hall
    simp only [List.all_cons, Bool.and_eq_true, List.length_cons] at hall hle
    have hcell : w.cell? ⟨b, off + i, none⟩ = some cs[off + i] := by simp [World.cell?, hw]
    have hfree : w.frozen? ⟨b, off + i, none⟩ = false := frozen_of_row w b _ _ _ hw
    have hset := heap_setCell_same w b (off + i) cs.toArray T v hw
    obtain ⟨w', h1, h2, h3⟩ := ih (cs.set (off + i) v) off (i + 1) (w.setCell ⟨b, off + i, none⟩ v) (by rw [hset]; simp) (by simp; omega) hall.2
    refine ⟨w', ?_, by rw [← Nat.add_assoc] at h2; exact h2, (row_setCell w b _ v).trans h3⟩
    simp only [storeCells, add_none, Sem.run_bind, run_store _ _ _ _ _ hall.1, hcell, hfree, Bool.false_eq_true, if_false, Result.andThen_ok]
    exact h1
theorem G.setBox (g : G M C n S h β a w) {i : Nat} {cs cs' : List Value} (hi : S.bx[i]? = some cs) (hc : cs ≠ []) (hl : cs'.length = cs.length) {w' : World} {T : TypeId} (hrow : w'.heap[β i]? = some (.cells cs'.toArray T (0, 0))) (hs : RowStep w w' (β i)) :
    G M C n (S.setBox i cs') h β a w' := by
  have hb := g.boxes i cs hi hc
  have hlen : i < S.bx.length := (List.getElem?_eq_some_iff.1 hi).1
  have hne' : cs' ≠ [] := by intro e; subst e; simp at hl; exact hc (List.length_eq_zero_iff.1 hl.symm)
  have hget : ∀ (j : Nat) (cj : List Value), (S.bx.set i cs')[j]? = some cj → (j = i ∧ cj = cs') ∨ (j ≠ i ∧ S.bx[j]? = some cj) := by
    intro j cj hj
    by_cases h : j = i
    · subst h; rw [List.getElem?_set_self hlen] at hj; exact .inl ⟨rfl, (Option.some.inj hj).symm⟩
    · rw [List.getElem?_set_ne (Ne.symm h)] at hj; exact .inr ⟨h, hj⟩
  have hold : ∀ (j : Nat) (cj : List Value), (S.bx.set i cs')[j]? = some cj → cj ≠ [] → ∃ cj', S.bx[j]? = some cj' ∧ cj' ≠ [] := by
    intro j cj hj hn
    rcases hget j cj hj with ⟨rfl, rfl⟩ | ⟨_, hj⟩
    · exact ⟨cs, hi, hc⟩
    · exact ⟨cj, hj, hn⟩
  refine ⟨g.size, g.defers, ⟨⟨hs.os.trans g.fine.below.os, hs.tape.trans g.fine.below.tape, hs.output.trans g.fine.below.output, by rw [hs.size]; exact g.fine.below.size, fun k hk => ?_⟩, fun b cs hb' => ?_, g.fine.sub, g.fine.new, g.fine.gl⟩, fun j cj hj hn => ?_, fun p q cp cq hp hq hnp hnq hpq => ?_, g.slots, fun t q hq => ?_, by simpa [AS.setBox] using g.pin⟩
  · rw [hs.other k (by have := hb.old; omega)]; exact g.fine.below.block k hk
  · have hbne : b ≠ β i := fun e => by rw [e, hb.own] at hb'; cases hb'
    obtain ⟨T', f, hw⟩ := g.fine.has b cs hb'
    exact ⟨T', f, by rw [hs.other b hbne]; exact hw⟩
  · rcases hget j cj hj with ⟨rfl, rfl⟩ | ⟨hji, hj⟩
    · exact ⟨⟨T, hrow⟩, hb.old, hb.own⟩
    · have hbj := g.boxes j cj hj hn
      have hne : β j ≠ β i := fun e => hji (g.inj j i cj cs hj hi hn hc e)
      obtain ⟨T', hw⟩ := hbj.row
      exact ⟨⟨T', by rw [hs.other _ hne]; exact hw⟩, hbj.old, hbj.own⟩
  · obtain ⟨cp', hp', hnp'⟩ := hold p cp hp hnp
    obtain ⟨cq', hq', hnq'⟩ := hold q cq hq hnq
    exact g.inj p q cp' cq' hp' hq' hnp' hnq' hpq
  · have := g.wf t q hq
    simpa [AS.setBox] using this
theorem fits_one {t : Option Nat} {v : Value} {vs : List Value} (hf : fits t v = some vs) (hne : vs ≠ []) : 0 < partSize t := by
  have := (fits_some hf).2
  cases vs with
  | nil => exact (hne rfl).elim
  | cons _ _ => simp at this; omega
theorem im_store (g : G M C n S h β a w) {o : Oper} (hd : ∀ d, o.dst = some d → d < n) {T : TypeId} {x y : Operand} (ho : o.op = .store T x y) {E : List PanicEntry → PH → Prop} {k : AS → PH → AV → Prop} (hk : imA M o.op S h E k) : ImOk M C n a w o E k := by
  rw [ho] at hk
  simp only [imA] at hk
  split at hk
  · rename_i i off v hx hy
    obtain ⟨t, ht, hk⟩ := opt_iff.1 hk
    obtain ⟨vs, hvs, hk⟩ := opt_iff.1 hk
    obtain ⟨hall, hlt, hle, hk⟩ := hk
    have hi : i < S.bx.length := g.wf_ev (by rw [hx]; rfl)
    have hget : S.bx[i]? = some (S.box i) := by simp [AS.box, hi]
    obtain ⟨hc, hl⟩ := fits_some hvs
    have hsz : (sizeOf T).run M.P w = .ok (partSize t) w := by
      cases t with
      | none => exact (tk_none ht w).2
      | some m => exact (tk_some ht w).2
    have hne : S.box i ≠ [] := by intro e; rw [e] at hlt; simp at hlt
    obtain ⟨T', hw⟩ := (g.boxes i _ hget hne).row
    obtain ⟨w', h1, h2, h3⟩ := run_storeCells_row (P := M.P) vs (S.box i) off 0 w hw (by simpa using hle) hall
    have hrun : (execOp a.eval o).run M.P w = .ok .skip w' := by
      simp only [execOp, ho, Instr.storeAt, Instr.sureAddr, g.ev_p hx, g.ev_v hy, Sem.run_bind, Sem.run_pure, Result.andThen_ok, storeVar, hsz, hc]
      rw [← hl]
      simp [h1]
    intro Q _
    simp only [Oper.wp, hrun, Oper.upon]
    exact ⟨.inl (by rw [ho]; rfl), S.setBox i (spl (S.box i) off vs), h, .top, β, G.put (g.setBox hget hne (by rw [spl_length]) (by simpa using h2) h3) hd (.inl rfl) (fun i hi => by cases hi), hk⟩
  · exact hk.elim
theorem one_cells {v : Value} (h : v.oneCell' = true) : v.cells = #[v] := by
  cases v <;> first | rfl | cases h
theorem mk1_some {P : Program} {T : TypeId} {z : Value} {b : Nat} (h : mk1 P T = some (z, b)) : ∃ E i, P.underlying T = some (.slice E) ∧ P.info? E = some i ∧ i.bytes = b ∧ i.size = 1 ∧ i.zero = some z ∧ z.cells = #[z] ∧ 1 ≤ b := by
  unfold mk1 at h
  split at h
  · rename_i E hE
    split at h
    · rename_i i hi
      split at h
      · rename_i v hv
        split at h
        · rename_i hc
          cases h
          exact ⟨E, i, hE, hi, rfl, hc.1, hv, one_cells hc.2.1, hc.2.2⟩
        · cases h
      · cases h
    · cases h
  · cases h
theorem zero_row (z : Value) (n : Nat) : (Array.range n).map (fun x => (#[z] : Array Value)[x % (#[z] : Array Value).size]!) = (List.replicate n z).toArray := by
  apply Array.ext
  · simp
  · intro i h1 h2
    simp [Nat.mod_one]
theorem wrap_in {x : Int} (h0 : 0 ≤ x) (h1 : x ≤ 2 ^ 48) : IntKind.i64.wrap x = x := by
  rw [IntKind.wrap_i64]
  omega
theorem im_makeSlice (g : G M C n S h β a w) {o : Oper} (hd : ∀ d, o.dst = some d → d < n) {T : TypeId} {x y : Operand} (ho : o.op = .makeSlice T x y) {E : List PanicEntry → PH → Prop} {k : AS → PH → AV → Prop} (hk : imA M o.op S h E k) : ImOk M C n a w o E k := by
  rw [ho] at hk
  simp only [imA] at hk
  split at hk
  · rename_i K l K' c hx hy
    obtain ⟨⟨z, b⟩, hz, hk⟩ := opt_iff.1 hk
    obtain ⟨h0, h1, h2, hk⟩ := hk
    dsimp only at h2 hk
    obtain ⟨e, i, hE, hi, hb, hs, hzero, hzc, hb1⟩ := mk1_some hz
    have hc48 : c ≤ 2 ^ 48 := by
      have : (1 : Int) * c ≤ (b : Int) * c := Int.mul_le_mul_of_nonneg_right (by omega) (by omega)
      omega
    have hwl : IntKind.i64.wrap l = l := wrap_in h0 (by omega)
    have hwc : IntKind.i64.wrap c = c := wrap_in (by omega) hc48
    obtain ⟨β', g1, g2, g'⟩ := g.push (List.replicate c.toNat z) e
    refine .mk hd (v := .slice (some ⟨w.heap.size, 0, none⟩) l.toNat c.toNat) (x := .s S.bx.length 0 l.toNat c.toNat) ?_ (.inr ((Below.refl _ _).alloc (Nat.le_refl _) _)) g' (.inr (by simp [cv, g2])) (fun i hi => by cases hi; simp [AS.push]) hk
    have hbig : (decide (c < 0) || decide (2 ^ 48 < (i.bytes : Int) * c) || decide (l < 0) || decide (c < l)) = false := by
      simp only [Bool.or_eq_false_iff, decide_eq_false_iff_not]
      rw [hb]
      omega
    have hzr := zero_row z c.toNat
    by_cases hcz : c.toNat = 0
    · simp [execOp, ho, Instr.makeSlice, run_underlying hE, g.ev_v hx, g.ev_v hy, asInt, asIntOf, typeInfo, hi, hwl, hwc, newRow, sizeOf, hs, hcz]
      rw [if_neg (by rw [hb]; omega)]
      simp [Array.range_zero']
    · simp [execOp, ho, Instr.makeSlice, run_underlying hE, g.ev_v hx, g.ev_v hy, asInt, asIntOf, typeInfo, hi, hwl, hwc, newRow, sizeOf, hs, hcz, zeroValue, hzero, hzc]
      rw [if_neg (by rw [hb]; omega)]
      have hz2 : Array.map (fun x => [z][x % 1]?.getD default) (Array.range c.toNat) = Array.replicate c.toNat z := by simpa using hzr
      rw [hz2]
  · exact hk.elim
theorem im_call (g : G M C n S h β a w) {o : Oper} (hd : ∀ d, o.dst = some d → d < n) {f : Operand} {args : Array Operand} {ts : Array TypeId} (ho : o.op = .call { callee := .value f, args, argTypes := ts }) {E : List PanicEntry → PH → Prop} {k : AS → PH → AV → Prop} (hk : imA M o.op S h E k) : ImOk M C n a w o E k := by
  have hk0 := hk
  rw [ho] at hk0
  simp only [imA] at hk0
  split at hk0
  · rename_i fid first cap hf
    split at hk0
    · rename_i vs hvs
      have hargs : args.map a.eval = vs.toArray := vals_eval' g hvs
      have hrun : ∀ (_ : callable M.P fid = true), (execOp a.eval o).run M.P w = .ok (.enter fid (first.toList ++ vs ++ cap.toList).toArray) w := by
        intro hok
        simp only [execOp, ho, resolve, Deferred.ofValue, g.ev_v hf, hargs, Sem.run_bind, Sem.run_pure, Result.andThen_ok, invoke]
        rw [run_call hok]
        congr 2
        apply Array.ext'
        simp
      rcases hk0 with hk | hk
      · obtain ⟨R, E', hspec, hR, hE⟩ := hk
        intro Q hQ
        simp only [Oper.wp, hrun hspec.ok, Oper.upon]
        refine (hspec.run w g.fine.has g.fine.gl).mono fun e w' hp => ?_
        cases e with
        | returned v =>
          obtain ⟨h', hb, hh, hs, hn, hr⟩ := hp
          have g' := g.grow hb hh hs hn
          exact ⟨.inr hb, S, h', .v v, β, g'.put hd (.inr rfl) (fun i hi => by cases hi), hR v h' ⟨hs⟩ hr⟩
        | panicked ch =>
          obtain ⟨h', hb, hh, hs, hn, he⟩ := hp
          exact hQ ch h' w' (g.grow hb hh hs hn).fine (hE ch h' ⟨hs⟩ he)
        | outgrown => exact (hp : False).elim
      · obtain ⟨R, hspec, h0, hR⟩ := hk
        intro Q hQ
        simp only [Oper.wp, hrun hspec.ok, Oper.upon]
        refine (hspec.run w g.fine.has g.fine.gl).mono fun e w' hp => ?_
        cases e with
        | returned v =>
          obtain ⟨h', hb, hh, hs, hn, hr⟩ := hp
          rcases hr with ⟨rfl, hr⟩ | ⟨b, row, len, T, rfl, hlb, hfree, hrow, hne, hr⟩
          · have g' := g.grow hb hh hs hn
            exact ⟨.inr hb, S, h', .v _, β, g'.put hd (.inr rfl) (fun i hi => by cases hi), h0 h' ⟨hs⟩ hr⟩
          · obtain ⟨β', hβ, hβl, g'⟩ := g.adopt hb hh hs hn hlb hfree hrow
            exact ⟨.inr hb, S.push row, h', .s S.bx.length 0 len row.length, β', g'.put hd (.inr (by simp only [cv, hβl])) (fun i hi => by
              simp only [AV.ix, Option.some.injEq] at hi; subst hi; simp [AS.push]), hR row len h' ⟨hs⟩ hne hr⟩
        | panicked ch => exact (hp : False).elim
        | outgrown => exact (hp : False).elim
    · obtain ⟨hfi, hca, hk⟩ := hk0
      have hrun : ∀ {i : Nat} (_ : onlyOf i (args.toList.map S.ev) = true) (_ : callable M.P fid = true), (execOp a.eval o).run M.P w = .ok (.enter fid ((args.toList.map S.ev).map (cv β)).toArray) w := by
        intro i hon hok
        have hargs : args.map a.eval = ((args.toList.map S.ev).map (cv β)).toArray := by
          apply Array.ext'
          rw [← only_ev g hon]
          simp
        simp only [execOp, ho, resolve, Deferred.ofValue, g.ev_v hf, hargs, Sem.run_bind, Sem.run_pure, Result.andThen_ok, invoke]
        rw [run_call hok]
        congr 2
        apply Array.ext'
        simp [hfi, hca]
      rcases hk with hk | hk
      · obtain ⟨hc, i, R, hi, hne, hon, hspec, hR⟩ := hk
        intro Q hQ
        simp only [Oper.wp, hrun hon hspec.ok, Oper.upon]
        have hcl : cls o.op = 2 := by rw [ho]; exact hc
        have hr := hspec.run C (shift i β) (S.bx.set i []) w g.fine (g.rows hi hne)
        rw [ren_cv (β := β) (i := i) rfl hon] at hr
        refine hr.mono fun e w' hp => ?_
        cases e with
        | returned v =>
          obtain ⟨row', h', hf', hs, hrows, hr⟩ := hp
          have g' := g.back hi hne hf' hrows
          exact ⟨.inl hcl, S.setBox i row', h', .v v, β, g'.put hd (.inr rfl) (fun i hi => by cases hi), hR v row' h' ⟨hs⟩ hr⟩
        | panicked ch => exact (hp : False).elim
        | outgrown => exact (hp : False).elim
      · obtain ⟨i, R, hi, hne, hon, hspec, hR⟩ := hk
        intro Q hQ
        have hb := g.boxes i _ hi hne
        obtain ⟨T, hw⟩ := hb.row
        have hsub : Sub h (fun b => if b = β i then some (S.box i).toArray else h b) := fun b cs hx => by
          have : b ≠ β i := fun e => by rw [e, hb.own] at hx; cases hx
          simp only [if_neg this]; exact hx
        have hs := hspec (β i) _ ⟨hsub⟩ (by simp)
        rw [only_cv hon] at hs
        simp only [Oper.wp, hrun hon hs.ok, Oper.upon]
        refine (hs.run w (fun b cs hx => ?_) (g.fine.gl.trans hsub)).mono fun e w' hp => ?_
        · by_cases hbi : b = β i
          · subst hbi
            simp only [if_true, Option.some.injEq] at hx
            subst hx
            exact ⟨T, (0, 0), hw⟩
          · simp only [if_neg hbi] at hx; exact g.fine.has b cs hx
        · cases e with
          | returned v =>
            obtain ⟨h', hbl, hh, hs, hn, x, hr, hox, rfl⟩ := hp
            have g' := g.below hbl
            exact ⟨.inr hbl, S, h, x, β, g'.put hd (.inr (only_cv1 hox)) (fun j hj => by rw [only_ix hox j hj]; exact (List.getElem?_eq_some_iff.1 hi).1), hR x hr⟩
          | panicked ch =>
            obtain ⟨_, _, _, _, _, he⟩ := hp
            exact (he : False).elim
          | outgrown => exact (hp : False).elim
  · exact hk0.elim
theorem im_panic (g : G M C n S h β a w) {o : Oper} {x : Operand} (ho : o.op = .panic x) {E : List PanicEntry → PH → Prop} {k : AS → PH → AV → Prop} (hk : imA M o.op S h E k) : ImOk M C n a w o E k := by
  rw [ho] at hk
  simp only [imA] at hk
  split at hk
  · rename_i t v hx
    intro Q hQ
    have hrun : (execOp a.eval o).run M.P w = .halt (.panic (.iface t v)) w := by
      simp [execOp, ho, g.ev_v hx, Instr.panic]
    simp only [Oper.wp, hrun, Oper.upon]
    exact hQ _ h w g.fine hk
  · exact hk.elim
theorem im_buildSlice (g : G M C n S h β a w) {o : Oper} (hd : ∀ d, o.dst = some d → d < n) {T : TypeId} {len : Nat} {parts : Array (Nat × Operand)} (ho : o.op = .buildSlice T len parts) {E : List PanicEntry → PH → Prop} {k : AS → PH → AV → Prop} (hk : imA M o.op S h E k) : ImOk M C n a w o E k := by
  rw [ho] at hk
  simp only [imA] at hk
  obtain ⟨⟨z, b⟩, hz, hk⟩ := opt_iff.1 hk
  obtain ⟨hlen, hk⟩ := hk
  obtain ⟨cs, hcs, hk⟩ := opt_iff.1 hk
  obtain ⟨e, i, hE, hi, hb, hs, hzero, hzc, hb1⟩ := mk1_some hz
  obtain ⟨β', g1, g2, g'⟩ := g.push cs e
  refine .mk hd (v := .slice (some ⟨w.heap.size, 0, none⟩) len len) (x := .s S.bx.length 0 len len) ?_ (.inr ((Below.refl _ _).alloc (Nat.le_refl _) _)) g' (.inr (by simp [cv, g2])) (fun i hi => by cases hi; simp [AS.push]) hk
  have hfill := fill_ok (place' := fun i => some (i * 1, 1)) g (fun i off t hp => by cases hp; simp [partSize]) parts.toList (List.replicate len z) cs hcs
  have hparts : (parts.map fun (i, x) => (i, a.eval x)).toList = parts.toList.map fun p => (p.1, a.eval p.2) := by simp
  have hzr := zero_row z len
  have hle : ¬ (len * 1 > 2 ^ 24) := by omega
  have hrow : ∀ zz : Array Value, (len ≠ 0 → zz = #[z]) → (Array.range (len * 1)).map (fun x => zz[x % zz.size]!) = (List.replicate len z).toArray := by
    intro zz hzz
    by_cases h0 : len = 0
    · subst h0; simp [Array.range_zero']
    · rw [hzz h0, Nat.mul_one]; exact hzr
  by_cases h0 : len * 1 = 0
  · simp only [execOp, ho, Instr.buildSlice, run_underlying hE, Sem.run_bind, Result.andThen_ok, sizeOf, typeInfo, run_program, hi, Sem.run_pure, hs, Sem.run_ite, if_neg hle, if_pos h0, hparts]
    rw [hrow #[] (by omega), hfill]
    rfl
  · simp only [execOp, ho, Instr.buildSlice, run_underlying hE, Sem.run_bind, Result.andThen_ok, sizeOf, typeInfo, run_program, hi, Sem.run_pure, hs, Sem.run_ite, if_neg hle, if_neg h0, hparts, zeroValue, hzero, hzc]
    rw [hrow #[z] (fun _ => rfl), hfill]
    rfl
end
end Go.Q
namespace Go.Q
open Go.RowKit (Below)
section
variable {M : Mach} {C : Ctx} {n : Nat} {S : AS} {h : PH} {β : Nat → Nat} {a : Act} {w : World}
theorem growBy_le (need : Nat) : ∀ (r c : Nat), c ≤ need + (need + 768) / 4 → Builtin.growBy need r c ≤ need + (need + 768) / 4 := by
  intro r
  induction r with
  | zero => intro c h; exact h
  | succ r ih =>
    intro c h
    simp only [Builtin.growBy]
    split
    · exact h
    · exact ih _ (by omega)
theorem next_le {need cap : Nat} (h : cap < need) : Builtin.nextslicecap need cap ≤ 2 * need + 1024 := by
  unfold Builtin.nextslicecap
  split
  · omega
  · split
    · omega
    · have := growBy_le need 4 cap (by omega); omega
theorem zeroCells_one (z : Value) (n : Nat) : Builtin.zeroCells #[z] n = (List.replicate n z).toArray := by
  unfold Builtin.zeroCells
  have := zero_row z n
  simpa using this
theorem below_drew (w : World) : Below w.heap.size w w.drew := (Below.refl _ _).drew
/-- A row changes its number. -/
theorem G.move (g : G M C n S h β a w) {i : Nat} {cs : List Value} (hi : S.bx[i]? = some cs) :
    ∃ β', β' S.bx.length = β i ∧ G M C n ((S.setBox i []).push cs) h β' a w := by
  have hlen : i < S.bx.length := (List.getElem?_eq_some_iff.1 hi).1
  refine ⟨fun j => if j = S.bx.length then β i else β j, by simp, ?_⟩
  have hget : ∀ (j : Nat) (cj : List Value), ((S.setBox i []).push cs).bx[j]? = some cj → cj ≠ [] → (j = S.bx.length ∧ cj = cs) ∨ (j ≠ S.bx.length ∧ j ≠ i ∧ S.bx[j]? = some cj) := by
    intro j cj hj hn
    simp only [AS.push, AS.setBox] at hj
    rcases Nat.lt_trichotomy j S.bx.length with hl | hl | hl
    · rw [List.getElem?_append_left (by simpa using hl)] at hj
      by_cases hji : j = i
      · subst hji; rw [List.getElem?_set_self hlen] at hj; exact (hn (Option.some.inj hj).symm).elim
      · rw [List.getElem?_set_ne (Ne.symm hji)] at hj; exact .inr ⟨by omega, hji, hj⟩
    · subst hl
      rw [List.getElem?_append_right (by simp)] at hj
      simp at hj
      exact .inl ⟨rfl, hj.symm⟩
    · rw [List.getElem?_append_right (by simp; omega)] at hj
      rw [List.getElem?_eq_none (by simp; omega)] at hj; cases hj
  refine ⟨g.size, g.defers, g.fine, fun j cj hj hn => ?_, fun p q cp cq hp hq hnp hnq hpq => ?_, fun t => ?_, fun t q hq => ?_, ?_, fun j hj => ?_⟩
  · rcases hget j cj hj hn with ⟨rfl, rfl⟩ | ⟨h1, h2, h3⟩
    · simp only [if_true]; exact g.boxes i _ hi hn
    · simp only [if_neg h1]; exact g.boxes j cj h3 hn
  · rcases hget p cp hp hnp with ⟨hp1, hp2⟩ | ⟨h1, h2, h3⟩ <;> rcases hget q cq hq hnq with ⟨hq1, hq2⟩ | ⟨k1, k2, k3⟩
    · omega
    · subst hp2
      simp only [if_pos hp1, if_neg k1] at hpq
      exact (k2 (g.inj i q _ _ hi k3 hnp hnq hpq).symm).elim
    · subst hq2
      simp only [if_neg h1, if_pos hq1] at hpq
      exact (h2 (g.inj p i _ _ h3 hi hnp hnq hpq)).elim
    · simp only [if_neg h1, if_neg k1] at hpq
      exact g.inj p q cp cq h3 k3 hnp hnq hpq
  · have hw := g.wf t
    rcases g.slots t with hs | hs
    · exact .inl hs
    · refine .inr ?_
      rw [hs]
      simp only [AS.push, AS.setBox]
      cases hx : lk S.sl t with
      | top => rfl
      | v x => rfl
      | p j off => have := hw j (by rw [hx]; rfl); simp only [cv, if_neg (show ¬ j = S.bx.length by omega)]
      | s j off len cap => have := hw j (by rw [hx]; rfl); simp only [cv, if_neg (show ¬ j = S.bx.length by omega)]
  · have := g.wf t q hq
    simp only [AS.push, AS.setBox, List.length_append, List.length_set]
    omega
  · have := g.pin.1
    simp only [AS.push, AS.setBox, List.length_append, List.length_set]
    omega
  · have := g.pin.1
    simp only [if_neg (show ¬ j = S.bx.length by omega)]
    exact g.pin.2 j hj
theorem G.kill (g : G M C n S h β a w) (i : Nat) : G M C n (S.setBox i []) h β a w := by
  have hget : ∀ (j : Nat) (cj : List Value), (S.setBox i []).bx[j]? = some cj → cj ≠ [] → S.bx[j]? = some cj := by
    intro j cj hj hn
    simp only [AS.setBox] at hj
    by_cases hji : j = i
    · subst hji
      rcases Nat.lt_or_ge j S.bx.length with hl | hl
      · rw [List.getElem?_set_self hl] at hj; exact (hn (Option.some.inj hj).symm).elim
      · rw [List.getElem?_eq_none (by simpa using hl)] at hj; cases hj
    · rw [List.getElem?_set_ne (Ne.symm hji)] at hj; exact hj
  exact ⟨g.size, g.defers, g.fine, fun j cj hj hn => g.boxes j cj (hget j cj hj hn) hn, fun p q cp cq hp hq hnp hnq => g.inj p q cp cq (hget p cp hp hnp) (hget q cq hq hnq) hnp hnq, g.slots, fun t q hq => by
    have := g.wf t q hq
    simpa [AS.setBox] using this, by simpa [AS.setBox] using g.pin⟩
theorem spl_eq : ∀ (vs cs : List Value) (off : Nat), off + vs.length ≤ cs.length → spl cs off vs = cs.take off ++ vs ++ cs.drop (off + vs.length) := by
  intro vs
  induction vs with
  | nil => intro cs off _; simp [spl]
  | cons v vs ih =>
    intro cs off hle
    simp only [List.length_cons] at hle
    rw [spl, ih _ _ (by simp; omega)]
    rw [List.take_add_one, List.getElem?_set_self (by omega), List.take_set_of_le (Nat.le_refl _), List.drop_set_of_lt (by omega)]
    simp [Nat.add_assoc, Nat.add_comm 1]
/-- What reading a source slice gives. -/
theorem src_run (g : G M C n S h β a w) {y : Operand} {k : Nat → List Value → Prop} (hk : srcA S h (S.ev y) k) :
    ∃ (ad : Option Addr) (m cap : Nat) (news : List Value), a.eval y = .slice ad m cap ∧ news.length = m ∧ k m news ∧
      (∀ w', G M C n S h β a w' → (Builtin.firstCells 1 m (.slice ad m cap)).run M.P w' = .ok news.toArray w') := by
  unfold srcA at hk
  split at hk
  · rename_i ad m cap hy
    obtain ⟨news, hl, hc, hk⟩ := hk
    refine ⟨ad, m, cap, news, g.ev_v hy, hl, hk, fun w' g' => ?_⟩
    by_cases hm : m = 0
    · subst hm
      obtain rfl : news = [] := List.length_eq_zero_iff.1 hl
      cases ad <;> simp [Builtin.firstCells, loadCells, loadCellsFrom]
    · obtain ⟨ad', rfl, hc'⟩ := hc hm
      simp only [Builtin.firstCells, Nat.mul_one]
      rw [← hl]
      exact run_loadCells_list _ _ news (fun j v hj => g'.fine.has.cell (hc' j v hj))
  · rename_i i off m cap hy
    obtain ⟨hle, hk⟩ := hk
    have hi : i < S.bx.length := g.wf_ev (by rw [hy]; rfl)
    have hl : (((S.box i).drop off).take m).length = m := by simp; omega
    refine ⟨_, m, cap, _, g.ev_s hy, hl, hk, fun w' g' => ?_⟩
    simp only [Builtin.firstCells, Nat.mul_one]
    have := run_loadCells_list (P := M.P) (w := w') ⟨β i, off, none⟩ (((S.box i).drop off).take m) (fun j v hj => by
      rw [add_none]
      refine g'.box_get hi ?_
      rw [List.getElem?_take] at hj
      split at hj
      · rw [List.getElem?_drop] at hj; exact hj
      · cases hj)
    rw [hl] at this
    exact this
  · exact hk.elim
theorem append_front {P : Program} {T U E e' : TypeId} {i : TypeInfo} (hT : P.underlying T = some (.slice E)) (hU : P.underlying U = some (.slice e')) (hi : P.info? E = some i) (hs : i.size = 1) (hb : 1 ≤ i.bytes) {base ad : Option Addr} {len cap m c : Nat} {w : World} :
    (len + m ≤ cap → ∀ (news : Array Value) (w' : World), (Builtin.firstCells 1 m (.slice ad m c)).run P w = .ok news w → (match base with | some a => storeCells (a.add (len * 1)) news.toList | none => pure () : Sem Unit).run P w = .ok () w' →
      (Builtin.append_ #[T, U] T #[.slice base len cap, .slice ad m c]).run P w = .ok (.slice base (len + m) cap) w') := by
  intro hle news w' hn hst
  simp only [Builtin.append_, Sem.run_bind, run_underlying hT, run_underlying hU, Result.andThen_ok, Sem.run_pure, sizeOf, typeInfo, run_program, hi, hs, Builtin.lenOf,
    List.getElem?_toArray, List.getElem?_cons_zero, List.getElem?_cons_succ, Bool.false_eq_true, if_false, Bool.not_false, if_true, hle, hn]
  cases base with
  | none =>
    simp only [Sem.run_pure, Result.ok.injEq, true_and] at hst
    subst hst
    rfl
  | some ad =>
    simp only at hst
    simp only [Sem.run_bind, hst, Result.andThen_ok, Sem.run_pure]
theorem append_grow {P : Program} {T U E e' : TypeId} {i : TypeInfo} {z : Value} (hT : P.underlying T = some (.slice E)) (hU : P.underlying U = some (.slice e')) (hi : P.info? E = some i) (hs : i.size = 1) (hb : 1 ≤ i.bytes)
    (hz : i.zero = some z) (hzc : z.cells = #[z]) {base ad : Option Addr} {len cap m c : Nat} {w : World} (hlt : cap < len + m) (hroom : (2 * (len + m) + 1024) * i.bytes ≤ 2 ^ 48) {old news : Array Value}
    (ho : (Builtin.firstCells 1 len (.slice base len cap)).run P w.drew = .ok old w.drew) (hn : (Builtin.firstCells 1 m (.slice ad m c)).run P w.drew = .ok news w.drew) :
    ∃ j : Nat, (Builtin.append_ #[T, U] T #[.slice base len cap, .slice ad m c]).run P w = .ok (.slice (some ⟨w.heap.size, 0, none⟩) (len + m) (len + m + j)) (w.drew.alloc (.cells (old ++ news ++ (List.replicate j z).toArray) E)) := by
  have h1 : ¬ (len + m ≤ cap) := by omega
  have h2 : ¬ (((len + m : Nat) : Int) > IntKind.i64.max ∧ (i.bytes = 0)) := by omega
  have h3 : ¬ (Builtin.nextslicecap (len + m) cap * i.bytes > 2 ^ 48) := by
    have := Nat.mul_le_mul_right i.bytes (next_le hlt)
    omega
  refine ⟨w.tape w.drawn (.appendCap (len + m) cap E) % (2 ^ 63 - (len + m)), ?_⟩
  simp only [Builtin.append_, Sem.run_bind, run_underlying hT, run_underlying hU, Result.andThen_ok, Sem.run_pure, sizeOf, typeInfo, run_program, hi, hs, Builtin.lenOf,
    List.getElem?_toArray, List.getElem?_cons_zero, List.getElem?_cons_succ, Bool.false_eq_true, if_false, Bool.not_false, if_true, h1, false_or, h2, h3, run_choose, Question.forced, Question.cut, World.drew_eq, run_askRoom, ho, hn,
    zeroValue, hz, hzc, zeroCells_one, Nat.add_sub_cancel_left, newRow, run_newObj, World.alloc_eq, World.size_drew]
theorem im_append (g : G M C n S h β a w) {o : Oper} (hd : ∀ d, o.dst = some d → d < n) {args : Array Operand} {ts : Array TypeId} (ho : o.op = .call { callee := .builtin .append, args, argTypes := ts }) {E : List PanicEntry → PH → Prop} {k : AS → PH → AV → Prop} (hk : imA M o.op S h E k) : ImOk M C n a w o E k := by
  have hcls : cls o.op = 2 := by rw [ho]; rfl
  rw [ho] at hk
  simp only [imA] at hk
  split at hk
  · rename_i x y T U hargs hts
    obtain rfl : args = #[x, y] := by apply Array.ext'; simpa using hargs
    obtain rfl : ts = #[T, U] := by apply Array.ext'; simpa using hts
    obtain ⟨hU, hk⟩ := hk
    obtain ⟨⟨z, b⟩, hz, hk⟩ := opt_iff.1 hk
    dsimp only at hk
    obtain ⟨e, i, hE, hi, hb, hs, hzero, hzc, hb1⟩ := mk1_some hz
    obtain ⟨e', hE'⟩ := uk_slice hU
    obtain ⟨ad, m, c, news, hy, hl, hk, hsrc⟩ := src_run g hk
    obtain ⟨hall, hk⟩ := hk
    have hexec : ∀ v, a.eval x = v → execOp a.eval o = (do pure (.value (← Builtin.append_ #[T, U] o.type #[v, .slice ad m c])) : Sem Next) := by
      intro v hv
      subst hv
      simp [execOp, ho, resolve, invoke, builtin, hy]
    have hty : ∀ (t : TypeId) (vs : Array Value), Builtin.append_ #[T, U] t vs = Builtin.append_ #[T, U] T vs := fun _ _ => rfl
    have hgrown : ∀ (base : Option Addr) (len cap : Nat) (old : List Value) (S' : AS) (β1 : Nat → Nat), a.eval x = .slice base len cap → cap < len + m → (2 * (len + m) + 1024) * b ≤ 2 ^ 48 →
        (∀ w', G M C n S h β a w' → (Builtin.firstCells 1 len (.slice base len cap)).run M.P w' = .ok old.toArray w') → G M C n S' h β1 a w.drew → S'.bx.length = S.bx.length →
        (∀ junk : List Value, k (S'.push (old ++ news ++ junk)) h (.s S.bx.length 0 (len + m) (len + m + junk.length))) → ImOk M C n a w o E k := by
      intro base len cap old S' β1 hx hlt hroom hold g1 hlen hk
      have gd := g.below (below_drew w)
      obtain ⟨j, hj⟩ := append_grow hE hE' hi hs (by omega) hzero hzc hlt (by rw [hb]; exact hroom) (hold _ gd) (hsrc _ gd)
      obtain ⟨β', b1, b2, g'⟩ := g1.push (old ++ news ++ List.replicate j z) e
      refine .mk hd (v := .slice (some ⟨w.heap.size, 0, none⟩) (len + m) (len + m + j)) (x := .s S.bx.length 0 (len + m) (len + m + (List.replicate j z).length)) ?_ (.inl hcls) (β' := β') (S' := S'.push (old ++ news ++ List.replicate j z)) (w' := w.drew.alloc (.cells (old ++ news ++ List.replicate j z).toArray e)) g' (.inr ?_) ?_ (hk _)
      · have hc : old.toArray ++ news.toArray ++ (List.replicate j z).toArray = (old ++ news ++ List.replicate j z).toArray := by simp
        rw [hc] at hj
        rw [hexec _ hx]
        simp only [Sem.run_bind, hty, hj, Result.andThen_ok, Sem.run_pure, List.length_replicate]
      · simp only [cv, ← hlen, b2, World.size_drew, List.length_replicate]
      · intro i hi; cases hi; simp [AS.push, hlen]
    split at hk
    · rename_i hx
      obtain ⟨hk0, hk1⟩ := hk
      by_cases hm : m = 0
      · have hk := hk0 hm
        subst hm
        refine .mk hd (v := .slice none 0 0) (x := .v (.slice none 0 0)) (w' := w) ?_ (.inl hcls) g (.inr rfl) (fun i hi => by cases hi) hk
        rw [hexec _ (g.ev_v hx)]
        simp only [Sem.run_bind, hty]
        rw [append_front hE hE' hi hs (by omega) (Nat.le_refl _) news.toArray w (hsrc _ g) rfl]
        rfl
      · obtain ⟨hroom, hk⟩ := hk1 hm
        refine hgrown none 0 0 [] S β (g.ev_v hx) (by omega) (by simpa using hroom) (fun w' _ => by simp [Builtin.firstCells]) (g.below (below_drew w)) rfl (fun junk => ?_)
        have := hk junk
        simpa using this
    · rename_i i' off len cap hx
      obtain ⟨rfl, hlc, hcap, hroom, hk⟩ := hk
      have hi' : i' < S.bx.length := g.wf_ev (by rw [hx]; rfl)
      have hget : S.bx[i']? = some (S.box i') := by simp [AS.box, hi']
      by_cases hle : len + m ≤ cap
      · -- there is room
        have hkj := hk ((S.box i').drop (len + m))
        have hjl : len + m + ((S.box i').drop (len + m)).length = cap := by simp; omega
        rw [hjl] at hkj
        have hspl : (S.box i').take len ++ news ++ (S.box i').drop (len + m) = spl (S.box i') len news := by
          rw [spl_eq _ _ _ (by omega), hl]
        rw [hspl] at hkj
        by_cases hne : S.box i' = []
        · have hc0 : cap = 0 := by rw [hcap, hne]; rfl
          have hm0 : m = 0 := by omega
          subst hm0
          obtain rfl : news = [] := List.length_eq_zero_iff.1 hl
          obtain ⟨β', b1, g'⟩ := g.move hget
          refine .mk hd (v := .slice (some ⟨β i', 0, none⟩) (len + 0) cap) (x := .s S.bx.length 0 (len + 0) cap) (w' := w) ?_ (.inl hcls) g' (.inr (by simp [cv, b1])) (fun q hq => by cases hq; simp [AS.push, AS.setBox]) hkj
          rw [hexec _ (g.ev_s hx)]
          simp only [Sem.run_bind, hty]
          rw [append_front hE hE' hi hs (by omega) hle #[] w (hsrc _ g) rfl]
          rfl
        · obtain ⟨T', hw⟩ := (g.boxes i' _ hget hne).row
          obtain ⟨w', h1, h2, h3⟩ := run_storeCells_row (P := M.P) news (S.box i') len 0 w hw (by omega) hall
          have g1 := g.setBox hget hne (cs' := spl (S.box i') len news) (by rw [spl_length]) (by simpa using h2) h3
          obtain ⟨β', b1, g'⟩ := g1.move (i := i') (cs := spl (S.box i') len news) (by simp [AS.setBox, hi'])
          have hset : (S.setBox i' (spl (S.box i') len news)).setBox i' [] = S.setBox i' [] := by simp [AS.setBox]
          have hlen : (S.setBox i' (spl (S.box i') len news)).bx.length = S.bx.length := by simp [AS.setBox]
          rw [hset] at g'
          rw [hlen] at b1
          refine .mk hd (v := .slice (some ⟨β i', 0, none⟩) (len + m) cap) (x := .s S.bx.length 0 (len + m) cap) (w' := w') ?_ (.inl hcls) g' (.inr (by simp [cv, b1])) (fun q hq => by cases hq; simp [AS.push, AS.setBox]) hkj
          rw [hexec _ (g.ev_s hx)]
          simp only [Sem.run_bind, hty]
          rw [append_front hE hE' hi hs (by omega) hle news.toArray w' (hsrc _ g) (by simpa [add_none] using h1)]
          rfl
      · refine hgrown (some ⟨β i', 0, none⟩) len cap ((S.box i').take len) (S.setBox i' []) β (g.ev_s hx) (by omega) hroom (fun w' g' => ?_) ((g.below (below_drew w)).kill i') (by simp [AS.setBox]) hk
        simp only [Builtin.firstCells, Nat.mul_one]
        have hl2 : ((S.box i').take len).length = len := by simp; omega
        have := run_loadCells_list (P := M.P) (w := w') ⟨β i', 0, none⟩ ((S.box i').take len) (fun j v hj => by
          rw [add_none]
          refine g'.box_get hi' ?_
          rw [List.getElem?_take] at hj
          split at hj
          · simpa using hj
          · cases hj)
        rw [hl2] at this
        exact this
    · exact hk.elim
  · exact hk.elim
theorem im_copy (g : G M C n S h β a w) {o : Oper} (hd : ∀ d, o.dst = some d → d < n) {args : Array Operand} {ts : Array TypeId} (ho : o.op = .call { callee := .builtin .copy, args, argTypes := ts }) {E : List PanicEntry → PH → Prop} {k : AS → PH → AV → Prop} (hk : imA M o.op S h E k) : ImOk M C n a w o E k := by
  have hcls : cls o.op = 2 := by rw [ho]; rfl
  rw [ho] at hk
  simp only [imA] at hk
  split at hk
  · rename_i x y T ts' hargs hts
    obtain rfl : args = #[x, y] := by apply Array.ext'; simpa using hargs
    obtain rfl : ts = (T :: ts').toArray := by apply Array.ext'; simpa using hts
    obtain ⟨⟨z, b⟩, hz, hk⟩ := opt_iff.1 hk
    obtain ⟨e, i, hE, hi, hb, hs, hzero, hzc, hb1⟩ := mk1_some hz
    unfold copA at hk
    split at hk
    · rename_i i' off dlen cap ad m c hx hy
      obtain ⟨news, hl, hc, hall, hlt, hle, hk⟩ := hk
      have hi' : i' < S.bx.length := g.wf_ev (by rw [hx]; rfl)
      have hget : S.bx[i']? = some (S.box i') := by simp [AS.box, hi']
      have hne : S.box i' ≠ [] := by intro q; rw [q] at hlt; simp at hlt
      have hsrc : (Builtin.firstCells 1 (min m dlen) (.slice ad m c)).run M.P w = .ok news.toArray w := by
        by_cases hm : min m dlen = 0
        · rw [hm] at hl
          obtain rfl : news = [] := List.length_eq_zero_iff.1 hl
          rw [hm]
          cases ad <;> simp [Builtin.firstCells, loadCells, loadCellsFrom]
        · obtain ⟨ad', rfl, hc'⟩ := hc (by omega)
          simp only [Builtin.firstCells, Nat.mul_one]
          rw [← hl]
          exact run_loadCells_list _ _ news (fun j v hj => g.fine.has.cell (hc' j v hj))
      obtain ⟨T', hw⟩ := (g.boxes i' _ hget hne).row
      obtain ⟨w', h1, h2, h3⟩ := run_storeCells_row (P := M.P) news (S.box i') off 0 w hw (by omega) hall
      have g1 := g.setBox hget hne (cs' := spl (S.box i') off news) (by rw [spl_length]) (by simpa using h2) h3
      refine .mk hd (v := .int .i64 (min m dlen : Nat)) (x := .v (.int .i64 (min m dlen : Nat))) (w' := w') ?_ (.inl hcls) g1 (.inr rfl) (fun q hq => by cases hq) hk
      simp only [execOp, ho, resolve, invoke, builtin, List.map_toArray, List.map_cons, List.map_nil, g.ev_s hx, g.ev_v hy, Sem.run_bind, Sem.run_pure, Result.andThen_ok, Builtin.copy_,
        List.getElem?_toArray, List.getElem?_cons_zero, List.getElem?_cons_succ, run_underlying hE, Builtin.lenOf, sizeOf, typeInfo, run_program, hi, hs, Nat.min_def]
      have hmin : (if m ≤ dlen then m else dlen) = min m dlen := (Nat.min_def ..).symm
      rw [hmin, hsrc]
      simp only [Result.andThen_ok, Sem.run_bind, h1, Sem.run_pure, goInt]
    · exact hk.elim
  · exact hk.elim
/-- Each rule of an operation that is no reader is sound. -/
theorem im_sound (g : G M C n S h β a w) {o : Oper} (hd : ∀ d, o.dst = some d → d < n) {E : List PanicEntry → PH → Prop} {k : AS → PH → AV → Prop} (hk : imA M o.op S h E k) : ImOk M C n a w o E k := by
  cases ho : o.op with
  | alloc T => exact im_alloc g hd ho hk
  | box T x => exact im_box g hd ho hk
  | store T x y => exact im_store g hd ho hk
  | makeSlice T l c => exact im_makeSlice g hd ho hk
  | buildSlice T len parts => exact im_buildSlice g hd ho hk
  | panic x => exact im_panic g ho hk
  | call c =>
    obtain ⟨callee, args, ts⟩ := c
    cases callee with
    | value f => exact im_call g hd ho hk
    | builtin b =>
      cases b <;> first
        | exact im_append g hd ho hk
        | exact im_copy g hd ho hk
        | (rw [ho] at hk; exact hk.elim)
    | _ => rw [ho] at hk; exact hk.elim
  | _ => rw [ho] at hk; exact hk.elim
end
end Go.Q
namespace Go.Q
open Go.RowKit (Below)
structure GOp where
  dst : Option Nat
  op : Op
  guard : Option (Nat × Bool)
/-- One step of a region's plan: an operation, or a row that is made shared. -/
inductive PL where
  | o (i : Nat)
  | p (i : Nat)
inductive GX where
  | o (g : GOp)
  | p (i : Nat)
def nth : List Oper → Nat → Option Oper
  | [], _ => none
  | x :: _, 0 => some x
  | _ :: l, i + 1 => nth l i
theorem nth_eq : ∀ (l : List Oper) (i : Nat), nth l i = l[i]?
  | [], i => by simp [nth]
  | x :: l, 0 => by simp [nth]
  | x :: l, i + 1 => by simp [nth, nth_eq l i]
theorem nth_arr (ops : Array Oper) (i : Nat) : nth ops.toList i = ops[i]? := by rw [nth_eq]; simp
def gOf (ops : Array Oper) (o : Oper) : Option (Option (Nat × Bool)) := match o.guard with
  | none => some none
  | some (j, want) => match (nth ops.toList j).bind (·.dst) with
    | some t => some (some (t, want))
    | none => none
def prep (n : Nat) (ops : Array Oper) : List PL → Option (List GX)
  | [] => some []
  | .p i :: c => match prep n ops c with
    | some l => some (.p i :: l)
    | none => none
  | .o i :: c => match nth ops.toList i with
    | some o => match gOf ops o with
      | some g => bif o.dst.all (Nat.blt · n) then (match prep n ops c with
        | some l => some (.o ⟨o.dst, o.op, g⟩ :: l)
        | none => none) else none
      | none => none
    | none => none
def order : List PL → List Nat
  | [] => []
  | .p _ :: c => order c
  | .o i :: c => i :: order c
/-- The plain plan: the text's order. -/
def plain (n : Nat) : List PL := (List.range n).map .o
@[go_sem] def pubV (i b : Nat) : AV → AV
  | .p j off => bif j == i then .v (.pointer (some ⟨b, off, none⟩)) else .p j off
  | .s j off len cap => bif j == i then .v (.slice (some ⟨b, off, none⟩) len cap) else .s j off len cap
  | x => x
@[go_sem] def pubL (i b : Nat) : List (Nat × AV) → List (Nat × AV)
  | [] => []
  | (k, x) :: l => (k, pubV i b x) :: pubL i b l
@[go_sem] def AS.pub (S : AS) (i b : Nat) : AS := ⟨pubL i b S.sl, S.bx.set i []⟩
/-- Row i is made shared: it stands in block b of a greater heap. -/
@[go_sem] def pubA (S : AS) (h : PH) (i : Nat) (k : AS → PH → Prop) : Prop :=
  i < S.bx.length ∧ ∀ b h', Step h h' → (S.box i ≠ [] → h' b = some (S.box i).toArray) → k (S.pub i b) h'
@[go_sem] def step1 (M : Mach) (E : List PanicEntry → PH → Prop) (g : GOp) (K : AS → PH → Prop) (S : AS) (h : PH) : Prop :=
  bif cls g.op == 0 then rdA M g.op S h (fun x => K (S.put g.dst x) h) else imA M g.op S h E (fun S' h' x => K (S'.put g.dst x) h')
def walk (M : Mach) (E : List PanicEntry → PH → Prop) : List GX → (AS → PH → Prop) → AS → PH → Prop
  | [], K, S, h => K S h
  | .p i :: l, K, S, h => pubA S h i (walk M E l K)
  | .o g :: l, K, S, h => match g.guard with
    | none => step1 M E g (walk M E l K) S h
    | some (t, want) => match lk S.sl t with
      | .v (.bool b) => (b = want → step1 M E g (walk M E l K) S h) ∧ (b = (!want) → walk M E l K (S.put g.dst (.v undef)) h)
      | .v (.tuple _) => walk M E l K (S.put g.dst (.v undef)) h
      | _ => False
/-- One operation at a time, what follows behind a letter. -/
theorem wk {M : Mach} {E : List PanicEntry → PH → Prop} {d : Option Nat} {op : Op} {l : List GX} {K : AS → PH → Prop} {S : AS} {h : PH}
    (hk : ∀ k : AS → PH → Prop, (∀ S h, walk M E l K S h → k S h) → step1 M E ⟨d, op, none⟩ k S h) : walk M E (.o ⟨d, op, none⟩ :: l) K S h := hk _ fun _ _ h => h
theorem wkb {M : Mach} {E : List PanicEntry → PH → Prop} {d : Option Nat} {op : Op} {t : Nat} {want b : Bool} {l : List GX} {K : AS → PH → Prop} {S : AS} {h : PH} (hb : lk S.sl t = .v (.bool b))
    (hk : b = want → ∀ k : AS → PH → Prop, (∀ S h, walk M E l K S h → k S h) → step1 M E ⟨d, op, none⟩ k S h) (hn : b = (!want) → walk M E l K (S.put d (.v undef)) h) : walk M E (.o ⟨d, op, some (t, want)⟩ :: l) K S h := by
  simp only [walk, hb]
  exact ⟨fun e => hk e _ fun _ _ h => h, hn⟩
theorem wkt {M : Mach} {E : List PanicEntry → PH → Prop} {d : Option Nat} {op : Op} {t : Nat} {want : Bool} {vs : Array Value} {l : List GX} {K : AS → PH → Prop} {S : AS} {h : PH} (hb : lk S.sl t = .v (.tuple vs))
    (hn : walk M E l K (S.put d (.v undef)) h) : walk M E (.o ⟨d, op, some (t, want)⟩ :: l) K S h := by
  simp only [walk, hb]
  exact hn
theorem wkT {M : Mach} {E : List PanicEntry → PH → Prop} {d : Option Nat} {op : Op} {t : Nat} {want : Bool} {l : List GX} {K : AS → PH → Prop} {S : AS} {h : PH} (hb : lk S.sl t = .v (.bool want))
    (hk : ∀ k : AS → PH → Prop, (∀ S h, walk M E l K S h → k S h) → step1 M E ⟨d, op, none⟩ k S h) : walk M E (.o ⟨d, op, some (t, want)⟩ :: l) K S h :=
  wkb hb (fun _ => hk) (fun e => by cases want <;> cases e)
theorem wkF {M : Mach} {E : List PanicEntry → PH → Prop} {d : Option Nat} {op : Op} {t : Nat} {want : Bool} {l : List GX} {K : AS → PH → Prop} {S : AS} {h : PH} (hb : lk S.sl t = .v (.bool (!want)))
    (hn : walk M E l K (S.put d (.v undef)) h) : walk M E (.o ⟨d, op, some (t, want)⟩ :: l) K S h :=
  wkb hb (fun e => by cases want <;> cases e) (fun _ => hn)
/-- A skipped operation, what follows behind a letter. -/
theorem wkG {M : Mach} {E : List PanicEntry → PH → Prop} {d : Option Nat} {op : Op} {t : Nat} {want : Bool} {l : List GX} {K : AS → PH → Prop} {S : AS} {h : PH} (hb : lk S.sl t = .v (.bool (!want)))
    (hk : ∀ k : AS → PH → Prop, (∀ S h, walk M E l K S h → k S h) → k (S.put d (.v undef)) h) : walk M E (.o ⟨d, op, some (t, want)⟩ :: l) K S h :=
  wkF hb (hk _ fun _ _ h => h)
theorem wk0 {M : Mach} {E : List PanicEntry → PH → Prop} {K : AS → PH → Prop} {S : AS} {h : PH} (hk : K S h) : walk M E [] K S h := hk
theorem wkp {M : Mach} {E : List PanicEntry → PH → Prop} {i : Nat} {l : List GX} {K : AS → PH → Prop} {S : AS} {h : PH} (hk : pubA S h i (walk M E l K)) : walk M E (.p i :: l) K S h := hk
/-- What a piece of code must reach. -/
def LQ (M : Mach) (n : Nat) (C : Ctx) (Q : Exit → AS → PH → Prop) (E : List PanicEntry → PH → Prop) : Exit → Act → World → Prop
  | .panic ch, a, w => a.defers = C.df ∧ ∃ h', Fine M C h' w ∧ E ch h'
  | .outgrown, _, _ => False
  | e, a, w => ∃ S h β, G M C n S h β a w ∧ Q e S h
def AWP (M : Mach) (n : Nat) (C : Ctx) (c : Code) (Q : Exit → AS → PH → Prop) (E : List PanicEntry → PH → Prop) (S : AS) (h : PH) : Prop :=
  ∀ β a w, G M C n S h β a w → c.wp M.P (LQ M n C Q E) a w
@[go_sem] def qs (next : AS → PH → Prop) (Q : Exit → AS → PH → Prop) : Exit → AS → PH → Prop
  | .normal => next
  | e => Q e
@[go_sem] def qb (id : Nat) (Q : Exit → AS → PH → Prop) : Exit → AS → PH → Prop
  | .exit k => if k = id then Q .normal else Q (.exit k)
  | e => Q e
section
variable {M : Mach} {C : Ctx} {n : Nat} {S : AS} {h : PH} {β : Nat → Nat} {a : Act} {w : World} {Q : Exit → AS → PH → Prop} {E : List PanicEntry → PH → Prop}
theorem lk_pub (i b : Nat) (l : List (Nat × AV)) (t : Nat) : lk (pubL i b l) t = pubV i b (lk l t) := by
  induction l with
  | nil => rfl
  | cons y l ih =>
    obtain ⟨k, x⟩ := y
    simp only [pubL, lk]
    cases (k == t) with
    | true => rfl
    | false => exact ih
theorem G.pub (g : G M C n S h β a w) {i : Nat} (hi : i < S.bx.length) :
    ∃ h', Sub h h' ∧ (S.box i ≠ [] → h' (β i) = some (S.box i).toArray) ∧ G M C n (S.pub i (β i)) h' β a w := by
  have hget : S.bx[i]? = some (S.box i) := by simp [AS.box, hi]
  have hslots : ∀ (h' : PH), ∀ t, Conc β (lk (S.pub i (β i)).sl t) (a.tmps.getD t undef) := fun _ t => by
    simp only [AS.pub, lk_pub]
    rcases g.slots t with hs | hs
    · rw [hs]; exact .inl rfl
    · refine .inr ?_
      rw [hs]
      cases hx : lk S.sl t with
      | top => rfl
      | v x => rfl
      | p j off =>
        simp only [pubV]
        cases hj : (j == i) with
        | true => obtain rfl : j = i := by simpa using hj
                  rfl
        | false => rfl
      | s j off len cap =>
        simp only [pubV]
        cases hj : (j == i) with
        | true => obtain rfl : j = i := by simpa using hj
                  rfl
        | false => rfl
  have hwf : ∀ t q, (lk (S.pub i (β i)).sl t).ix = some q → q < (S.pub i (β i)).bx.length := fun t q hq => by
    simp only [AS.pub, lk_pub, List.length_set] at hq ⊢
    refine g.wf t q ?_
    cases hx : lk S.sl t with
    | top => rw [hx] at hq; exact hq
    | v x => rw [hx] at hq; exact hq
    | p j off => rw [hx] at hq; simp only [pubV] at hq; cases hj : (j == i) <;> rw [hj] at hq <;> first | exact hq | cases hq
    | s j off len cap => rw [hx] at hq; simp only [pubV] at hq; cases hj : (j == i) <;> rw [hj] at hq <;> first | exact hq | cases hq
  have gk := g.kill i
  by_cases hne : S.box i = []
  · exact ⟨h, Sub.refl h, fun hx => (hx hne).elim, gk.size, gk.defers, gk.fine, gk.boxes, gk.inj, hslots h, hwf, gk.pin⟩
  · have hb := g.boxes i _ hget hne
    obtain ⟨T, hw⟩ := hb.row
    refine ⟨fun b => if b = β i then some (S.box i).toArray else h b, fun b cs hx => ?_, fun _ => by simp, gk.size, gk.defers, ⟨gk.fine.below, fun b cs hx => ?_, ?_, fun b hx => ?_, ?_⟩, fun j cj hj hn => ?_, gk.inj, hslots h, hwf, gk.pin⟩
    · have : b ≠ β i := fun e => by rw [e, hb.own] at hx; cases hx
      simp only [if_neg this]; exact hx
    · by_cases hbi : b = β i
      · subst hbi
        simp only [if_true, Option.some.injEq] at hx
        subst hx
        exact ⟨T, (0, 0), hw⟩
      · simp only [if_neg hbi] at hx; exact g.fine.has b cs hx
    · intro b cs hx
      have hx' := g.fine.sub b cs hx
      have : b ≠ β i := fun e => by rw [e, hb.own] at hx'; cases hx'
      simp only [if_neg this]; exact hx'
    · by_cases hbi : b = β i
      · subst hbi; exact .inr hb.old
      · simp only [if_neg hbi] at hx; exact g.fine.new b hx
    · intro b cs hx
      have hx' := g.fine.gl b cs hx
      have : b ≠ β i := fun e => by rw [e, hb.own] at hx'; cases hx'
      simp only [if_neg this]; exact hx'
    · have hj' : S.bx[j]? = some cj ∧ j ≠ i := by
        simp only [AS.pub] at hj
        by_cases hji : j = i
        · subst hji; rw [List.getElem?_set_self hi] at hj; exact (hn (Option.some.inj hj).symm).elim
        · rw [List.getElem?_set_ne (Ne.symm hji)] at hj; exact ⟨hj, hji⟩
      have hbj := g.boxes j cj hj'.1 hn
      have : β j ≠ β i := fun e => hj'.2 (g.inj j i _ _ hj'.1 hget hn hne e)
      exact ⟨hbj.row, hbj.old, by simp only [if_neg this]; exact hbj.own⟩
theorem LQ_panic (c : List PanicEntry) (a : Act) (d : Option Tmp) (v : Value) (w : World) (hq : LQ M n C Q E (.panic c) (Act.put a d v) w) : LQ M n C Q E (.panic c) a w := by
  cases d <;> exact hq
theorem wanted_none {ops : Array Oper} {o : Oper} (hg : o.guard = none) (tmps : Array Value) : Region.wanted o (yielded ops tmps) = true := by
  simp [Region.wanted, hg]
theorem gOf_some {ops : Array Oper} {o : Oper} {t : Nat} {want : Bool} (hg : gOf ops o = some (some (t, want))) : ∃ j, o.guard = some (j, want) ∧ (ops[j]?).bind (·.dst) = some t := by
  unfold gOf at hg
  split at hg
  · cases hg
  · rename_i j want' hgd
    split at hg
    · rename_i t' ht
      cases hg
      exact ⟨j, hgd, by rw [← nth_arr]; exact ht⟩
    · cases hg
theorem gOf_none {ops : Array Oper} {o : Oper} (hg : gOf ops o = some none) : o.guard = none := by
  unfold gOf at hg
  split at hg
  · assumption
  · split at hg <;> cases hg
theorem wanted_bool (g : G M C n S h β a w) {ops : Array Oper} {o : Oper} {j t : Nat} {want b : Bool} (hg : o.guard = some (j, want)) (ht : (ops[j]?).bind (·.dst) = some t) (hs : lk S.sl t = .v (.bool b)) :
    Region.wanted o (yielded ops a.tmps) = (b == want) := by
  have hv : a.tmps.getD t undef = .bool b := by rcases g.slots t with h | h <;> rw [hs] at h <;> first | cases h | exact h
  have hlt : t < a.tmps.size := by
    rcases Nat.lt_or_ge t a.tmps.size with h | h
    · exact h
    · rw [Array.getD_eq_getD_getElem?, Array.getElem?_eq_none h] at hv; cases hv
  have hv' : a.tmps[t]? = some (.bool b) := by
    rw [Array.getElem?_eq_getElem hlt]
    congr 1
    simpa [hlt] using hv
  simp only [Region.wanted, hg, yielded, ht, Option.bind_some, hv']
  cases b <;> cases want <;> rfl
theorem wanted_tuple (g : G M C n S h β a w) {ops : Array Oper} {o : Oper} {j t : Nat} {want : Bool} {vs : Array Value} (hg : o.guard = some (j, want)) (ht : (ops[j]?).bind (·.dst) = some t) (hs : lk S.sl t = .v (.tuple vs)) :
    Region.wanted o (yielded ops a.tmps) = false := by
  have hv : a.tmps.getD t undef = .tuple vs := by rcases g.slots t with h | h <;> rw [hs] at h <;> first | cases h | exact h
  simp only [Region.wanted, hg, yielded, ht, Option.bind_some]
  cases hx : a.tmps[t]? with
  | none => rfl
  | some u =>
    have : u = .tuple vs := by simpa [Array.getD_eq_getD_getElem?, hx] using hv
    subst this
    rfl
theorem RWc_of_walk {ops : Array Oper} : ∀ (pl : List PL) (l : List GX) (S : AS) (h : PH) (β : Nat → Nat) (a : Act) (w : World), prep n ops pl = some l → walk M E l (fun S h => Q .normal S h) S h → G M C n S h β a w →
    RWc M.P ops (LQ M n C Q E) (order pl) a w := by
  intro pl
  induction pl with
  | nil => intro l S h β a w hl hw g; cases hl; exact ⟨S, h, β, g, hw⟩
  | cons x pl ih =>
    intro l S h β a w hl hw g
    cases x with
    | p i =>
      simp only [prep] at hl
      cases hp : prep n ops pl with
      | none => rw [hp] at hl; cases hl
      | some l' =>
        rw [hp] at hl; cases hl
        simp only [walk, pubA] at hw
        obtain ⟨h', hs, hc, g'⟩ := g.pub hw.1
        exact ih l' _ _ β a w hp (hw.2 (β i) h' ⟨hs⟩ hc) g'
    | o i =>
      simp only [prep, nth_arr] at hl
      cases ho : ops[i]? with
      | none => rw [ho] at hl; cases hl
      | some o =>
        rw [ho] at hl
        dsimp only at hl
        cases hg : gOf ops o with
        | none => rw [hg] at hl; cases hl
        | some gd =>
          rw [hg] at hl
          dsimp only at hl
          cases hd : (o.dst.all (Nat.blt · n)) with
          | false => rw [hd] at hl; cases hl
          | true =>
            rw [hd] at hl
            cases hp : prep n ops pl with
            | none => rw [hp] at hl; cases hl
            | some l' =>
              rw [hp] at hl; cases hl
              have hdst : ∀ k, o.dst = some k → k < n := fun k hk => by rw [hk] at hd; simpa [Nat.blt_eq] using hd
              have hstep : step1 M E ⟨o.dst, o.op, gd⟩ (walk M E l' fun S h => Q .normal S h) S h → Region.wanted o (yielded ops a.tmps) = true → RWc M.P ops (LQ M n C Q E) (i :: order pl) a w := by
                intro hst hwant
                simp only [step1] at hst
                by_cases hc : cls o.op = 0
                · have hcb : (cls o.op == 0) = true := by simpa using hc
                  rw [hcb, cond_true] at hst
                  rw [RWc_reader ho hc]
                  obtain ⟨v, x, hr, hx, hix, hk⟩ := rd_sound (o := o) g hst
                  exact ⟨v, .inl ⟨hwant, fun w' hb => hr w' (g.below hb)⟩, ih l' _ _ β _ w hp hk (g.put hdst hx hix)⟩
                · have hcb : (cls o.op == 0) = false := by simpa using hc
                  rw [hcb, cond_false] at hst
                  rw [RWc_impure ho hc, if_pos hwant]
                  have := im_sound (o := o) g hdst hst (LQ M n C Q E) (fun ch h' w' hf he => ⟨g.defers, h', hf, he⟩)
                  exact wp_mono' (fun a' w' ⟨h1, S', h', x, β', g', hk⟩ => ⟨h1, ih l' _ _ β' a' w' hp hk g'⟩) this
              have hskip : walk M E l' (fun S h => Q .normal S h) (S.put o.dst (.v undef)) h → Region.wanted o (yielded ops a.tmps) = false → RWc M.P ops (LQ M n C Q E) (i :: order pl) a w := by
                intro hst hwant
                have hn : ¬ Region.wanted o (yielded ops a.tmps) = true := by rw [hwant]; simp
                simp only [RWc, ho, if_neg hn]
                exact ih l' _ _ β _ w hp hst (g.put hdst (.inr rfl) (fun i hi => by cases hi))
              simp only [walk] at hw
              cases gd with
              | none => exact hstep hw (wanted_none (gOf_none hg) _)
              | some tw =>
                obtain ⟨t, want⟩ := tw
                obtain ⟨j, hj1, hj2⟩ := gOf_some hg
                dsimp only at hw
                split at hw
                · rename_i b hb
                  have hwb := wanted_bool g hj1 hj2 hb
                  by_cases hbw : b = want
                  · exact hstep (hw.1 hbw) (by rw [hwb]; simpa using hbw)
                  · exact hskip (hw.2 (by cases b <;> cases want <;> simp_all)) (by rw [hwb]; simpa using hbw)
                · rename_i vs hb
                  exact hskip hw (wanted_tuple g hj1 hj2 hb)
                · exact hw.elim
theorem order_plain (n : Nat) : order (plain n) = List.range n := by
  unfold plain
  induction List.range n with
  | nil => rfl
  | cons x l ih => simp [order, ih]
/-- A region in the text's order. -/
theorem AWP_s {id : Nat} {ops : Array Oper} {l : List GX} (hl : prep n ops (plain ops.size) = some l) (hw : walk M E l (fun S h => Q .normal S h) S h) : AWP M n C (.region id ops false) Q E S h :=
  fun β a w g => wp_region_s (by rw [← order_plain]; exact RWc_of_walk _ l S h β a w hl hw g)
/-- A region in the text's order, rows made shared on the way. -/
theorem AWP_sp {id : Nat} {ops : Array Oper} {l : List GX} (pl : List PL) (ho : order pl = List.range ops.size) (hl : prep n ops pl = some l) (hw : walk M E l (fun S h => Q .normal S h) S h) : AWP M n C (.region id ops false) Q E S h :=
  fun β a w g => wp_region_s (by rw [← ho]; exact RWc_of_walk _ l S h β a w hl hw g)
/-- A region that draws its order. -/
theorem AWP_d {id : Nat} {ops : Array Oper} {l : List GX} (pl : List PL) (hc : regionOk ops (order pl) = true) (hl : prep n ops pl = some l) (hw : walk M E l (fun S h => Q .normal S h) S h) : AWP M n C (.region id ops true) Q E S h :=
  fun β a w g => wp_region_c M.mixed (order pl) hc (fun c a d v w => LQ_panic c a d v w) (RWc_of_walk pl l S h β a _ hl hw (g.below (below_drew w)))
theorem AWP_seq {x y : Code} (hx : AWP M n C x (qs (fun S h => AWP M n C y Q E S h) Q) E S h) : AWP M n C (.seq x y) Q E S h :=
  fun β a w g => wp_seq (wp_mono (hx β a w g) fun e a' w' hq => by
    cases e with
    | normal => obtain ⟨S', h', β', g', hk⟩ := hq; exact hk β' a' w' g'
    | _ => exact hq)
/-- The same with what follows behind a letter, so that no tactic goes through its code. -/
theorem AWP_rs {id : Nat} {ops : Array Oper} {l : List GX} {y : Code} (hl : prep n ops (plain ops.size) = some l) (hw : ∀ K : AS → PH → Prop, (∀ S h, AWP M n C y Q E S h → K S h) → walk M E l K S h) : AWP M n C (.seq (.region id ops false) y) Q E S h :=
  AWP_seq (AWP_s hl (hw _ fun _ _ h => h))
theorem AWP_rsp {id : Nat} {ops : Array Oper} {l : List GX} {y : Code} (pl : List PL) (ho : order pl = List.range ops.size) (hl : prep n ops pl = some l) (hw : ∀ K : AS → PH → Prop, (∀ S h, AWP M n C y Q E S h → K S h) → walk M E l K S h) : AWP M n C (.seq (.region id ops false) y) Q E S h :=
  AWP_seq (AWP_sp pl ho hl (hw _ fun _ _ h => h))
theorem AWP_rd {id : Nat} {ops : Array Oper} {l : List GX} {y : Code} (pl : List PL) (hc : regionOk ops (order pl) = true) (hl : prep n ops pl = some l) (hw : ∀ K : AS → PH → Prop, (∀ S h, AWP M n C y Q E S h → K S h) → walk M E l K S h) : AWP M n C (.seq (.region id ops true) y) Q E S h :=
  AWP_seq (AWP_d pl hc hl (hw _ fun _ _ h => h))
theorem AWP_seqk {x y : Code} (hx : ∀ K : AS → PH → Prop, (∀ S h, AWP M n C y Q E S h → K S h) → AWP M n C x (qs K Q) E S h) : AWP M n C (.seq x y) Q E S h :=
  AWP_seq (hx _ fun _ _ h => h)
theorem AWP_rdp {id : Nat} {ops : Array Oper} {l : List GX} {y : Code} (hc : regionOk ops (List.range ops.size) = true) (hl : prep n ops (plain ops.size) = some l) (hw : ∀ K : AS → PH → Prop, (∀ S h, AWP M n C y Q E S h → K S h) → walk M E l K S h) : AWP M n C (.seq (.region id ops true) y) Q E S h :=
  AWP_rd (plain ops.size) (by rw [order_plain]; exact hc) hl hw
theorem AWP_dkp {id : Nat} {ops : Array Oper} {l : List GX} (hc : regionOk ops (List.range ops.size) = true) (hl : prep n ops (plain ops.size) = some l) (hw : walk M E l (Q .normal) S h) : AWP M n C (.region id ops true) Q E S h :=
  AWP_d (plain ops.size) (by rw [order_plain]; exact hc) hl hw
theorem AWP_sqs {u v y : Code} (hx : ∀ K : AS → PH → Prop, (∀ S h, AWP M n C y Q E S h → K S h) → AWP M n C (.seq u v) (qs K Q) E S h) : AWP M n C (.seq (.seq u v) y) Q E S h := AWP_seqk hx
theorem AWP_sqb {id : Nat} {u y : Code} (hx : ∀ K : AS → PH → Prop, (∀ S h, AWP M n C y Q E S h → K S h) → AWP M n C (.block id u) (qs K Q) E S h) : AWP M n C (.seq (.block id u) y) Q E S h := AWP_seqk hx
theorem AWP_sqc {c : Operand} {u v y : Code} (hx : ∀ K : AS → PH → Prop, (∀ S h, AWP M n C y Q E S h → K S h) → AWP M n C (.cond c u v) (qs K Q) E S h) : AWP M n C (.seq (.cond c u v) y) Q E S h := AWP_seqk hx
theorem AWP_sk {id : Nat} {ops : Array Oper} {l : List GX} (hl : prep n ops (plain ops.size) = some l) (hw : walk M E l (Q .normal) S h) : AWP M n C (.region id ops false) Q E S h := AWP_s hl hw
theorem AWP_dk {id : Nat} {ops : Array Oper} {l : List GX} (pl : List PL) (hc : regionOk ops (order pl) = true) (hl : prep n ops pl = some l) (hw : walk M E l (Q .normal) S h) : AWP M n C (.region id ops true) Q E S h := AWP_d pl hc hl hw
theorem AWP_cond {c : Operand} {x y : Code} {t : Bool} (hc : S.ev c = .v (.bool t)) (h1 : t = true → AWP M n C x Q E S h) (h2 : t = false → AWP M n C y Q E S h) : AWP M n C (.cond c x y) Q E S h :=
  fun β a w g => wp_cond_split (g.ev_v hc) (fun ht => h1 ht β a w g) (fun ht => h2 ht β a w g)
theorem AWP_condT {c : Operand} {x y : Code} (hc : S.ev c = .v (.bool true)) (h1 : AWP M n C x Q E S h) : AWP M n C (.cond c x y) Q E S h := AWP_cond hc (fun _ => h1) (fun e => by cases e)
theorem AWP_condF {c : Operand} {x y : Code} (hc : S.ev c = .v (.bool false)) (h1 : AWP M n C y Q E S h) : AWP M n C (.cond c x y) Q E S h := AWP_cond hc (fun e => by cases e) (fun _ => h1)
theorem AWP_block {id : Nat} {x : Code} (hx : AWP M n C x (qb id Q) E S h) : AWP M n C (.block id x) Q E S h :=
  fun β a w g => wp_block (wp_mono (hx β a w g) fun e a' w' hq => by
    cases e with
    | exit k =>
      obtain ⟨S', h', β', g', hk⟩ := hq
      simp only [qb] at hk
      simp only [Exit.inBlock]
      split
      · rename_i hki; rw [if_pos hki] at hk; exact ⟨S', h', β', g', hk⟩
      · rename_i hki; rw [if_neg hki] at hk; exact ⟨S', h', β', g', hk⟩
    | _ => exact hq)
theorem AWP_exit {id : Nat} (hq : Q (.exit id) S h) : AWP M n C (.exit id) Q E S h := fun β _ _ g => wp_exit ⟨S, h, β, g, hq⟩
theorem AWP_ret (hq : Q .ret S h) : AWP M n C .ret Q E S h := fun β _ _ g => wp_ret ⟨S, h, β, g, hq⟩
theorem AWP_skip (hq : Q .normal S h) : AWP M n C .skip Q E S h := fun β _ _ g => wp_skip ⟨S, h, β, g, hq⟩
theorem AWP_pub {c : Code} (i : Nat) (hk : pubA S h i (fun S h => AWP M n C c Q E S h)) : AWP M n C c Q E S h := fun β a w g => by
  obtain ⟨h', hs, hc, g'⟩ := g.pub hk.1
  exact hk.2 (β i) h' ⟨hs⟩ hc β a w g'
/-- What the given heap holds. -/
theorem AWP_gl {c : Code} (hk : Sub M.gl h → AWP M n C c Q E S h) : AWP M n C c Q E S h := fun β a w g => hk g.fine.gl β a w g
/-! ### What is forgotten -/
@[go_sem] def leL (S : AS) : List (Nat × AV) → Prop
  | [] => True
  | (t, x) :: l => lk S.sl t = x ∧ leL S l
@[go_sem] def leB : List (List Value) → List (List Value) → Prop
  | [], _ => True
  | cs :: r, ds :: r' => (cs = [] ∨ ds = cs) ∧ leB r r'
  | _ :: _, [] => False
@[go_sem] def wfL (m : Nat) : List (Nat × AV) → Bool
  | [] => true
  | (_, x) :: l => (match x with | .p i _ => Nat.blt i m | .s i _ _ _ => Nat.blt i m | _ => true) && wfL m l
/-- S' says no more than S. -/
@[go_sem] def AS.le (S S' : AS) : Prop := leL S S'.sl ∧ leB S'.bx S.bx ∧ wfL S'.bx.length S'.sl = true
theorem leL_lk {S : AS} : ∀ {l : List (Nat × AV)}, leL S l → ∀ t, lk l t = .top ∨ lk l t = lk S.sl t
  | [], _, _ => .inl rfl
  | (k, x) :: l, hl, t => by
    simp only [leL] at hl
    simp only [lk]
    cases hk : (k == t) with
    | true => obtain rfl : k = t := by simpa using hk
              exact .inr hl.1.symm
    | false => exact leL_lk hl.2 t
theorem leB_get : ∀ {b b' : List (List Value)}, leB b b' → b.length ≤ b'.length ∧ ∀ (i : Nat) (cs : List Value), b[i]? = some cs → cs ≠ [] → b'[i]? = some cs
  | [], _, _ => ⟨by simp, fun i cs hi => by simp at hi⟩
  | cs :: r, ds :: r', hl => by
    simp only [leB] at hl
    have ih := leB_get hl.2
    refine ⟨by simp; exact ih.1, fun i c hi hn => ?_⟩
    cases i with
    | zero => simp at hi ⊢; subst hi; exact hl.1.resolve_left hn
    | succ i => simp at hi ⊢; exact ih.2 i c hi hn
  | _ :: _, [], hl => (hl : False).elim
theorem wfL_lk {m : Nat} : ∀ {l : List (Nat × AV)}, wfL m l = true → ∀ t i, (lk l t).ix = some i → i < m
  | [], _, t, i, hi => by cases hi
  | (k, x) :: l, hl, t, i, hi => by
    simp only [wfL, Bool.and_eq_true] at hl
    simp only [lk] at hi
    cases hk : (k == t) with
    | true =>
      rw [hk] at hi
      have h1 := hl.1
      cases x with
      | p j off => simp only [cond_true, AV.ix, Option.some.injEq] at hi; subst hi; simpa [Nat.blt_eq] using h1
      | s j off len cap => simp only [cond_true, AV.ix, Option.some.injEq] at hi; subst hi; simpa [Nat.blt_eq] using h1
      | v x => cases hi
      | top => cases hi
    | false => rw [hk] at hi; exact wfL_lk hl.2 t i hi
theorem G.weaken (g : G M C n S h β a w) {S' : AS} (hle : S.le S') (hp : C.pin.length ≤ S'.bx.length) : G M C n S' h β a w := by
  obtain ⟨h1, h2, h3⟩ := hle
  have hb := leB_get h2
  refine ⟨g.size, g.defers, g.fine, fun i cs hi hc => g.boxes i cs (hb.2 i cs hi hc) hc, fun i j ci cj hi hj hci hcj => g.inj i j ci cj (hb.2 i ci hi hci) (hb.2 j cj hj hcj) hci hcj, fun t => ?_, wfL_lk h3, hp, g.pin.2⟩
  rcases leL_lk h1 t with hx | hx
  · exact .inl hx
  · rw [hx]; exact g.slots t
theorem NoPin.le [NoPin C] (l : List (List Value)) : C.pin.length ≤ l.length := by rw [NoPin.nil]; exact Nat.zero_le _
theorem AWP_le [NoPin C] {c : Code} (S' : AS) (hle : S.le S') (hk : AWP M n C c Q E S' h) : AWP M n C c Q E S h := fun β a w g => hk β a w (g.weaken hle (NoPin.le _))
theorem AWP_leP {c : Code} (S' : AS) (hp : C.pin.length ≤ S'.bx.length) (hle : S.le S') (hk : AWP M n C c Q E S' h) : AWP M n C c Q E S h := fun β a w g => hk β a w (g.weaken hle hp)
theorem AWP_mono {c : Code} {Q' : Exit → AS → PH → Prop} (hk : AWP M n C c Q E S h) (hq : ∀ e S h, Q e S h → Q' e S h) : AWP M n C c Q' E S h := fun β a w g =>
  wp_mono (hk β a w g) fun e a' w' hx => by
    cases e with
    | panic ch => exact hx
    | outgrown => exact hx
    | _ => obtain ⟨S', h', β', g', hx⟩ := hx; exact ⟨S', h', β', g', hq _ _ _ hx⟩
/-- A loop: states St x with what holds of x; each round lowers m. -/
theorem AWP_loopP {ι : Type} {c : Code} (St : ι → AS) (Inv : ι → PH → Prop) (m : ι → Nat) (x0 : ι) (hp : ∀ x, C.pin.length ≤ (St x).bx.length) (hS : S.le (St x0)) (h0 : Inv x0 h)
    (round : ∀ x h, Inv x h → AWP M n C c (qs (fun S' h' => ∃ y, S'.le (St y) ∧ Inv y h' ∧ m y < m x) Q) E (St x) h) : AWP M n C (.loop c) Q E S h := fun β a w g => by
  refine wp_loop_ghost (fun k a w => ∃ x h β, m x = k ∧ Inv x h ∧ G M C n (St x) h β a w) (m x0) ⟨x0, h, β, rfl, h0, g.weaken hS (hp _)⟩ ?_
  rintro k a w ⟨x, h, β, rfl, hi, g⟩
  refine wp_mono (round x h hi β a w g) fun e a' w' hq => ?_
  cases e with
  | normal =>
    obtain ⟨S', h', β', g', y, hle, hy, hlt⟩ := hq
    exact ⟨m y, hlt, y, h', β', rfl, hy, g'.weaken hle (hp _)⟩
  | _ => exact hq
theorem AWP_loop [NoPin C] {ι : Type} {c : Code} (St : ι → AS) (Inv : ι → PH → Prop) (m : ι → Nat) (x0 : ι) (hS : S.le (St x0)) (h0 : Inv x0 h)
    (round : ∀ x h, Inv x h → AWP M n C c (qs (fun S' h' => ∃ y, S'.le (St y) ∧ Inv y h' ∧ m y < m x) Q) E (St x) h) : AWP M n C (.loop c) Q E S h :=
  AWP_loopP St Inv m x0 (fun _ => NoPin.le _) hS h0 round
/-! ### A function's contract -/
@[go_sem] def res1 (P : Program) (S : AS) : ResultVar → Option Value
  | .tmp t => match lk S.sl t with
    | .v x => some x
    | _ => none
  | .cell t T => match lk S.sl t, tk P T with
    | .p i off, some k => ldb k (S.box i) off
    | _, _ => none
@[go_sem] def resL (P : Program) (S : AS) : List ResultVar → Option (List Value)
  | [] => some []
  | r :: rs => match res1 P S r, resL P S rs with
    | some v, some vs => some (v :: vs)
    | _, _ => none
@[go_sem] def resA (P : Program) (S : AS) (rs : List ResultVar) : Option Value := match resL P S rs with
  | some [v] => some v
  | some vs => some (.tuple vs.toArray)
  | none => none
@[go_sem] def rq (P : Program) (rs : List ResultVar) (R : Value → PH → Prop) : Exit → AS → PH → Prop
  | .normal, S, h => opt (resA P S rs) fun v => R v h
  | .ret, S, h => opt (resA P S rs) fun v => R v h
  | _, _, _ => False
def rv (tmps : Array Value) : ResultVar → Sem Value
  | .tmp t => pure (tmps.getD t undef)
  | .cell x t => do loadVar t (← asAddr (tmps.getD x undef))
theorem res_run1 (g : G M C n S h β a w) {r : ResultVar} {v : Value} (hr : res1 M.P S r = some v) : (rv a.tmps r).run M.P w = .ok v w := by
  cases r with
  | tmp t =>
    simp only [res1] at hr
    split at hr
    · rename_i x hx
      cases hr
      rcases g.slots t with hs | hs <;> rw [hx] at hs
      · cases hs
      · simp only [rv, hs, cv, Sem.run_pure]
    · cases hr
  | cell t T =>
    simp only [res1] at hr
    split at hr
    · rename_i i off k hx hk
      have hi : i < S.bx.length := g.wf t i (by rw [hx]; rfl)
      rcases g.slots t with hs | hs <;> rw [hx] at hs
      · cases hs
      · simp only [rv, hs, cv, Sem.run_bind, asAddr, Sem.run_pure, Result.andThen_ok]
        cases k with
        | none => exact run_loadVar_one hk (g.box_get hi hr)
        | some m =>
          simp only [ldb] at hr
          cases hb : Nat.ble (off + m) (S.box i).length with
          | false => rw [hb] at hr; cases hr
          | true =>
            rw [hb] at hr
            cases hr
            have hle : off + m ≤ (S.box i).length := Nat.le_of_ble_eq_true hb
            refine run_loadVar_agg (cs := ((S.box i).drop off).take m) hk (by simp; omega) (fun j v hj => ?_)
            rw [add_none]
            refine g.box_get hi ?_
            rw [List.getElem?_take] at hj
            split at hj
            · rw [List.getElem?_drop] at hj; exact hj
            · cases hj
    · cases hr
theorem res_runL (g : G M C n S h β a w) : ∀ (rs : List ResultVar) (vs : List Value), resL M.P S rs = some vs → (rs.mapM (m := Sem) (rv a.tmps)).run M.P w = .ok vs w := by
  intro rs
  induction rs with
  | nil => intro vs hv; cases hv; rfl
  | cons r rs ih =>
    intro vs hv
    simp only [resL] at hv
    split at hv
    · rename_i v vs' h1 h2
      cases hv
      rw [List.mapM_cons]
      simp only [Sem.run_bind, res_run1 g h1, Result.andThen_ok, ih _ h2, Sem.run_pure]
    · cases hv
theorem res_run (g : G M C n S h β a w) {fn : Func} {v : Value} (hr : resA M.P S fn.results.toList = some v) : (results fn a.tmps).run M.P w = .ok v w := by
  unfold resA at hr
  have key : ∀ vs, resL M.P S fn.results.toList = some vs → (results fn a.tmps).run M.P w = .ok (if h : vs.toArray.size = 1 then vs.toArray[0] else .tuple vs.toArray) w := by
    intro vs hvs
    have e : results fn a.tmps = (do let vs ← fn.results.mapM (rv a.tmps); pure (if h : vs.size = 1 then vs[0] else .tuple vs) : Sem Value) := rfl
    rw [e, ← Array.toArray_toList (xs := fn.results), List.mapM_toArray]
    have := res_runL g _ vs hvs
    simp only [Sem.run_bind, Sem.run_map, this, Result.andThen_ok, Sem.run_pure]
  split at hr
  · rename_i v' hv
    cases hr
    rw [key _ hv]; rfl
  · rename_i vs hne hvs
    cases hr
    rw [key _ hvs]
    have : ¬ vs.toArray.size = 1 := by
      intro h1
      obtain ⟨v, rfl⟩ := List.length_eq_one_iff.1 (by simpa using h1)
      exact hne v rfl
    rw [dif_neg this]
  · cases hr
@[go_sem] def argS (i : Nat) : List Value → List (Nat × AV)
  | [] => []
  | v :: vs => (i, .v v) :: argS (i + 1) vs
theorem lk_argS : ∀ (vs : List Value) (i t : Nat), lk (argS i vs) t = if h : i ≤ t ∧ t - i < vs.length then .v (vs[t - i]'h.2) else .top := by
  intro vs
  induction vs with
  | nil => intro i t; simp [argS, lk]
  | cons v vs ih =>
    intro i t
    simp only [argS, lk]
    by_cases hit : i = t
    · subst hit; simp
    · have : (i == t) = false := by simpa using hit
      rw [this, cond_false, ih]
      by_cases hc : i + 1 ≤ t ∧ t - (i + 1) < vs.length
      · have hc' : i ≤ t ∧ t - i < (v :: vs).length := by simp; omega
        rw [dif_pos hc, dif_pos hc']
        congr 1
        have he : t - i = (t - (i + 1)) + 1 := by omega
        simp only [he, List.getElem_cons_succ]
      · have hc' : ¬ (i ≤ t ∧ t - i < (v :: vs).length) := by simp; omega
        rw [dif_neg hc, dif_neg hc']
/-- A contract out of the body's walk. -/
theorem Spec.enter {f : FuncId} {fn : Func} {c : Code} {args : List Value} {R : Value → PH → Prop} (hf : M.P.funcs[f]? = some fn) (hb : fn.body = some c) (hok : callable M.P f = true) (hn : fn.ntmps = n) (ha : args.length ≤ n) (rs : List ResultVar) (hr : fn.results = rs.toArray)
    (hk : ∀ C [NoPin C], AWP M n C c (rq M.P rs R) E ⟨argS 0 args, []⟩ h) : Spec M f args.toArray h R E := ⟨hok, fun w hw hg => by
  obtain rfl : fn.results.toList = rs := by rw [hr]
  refine calls_of_wp hf hb ?_
  have g : G M ⟨w, h, [], []⟩ n ⟨argS 0 args, []⟩ h (fun _ => 0) { tmps := args.toArray ++ Array.replicate (fn.ntmps - args.toArray.size) undef, defers := [] } w := by
    refine ⟨by simp; omega, rfl, ⟨Below.refl _ _, hw, Sub.refl h, New.refl _ h, hg⟩, fun i cs hi => by simp at hi, fun i j ci cj hi => by simp at hi, fun t => ?_, fun t i hi => ?_, Nat.zero_le _, fun i hi => by cases hi⟩
    · rw [lk_argS]
      split
      · rename_i hc
        refine .inr ?_
        simp only [Nat.sub_zero, List.length_cons] at hc ⊢
        have hlt : t < args.toArray.size := by simpa using hc.2
        simp only [cv, Array.getD_eq_getD_getElem?, Array.getElem?_append_left hlt]
        simp [hc.2]
      · exact .inl rfl
    · rw [lk_argS] at hi
      split at hi <;> cases hi
  haveI : NoPin ⟨w, h, [], []⟩ := ⟨rfl⟩
  refine wp_mono (hk ⟨w, h, [], []⟩ _ _ w g) fun e a w' hq => ?_
  cases e with
  | panic ch =>
    obtain ⟨hd, h', hfine, he⟩ := hq
    exact ⟨hd, h', hfine.below, hfine.has, hfine.sub, hfine.new, he⟩
  | outgrown => exact (hq : False).elim
  | normal =>
    obtain ⟨S', h', β', g', hq⟩ := hq
    obtain ⟨v, hv, hr⟩ := opt_iff.1 hq
    exact ⟨g'.defers, v, res_run g' hv, h', g'.fine.below, g'.fine.has, g'.fine.sub, g'.fine.new, hr⟩
  | ret =>
    obtain ⟨S', h', β', g', hq⟩ := hq
    obtain ⟨v, hv, hr⟩ := opt_iff.1 hq
    exact ⟨g'.defers, v, res_run g' hv, h', g'.fine.below, g'.fine.has, g'.fine.sub, g'.fine.new, hr⟩
  | exit id => obtain ⟨S', h', β', g', hq⟩ := hq; exact (hq : False).elim
  | goto l => obtain ⟨S', h', β', g', hq⟩ := hq; exact (hq : False).elim⟩
/-! ### Contracts of functions that write a caller's row, or leave one -/
theorem Fine.re {C' : Ctx} (f : Fine M C h w) (h1 : C'.w0 = C.w0) (h2 : C'.h0 = C.h0) : Fine M C' h w := ⟨by rw [h1]; exact f.below, f.has, by rw [h2]; exact f.sub, by rw [h1, h2]; exact f.new, f.gl⟩
theorem BoxAt.re {C' : Ctx} {b : Nat} {cs : List Value} (x : BoxAt C h w b cs) (h1 : C'.w0 = C.w0) : BoxAt C' h w b cs := ⟨x.row, by rw [h1]; exact x.old, x.own⟩
@[go_sem] def argV (i : Nat) : List AV → List (Nat × AV)
  | [] => []
  | v :: vs => (i, v) :: argV (i + 1) vs
theorem lk_argV : ∀ (vs : List AV) (i t : Nat), lk (argV i vs) t = if h : i ≤ t ∧ t - i < vs.length then vs[t - i]'h.2 else .top := by
  intro vs
  induction vs with
  | nil => intro i t; simp [argV, lk]
  | cons v vs ih =>
    intro i t
    simp only [argV, lk]
    by_cases hit : i = t
    · subst hit; simp
    · have : (i == t) = false := by simpa using hit
      rw [this, cond_false, ih]
      by_cases hc : i + 1 ≤ t ∧ t - (i + 1) < vs.length
      · have hc' : i ≤ t ∧ t - i < (v :: vs).length := by simp; omega
        rw [dif_pos hc, dif_pos hc']
        have he : t - i = (t - (i + 1)) + 1 := by omega
        simp only [he, List.getElem_cons_succ]
      · have hc' : ¬ (i ≤ t ∧ t - i < (v :: vs).length) := by simp; omega
        rw [dif_neg hc, dif_neg hc']
/-- What holds at the end of a function that wrote box 0. -/
@[go_sem] def rqL (P : Program) (rs : List ResultVar) (rest : List (List Value)) (h0 : PH) (R : Value → List Value → PH → Prop) : Exit → AS → PH → Prop
  | .normal, S, h => opt (resA P S rs) fun v => leB (S.box 0 :: rest) S.bx ∧ Le h0 h ∧ R v (S.box 0) h
  | .ret, S, h => opt (resA P S rs) fun v => leB (S.box 0 :: rest) S.bx ∧ Le h0 h ∧ R v (S.box 0) h
  | _, _, _ => False
theorem SpecL.enter {f : FuncId} {fn : Func} {c : Code} {args : List AV} {row : List Value} {R : Value → List Value → PH → Prop} (hf : M.P.funcs[f]? = some fn) (hb : fn.body = some c) (hok : callable M.P f = true) (hn : fn.ntmps = n) (ha : args.length ≤ n) (hw : wfL 1 (argV 0 args) = true) (rs : List ResultVar) (hr : fn.results = rs.toArray)
    (hk : ∀ (C : Ctx) (rest : List (List Value)), C.pin.length = rest.length + 1 → AWP M n C c (rqL M.P rs rest h R) NP ⟨argV 0 args, row :: rest⟩ h) : SpecL M f args row h R := ⟨hok, fun C β rest w hfine hrows => by
  obtain rfl : fn.results.toList = rs := by rw [hr]
  refine calls_of_wp hf hb ?_
  have hlen : (List.map β (List.range (rest.length + 1))).length = rest.length + 1 := by simp
  have hpin : ∀ i, i < rest.length + 1 → (List.map β (List.range (rest.length + 1))).getD i 0 = β i := fun i hi => by simp [hi]
  have g : G M ⟨C.w0, C.h0, (List.range (rest.length + 1)).map β, []⟩ n ⟨argV 0 args, row :: rest⟩ h β { tmps := (args.map (cv β)).toArray ++ Array.replicate (fn.ntmps - (args.map (cv β)).toArray.size) undef, defers := [] } w := by
    refine ⟨by simp; omega, rfl, hfine.re rfl rfl, fun i cs hi hc => (hrows.at_ i cs hi hc).re rfl, hrows.inj, fun t => ?_, fun t i hi => ?_, by rw [hlen]; simp, fun i hi => (hpin i (by rw [hlen] at hi; exact hi)).symm⟩
    · rw [lk_argV]
      split
      · rename_i hc
        refine .inr ?_
        simp only [Nat.sub_zero] at hc ⊢
        have hlt : t < (args.map (cv β)).toArray.size := by simpa using hc.2
        simp only [Array.getD_eq_getD_getElem?, Array.getElem?_append_left hlt]
        simp [hc.2]
      · exact .inl rfl
    · have := wfL_lk hw t i hi
      simp; omega
  refine wp_mono (hk ⟨C.w0, C.h0, _, []⟩ rest hlen _ _ w g) fun e a w' hq => ?_
  have fin : ∀ {S' : AS} {h' : PH} {β' : Nat → Nat}, G M ⟨C.w0, C.h0, (List.range (rest.length + 1)).map β, []⟩ n S' h' β' a w' → leB (S'.box 0 :: rest) S'.bx → Rows C h' w' β (S'.box 0 :: rest) := by
    intro S' h' β' g' hle
    have hb := leB_get hle
    have hlt : ∀ (i : Nat) (cs : List Value), (S'.box 0 :: rest)[i]? = some cs → β' i = β i := fun i cs hi => by
      have : i < (S'.box 0 :: rest).length := (List.getElem?_eq_some_iff.1 hi).1
      have hi' : i < rest.length + 1 := by simpa using this
      rw [g'.pin.2 i (by rw [hlen]; exact hi'), hpin i hi']
    refine ⟨fun i cs hi hc => ?_, fun i j ci cj hi hj hci hcj hij => ?_⟩
    · rw [← hlt i cs hi]; exact (g'.boxes i cs (hb.2 i cs hi hc) hc).re rfl
    · rw [← hlt i ci hi, ← hlt j cj hj] at hij
      exact g'.inj i j ci cj (hb.2 i ci hi hci) (hb.2 j cj hj hcj) hci hcj hij
  cases e with
  | panic ch =>
    obtain ⟨hd, h', hfine, he⟩ := hq
    exact (he : False).elim
  | outgrown => exact (hq : False).elim
  | normal =>
    obtain ⟨S', h', β', g', hq⟩ := hq
    obtain ⟨v, hv, hle, hl, hr⟩ := opt_iff.1 hq
    exact ⟨g'.defers, v, res_run g' hv, S'.box 0, h', g'.fine.re rfl rfl, hl.sub, fin g' hle, hr⟩
  | ret =>
    obtain ⟨S', h', β', g', hq⟩ := hq
    obtain ⟨v, hv, hle, hl, hr⟩ := opt_iff.1 hq
    exact ⟨g'.defers, v, res_run g' hv, S'.box 0, h', g'.fine.re rfl rfl, hl.sub, fin g' hle, hr⟩
  | exit id => obtain ⟨S', h', β', g', hq⟩ := hq; exact (hq : False).elim
  | goto l => obtain ⟨S', h', β', g', hq⟩ := hq; exact (hq : False).elim⟩
/-- What holds at the end of a function that leaves a row. -/
@[go_sem] def resO (S : AS) (t : Nat) (R : List Value → Nat → Prop) : Prop := match lk S.sl t with
  | .v (.slice none 0 0) => R [] 0
  | .s i off len cap => off = 0 ∧ cap = (S.box i).length ∧ S.box i ≠ [] ∧ R (S.box i) len
  | _ => False
@[go_sem] def rqO (t : Nat) (R : List Value → Nat → PH → Prop) : Exit → AS → PH → Prop
  | .normal, S, h => resO S t fun row len => R row len h
  | .ret, S, h => resO S t fun row len => R row len h
  | _, _, _ => False
theorem SpecO.enter {f : FuncId} {fn : Func} {c : Code} {args : List Value} {R : List Value → Nat → PH → Prop} (hf : M.P.funcs[f]? = some fn) (hb : fn.body = some c) (hok : callable M.P f = true) (hn : fn.ntmps = n) (ha : args.length ≤ n) (t : Nat) (hr : fn.results = #[.tmp t])
    (hk : ∀ C [NoPin C], AWP M n C c (rqO t R) NP ⟨argS 0 args, []⟩ h) : SpecO M f args.toArray h R := ⟨hok, fun w hw hg => by
  refine calls_of_wp hf hb ?_
  have g : G M ⟨w, h, [], []⟩ n ⟨argS 0 args, []⟩ h (fun _ => 0) { tmps := args.toArray ++ Array.replicate (fn.ntmps - args.toArray.size) undef, defers := [] } w := by
    refine ⟨by simp; omega, rfl, ⟨Below.refl _ _, hw, Sub.refl h, New.refl _ h, hg⟩, fun i cs hi => by simp at hi, fun i j ci cj hi => by simp at hi, fun t => ?_, fun t i hi => ?_, Nat.zero_le _, fun i hi => by cases hi⟩
    · rw [lk_argS]
      split
      · rename_i hc
        refine .inr ?_
        simp only [Nat.sub_zero, List.length_cons] at hc ⊢
        have hlt : t < args.toArray.size := by simpa using hc.2
        simp only [cv, Array.getD_eq_getD_getElem?, Array.getElem?_append_left hlt]
        simp [hc.2]
      · exact .inl rfl
    · rw [lk_argS] at hi
      split at hi <;> cases hi
  haveI : NoPin ⟨w, h, [], []⟩ := ⟨rfl⟩
  have hres : ∀ (tmps : Array Value), (results fn tmps).run M.P w = .ok (tmps.getD t undef) w := fun tmps => by
    have e : results fn tmps = (do let vs ← fn.results.mapM (rv tmps); pure (if h : vs.size = 1 then vs[0] else .tuple vs) : Sem Value) := rfl
    rw [e, hr]
    simp [rv]
  have hres' : ∀ (tmps : Array Value) (w' : World), (results fn tmps).run M.P w' = .ok (tmps.getD t undef) w' := fun tmps w' => by
    have e : results fn tmps = (do let vs ← fn.results.mapM (rv tmps); pure (if h : vs.size = 1 then vs[0] else .tuple vs) : Sem Value) := rfl
    rw [e, hr]
    simp [rv]
  have fin : ∀ {S' : AS} {h' : PH} {β' : Nat → Nat} {a : Act} {w' : World}, G M ⟨w, h, [], []⟩ n S' h' β' a w' → resO S' t (fun row len => R row len h') →
      ((a.tmps.getD t undef = .slice none 0 0 ∧ R [] 0 h') ∨ ∃ b row len T, a.tmps.getD t undef = .slice (some ⟨b, 0, none⟩) len row.length ∧ w.heap.size ≤ b ∧ h' b = none ∧ w'.heap[b]? = some (.cells row.toArray T (0, 0)) ∧ row ≠ [] ∧ R row len h') := by
    intro S' h' β' a w' g' hq
    simp only [resO] at hq
    split at hq
    · rename_i hx
      rcases g'.slots t with hs | hs <;> rw [hx] at hs
      · cases hs
      · exact .inl ⟨hs, hq⟩
    · rename_i i off len cap hx
      obtain ⟨rfl, rfl, hne, hq⟩ := hq
      have hi : i < S'.bx.length := g'.wf t i (by rw [hx]; rfl)
      have hbx := g'.boxes i (S'.box i) (by simp [AS.box, hi]) hne
      obtain ⟨T, hrow⟩ := hbx.row
      rcases g'.slots t with hs | hs <;> rw [hx] at hs
      · cases hs
      · exact .inr ⟨β' i, S'.box i, len, T, hs, hbx.old, hbx.own, hrow, hne, hq⟩
    · exact hq.elim
  refine wp_mono (hk ⟨w, h, [], []⟩ _ _ w g) fun e a w' hq => ?_
  cases e with
  | panic ch =>
    obtain ⟨hd, h', hfine, he⟩ := hq
    exact (he : False).elim
  | outgrown => exact (hq : False).elim
  | normal =>
    obtain ⟨S', h', β', g', hq⟩ := hq
    exact ⟨g'.defers, _, hres' _ _, h', g'.fine.below, g'.fine.has, g'.fine.sub, g'.fine.new, fin g' hq⟩
  | ret =>
    obtain ⟨S', h', β', g', hq⟩ := hq
    exact ⟨g'.defers, _, hres' _ _, h', g'.fine.below, g'.fine.has, g'.fine.sub, g'.fine.new, fin g' hq⟩
  | exit id => obtain ⟨S', h', β', g', hq⟩ := hq; exact (hq : False).elim
  | goto l => obtain ⟨S', h', β', g', hq⟩ := hq; exact (hq : False).elim⟩
end
attribute [irreducible] walk
attribute [go_sem] cls cond_true cond_false Bool.not_true Bool.not_false List.length_cons List.length_nil List.cons_append List.nil_append List.getD_cons_zero List.getD_cons_succ List.set_cons_zero List.set_cons_succ
  List.drop_zero List.drop_succ_cons List.take_zero List.take_succ_cons List.getElem?_cons_zero List.getElem?_cons_succ List.map_cons List.map_nil List.map_append Option.map_some Option.map_none Nat.zero_add Nat.add_zero beq_self_eq_true List.all_cons List.all_nil
  Bool.and_true Bool.true_and and_true true_and List.append_nil List.append_assoc Value.cells Value.oneCell' exists_eq_left exists_eq_left' Option.some.injEq forall_eq forall_eq' if_true if_false Nat.sub_zero eq_self ite_self id_eq
end Go.Q
