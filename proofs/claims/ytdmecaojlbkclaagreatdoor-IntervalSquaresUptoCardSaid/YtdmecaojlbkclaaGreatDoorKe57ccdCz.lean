/-
  From a law's contract to its statement: the arguments read as intervals and numbers; what was there stays as it was. Conditions: what is read is of bulk at most 1048576.
-/
import Derived.Test.YtdmecaojlbkclaaGreatDoorK9eee83BunO
import Derived.Test.YtdmecaojlbkclaaGreatDoorCards
import Derived.Test.YtdmecaojlbkclaaGreatDoorTie
import Derived.WalkKit
import Derived.ProofKit
import Derived.OpenShut
import Derived.Deep.DeepHandedRow
import Derived.Lib.LaidTab
set_option linter.unusedVariables false
set_option linter.unusedSimpArgs false
namespace Go.Q
open Go.Proofs Go.Proofs.YtdmecaojlbkclaaGreatDoor
set_option maxRecDepth 100000
open Go.ChangeShapes Go.WideShapes Go.ChangeAt Go.RowKit
def pub (W : World) : PH := fun b => match W.heap[b]? with
  | some (.cells cs _ _) => some cs
  | _ => none
theorem pub_has (W : World) : Has W (pub W) := fun b cs hb => by
  unfold pub at hb
  split at hb
  · rename_i hx; cases hb; exact ⟨_, _, hx⟩
  · cases hb
theorem pub_at (W : World) (a : Addr) : (pub W).at a = W.cell? a := by
  unfold PH.at pub World.cell?
  cases hx : W.heap[a.block]? with
  | none => simp
  | some o => cases o <;> simp
def flds (P : Program) (t : TypeId) : Option (List (Nat × Nat)) := match P.underlying t with
  | some (.struct fs) => some (fs.toList.map fun f => (f.type, f.offset))
  | _ => none
theorem flds_some {P : Program} {t : TypeId} {l : List (Nat × Nat)} (h : flds P t = some l) : ∃ fs, P.underlying t = some (.struct fs) ∧ fs.toList.map (fun f => (f.type, f.offset)) = l := by
  unfold flds at h
  split at h
  · rename_i fs hx; cases h; exact ⟨fs, hx, rfl⟩
  · cases h
theorem fl24 : flds Tryz.prog 24 = some [(4, 0), (22, 1), (22, 2)] := by kernel_rfl
theorem fl26 : flds Tryz.prog 26 = some [(24, 0), (24, 3), (4, 6), (4, 7)] := by kernel_rfl
theorem un22 : Tryz.prog.underlying 22 = some (.slice 68) := by kernel_rfl
theorem un76 : Tryz.prog.underlying 68 = some (.int .u32) := by kernel_rfl
theorem un4 : Tryz.prog.underlying 4 = some .bool := by kernel_rfl
theorem un3 : Tryz.prog.underlying 3 = some (.int .i64) := by kernel_rfl
theorem ce4 : Tryz.prog.cellsOf 4 = 1 := by kernel_rfl
theorem ce22 : Tryz.prog.cellsOf 22 = 1 := by kernel_rfl
theorem ce76 : Tryz.prog.cellsOf 68 = 1 := by kernel_rfl
theorem ce24 : Tryz.prog.cellsOf 24 = 3 := by kernel_rfl
theorem ce26 : Tryz.prog.cellsOf 26 = 8 := by kernel_rfl
section
variable {H : Type} {enc : TypeId × Value → H} {W : World} {sp : Nat → Bool} {held : Bool}
theorem bulk_len (l : List (DataW H)) : l.length ≤ Rows.uptoBulkAll l := by
  induction l with
  | nil => simp [Rows.uptoBulkAll]
  | cons x r ih =>
    have : 1 ≤ Rows.uptoBulk x := by
      cases x with
      | lit l => cases l <;> simp [Rows.uptoBulk]
      | _ => simp [Rows.uptoBulk]
    simp only [Rows.uptoBulkAll, List.length_cons]
    omega
theorem open_words {fuel : Nat} {cs : List Value} {x : DataW H × List MemPlace} (h : DataW.trod enc Tryz.prog W 0 sp held fuel 22 cs = some x) {B : Nat} (hB : B ≤ 1048576) (hk : Rows.uptoBulk x.1 ≤ B) :
    ∃ a xs c, cs = [.slice a xs.length c] ∧ Arr (pub W) a c xs ∧ xs.length ≤ 2 ^ 30 := by
  rcases open_ints un22 un76 ce76 h with ⟨rfl, rfl⟩ | ⟨a, len, cap, zs, rfl, _, hl, hm, hz, rfl, hcell, hwf⟩
  · exact ⟨none, [], 0, rfl, Arr.nil _, by simp⟩
  · have hzl : len ≤ zs.length := by rw [hz]; split <;> omega
    have hb : len ≤ 1048576 := by
      simp only [Rows.uptoBulk] at hk
      have e : (lits (H := H) .u32 (zs.take len)).length = len := by simp [lits]; omega
      have := bulk_len (H := H) (lits .u32 (zs.take len))
      rw [e] at this
      omega
    refine ⟨some a, (zs.take len).map Int.toNat, cap, ?_, ⟨?_, ?_, ?_, ?_⟩, ?_⟩
    · simp; omega
    · simp; omega
    · simp; omega
    · intro y hy
      obtain ⟨z, hz, rfl⟩ := List.mem_map.1 hy
      have := bounds_u32 (hwf z (List.mem_of_mem_take hz))
      omega
    · intro i y hy
      rw [List.getElem?_map, Option.map_eq_some_iff] at hy
      obtain ⟨z, hz', rfl⟩ := hy
      rw [List.getElem?_take] at hz'
      split at hz'
      · refine ⟨a, rfl, ?_⟩
        have hi : i < zs.length := (List.getElem?_eq_some_iff.1 hz').1
        rw [pub_at, hcell i hi]
        have e : zs.getD i 0 = z := by simp [hz']
        have := bounds_u32 (hwf z (List.mem_of_getElem? hz'))
        rw [e]
        congr 2
        omega
      · cases hz'
    · simp; omega
theorem open_rat {fuel : Nat} {cs : List Value} {x : DataW H × List MemPlace} (h : DataW.trod enc Tryz.prog W 0 sp held fuel 24 cs = some x) {B : Nat} (hB : B ≤ 1048576) (hk : Rows.uptoBulk x.1 ≤ B) :
    ∃ neg n d, Rw (pub W) (.agg cs.toArray) neg n d ∧ cs.length = 3 := by
  obtain ⟨fs, hu, hf⟩ := flds_some fl24
  obtain ⟨xs, n, rfl, rfl, hl, hsz, hg⟩ := DataW.trod_struct hu h
  rw [ce24] at hl
  have hfs : fs.size = 3 := by
    have := congrArg List.length hf
    simpa using this
  match cs, hl with
  | [c0, c1, c2], _ =>
  have get : ∀ (i t o : Nat), (fs.toList.map fun f => (f.type, f.offset))[i]? = some (t, o) → ∃ f : Field, fs[i]? = some f ∧ f.type = t ∧ f.offset = o := by
    intro i t o hi
    rw [List.getElem?_map, Option.map_eq_some_iff] at hi
    obtain ⟨f, h1, h2⟩ := hi
    cases h2
    exact ⟨f, by simpa using h1, rfl, rfl⟩
  obtain ⟨f0, k0, e0, o0⟩ := get 0 4 0 (by rw [hf]; rfl)
  obtain ⟨f1, k1, e1, o1⟩ := get 1 22 1 (by rw [hf]; rfl)
  obtain ⟨f2, k2, e2, o2⟩ := get 2 22 2 (by rw [hf]; rfl)
  have g0 := hg 0 f0 k0
  have g1 := hg 1 f1 k1
  have g2 := hg 2 f2 k2
  rw [e0, o0, ce4] at g0
  rw [e1, o1, ce22] at g1
  rw [e2, o2, ce22] at g2
  rw [hfs] at hsz
  match xs, hsz with
  | [y0, y1, y2], _ =>
  simp only [List.drop_zero, List.take_succ_cons, List.take_zero, List.drop_succ_cons, List.getElem?_cons_zero, List.getElem?_cons_succ] at g0 g1 g2
  simp only [Rows.uptoBulk, List.map_cons, List.map_nil, Rows.uptoBulkAll] at hk
  obtain ⟨b, e, _⟩ := DataW.trod_bool un4 g0
  obtain ⟨a1, xs1, c1', e1, A1, l1⟩ := open_words g1 hB (by omega)
  obtain ⟨a2, xs2, c2', e2, A2, l2⟩ := open_words g2 hB (by omega)
  cases e
  cases e1
  cases e2
  exact ⟨b, _, _, ⟨a1, c1', xs1, a2, c2', xs2, rfl, A1, A2, rfl, rfl, l1, l2⟩, rfl⟩
theorem open_iv {fuel : Nat} {cs : List Value} {x : DataW H × List MemPlace} (h : DataW.trod enc Tryz.prog W 0 sp held fuel 26 cs = some x) {B : Nat} (hB : B ≤ 1048576) (hk : Rows.uptoBulk x.1 ≤ B) :
    ∃ y : RI, Iv (pub W) (.agg cs.toArray) y := by
  obtain ⟨fs, hu, hf⟩ := flds_some fl26
  obtain ⟨xs, n, rfl, rfl, hl, hsz, hg⟩ := DataW.trod_struct hu h
  rw [ce26] at hl
  have hfs : fs.size = 4 := by
    have := congrArg List.length hf
    simpa using this
  match cs, hl with
  | [c0, c1, c2, c3, c4, c5, c6, c7], _ =>
  have get : ∀ (i t o : Nat), (fs.toList.map fun f => (f.type, f.offset))[i]? = some (t, o) → ∃ f : Field, fs[i]? = some f ∧ f.type = t ∧ f.offset = o := by
    intro i t o hi
    rw [List.getElem?_map, Option.map_eq_some_iff] at hi
    obtain ⟨f, h1, h2⟩ := hi
    cases h2
    exact ⟨f, by simpa using h1, rfl, rfl⟩
  obtain ⟨f0, k0, e0, o0⟩ := get 0 24 0 (by rw [hf]; rfl)
  obtain ⟨f1, k1, e1, o1⟩ := get 1 24 3 (by rw [hf]; rfl)
  obtain ⟨f2, k2, e2, o2⟩ := get 2 4 6 (by rw [hf]; rfl)
  obtain ⟨f3, k3, e3, o3⟩ := get 3 4 7 (by rw [hf]; rfl)
  have g0 := hg 0 f0 k0
  have g1 := hg 1 f1 k1
  have g2 := hg 2 f2 k2
  have g3 := hg 3 f3 k3
  rw [e0, o0, ce24] at g0
  rw [e1, o1, ce24] at g1
  rw [e2, o2, ce4] at g2
  rw [e3, o3, ce4] at g3
  rw [hfs] at hsz
  match xs, hsz with
  | [y0, y1, y2, y3], _ =>
  simp only [List.drop_zero, List.take_succ_cons, List.take_zero, List.drop_succ_cons, List.getElem?_cons_zero, List.getElem?_cons_succ] at g0 g1 g2 g3
  simp only [Rows.uptoBulk, List.map_cons, List.map_nil, Rows.uptoBulkAll] at hk
  obtain ⟨l, e2, _⟩ := DataW.trod_bool un4 g2
  obtain ⟨u, e3, _⟩ := DataW.trod_bool un4 g3
  obtain ⟨n1, a1, d1, r1, _⟩ := open_rat g0 hB (by omega)
  obtain ⟨n2, a2, d2, r2, _⟩ := open_rat g1 hB (by omega)
  cases e2
  cases e3
  have q1 := r1
  have q2 := r2
  obtain ⟨_, _, _, _, _, _, e1, _⟩ := q1
  obtain ⟨_, _, _, _, _, _, e2, _⟩ := q2
  simp only [Value.agg.injEq, Array.mk.injEq, List.cons.injEq, and_true] at e1 e2
  obtain ⟨rfl, rfl, rfl⟩ := e1
  obtain ⟨rfl, rfl, rfl⟩ := e2
  exact ⟨⟨n1, a1, d1, n2, a2, d2, l, u⟩, _, _, _, _, rfl, r1, r2⟩
theorem stays {P : Program} {W' : World} {sp : Nat → Bool} (hl : laidOutB P = true) (hb : Below W.heap.size W W') (ts : List TypeId) : ∀ (vs : List Value) (ds : List (DataW H)) (p : List MemPlace), (∀ t ∈ ts, P.readableRec t = true ∧ t < P.types.size) → (∀ x ∈ p, x.block < W.heap.size) → (∀ x ∈ p, sp x.block = true) →
    DataW.TrodAll enc P W 0 (fun _ => true) true ts vs ds p → DataW.TrodAll enc P W' 0 sp true ts vs ds p := by
  induction ts with
  | nil =>
    intro vs ds p _ _ _ h
    cases vs with
    | nil => cases ds with
      | nil => exact h
      | cons d ds => exact h.elim
    | cons v vs => exact h.elim
  | cons t ts ih =>
    intro vs ds p hr hlt hsp h
    cases vs with
    | nil => exact h.elim
    | cons v vs =>
      cases ds with
      | nil => exact h.elim
      | cons d ds =>
        obtain ⟨p, q, h1, h2, rfl⟩ := h
        have ht := hr t (by simp)
        exact ⟨p, q, WideElems.Trod_stays hl ht.1 ht.2 h1 (fun x hx => hb.same (hlt x (by simp [hx]))) (fun x hx => hsp x (by simp [hx])), ih vs ds q (fun u hu => hr u (by simp [hu])) (fun x hx => hlt x (by simp [hx])) (fun x hx => hsp x (by simp [hx])) h2, rfl⟩
theorem post_true {f : Func} {s : ChangeSpec} {W' : World} {args : Array Value} {ds : List (DataW H)} {before : List MemPlace} (hl : laidOutB Tryz.prog = true) (hv : s.vars = []) (hr : f.resultTypes = #[4]) (hs : s.fn H ds = { results := [.lit (.bool true)], args := ds })
    (hrd : ∀ t ∈ f.params.toList, Tryz.prog.readableRec t = true ∧ t < Tryz.prog.types.size)
    (hW : DataW.Whole enc Tryz.prog f.params.toList s.vars false W args.toList ds [] before) (hb : Below W.heap.size W W') : s.post enc Tryz.prog f false true false false W args (.bool true) W' := by
  have hlt : ∀ p ∈ before, p.block < W.heap.size := hW.lt
  have hW0 := hW
  rw [hv] at hW0
  obtain ⟨p, q, hA, hV, rfl, hz, hn⟩ := hW0
  obtain rfl : q = [] := hV
  rw [List.append_nil] at hlt hz
  have hold : ∀ x ∈ p, (fun b => decide (b < W.heap.size)) x.block = true := fun x hx => by simpa using hlt x hx
  have hres : ∀ (b : Nat) (sp : Nat → Bool) (hd : Bool), DataW.TrodAll enc Tryz.prog W' b sp hd f.resultTypes.toList ((Value.bool true).resultList f.resultTypes.size) (s.fn H (ds ++ [])).results [] := by
    intro b sp hd
    rw [List.append_nil, hs, hr]
    exact trodAll_cons_mk (shut_bool un4 _) trodAll_mk0
  have hargs : ∀ sp : Nat → Bool, (∀ x ∈ p, sp x.block = true) → DataW.TrodAll enc Tryz.prog W' 0 sp true f.params.toList args.toList (s.fn H (ds ++ [])).args p := by
    intro sp hsp
    rw [List.append_nil, hs]
    exact stays hl hb _ _ _ _ hrd hlt hsp hA
  have hvars : ∀ sp : Nat → Bool, DataW.TrodVars enc Tryz.prog W' sp s.vars (s.fn H (ds ++ [])).vars [] := by
    intro sp
    rw [List.append_nil, hs, hv]
    rfl
  refine ⟨ds, [], p ++ [], [], p, [], hW, hres _ _ _, hargs _ hold, hvars _, World.keptBut_mono (fun x hx => ⟨hx, ?_⟩) (hb.frame (· ∈ p ++ [])), fun h => by cases h⟩
  simpa using hx
theorem laid_gl {W : World} (h : laidMetH Tryz.prog [("math/bits.deBruijn32tab", Rows.laid_math_bits_deBruijn32tab)] W) : Sub mach.gl (pub W) := by
  have ht : Lib.TabIs Tryz.prog W "math/bits.deBruijn32tab" .u8 debruijn :=
    Lib.tabIs_of_head (rest := []) (g := 0) (t := 156) (e := 5) (n := 32) (by kernel_rfl) (by kernel_rfl) (by kernel_rfl) (by kernel_rfl) (by kernel_rfl) (by kernel_rfl) h
  have hg : Tryz.prog.globalNamed "math/bits.deBruijn32tab" = some 0 := by kernel_rfl
  unfold Lib.TabIs World.var? at ht
  rw [hg] at ht
  intro b cs hb
  have hb' : (if b = 0 then some tabCells else none) = some cs := hb
  split at hb'
  · rename_i e
    subst e
    cases hb'
    unfold pub
    simp only [Option.bind_some] at ht
    split at ht
    · rename_i hx
      rw [hx]
      simpa [tabCells] using ht
    · cases ht
  · cases hb'
end
end Go.Q
