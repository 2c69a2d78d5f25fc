/-
  Whole bodies walked by one call of the simplifier: the code is turned into what it must reach, operation by operation; calls, loops and loads through pointers stand still, what follows them unseen. Conditions: none beyond each rule's own.
  Contracts of package word's natural numbers: reading, comparing, small ones. Conditions: the slices hold words (Arr, N32).
-/
import Derived.Test.YtmibfkpalmmheaaGreatDoorK99fa64PkC
set_option linter.unusedVariables false
set_option linter.unusedSimpArgs false
namespace Go.Q
open Go.RowKit (Below)
inductive TT where
  | d
  | s (l : List Nat) (t : TT)
  | a (i : Nat) (t u : TT)
  | p (i : Nat) (t : TT)
  | n
def TT.it : TT → IT
  | .d => .done
  | .s l t => .seg (l.map .o) t.it
  | .a i t u => .alt i t.it u.it
  | .p i t => .seg [.p i] t.it
  | .n => .no
def TT.pl : TT → Option (List PL)
  | .d => some []
  | .s l t => t.pl.map (l.map .o ++ ·)
  | .p i t => t.pl.map (.p i :: ·)
  | _ => none
inductive PW where
  | o (l : List Nat)
  | t (t : TT)
  | y (t : TT)
  | x
abbrev Plans := List (Nat × PW)
@[go_sem] def Plans.get : Plans → Nat → Option PW
  | [], _ => none
  | (i, p) :: l, k => bif i == k then some p else Plans.get l k
def pickO (all : List Oper) : List Nat → List Oper
  | [] => []
  | i :: l => match nth all i with
    | some o => o :: pickO all l
    | none => pickO all l
def op2 {α : Type} (o : Option α) (k : α → Prop) : Prop := match o with
  | some a => k a
  | none => False
theorem op2_some {α : Type} (a : α) (k : α → Prop) : op2 (some a) k = k a := (rfl)
def calS (M : Mach) (E : List PanicEntry → PH → Prop) (f : FuncId) (vs : List Value) (S : AS) (h : PH) (k : AS → PH → AV → Prop) : Prop :=
  (∃ R E', Spec M f vs.toArray h R E' ∧ (∀ v h', Step h h' → R v h' → k S h' (.v v)) ∧ (∀ ch h', Step h h' → E' ch h' → E ch h')) ∨ ownA M f vs S h k
def calL (M : Mach) (fo : Operand) (f : FuncId) (xs : List AV) (S : AS) (h : PH) (k : AS → PH → AV → Prop) : Prop :=
  loanA M (cls (.call { callee := .value fo, args := #[], argTypes := #[] })) f xs S h k ∨ lendA M f xs S h k
def calV (M : Mach) (E : List PanicEntry → PH → Prop) (fo : Operand) (f : FuncId) (first cap : List Value) (xs : List AV) : Option (List Value) → AS → PH → (AS → PH → AV → Prop) → Prop
  | some vs, S, h, k => calS M E f (first ++ vs ++ cap) S h k
  | none, S, h, k => first = [] ∧ cap = [] ∧ calL M fo f xs S h k
def calA (M : Mach) (E : List PanicEntry → PH → Prop) (fo : Operand) (xs : List AV) : AV → AS → PH → (AS → PH → AV → Prop) → Prop
  | .v (.func (.func f) first cap), S, h, k => calV M E fo f first.toList cap.toList xs (vals xs) S h k
  | _, _, _, _ => False
def opA (M : Mach) (E : List PanicEntry → PH → Prop) (op : Op) (S : AS) (h : PH) (k : AS → PH → AV → Prop) : Prop :=
  bif cls op == 0 then rdA M op S h (fun x => k S h x) else imA M op S h E k
def bnA (P : Program) (op : BinOp) (T : TypeId) (x y : AV) (k : Value → Prop) : Prop := binA P op T x y k
section
variable {P : Program} {T : TypeId} {K L : IntKind} {a b : Int} {k : Value → Prop}
theorem bn_add : bnA P .add T (.v (.int K a)) (.v (.int K b)) k = k (.int K (K.wrap (a + b))) := by simp [bnA, binA, binI]
theorem bn_sub : bnA P .sub T (.v (.int K a)) (.v (.int K b)) k = k (.int K (K.wrap (a - b))) := by simp [bnA, binA, binI]
theorem bn_mul : bnA P .mul T (.v (.int K a)) (.v (.int K b)) k = k (.int K (K.wrap (a * b))) := by simp [bnA, binA, binI]
theorem bn_quo (h : b ≠ 0) : bnA P .quo T (.v (.int K a)) (.v (.int K b)) k = k (.int K (K.wrap (a.tdiv b))) := by simp [bnA, binA, binI, h]
theorem bn_rem (h : b ≠ 0) : bnA P .rem T (.v (.int K a)) (.v (.int K b)) k = k (.int K (a.tmod b)) := by simp [bnA, binA, binI, h]
theorem bn_and : bnA P .and T (.v (.int K a)) (.v (.int K b)) k = k (.int K (andI K a b)) := by simp [bnA, binA, binI]
theorem bn_or : bnA P .or T (.v (.int K a)) (.v (.int K b)) k = k (.int K (orI K a b)) := by simp [bnA, binA, binI]
theorem bn_xor : bnA P .xor T (.v (.int K a)) (.v (.int K b)) k = k (.int K (xorI K a b)) := by simp [bnA, binA, binI]
theorem bn_eql : bnA P .eql T (.v (.int K a)) (.v (.int K b)) k = k (.bool (a == b)) := by simp [bnA, binA, binI]
theorem bn_neq : bnA P .neq T (.v (.int K a)) (.v (.int K b)) k = k (.bool (a != b)) := by simp [bnA, binA, binI]
theorem bn_lss : bnA P .lss T (.v (.int K a)) (.v (.int K b)) k = k (.bool (decide (a < b))) := by simp [bnA, binA, binI]
theorem bn_leq : bnA P .leq T (.v (.int K a)) (.v (.int K b)) k = k (.bool (decide (a ≤ b))) := by simp [bnA, binA, binI]
theorem bn_gtr : bnA P .gtr T (.v (.int K a)) (.v (.int K b)) k = k (.bool (decide (a > b))) := by simp [bnA, binA, binI]
theorem bn_geq : bnA P .geq T (.v (.int K a)) (.v (.int K b)) k = k (.bool (decide (a ≥ b))) := by simp [bnA, binA, binI]
theorem bn_shl (h : 0 ≤ b) : bnA P .shl T (.v (.int K a)) (.v (.int L b)) k = k (.int K (K.wrap (a * 2 ^ (min b.toNat K.bits)))) := by simp [bnA, binA, h]
theorem bn_shr (h : 0 ≤ b) : bnA P .shr T (.v (.int K a)) (.v (.int L b)) k = k (.int K (a.fdiv (2 ^ (min b.toNat K.bits)))) := by simp [bnA, binA, h]
theorem bn_beq (a b : Bool) : bnA P .eql T (.v (.bool a)) (.v (.bool b)) k = (uk P T = .bool ∧ k (.bool (a == b))) := (rfl)
theorem bn_bne (a b : Bool) : bnA P .neq T (.v (.bool a)) (.v (.bool b)) k = (uk P T = .bool ∧ k (.bool (!(a == b)))) := (rfl)
theorem bn_seq (a : Option Addr) (m c m' c' : Nat) : bnA P .eql T (.v (.slice a m c)) (.v (.slice none m' c')) k = (uk P T = .slice ∧ k (.bool a.isNone)) := (rfl)
theorem bn_sne (a : Option Addr) (m c m' c' : Nat) : bnA P .neq T (.v (.slice a m c)) (.v (.slice none m' c')) k = (uk P T = .slice ∧ k (.bool (!a.isNone))) := (rfl)
theorem bn_teq (a b : ByteArray) : bnA P .eql T (.v (.string a)) (.v (.string b)) k = k (.bool (a.toList == b.toList)) := (rfl)
theorem bn_tne (a b : ByteArray) : bnA P .neq T (.v (.string a)) (.v (.string b)) k = k (.bool (!(a.toList == b.toList))) := (rfl)
theorem bn_tad (a b : ByteArray) : bnA P .add T (.v (.string a)) (.v (.string b)) k = (((a.size + b.size : Nat) : Int) ≤ IntKind.i64.max ∧ k (.string (a ++ b))) := (rfl)
end
attribute [go_sem] op2_some bn_add bn_sub bn_mul bn_quo bn_rem bn_and bn_or bn_xor bn_eql bn_neq bn_lss bn_leq bn_gtr bn_geq bn_shl bn_shr bn_beq bn_bne bn_seq bn_sne bn_teq bn_tne bn_tad
def appB (S : AS) (h : PH) (b m : Nat) (news : List Value) (k : AS → PH → AV → Prop) : AV → Prop
  | .v (.slice none 0 0) => (m = 0 → k S h (.v (.slice none 0 0))) ∧ (m ≠ 0 → (2 * m + 1024) * b ≤ 2 ^ 48 ∧ ∀ junk : List Value, k (S.push (news ++ junk)) h (.s S.bx.length 0 m (m + junk.length)))
  | .s i off len cap => off = 0 ∧ len ≤ cap ∧ cap = (S.box i).length ∧ (2 * (len + m) + 1024) * b ≤ 2 ^ 48 ∧
      ∀ junk : List Value, k ((S.setBox i []).push ((S.box i).take len ++ news ++ junk)) h (.s S.bx.length 0 (len + m) (len + m + junk.length))
  | _ => False
def appP (S : AS) (h : PH) (b : Nat) (a : Option Addr) (m : Nat) (k : AS → PH → AV → Prop) (x : AV) : Prop := ∃ news : List Value, news.length = m ∧ (m ≠ 0 → ∃ ad, a = some ad ∧ ∀ (j : Nat) (v : Value), news[j]? = some v → h.at (ad.add j) = some v) ∧ news.all Value.oneCell' = true ∧ appB S h b m news k x
def appX (S : AS) (h : PH) (b : Nat) (k : AS → PH → AV → Prop) (x : AV) : AV → Prop
  | .v (.slice a m _) => appP S h b a m k x
  | .s i off m _ => off + m ≤ (S.box i).length ∧ (((S.box i).drop off).take m).all Value.oneCell' = true ∧ appB S h b m (((S.box i).drop off).take m) k x
  | _ => False
def copB (S : AS) (h : PH) (k : AS → PH → AV → Prop) : AV → AV → Prop
  | .s i off dlen _, .v (.slice a m _) => ∃ news : List Value, news.length = min m dlen ∧ (m ≠ 0 → ∃ ad, a = some ad ∧ ∀ (j : Nat) (v : Value), news[j]? = some v → h.at (ad.add j) = some v) ∧ news.all Value.oneCell' = true ∧ off < (S.box i).length ∧ off + min m dlen ≤ (S.box i).length ∧
      k (S.setBox i (spl (S.box i) off news)) h (.v (.int .i64 (min m dlen : Nat)))
  | _, _ => False
def ld1 (S : AS) (h : PH) (a : Addr) (k : AS → PH → AV → Prop) : Prop := ∃ v, h.at a = some v ∧ k S h (.v v)
def ldm (S : AS) (h : PH) (a : Addr) (m : Nat) (k : AS → PH → AV → Prop) : Prop := ∃ cs : List Value, cs.length = m ∧ (∀ j v, cs[j]? = some v → h.at (a.add j) = some v) ∧ k S h (.v (.agg cs.toArray))
def ixP (S : AS) (h : PH) (a : Option Addr) (j : Int) (len e : Nat) (k : AS → PH → AV → Prop) : Prop := ∃ ad, a = some ad ∧ 0 ≤ j ∧ j < len ∧ k S h (.v (.pointer (some (ad.add (j.toNat * e)))))
def ixS (S : AS) (h : PH) (s : ByteArray) (j : Int) (k : AS → PH → AV → Prop) : Prop := 0 ≤ j ∧ ∃ b, s[j.toNat]? = some b ∧ k S h (.v (.int .u8 b.toNat))
def ldN (S : AS) (h : PH) (a : Addr) (k : AS → PH → AV → Prop) : Option Nat → Prop
  | none => ld1 S h a k
  | some m => ldm S h a m k
def ldA (M : Mach) (T : TypeId) (S : AS) (h : PH) (k : AS → PH → AV → Prop) : AV → Prop
  | .p i off => op2 (tk M.P T) fun t => op2 (ldb t (S.box i) off) fun v => k S h (.v v)
  | .v (.pointer (some a)) => op2 (tk M.P T) fun t => ldN S h a k t
  | _ => False
def pickA (k : AV → Prop) (x y : AV) : AV → Prop
  | .v (.bool t) => k (bif t then x else y)
  | _ => False
def unA (k : AV → Prop) : UnOp → AV → Prop
  | .not, .v (.bool b) => k (.v (.bool (!b)))
  | .neg, .v (.int K a) => k (.v (.int K (K.wrap (0 - a))))
  | _, _ => False
def convA (k : AV → Prop) : UK → UK → AV → Prop
  | .int _, .int K, .v (.int _ a) => k (.v (.int K (K.wrap a)))
  | _, _, _ => False
def faA (k : AV → Prop) (o : Nat) : AV → Prop
  | .p i off => k (.p i (off + o))
  | .v (.pointer (some a)) => k (.v (.pointer (some (a.add o))))
  | _ => False
def fA (k : AV → Prop) (pl : Option (Nat × Option Nat)) : AV → Prop
  | .v (.agg cs) => op2 pl fun (o, t) => op2 (ldb t cs.toList o) fun v => k (.v v)
  | _ => False
def iaA (M : Mach) (T : TypeId) (S : AS) (h : PH) (k : AS → PH → AV → Prop) (e : Nat) : AV → AV → Prop
  | .v (.slice a len _), .v (.int _ j) => uk M.P T = .slice ∧ ixP S h a j len e k
  | .s b off len _, .v (.int _ j) => uk M.P T = .slice ∧ 0 ≤ j ∧ j < len ∧ k S h (.p b (off + j.toNat * e))
  | .p b off, .v (.int _ j) => op2 (alen M.P T) fun m => 0 ≤ j ∧ j < m ∧ k S h (.p b (off + j.toNat * e))
  | .v (.pointer (some a)), .v (.int _ j) => op2 (alen M.P T) fun m => 0 ≤ j ∧ j < m ∧ k S h (.v (.pointer (some (a.add (j.toNat * e)))))
  | _, _ => False
def iA (M : Mach) (T : TypeId) (S : AS) (h : PH) (k : AS → PH → AV → Prop) : AV → AV → Prop
  | .v (.agg cs), .v (.int _ j) => op2 (alen M.P T) fun m => op2 (esz M.P T) fun e => op2 (etk M.P T) fun t => 0 ≤ j ∧ j < m ∧ op2 (ldb t cs.toList (j.toNat * e)) fun v => k S h (.v v)
  | .v (.string s), .v (.int _ j) => uk M.P T = .string ∧ ixS S h s j k
  | _, _ => False
def extA (k : AV → Prop) (i : Nat) : AV → Prop
  | .v (.tuple vs) => op2 (vs.toList[i]?) fun v => k (.v v)
  | _ => False
def slcA (M : Mach) (T : TypeId) (k : AV → Prop) (lo hi : Option AV) : AV → Prop
  | .v (.slice a len cap) => uk M.P T = .slice ∧ op2 (esz M.P T) fun e => op2 (lowA lo) fun l => op2 (highA len hi) fun u =>
      0 ≤ l ∧ l ≤ u ∧ u ≤ cap ∧ k (.v (.slice (if cap = l.toNat then a else a.map (·.add (l.toNat * e))) (u.toNat - l.toNat) (cap - l.toNat)))
  | .s b off len cap => uk M.P T = .slice ∧ op2 (esz M.P T) fun e => op2 (lowA lo) fun l => op2 (highA len hi) fun u =>
      0 ≤ l ∧ l ≤ u ∧ u ≤ cap ∧ k (.s b (if cap = l.toNat then off else off + l.toNat * e) (u.toNat - l.toNat) (cap - l.toNat))
  | _ => False
def miA (M : Mach) (T : TypeId) (k : AV → Prop) : AV → Prop
  | .v v => M.P.concrete T = true ∧ k (.v (.iface T v))
  | _ => False
def minA (k : AV → Prop) : AV → AV → Prop
  | .v (.int K a), .v (.int _ b) => k (.v (.int K (if b < a then b else a)))
  | _, _ => False
def maxA (k : AV → Prop) : AV → AV → Prop
  | .v (.int K a), .v (.int _ b) => k (.v (.int K (if b > a then b else a)))
  | _, _ => False
def boxA (S : AS) (h : PH) (k : AS → PH → AV → Prop) : AV → Prop
  | .v v => k (S.push v.cells.toList) h (.p S.bx.length 0)
  | _ => False
def stoA (M : Mach) (T : TypeId) (S : AS) (h : PH) (k : AS → PH → AV → Prop) : AV → AV → Prop
  | .p i off, .v v => op2 (tk M.P T) fun t => op2 (fits t v) fun vs => vs.all Value.oneCell' = true ∧ off < (S.box i).length ∧ off + vs.length ≤ (S.box i).length ∧ k (S.setBox i (spl (S.box i) off vs)) h .top
  | _, _ => False
def mksA (M : Mach) (T : TypeId) (S : AS) (h : PH) (k : AS → PH → AV → Prop) : AV → AV → Prop
  | .v (.int _ l), .v (.int _ c) => op2 (mk1 M.P T) fun (z, b) => 0 ≤ l ∧ l ≤ c ∧ (b : Int) * c ≤ 2 ^ 48 ∧ k (S.push (List.replicate c.toNat z)) h (.s S.bx.length 0 l.toNat c.toNat)
  | _, _ => False
def panA (E : List PanicEntry → PH → Prop) (h : PH) : AV → Prop
  | .v (.iface t v) => E [{ v := .iface t v, recovered := false }] h
  | _ => False
section
variable {M : Mach} {E : List PanicEntry → PH → Prop} {S S' : AS} {h : PH} {k : AS → PH → AV → Prop}
theorem op_move (x : Operand) : opA M E (.move x) S h k = k S h (S.ev x) := (rfl)
theorem op_assign (x : Operand) : opA M E (.assign x) S h k = k S h (S.ev x) := (rfl)
theorem op_pick (c x y : Operand) : opA M E (.pick c x y) S h k = pickA (k S h) (S.ev x) (S.ev y) (S.ev c) := by
  show rdA M (.pick c x y) S h (k S h) = _
  simp only [rdA]
  generalize S.ev c = v
  cases v <;> first | rfl | (rename_i v; cases v <;> rfl)
theorem op_load (T : TypeId) (x : Operand) : opA M E (.load T x) S h k = ldA M T S h k (S.ev x) := by
  show rdA M (.load T x) S h (k S h) = _
  simp only [rdA]
  generalize S.ev x = v
  cases v <;> first | rfl | skip
theorem op_bin (o : BinOp) (T U : TypeId) (x y : Operand) : opA M E (.binOp o T x y U) S h k = bnA M.P o T (S.ev x) (S.ev y) (fun v => k S h (.v v)) := (rfl)
theorem op_un (o : UnOp) (T : TypeId) (x : Operand) : opA M E (.unOp o T x) S h k = unA (k S h) o (S.ev x) := by
  show rdA M (.unOp o T x) S h (k S h) = _
  simp only [rdA]
  generalize S.ev x = v
  cases o <;> cases v <;> first | rfl | (rename_i v; cases v <;> rfl)
theorem op_conv (T U : TypeId) (x : Operand) : opA M E (.convert T U x) S h k = convA (k S h) (uk M.P T) (uk M.P U) (S.ev x) := by
  show rdA M (.convert T U x) S h (k S h) = _
  simp only [rdA]
  generalize uk M.P T = a
  generalize uk M.P U = b
  generalize S.ev x = v
  cases a <;> cases b <;> cases v <;> first | rfl | (rename_i v; cases v <;> rfl)
theorem op_fa (T : TypeId) (x : Operand) (f : Nat) : opA M E (.fieldAddr T x f) S h k = op2 (fo M.P T f) fun o => faA (k S h) o (S.ev x) := by
  show rdA M (.fieldAddr T x f) S h (k S h) = _
  simp only [rdA]
  congr 1
theorem op_f (T : TypeId) (x : Operand) (f : Nat) : opA M E (.field T x f) S h k = fA (k S h) (fpl M.P T f) (S.ev x) := by
  show rdA M (.field T x f) S h (k S h) = _
  simp only [rdA]
  generalize S.ev x = v
  cases v <;> first | rfl | (rename_i v; cases v <;> rfl)
theorem op_ia (T : TypeId) (x y : Operand) : opA M E (.indexAddr T x y) S h k = op2 (esz M.P T) fun e => iaA M T S h k e (S.ev x) (S.ev y) := by
  show rdA M (.indexAddr T x y) S h (k S h) = _
  simp only [rdA]
  congr 1
theorem op_i (T : TypeId) (x y : Operand) : opA M E (.index T x y) S h k = iA M T S h k (S.ev x) (S.ev y) := by
  show rdA M (.index T x y) S h (k S h) = _
  simp only [rdA]
  generalize S.ev x = v
  generalize S.ev y = w
  cases v <;> first | rfl | skip
theorem op_ex (x : Operand) (i : Nat) : opA M E (.extract x i) S h k = extA (k S h) i (S.ev x) := by
  show rdA M (.extract x i) S h (k S h) = _
  simp only [rdA]
  generalize S.ev x = v
  cases v <;> first | rfl | (rename_i v; cases v <;> rfl)
theorem op_sl (T : TypeId) (x : Operand) (l u : Option Operand) : opA M E (.slice T x l u none) S h k = slcA M T (k S h) (l.map S.ev) (u.map S.ev) (S.ev x) := by
  show rdA M (.slice T x l u none) S h (k S h) = _
  simp only [rdA]
  generalize S.ev x = v
  cases v <;> first | rfl | (rename_i v; cases v <;> rfl)
theorem op_build (T : TypeId) (p : Array (Nat × Operand)) : opA M E (.build T p) S h k = op2 (buildA M.P T (p.toList.map fun p => (p.1, S.ev p.2))) fun cs => k S h (.v (.agg cs.toArray)) := (rfl)
theorem op_mf (f : Fn) (x y : Array Operand) : opA M E (.makeFunc f x y) S h k = op2 (vals (x.toList.map S.ev)) fun fs => op2 (vals (y.toList.map S.ev)) fun cs => k S h (.v (.func f fs.toArray cs.toArray)) := (rfl)
theorem op_mi (T : TypeId) (x : Operand) : opA M E (.makeInterface T x) S h k = miA M T (k S h) (S.ev x) := by
  show rdA M (.makeInterface T x) S h (k S h) = _
  simp only [rdA]
  generalize S.ev x = v
  cases v <;> rfl
theorem op_len (x : Operand) (T : TypeId) : opA M E (.call { callee := .builtin .len, args := #[x], argTypes := #[T] }) S h k = op2 (lenA M.P T (S.ev x)) fun v => k S h (.v v) := (rfl)
theorem op_min (x y : Operand) (t : Array TypeId) : opA M E (.call { callee := .builtin .min, args := #[x, y], argTypes := t }) S h k = minA (k S h) (S.ev x) (S.ev y) := by
  show rdA M (.call { callee := .builtin .min, args := #[x, y], argTypes := t }) S h (k S h) = _
  simp only [rdA]
  generalize S.ev x = v
  generalize S.ev y = w
  cases v <;> first | rfl | skip
theorem op_max (x y : Operand) (t : Array TypeId) : opA M E (.call { callee := .builtin .max, args := #[x, y], argTypes := t }) S h k = maxA (k S h) (S.ev x) (S.ev y) := by
  show rdA M (.call { callee := .builtin .max, args := #[x, y], argTypes := t }) S h (k S h) = _
  simp only [rdA]
  generalize S.ev x = v
  generalize S.ev y = w
  cases v <;> first | rfl | skip
theorem op_app (x y : Operand) (T U : TypeId) : opA M E (.call { callee := .builtin .append, args := #[x, y], argTypes := #[T, U] }) S h k = (uk M.P U = .slice ∧ op2 (mk1 M.P T) fun (_, b) => appX S h b k (S.ev x) (S.ev y)) := by
  rfl
theorem op_cop (x y : Operand) (T U : TypeId) : opA M E (.call { callee := .builtin .copy, args := #[x, y], argTypes := #[T, U] }) S h k = op2 (mk1 M.P T) fun _ => copB S h k (S.ev x) (S.ev y) := by
  show (op2 (mk1 M.P T) fun _ => copA S h (S.ev x) (S.ev y) k) = _
  unfold copB copA
  rfl
theorem op_alloc (T : TypeId) : opA M E (.alloc T) S h k = op2 (zer M.P T) fun z => k (S.push z) h (.p S.bx.length 0) := (rfl)
theorem op_box (T : TypeId) (x : Operand) : opA M E (.box T x) S h k = boxA S h k (S.ev x) := by
  show imA M (.box T x) S h E k = _
  simp only [imA]
  generalize S.ev x = v
  cases v <;> rfl
theorem op_store (T : TypeId) (x y : Operand) : opA M E (.store T x y) S h k = stoA M T S h k (S.ev x) (S.ev y) := by
  show imA M (.store T x y) S h E k = _
  simp only [imA]
  generalize S.ev x = v
  generalize S.ev y = w
  cases v <;> cases w <;> rfl
theorem op_ms (T : TypeId) (x y : Operand) : opA M E (.makeSlice T x y) S h k = mksA M T S h k (S.ev x) (S.ev y) := by
  show imA M (.makeSlice T x y) S h E k = _
  simp only [imA]
  generalize S.ev x = v
  generalize S.ev y = w
  cases v <;> first | rfl | skip
theorem op_bs (T : TypeId) (n : Nat) (p : Array (Nat × Operand)) : opA M E (.buildSlice T n p) S h k = op2 (mk1 M.P T) fun (z, _) => n ≤ 2 ^ 24 ∧ op2 (fillA (fun i => some (i, none)) (List.replicate n z) (p.toList.map fun p => (p.1, S.ev p.2))) fun cs => k (S.push cs) h (.s S.bx.length 0 n n) := (rfl)
theorem op_panic (x : Operand) : opA M E (.panic x) S h k = panA E h (S.ev x) := by
  show imA M (.panic x) S h E k = _
  simp only [imA]
  generalize S.ev x = v
  cases v <;> first | rfl | (rename_i v; cases v <;> rfl)
theorem ld1_of {a : Addr} {v : Value} (hv : h.at a = some v) (hk : k S h (.v v)) : ld1 S h a k := ⟨v, hv, hk⟩
theorem ixP_some {ad : Addr} {j : Int} {len e : Nat} : ixP S h (some ad) j len e k = (0 ≤ j ∧ j < len ∧ k S h (.v (.pointer (some (ad.add (j.toNat * e)))))) := propext ⟨fun ⟨_, e, k⟩ => by cases e; exact k, fun k => ⟨_, rfl, k⟩⟩
theorem ble_t {a b : Nat} (h : a ≤ b) : Nat.ble a b = true := by simpa using h
theorem ble_f {a b : Nat} (h : b < a) : Nat.ble a b = false := by
  cases e : Nat.ble a b with
  | false => rfl
  | true => have := Nat.le_of_ble_eq_true e; omega
theorem cls_call (fo : Operand) (x : Array Operand) (t : Array TypeId) : cls (.call { callee := .value fo, args := x, argTypes := t }) = cls (.call { callee := .value fo, args := #[], argTypes := #[] }) ∧ (cls (.call { callee := .value fo, args := x, argTypes := t }) == 0) = false := by
  cases fo with
  | func f => simp only [cls]; split <;> simp
  | _ => exact ⟨rfl, rfl⟩
theorem op_call (fo : Operand) (x : Array Operand) (t : Array TypeId) : opA M E (.call { callee := .value fo, args := x, argTypes := t }) S h k = calA M E fo (x.toList.map S.ev) (S.ev fo) S h k := by
  obtain ⟨h1, h2⟩ := cls_call fo x t
  rw [show opA M E (.call { callee := .value fo, args := x, argTypes := t }) S h k = imA M (.call { callee := .value fo, args := x, argTypes := t }) S h E k from by unfold opA; rw [h2]; rfl]
  simp only [imA, h1]
  split
  · rename_i f first cap hf
    rw [hf]
    simp only [calA]
    split
    · rename_i vs hv
      rw [hv]; rfl
    · rename_i hv
      rw [hv]; rfl
  · rename_i hf
    unfold calA
    split
    · rename_i f first cap hx
      exact (hf _ _ _ hx).elim
    · rfl
end
attribute [go_sem] ixP_some ble_t ble_f op_move op_assign op_pick op_load op_bin op_un op_conv op_fa op_f op_ia op_i op_ex op_sl op_build op_mf op_mi op_len op_min op_max op_app op_cop op_alloc op_box op_store op_ms op_bs op_panic op_call
def dstA (all : List Oper) (j : Nat) : Option Nat := match nth all j with
  | some o => o.dst
  | none => none
def gvB (want : Bool) : AV → Option Bool
  | .v (.bool b) => some (b == want)
  | .v (.tuple _) => some false
  | _ => none
def gvT (S : AS) (want : Bool) : Option Nat → Option Bool
  | some t => gvB want (lk S.sl t)
  | none => none
def gst (M : Mach) (E : List PanicEntry → PH → Prop) (d : Option Nat) (op : Op) : Option Bool → AS → PH → (AS → PH → AV → Prop) → Prop
  | some true, S, h, k => opA M E op S h k
  | some false, S, h, k => k S h (.v undef)
  | none, _, _, _ => False
def AS.putC (S : AS) (d : Option Nat) (x : AV) : AS := S.put d x
theorem putC_n (S : AS) (x : AV) : S.putC none x = S := rfl
theorem putC_s (sl : List (Nat × AV)) (bx : List (List Value)) (d : Nat) (x : AV) : AS.putC ⟨sl, bx⟩ (some d) x = ⟨(d, x) :: sl, bx⟩ := rfl
attribute [go_sem] putC_n putC_s
def walkO (M : Mach) (E : List PanicEntry → PH → Prop) (all : List Oper) : List Oper → (AS → PH → Prop) → AS → PH → Prop
  | [], K, S, h => K S h
  | o :: l, K, S, h => gst M E o.dst o.op (match o.guard with | none => some true | some (j, want) => gvT S want (dstA all j)) S h (fun S' h' x => walkO M E all l K (S'.putC o.dst x) h')
section
variable {M : Mach} {E : List PanicEntry → PH → Prop} {all l : List Oper} {K : AS → PH → Prop} {sl : List (Nat × AV)} {bx : List (List Value)} {h : PH}
theorem wo_nil : walkO M E all [] K ⟨sl, bx⟩ h = K ⟨sl, bx⟩ h := (rfl)
theorem wo_o (d : Option Nat) (op : Op) (T : TypeId) (p : String) (a : Array Edge) : walkO M E all (⟨d, op, T, p, a, none⟩ :: l) K ⟨sl, bx⟩ h = opA M E op ⟨sl, bx⟩ h (fun S' h' x => walkO M E all l K (S'.putC d x) h') := (rfl)
theorem wo_g (d : Option Nat) (op : Op) (T : TypeId) (p : String) (a : Array Edge) (j : Nat) (w : Bool) : walkO M E all (⟨d, op, T, p, a, some (j, w)⟩ :: l) K ⟨sl, bx⟩ h = gst M E d op (gvT ⟨sl, bx⟩ w (dstA all j)) ⟨sl, bx⟩ h (fun S' h' x => walkO M E all l K (S'.putC d x) h') := (rfl)
theorem nth_o (o : Oper) (l : List Oper) : nth (o :: l) 0 = some o := rfl
theorem nth_s (o : Oper) (l : List Oper) (i : Nat) : nth (o :: l) (i + 1) = nth l i := rfl
end
attribute [go_sem] wo_nil wo_o wo_g nth_o nth_s pickO
theorem walkO_eq {M : Mach} {E : List PanicEntry → PH → Prop} {K : AS → PH → Prop} {n : Nat} {ops : Array Oper} : ∀ (pl : List Nat) (gx : List GX), prep n ops (pl.map .o) = some gx → walkO M E ops.toList (pickO ops.toList pl) K = walk M E gx K := by
  intro pl
  induction pl with
  | nil =>
    intro gx hp
    cases hp
    funext S h
    exact propext ⟨fun k => wk0 k, fun k => by unfold walk at k; exact k⟩
  | cons i pl ih =>
    intro gx hp
    simp only [List.map_cons, prep] at hp
    cases ho : nth ops.toList i with
    | none => rw [ho] at hp; cases hp
    | some o =>
      rw [ho] at hp
      dsimp only at hp
      cases hg : gOf ops o with
      | none => rw [hg] at hp; cases hp
      | some gd =>
        rw [hg] at hp
        dsimp only at hp
        cases hd : (o.dst.all (Nat.blt · n)) with
        | false => rw [hd] at hp; cases hp
        | true =>
          rw [hd] at hp
          cases hq : prep n ops (pl.map .o) with
          | none => rw [hq] at hp; cases hp
          | some l' =>
            rw [hq] at hp; cases hp
            have e := ih l' hq
            funext S h
            simp only [pickO, ho, walkO, e]
            have st : opA M E o.op S h (fun S' h' x => walk M E l' K (S'.putC o.dst x) h') = step1 M E ⟨o.dst, o.op, gd⟩ (walk M E l' K) S h := rfl
            unfold gOf at hg
            split at hg
            · rename_i hn
              cases hg
              rw [hn]
              simp only [gst, st]
              exact propext ⟨fun k => by rw [walk.eq_def]; exact k, fun k => by rw [walk.eq_def] at k; exact k⟩
            · rename_i j want hn
              split at hg
              · rename_i t ht
                cases hg
                rw [hn]
                have hda : dstA ops.toList j = some t := by
                  unfold dstA
                  cases hx : nth ops.toList j with
                  | none => rw [hx] at ht; cases ht
                  | some o' => rw [hx] at ht; exact ht
                simp only [hda, gvT]
                refine propext ⟨fun k => ?_, fun k => ?_⟩
                · rw [walk.eq_def]
                  dsimp only
                  cases hl : lk S.sl t with
                  | top => rw [hl] at k; exact k.elim
                  | p i off => rw [hl] at k; exact k.elim
                  | s i off len cap => rw [hl] at k; exact k.elim
                  | v x =>
                    rw [hl] at k
                    cases x <;> first | exact k.elim | exact k | skip
                    rename_i b
                    simp only [gvB] at k
                    dsimp only
                    cases b <;> cases want <;> first | exact ⟨fun _ => k, fun e => (nomatch e)⟩ | exact ⟨fun e => (nomatch e), fun _ => k⟩
                · rw [walk.eq_def] at k
                  dsimp only at k
                  cases hl : lk S.sl t with
                  | top => rw [hl] at k; exact k.elim
                  | p i off => rw [hl] at k; exact k.elim
                  | s i off len cap => rw [hl] at k; exact k.elim
                  | v x =>
                    rw [hl] at k
                    cases x <;> first | exact k.elim | exact k | skip
                    rename_i b
                    dsimp only at k
                    simp only [gvB]
                    cases b <;> cases want <;> first | exact k.1 rfl | exact k.2 rfl
              · cases hg
def walkZ (M : Mach) (E : List PanicEntry → PH → Prop) (all : List Oper) (K : AS → PH → Prop) : TT → AS → PH → Prop
  | .d => K
  | .s l t => walkO M E all (pickO all l) (walkZ M E all K t)
  | .a i t u => fun S h => walkO M E all (pickO all [i]) (walkZ M E all K t) S h ∧ walkZ M E all K u S h
  | .p i t => fun S h => pubA S h i (walkZ M E all K t)
  | .n => fun _ _ => True
section
variable {M : Mach} {E : List PanicEntry → PH → Prop} {all l : List Oper} {K : AS → PH → Prop} {sl : List (Nat × AV)} {bx : List (List Value)} {h : PH}
theorem wz_d : walkZ M E all K .d ⟨sl, bx⟩ h = K ⟨sl, bx⟩ h := (rfl)
theorem wz_s (l : List Nat) (t : TT) : walkZ M E all K (.s l t) ⟨sl, bx⟩ h = walkO M E all (pickO all l) (walkZ M E all K t) ⟨sl, bx⟩ h := (rfl)
theorem wz_a (i : Nat) (t u : TT) : walkZ M E all K (.a i t u) ⟨sl, bx⟩ h = (walkO M E all (pickO all [i]) (walkZ M E all K t) ⟨sl, bx⟩ h ∧ walkZ M E all K u ⟨sl, bx⟩ h) := (rfl)
theorem wz_p (i : Nat) (t : TT) : walkZ M E all K (.p i t) ⟨sl, bx⟩ h = (i < bx.length ∧ ∀ b h', Step h h' → ((⟨sl, bx⟩ : AS).box i ≠ [] → h' b = some ((⟨sl, bx⟩ : AS).box i).toArray) → walkZ M E all K t ((⟨sl, bx⟩ : AS).pub i b) h') := (rfl)
theorem wz_n : walkZ M E all K .n ⟨sl, bx⟩ h = True := (rfl)
end
attribute [go_sem] wz_d wz_s wz_a wz_p wz_n
theorem walkZ_eq {M : Mach} {E : List PanicEntry → PH → Prop} {K : AS → PH → Prop} {n : Nat} {ops : Array Oper} : ∀ (t : TT) (g : GT), prepT n ops t.it = some g → walkZ M E ops.toList K t = walkT M E K g := by
  intro t
  induction t with
  | d => intro g h; cases h; rfl
  | n => intro g h; cases h; rfl
  | s l t ih =>
    intro g h
    simp only [TT.it, prepT] at h
    split at h
    · rename_i l' t' h1 h2
      cases h
      simp only [walkZ, ih _ h2]
      rw [walkO_eq _ _ h1]
      rfl
    · cases h
  | p i t ih =>
    intro g h
    simp only [TT.it, prepT, prep] at h
    split at h
    · rename_i l' t' h1 h2
      cases h1
      cases h
      simp only [walkZ, ih _ h2]
      funext S h
      refine propext ⟨fun k => ?_, fun k => ?_⟩
      · exact wt_seg (wkp ⟨k.1, fun b h' s e => wk0 (k.2 b h' s e)⟩)
      · have k : walk M E [.p i] (walkT M E K t') S h := k
        rw [walk.eq_def] at k
        exact ⟨k.1, fun b h' s e => by have := k.2 b h' s e; rw [walk.eq_def] at this; exact this⟩
    · cases h
  | a i t u iht ihu =>
    intro g h
    simp only [TT.it, prepT] at h
    split at h
    · rename_i g' t' u' h1 h2 h3
      cases h
      simp only [walkZ, iht _ h2, ihu _ h3]
      rw [walkO_eq (n := n) (ops := ops) [i] [g'] h1]
      rfl
    · cases h
theorem walkZ_pl {M : Mach} {E : List PanicEntry → PH → Prop} {K : AS → PH → Prop} {n : Nat} {ops : Array Oper} : ∀ (t : TT) (pl : List PL) (l : List GX), t.pl = some pl → prep n ops pl = some l → walkZ M E ops.toList K t = walk M E l K := by
  intro t
  induction t with
  | d => intro pl l h hp; cases h; cases hp; funext S h'; exact propext ⟨fun k => wk0 k, fun k => by rw [walk.eq_def] at k; exact k⟩
  | n => intro pl l h; cases h
  | a i t u => intro pl l h; cases h
  | p i t ih =>
    intro pl l h hp
    simp only [TT.pl, Option.map_eq_some_iff] at h
    obtain ⟨pl', h1, rfl⟩ := h
    simp only [prep] at hp
    cases hq : prep n ops pl' with
    | none => rw [hq] at hp; cases hp
    | some l' =>
      rw [hq] at hp; cases hp
      funext S h'
      have e : walkZ M E ops.toList K (.p i t) S h' = pubA S h' i (walk M E l' K) := by rw [← ih _ _ h1 hq]; rfl
      rw [e]
      exact propext ⟨fun k => wkp k, fun k => by rw [walk.eq_def] at k; exact k⟩
  | s x t ih =>
    intro pl l h hp
    simp only [TT.pl, Option.map_eq_some_iff] at h
    obtain ⟨pl', h1, rfl⟩ := h
    have key : ∀ (x : List Nat) (l : List GX), prep n ops (x.map .o ++ pl') = some l → ∃ l1 l2, prep n ops (x.map .o) = some l1 ∧ prep n ops pl' = some l2 ∧ ∀ K, walk M E l K = walk M E l1 (walk M E l2 K) := by
      intro x
      induction x with
      | nil => intro l e; exact ⟨[], l, rfl, e, fun K => by funext S h; exact propext ⟨fun k => wk0 k, fun k => by rw [walk.eq_def] at k; exact k⟩⟩
      | cons i x ihx =>
        intro l e
        simp only [List.map_cons, List.cons_append, prep] at e ⊢
        cases ho : nth ops.toList i with
        | none => rw [ho] at e; cases e
        | some o =>
          rw [ho] at e
          dsimp only at e ⊢
          cases hg : gOf ops o with
          | none => rw [hg] at e; cases e
          | some gd =>
            rw [hg] at e
            dsimp only at e ⊢
            cases hd : (o.dst.all (Nat.blt · n)) with
            | false => rw [hd] at e; cases e
            | true =>
              rw [hd] at e
              cases hq : prep n ops (x.map .o ++ pl') with
              | none => rw [hq] at e; cases e
              | some l' =>
                rw [hq] at e; cases e
                obtain ⟨l1, l2, e1, e2, e3⟩ := ihx l' hq
                refine ⟨.o ⟨o.dst, o.op, gd⟩ :: l1, l2, by rw [e1]; rfl, e2, fun K => ?_⟩
                funext S h
                rw [walk.eq_def, walk.eq_def M E (_ :: l1)]
                simp only [e3]
    obtain ⟨l1, l2, e1, e2, e3⟩ := key x l hp
    rw [e3, ← ih _ _ h1 e2, ← walkO_eq _ _ e1]
    rfl
theorem pick_range (all : List Oper) : pickO all (List.range all.length) = all := by
  have key : ∀ (l pre : List Oper), pre ++ l = all → pickO all (List.range' pre.length l.length) = l := by
    intro l
    induction l with
    | nil => intro pre _; rfl
    | cons o l ih =>
      intro pre he
      have h1 : nth all pre.length = some o := by rw [nth_eq, ← he]; simp
      have h2 := ih (pre ++ [o]) (by simpa using he)
      simp only [List.length_append, List.length_singleton] at h2
      simp only [List.length_cons, List.range'_succ, pickO, h1, h2]
  simpa [List.range_eq_range'] using key all [] rfl
def qS (next : AS → PH → Prop) (Q : Exit → AS → PH → Prop) : Exit → AS → PH → Prop := qs next Q
def qB (id : Nat) (Q : Exit → AS → PH → Prop) : Exit → AS → PH → Prop := qb id Q
def rQ (P : Program) (rs : List ResultVar) (R : Value → PH → Prop) : Exit → AS → PH → Prop := rq P rs R
def cndA : AV → (AS → PH → Prop) → (AS → PH → Prop) → AS → PH → Prop
  | .v (.bool b), p, q, S, h => (b = true → p S h) ∧ (b = false → q S h)
  | _, _, _, _, _ => False
theorem cnd_t (p q : AS → PH → Prop) (S : AS) (h : PH) : cndA (.v (.bool true)) p q S h = p S h := propext ⟨fun k => k.1 rfl, fun k => ⟨fun _ => k, fun e => (nomatch e)⟩⟩
theorem cnd_f (p q : AS → PH → Prop) (S : AS) (h : PH) : cndA (.v (.bool false)) p q S h = q S h := propext ⟨fun k => k.2 rfl, fun k => ⟨fun e => (nomatch e), fun _ => k⟩⟩
def runR (M : Mach) (n : Nat) (C : Ctx) (E : List PanicEntry → PH → Prop) (id : Nat) (ops : Array Oper) (d : Bool) (Q : Exit → AS → PH → Prop) : Option PW → AS → PH → Prop
  | none => walkO M E ops.toList ops.toList (Q .normal)
  | some (.o o) => walkO M E ops.toList (pickO ops.toList o) (Q .normal)
  | some (.t t) => walkZ M E ops.toList (Q .normal) t
  | some (.y t) => walkZ M E ops.toList (Q .normal) t
  | some .x => AWP M n C (.region id ops d) Q E
def runC (M : Mach) (n : Nat) (C : Ctx) (E : List PanicEntry → PH → Prop) (pl : Plans) : Code → (Exit → AS → PH → Prop) → AS → PH → Prop
  | .region id ops d, Q => runR M n C E id ops d Q (pl.get id)
  | .seq x y, Q => runC M n C E pl x (qS (runC M n C E pl y Q) Q)
  | .block id x, Q => runC M n C E pl x (qB id Q)
  | .cond c x y, Q => fun S h => cndA (S.ev c) (runC M n C E pl x Q) (runC M n C E pl y Q) S h
  | .exit id, Q => Q (.exit id)
  | .skip, Q => Q .normal
  | .ret, Q => Q .ret
  | c, Q => AWP M n C c Q E
def chkC (n : Nat) (pl : Plans) : Code → Bool
  | .region id ops d => match pl.get id with
    | none => (prep n ops ((List.range ops.size).map .o)).isSome && (!d || regionOk ops (List.range ops.size))
    | some (.o o) => (prep n ops (o.map .o)).isSome && (bif d then regionOk ops o else o == List.range ops.size)
    | some (.t t) => bif d then (prepT n ops t.it).isSome && regionOkT ops t.it else match t.pl with
      | some pl => (prep n ops pl).isSome && order pl == List.range ops.size
      | none => false
    | some (.y t) => d && ((Nat.ble (deep t.it) ops.size && chkY ops t.it true (Array.replicate ops.size false)) && (prepT n ops t.it).isSome)
    | some .x => true
  | .seq x y => chkC n pl x && chkC n pl y
  | .block _ x => chkC n pl x
  | .cond _ x y => chkC n pl x && chkC n pl y
  | _ => true
theorem order_map (l : List Nat) : order (l.map .o) = l := by
  induction l with
  | nil => rfl
  | cons x l ih => simp [order, ih]
theorem run_sound {M : Mach} {n : Nat} {C : Ctx} {E : List PanicEntry → PH → Prop} {pl : Plans} : ∀ (c : Code) (Q : Exit → AS → PH → Prop) (S : AS) (h : PH), chkC n pl c = true → runC M n C E pl c Q S h → AWP M n C c Q E S h := by
  intro c
  induction c with
  | region id ops d =>
    intro Q S h hc hr
    simp only [chkC] at hc
    simp only [runC] at hr
    cases hp : pl.get id with
    | none =>
      rw [hp] at hc hr
      simp only [Bool.and_eq_true] at hc
      obtain ⟨l, hl⟩ := Option.isSome_iff_exists.1 hc.1
      have e := walkO_eq (M := M) (E := E) (K := Q .normal) _ l hl
      rw [show List.range ops.size = List.range ops.toList.length by simp, pick_range] at e
      have hw : walkO M E ops.toList ops.toList (Q .normal) S h := hr
      rw [e] at hw
      clear hr
      cases d with
      | false => exact AWP_s hl hw
      | true => exact AWP_d (plain ops.size) (by rw [order_plain]; simpa using hc.2) hl hw
    | some o =>
      cases o with
      | x => rw [hp] at hr; exact hr
      | y t =>
        rw [hp] at hc hr
        simp only [Bool.and_eq_true] at hc
        obtain ⟨hd, hc1, hc2⟩ := hc
        subst hd
        have hw : walkZ M E ops.toList (Q .normal) t S h := hr
        obtain ⟨g, hg⟩ := Option.isSome_iff_exists.1 hc2
        rw [walkZ_eq t g hg] at hw
        exact wp_region_y t.it (by simp only [Bool.and_eq_true]; exact hc1) hg hw
      | t t =>
        rw [hp] at hc hr
        have hw : walkZ M E ops.toList (Q .normal) t S h := hr
        cases d with
        | false =>
          simp only [cond_false] at hc
          cases hpl : t.pl with
          | none => rw [hpl] at hc; cases hc
          | some pl =>
            rw [hpl] at hc
            simp only [Bool.and_eq_true, beq_iff_eq] at hc
            obtain ⟨l, hl⟩ := Option.isSome_iff_exists.1 hc.1
            rw [walkZ_pl t pl l hpl hl] at hw
            exact AWP_sp pl hc.2 hl hw
        | true =>
        simp only [cond_true, Bool.and_eq_true] at hc
        obtain ⟨hc1, hc3⟩ := hc
        obtain ⟨g, hg⟩ := Option.isSome_iff_exists.1 hc1
        rw [walkZ_eq t g hg] at hw
        exact fun β a w hg' => wp_region_t M.mixed t.it hc3 (fun c a d v w => LQ_panic c a d v w) (RT_of_walkT t.it g S h β a _ hg hw (hg'.below (below_drew w)))
      | o o =>
        rw [hp] at hc hr
        simp only [Bool.and_eq_true] at hc
        obtain ⟨l, hl⟩ := Option.isSome_iff_exists.1 hc.1
        have hw : walkO M E ops.toList (pickO ops.toList o) (Q .normal) S h := hr
        rw [walkO_eq _ l hl] at hw
        clear hr
        cases d with
        | false => exact AWP_sp (o.map .o) (by rw [order_map]; simpa using hc.2) hl hw
        | true => exact AWP_d (o.map .o) (by rw [order_map]; simpa using hc.2) hl hw
  | seq x y ihx ihy =>
    intro Q S h hc hr
    simp only [chkC, Bool.and_eq_true] at hc
    refine AWP_seq (AWP_mono (ihx _ S h hc.1 hr) fun e S h k => ?_)
    cases e <;> first | exact ihy Q S h hc.2 k | exact k
  | block id x ih => intro Q S h hc hr; exact AWP_block (ih _ S h hc hr)
  | cond c x y ihx ihy =>
    intro Q S h hc hr
    simp only [chkC, Bool.and_eq_true] at hc
    simp only [runC] at hr
    cases hv : S.ev c with
    | v x =>
      rw [hv] at hr
      cases x <;> first | exact hr.elim | skip
      exact AWP_cond hv (fun e => ihx Q S h hc.1 (hr.1 e)) (fun e => ihy Q S h hc.2 (hr.2 e))
    | _ => rw [hv] at hr; exact hr.elim
  | exit id => intro Q S h _ hr; exact AWP_exit hr
  | skip => intro Q S h _ hr; exact AWP_skip hr
  | ret => intro Q S h _ hr; exact AWP_ret hr
  | _ => intro Q S h _ hr; exact hr
section
variable {M : Mach} {n : Nat} {C : Ctx} {E : List PanicEntry → PH → Prop} {pl : Plans} {Q : Exit → AS → PH → Prop} {S S' : AS} {sl : List (Nat × AV)} {bx : List (List Value)} {h : PH} {K next : AS → PH → Prop}
theorem run_region (id : Nat) (ops : List Oper) (d : Bool) : runC M n C E pl (.region id ops.toArray d) Q ⟨sl, bx⟩ h = runR M n C E id ops.toArray d Q (pl.get id) ⟨sl, bx⟩ h := (rfl)
theorem runR_none (id : Nat) (ops : List Oper) (d : Bool) : runR M n C E id ops.toArray d Q none ⟨sl, bx⟩ h = walkO M E ops ops (Q .normal) ⟨sl, bx⟩ h := (rfl)
theorem runR_tree (id : Nat) (ops : List Oper) (d : Bool) (t : TT) : runR M n C E id ops.toArray d Q (some (.t t)) ⟨sl, bx⟩ h = walkZ M E ops (Q .normal) t ⟨sl, bx⟩ h := (rfl)
theorem runR_some (id : Nat) (ops : List Oper) (d : Bool) (o : List Nat) : runR M n C E id ops.toArray d Q (some (.o o)) ⟨sl, bx⟩ h = walkO M E ops (pickO ops o) (Q .normal) ⟨sl, bx⟩ h := (rfl)
theorem runR_any (id : Nat) (ops : List Oper) (d : Bool) (t : TT) : runR M n C E id ops.toArray d Q (some (.y t)) ⟨sl, bx⟩ h = walkZ M E ops (Q .normal) t ⟨sl, bx⟩ h := (rfl)
theorem runR_no (id : Nat) (ops : Array Oper) (d : Bool) : runR M n C E id ops d Q (some .x) ⟨sl, bx⟩ h = AWP M n C (.region id ops d) Q E ⟨sl, bx⟩ h := (rfl)
theorem run_seq (x y : Code) : runC M n C E pl (.seq x y) Q ⟨sl, bx⟩ h = runC M n C E pl x (qS (runC M n C E pl y Q) Q) ⟨sl, bx⟩ h := (rfl)
theorem run_block (id : Nat) (x : Code) : runC M n C E pl (.block id x) Q ⟨sl, bx⟩ h = runC M n C E pl x (qB id Q) ⟨sl, bx⟩ h := (rfl)
theorem run_cond (c : Operand) (x y : Code) : runC M n C E pl (.cond c x y) Q ⟨sl, bx⟩ h = cndA (AS.ev (⟨sl, bx⟩ : AS) c) (runC M n C E pl x Q) (runC M n C E pl y Q) ⟨sl, bx⟩ h := (rfl)
theorem run_exit (id : Nat) : runC M n C E pl (.exit id) Q ⟨sl, bx⟩ h = Q (.exit id) ⟨sl, bx⟩ h := (rfl)
theorem run_skip : runC M n C E pl .skip Q ⟨sl, bx⟩ h = Q .normal ⟨sl, bx⟩ h := (rfl)
theorem run_ret : runC M n C E pl .ret Q ⟨sl, bx⟩ h = Q .ret ⟨sl, bx⟩ h := (rfl)
theorem run_loop (c : Code) : runC M n C E pl (.loop c) Q ⟨sl, bx⟩ h = AWP M n C (.loop c) Q E ⟨sl, bx⟩ h := (rfl)
theorem qs_e (k : Nat) : qS next Q (.exit k) S h = Q (.exit k) S h := (rfl)
theorem qs_r : qS next Q .ret S h = Q .ret S h := (rfl)
theorem qs_nn : qS next Q .normal S h = next S h := (rfl)
theorem qb_e (k : Nat) : qB k Q (.exit k) S h = Q .normal S h := by simp only [qB, qb, if_true]
theorem qb_ne {k id : Nat} (hk : k ≠ id) : qB id Q (.exit k) S h = Q (.exit k) S h := by simp only [qB, qb, hk, if_false]
theorem qb_r (id : Nat) : qB id Q .ret S h = Q .ret S h := (rfl)
theorem rq_r {P : Program} {rs : List ResultVar} {R : Value → PH → Prop} : rQ P rs R .ret S h = op2 (resA P S rs) fun v => R v h := (rfl)
theorem rq_n {P : Program} {rs : List ResultVar} {R : Value → PH → Prop} : rQ P rs R .normal S h = op2 (resA P S rs) fun v => R v h := (rfl)
theorem qb_n (id : Nat) : qB id Q .normal S h = Q .normal S h := (rfl)
end
attribute [go_sem] run_region runR_none runR_tree runR_any runR_some runR_no run_seq run_block run_cond run_exit run_skip run_ret run_loop qs_e qs_r qs_nn qb_e qb_ne qb_r qb_n rq_r rq_n cnd_t cnd_f
theorem calV_1 : type_of% @calV.eq_1 := id @calV.eq_1
theorem calV_2 : type_of% @calV.eq_2 := id @calV.eq_2
theorem calA_1 : type_of% @calA.eq_1 := id @calA.eq_1
theorem ldN_1 : type_of% @ldN.eq_1 := id @ldN.eq_1
theorem ldN_2 : type_of% @ldN.eq_2 := id @ldN.eq_2
theorem ldA_1 : type_of% @ldA.eq_1 := id @ldA.eq_1
theorem ldA_2 : type_of% @ldA.eq_2 := id @ldA.eq_2
theorem pickA_1 : type_of% @pickA.eq_1 := id @pickA.eq_1
theorem unA_1 : type_of% @unA.eq_1 := id @unA.eq_1
theorem unA_2 : type_of% @unA.eq_2 := id @unA.eq_2
theorem convA_1 : type_of% @convA.eq_1 := id @convA.eq_1
theorem faA_1 : type_of% @faA.eq_1 := id @faA.eq_1
theorem faA_2 : type_of% @faA.eq_2 := id @faA.eq_2
theorem fA_1 : type_of% @fA.eq_1 := id @fA.eq_1
theorem iaA_1 : type_of% @iaA.eq_1 := id @iaA.eq_1
theorem iaA_2 : type_of% @iaA.eq_2 := id @iaA.eq_2
theorem iaA_3 : type_of% @iaA.eq_3 := id @iaA.eq_3
theorem iaA_4 : type_of% @iaA.eq_4 := id @iaA.eq_4
theorem iA_1 : type_of% @iA.eq_1 := id @iA.eq_1
theorem iA_2 : type_of% @iA.eq_2 := id @iA.eq_2
theorem extA_1 : type_of% @extA.eq_1 := id @extA.eq_1
theorem slcA_1 : type_of% @slcA.eq_1 := id @slcA.eq_1
theorem slcA_2 : type_of% @slcA.eq_2 := id @slcA.eq_2
theorem miA_1 : type_of% @miA.eq_1 := id @miA.eq_1
theorem minA_1 : type_of% @minA.eq_1 := id @minA.eq_1
theorem maxA_1 : type_of% @maxA.eq_1 := id @maxA.eq_1
theorem boxA_1 : type_of% @boxA.eq_1 := id @boxA.eq_1
theorem stoA_1 : type_of% @stoA.eq_1 := id @stoA.eq_1
theorem mksA_1 : type_of% @mksA.eq_1 := id @mksA.eq_1
theorem panA_1 : type_of% @panA.eq_1 := id @panA.eq_1
theorem appX_1 : type_of% @appX.eq_1 := id @appX.eq_1
theorem appX_2 : type_of% @appX.eq_2 := id @appX.eq_2
theorem appB_1 : type_of% @appB.eq_1 := id @appB.eq_1
theorem appB_2 : type_of% @appB.eq_2 := id @appB.eq_2
theorem copB_1 : type_of% @copB.eq_1 := id @copB.eq_1
theorem gvB_u (w : Bool) : gvB w (.v undef) = some false := (rfl)
theorem gvB_t (w : Bool) : gvB w (.v (.bool true)) = some w := by cases w <;> (rfl)
theorem gvB_f (w : Bool) : gvB w (.v (.bool false)) = some (!w) := by cases w <;> (rfl)
theorem gvB_2 : type_of% @gvB.eq_2 := id @gvB.eq_2
theorem gvT_1 : type_of% @gvT.eq_1 := id @gvT.eq_1
theorem gvT_2 : type_of% @gvT.eq_2 := id @gvT.eq_2
theorem gst_1 : type_of% @gst.eq_1 := id @gst.eq_1
theorem gst_2 : type_of% @gst.eq_2 := id @gst.eq_2
attribute [go_sem] dstA calV_1 calV_2 calA_1 ldN_1 ldN_2 ldA_1 ldA_2 pickA_1 unA_1 unA_2 convA_1 faA_1 faA_2 fA_1 iaA_1 iaA_2 iaA_3 iaA_4 iA_1 iA_2 extA_1 slcA_1 slcA_2 miA_1 minA_1 maxA_1 boxA_1 stoA_1 mksA_1 panA_1 appX_1 appX_2 appB_1 appB_2 copB_1 gvB_t gvB_f gvB_u gvB_2 gvT_1 gvT_2 gst_1 gst_2
section
variable {M : Mach} {n : Nat} {C : Ctx} {E : List PanicEntry → PH → Prop} {pl : Plans} {Q : Exit → AS → PH → Prop} {S S' : AS} {h : PH} {K next p q : AS → PH → Prop} {k : AS → PH → AV → Prop} {kr : AV → Prop}
@[congr] theorem cg_run {c : Code} (e : Unit → S = S') : runC M n C E pl c Q S h = runC M n C E pl c Q S' h := by rw [e ()]
@[congr] theorem cg_runR {id : Nat} {ops : Array Oper} {d : Bool} {o o' : Option PW} (e : Unit → S = S') (e' : Unit → o = o') : runR M n C E id ops d Q o S h = runR M n C E id ops d Q o' S' h := by rw [e (), e' ()]
@[congr] theorem cg_walkO {all l l' : List Oper} (e : Unit → S = S') : walkO M E all l K S h = walkO M E all l K S' h := by rw [e ()]
@[congr] theorem cg_walkZ {all : List Oper} {t : TT} (e : Unit → S = S') : walkZ M E all K t S h = walkZ M E all K t S' h := by rw [e ()]
@[congr] theorem cg_opA {op : Op} (e : Unit → S = S') : opA M E op S h k = opA M E op S' h k := by rw [e ()]
@[congr] theorem cg_gst {d : Option Nat} {op : Op} {o o' : Option Bool} (e : Unit → S = S') (e' : Unit → o = o') : gst M E d op o S h k = gst M E d op o' S' h k := by rw [e (), e' ()]
@[congr] theorem cg_ldN {a : Addr} {o o' : Option Nat} (e : Unit → S = S') (e1 : Unit → o = o') : ldN S h a k o = ldN S' h a k o' := by rw [e (), e1 ()]
@[congr] theorem cg_ld1 {a a' : Addr} (e : Unit → S = S') (e1 : Unit → a = a') : ld1 S h a k = ld1 S' h a' k := by rw [e (), e1 ()]
@[congr] theorem cg_ldm {a a' : Addr} {m : Nat} (e : Unit → S = S') (e1 : Unit → a = a') : ldm S h a m k = ldm S' h a' m k := by rw [e (), e1 ()]
@[congr] theorem cg_ixP {a a' : Option Addr} {j j' : Int} {len ln len' : Nat} (e : Unit → S = S') (e1 : Unit → a = a') (e2 : Unit → j = j') (e3 : Unit → len = len') : ixP S h a j len ln k = ixP S' h a' j' len' ln k := by rw [e (), e1 (), e2 (), e3 ()]
@[congr] theorem cg_ixS {s : ByteArray} {j j' : Int} (e : Unit → S = S') (e2 : Unit → j = j') : ixS S h s j k = ixS S' h s j' k := by rw [e (), e2 ()]
@[congr] theorem cg_ldA {T : TypeId} {x x' : AV} (e : Unit → S = S') (e1 : Unit → x = x') : ldA M T S h k x = ldA M T S' h k x' := by rw [e (), e1 ()]
@[congr] theorem cg_pickA {x y z x' y' z' : AV} (e : Unit → x = x') (e' : Unit → y = y') (e2 : Unit → z = z') : pickA kr x y z = pickA kr x' y' z' := by rw [e (), e' (), e2 ()]
@[congr] theorem cg_unA {o : UnOp} {x x' : AV} (e : Unit → x = x') : unA kr o x = unA kr o x' := by rw [e ()]
@[congr] theorem cg_convA {a b a' b' : UK} {x x' : AV} (e : Unit → x = x') (e1 : Unit → a = a') (e2 : Unit → b = b') : convA kr a b x = convA kr a' b' x' := by rw [e (), e1 (), e2 ()]
@[congr] theorem cg_faA {o : Nat} {x x' : AV} (e : Unit → x = x') : faA kr o x = faA kr o x' := by rw [e ()]
@[congr] theorem cg_fA {o o' : Option (Nat × Option Nat)} {x x' : AV} (e : Unit → x = x') (e' : Unit → o = o') : fA kr o x = fA kr o' x' := by rw [e (), e' ()]
@[congr] theorem cg_iaA {T : TypeId} {o : Nat} {x x' y y' : AV} (e : Unit → S = S') (e1 : Unit → x = x') (e2 : Unit → y = y') : iaA M T S h k o x y = iaA M T S' h k o x' y' := by rw [e (), e1 (), e2 ()]
@[congr] theorem cg_iA {T : TypeId} {x x' y y' : AV} (e : Unit → S = S') (e1 : Unit → x = x') (e2 : Unit → y = y') : iA M T S h k x y = iA M T S' h k x' y' := by rw [e (), e1 (), e2 ()]
@[congr] theorem cg_extA {o : Nat} {x x' : AV} (e : Unit → x = x') : extA kr o x = extA kr o x' := by rw [e ()]
@[congr] theorem cg_slcA {T : TypeId} {l u l' u' : Option AV} {x x' : AV} (e : Unit → x = x') (e1 : Unit → l = l') (e2 : Unit → u = u') : slcA M T kr l u x = slcA M T kr l' u' x' := by rw [e (), e1 (), e2 ()]
@[congr] theorem cg_miA {T : TypeId} {x x' : AV} (e : Unit → x = x') : miA M T kr x = miA M T kr x' := by rw [e ()]
@[congr] theorem cg_minA {x x' y y' : AV} (e : Unit → x = x') (e' : Unit → y = y') : minA kr x y = minA kr x' y' := by rw [e (), e' ()]
@[congr] theorem cg_maxA {x x' y y' : AV} (e : Unit → x = x') (e' : Unit → y = y') : maxA kr x y = maxA kr x' y' := by rw [e (), e' ()]
@[congr] theorem cg_boxA {x x' : AV} (e : Unit → S = S') (e' : Unit → x = x') : boxA S h k x = boxA S' h k x' := by rw [e (), e' ()]
@[congr] theorem cg_stoA {T : TypeId} {x x' y y' : AV} (e : Unit → S = S') (e1 : Unit → x = x') (e2 : Unit → y = y') : stoA M T S h k x y = stoA M T S' h k x' y' := by rw [e (), e1 (), e2 ()]
@[congr] theorem cg_mksA {T : TypeId} {x x' y y' : AV} (e : Unit → S = S') (e1 : Unit → x = x') (e2 : Unit → y = y') : mksA M T S h k x y = mksA M T S' h k x' y' := by rw [e (), e1 (), e2 ()]
@[congr] theorem cg_opt {α : Type} {o o' : Option α} {f : α → Prop} (e : Unit → o = o') : op2 o f = op2 o' f := by rw [e ()]
@[congr] theorem cg_cndA {x x' : AV} (e : Unit → x = x') (e' : Unit → S = S') : cndA x p q S h = cndA x' p q S' h := by rw [e (), e' ()]
@[congr] theorem cg_qs {x : Exit} (e : Unit → S = S') : qS next Q x S h = qS next Q x S' h := by rw [e ()]
@[congr] theorem cg_qb {x : Exit} {id : Nat} (e : Unit → S = S') : qB id Q x S h = qB id Q x S' h := by rw [e ()]
@[congr] theorem cg_AWP {c : Code} (e : Unit → S = S') : AWP M n C c Q E S h = AWP M n C c Q E S' h := by rw [e ()]
@[congr] theorem cg_rq {P : Program} {rs : List ResultVar} {R : Value → PH → Prop} {x : Exit} (e : Unit → S = S') : rQ P rs R x S h = rQ P rs R x S' h := by rw [e ()]
@[congr] theorem cg_calS {f : FuncId} {vs vs' : List Value} (e : Unit → vs = vs') (e' : Unit → S = S') : calS M E f vs S h k = calS M E f vs' S' h k := by rw [e (), e' ()]
@[congr] theorem cg_calL {fo : Operand} {f : FuncId} {vs vs' : List AV} (e : Unit → vs = vs') (e' : Unit → S = S') : calL M fo f vs S h k = calL M fo f vs' S' h k := by rw [e (), e' ()]
@[congr] theorem cg_calV {fo : Operand} {f : FuncId} {first cap first' cap' : List Value} {xs xs' : List AV} {o o' : Option (List Value)} (e1 : Unit → first = first') (e2 : Unit → cap = cap') (e3 : Unit → xs = xs') (e4 : Unit → o = o') (e5 : Unit → S = S') : calV M E fo f first cap xs o S h k = calV M E fo f first' cap' xs' o' S' h k := by rw [e1 (), e2 (), e3 (), e4 (), e5 ()]
@[congr] theorem cg_calA {fo : Operand} {xs xs' : List AV} {x x' : AV} (e1 : Unit → xs = xs') (e2 : Unit → x = x') (e3 : Unit → S = S') : calA M E fo xs x S h k = calA M E fo xs' x' S' h k := by rw [e1 (), e2 (), e3 ()]
@[congr] theorem cg_appX {b : Nat} {x x' y y' : AV} (e0 : Unit → S = S') (e1 : Unit → x = x') (e2 : Unit → y = y') : appX S h b k x y = appX S' h b k x' y' := by rw [e0 (), e1 (), e2 ()]
@[congr] theorem cg_appP {b m m' : Nat} {a a' : Option Addr} {x x' : AV} (e0 : Unit → S = S') (e1 : Unit → x = x') (e2 : Unit → a = a') (e3 : Unit → m = m') : appP S h b a m k x = appP S' h b a' m' k x' := by rw [e0 (), e1 (), e2 (), e3 ()]
@[congr] theorem cg_appB {b m m' : Nat} {ns ns' : List Value} {x x' : AV} (e1 : Unit → m = m') (e2 : Unit → ns = ns') (e : Unit → x = x') (e3 : Unit → S = S') : appB S h b m ns k x = appB S' h b m' ns' k x' := by rw [e (), e1 (), e2 (), e3 ()]
@[congr] theorem cg_copB {x x' y y' : AV} (e1 : Unit → x = x') (e2 : Unit → y = y') (e3 : Unit → S = S') : copB S h k x y = copB S' h k x' y' := by rw [e1 (), e2 (), e3 ()]
@[congr] theorem cg_bnA {P : Program} {op : BinOp} {T : TypeId} {x y x' y' : AV} {f : Value → Prop} (e : Unit → x = x') (e' : Unit → y = y') : bnA P op T x y f = bnA P op T x' y' f := by rw [e (), e' ()]
@[congr] theorem cg_pubA {i : Nat} {f : AS → PH → Prop} (e3 : Unit → S = S') : pubA S h i f = pubA S' h i f := by rw [e3 ()]
theorem Spec.go {f : FuncId} {fn : Func} {c : Code} {args : List Value} {R : Value → PH → Prop} {rs : List ResultVar} (pl : Plans) (hf : M.P.funcs[f]? = some fn) (hb : fn.body = some c) (hr : fn.results = rs.toArray) (hc : (callable M.P f && Nat.ble args.length fn.ntmps && chkC fn.ntmps pl c) = true)
    (hk : ∀ C [NoPin C], runC M fn.ntmps C E pl c (rQ M.P rs R) ⟨argS 0 args, []⟩ h) : Spec M f args.toArray h R E := by
  simp only [Bool.and_eq_true] at hc
  exact Spec.enter hf hb hc.1.1 rfl (Nat.le_of_ble_eq_true hc.1.2) rs hr fun C _ => run_sound c _ _ _ hc.2 (hk C)
theorem caN {f : FuncId} {vs : List Value} {R : Value → PH → Prop} (s : Spec M f vs.toArray h R NP) (hn : ∀ v h', Step h h' → R v h' → k S h' (.v v)) : calS M E f vs S h k := .inl ⟨R, NP, s, hn, fun _ _ _ x => x.elim⟩
end
def lpE {ι : Type} (St : ι → AS) (Inv : ι → PH → Prop) (m : ι → Nat) (x : ι) (S : AS) (h : PH) : Prop := ∃ y, S.le (St y) ∧ Inv y h ∧ m y < m x
def lpS {ι : Type} (St : ι → AS) (Inv : ι → PH → Prop) (m : ι → Nat) (x : ι) (S : AS) (h : PH) : Prop := ∃ y ix, S.leS (St y) ix ∧ Inv y h ∧ m y < m x
section
variable {ι : Type} {St : ι → AS} {Inv : ι → PH → Prop} {m : ι → Nat} {x : ι} {M : Mach} {n : Nat} {C : Ctx} {E : List PanicEntry → PH → Prop} {Q : Exit → AS → PH → Prop} {S S' : AS} {h : PH} {c : Code}
@[congr] theorem cg_lpE (e : Unit → S = S') : lpE St Inv m x S h = lpE St Inv m x S' h := by rw [e ()]
@[congr] theorem cg_lpS (e : Unit → S = S') : lpS St Inv m x S h = lpS St Inv m x S' h := by rw [e ()]
theorem lp [NoPin C] (pl : Plans) (St : ι → AS) (Inv : ι → PH → Prop) (m : ι → Nat) (x0 : ι) (hS : S.le (St x0)) (h0 : Inv x0 h) (hc : chkC n pl c = true)
    (round : ∀ x h, Inv x h → runC M n C E pl c (qS (lpE St Inv m x) Q) (St x) h) : AWP M n C (.loop c) Q E S h := AWP_loop St Inv m x0 hS h0 fun x h hi => run_sound c _ _ _ hc (round x h hi)
end
end Go.Q
namespace Go.Q
open Go.Proofs
theorem B32 : 2 ≤ 4294967296 := by decide
set_option maxRecDepth 100000 in
theorem Of_spec {h0 h : PH} [Le h0 h] {a : Option Addr} {c : Nat} {xs : List Nat} (ha : Arr h0 a c xs) :
    Spec mach 86 #[.slice a xs.length c] h (fun v _ => v = .slice a (W 4294967296 (val 4294967296 xs)).length c) NP := by
  have hs := ha.small
  have hc := ha.cap
  refine Spec.enter (args := [_]) (n := 21) Tryz.func86 rfl (by kernel_rfl) rfl (by simp) [.tmp 2] rfl (fun C _ => ?_)
  repeat (first | (refine wo rfl (fun k hk => ?_); simp (disch := omega) only [go_sem, Nat.reduceBEq, Nat.reduceAdd]; refine hk _ _ ?_; clear hk k) | refine wkt rfl ?_ | refine wk0 ?_ | refine rg rfl rfl (fun K hK => ?_) | ((first | refine AWP_exit ?_ | refine AWP_skip ?_); simp (disch := decide) only [qs, qb, if_true, if_false, reduceIte]) | refine AWP_sq rfl (fun K hK => ?_) | refine ct rfl ?_ | ((try simp (disch := omega) only [go_sem, Nat.reduceBEq, Nat.reduceAdd]); (first | apply hK | (clear hK; apply hK) | (clear hK; clear hK; apply hK)); clear hK; (try clear K); (try dsimp only [behind, qs, qb])))
  refine AWP_loop (fun k : Nat => ⟨[(0, .v (.slice a k c))], []⟩) (fun k h' => Le h0 h' ∧ k ≤ xs.length ∧ val 4294967296 (xs.take k) = val 4294967296 xs) id xs.length ?_ ⟨inferInstance, Nat.le_refl _, by simp⟩ ?_
  · simp (disch := omega) only [go_sem, Nat.reduceBEq, Nat.reduceAdd]
  · rintro k h1 ⟨hle, hk, hv⟩
    by_cases hk0 : k = 0
    · subst hk0
      repeat (first | (refine wo rfl (fun k hk => ?_); simp (disch := omega) only [go_sem, Nat.reduceBEq, Nat.reduceAdd]; refine hk _ _ ?_; clear hk k) | refine wkt rfl ?_ | refine wk0 ?_ | refine rg rfl rfl (fun K hK => ?_) | ((first | refine AWP_exit ?_ | refine AWP_skip ?_); simp (disch := decide) only [qs, qb, if_true, if_false, reduceIte]) | refine AWP_sq rfl (fun K hK => ?_) | refine ct rfl ?_ | ((try simp (disch := omega) only [go_sem, Nat.reduceBEq, Nat.reduceAdd]); (first | apply hK | (clear hK; apply hK) | (clear hK; clear hK; apply hK)); clear hK; (try clear K); (try dsimp only [behind, qs, qb])))
      refine AWP_ret ?_; simp (disch := omega) only [go_sem, Nat.reduceBEq, Nat.reduceAdd]
      rw [W_take (by decide) 0 xs (by omega) ha.lt hv (.inl rfl)]
      simp
    · obtain ⟨ad, rfl, hat⟩ := ha.get (i := k - 1) (by omega)
      have hat1 := hle.sub.at hat
      by_cases hz : xs.getD (k - 1) 0 = 0
      · repeat (first | (refine rg rfl rfl (fun K hK => ?_); (repeat (first | (refine wo rfl (fun k hk => ?_); simp (disch := omega) only [go_sem, Nat.reduceBEq, Nat.reduceAdd, hat1]; refine hk _ _ ?_; clear hk k) | refine wkt rfl ?_)); (try refine wk0 ?_); refine hK _ _ ?_; clear hK K; (try dsimp only [behind, qs, qb])) | ((first | refine AWP_exit ?_ | refine AWP_skip ?_); simp (disch := decide) only [qs, qb, if_true, if_false, reduceIte]) | refine AWP_sq rfl (fun K hK => ?_) | refine ct rfl ?_ | ((first | refine hK _ _ ?_ | (clear hK; refine hK _ _ ?_) | (clear hK; clear hK; refine hK _ _ ?_)); clear hK; (try clear K)))
        exact ⟨k - 1, ⟨⟨rfl, trivial⟩, trivial, rfl⟩, ⟨hle, by omega, by rw [val_take_succ (by omega) hz, show k - 1 + 1 = k by omega]; exact hv⟩, by simp only [id_eq]; omega⟩
      · repeat (first | (refine wo rfl (fun k hk => ?_); simp (disch := omega) only [go_sem, Nat.reduceBEq, Nat.reduceAdd, hat1]; refine hk _ _ ?_; clear hk k) | refine wkt rfl ?_ | refine wk0 ?_ | refine rg rfl rfl (fun K hK => ?_) | ((first | refine AWP_exit ?_ | refine AWP_skip ?_); simp (disch := decide) only [qs, qb, if_true, if_false, reduceIte]) | refine AWP_sq rfl (fun K hK => ?_) | refine ct rfl ?_ | ((try simp (disch := omega) only [go_sem, Nat.reduceBEq, Nat.reduceAdd]); (first | apply hK | (clear hK; apply hK) | (clear hK; clear hK; apply hK)); clear hK; (try clear K); (try dsimp only [behind, qs, qb])))
        refine AWP_ret ?_; simp (disch := omega) only [go_sem, Nat.reduceBEq, Nat.reduceAdd]
        rw [W_take (by decide) k xs (by omega) ha.lt hv (.inr hz)]
        simp; omega
theorem Of_N {h0 h : PH} [Le h0 h] {a : Option Addr} {c : Nat} {xs : List Nat} (ha : Arr h0 a c xs) :
    Spec mach 86 #[.slice a xs.length c] h (fun v h' => N32 h' v (val 4294967296 xs)) NP := 
  (Of_spec ha).mono (fun v h' hs hv => ⟨a, c, hv, (ha.to (h' := h)).W.to (l := ⟨hs⟩)⟩) (fun _ _ _ h => h)
theorem Arr.rd {h0 : PH} {a : Option Addr} {c : Nat} {xs : List Nat} (r : Arr h0 a c xs) (h : PH) [l : Le h0 h] {i : Nat} (hi : i < xs.length) : ∃ ad, a = some ad ∧ h.at (ad.add i) = some (.int .u32 (xs.getD i 0)) :=
  (r.to (h' := h)).get hi
theorem Arr.rd0 {h0 : PH} {a : Option Addr} {c : Nat} {xs : List Nat} (r : Arr h0 a c xs) (h : PH) [l : Le h0 h] (hi : 0 < xs.length) : ∃ ad, a = some ad ∧ h.at ad = some (.int .u32 (xs.getD 0 0)) := by
  obtain ⟨ad, h1, h2⟩ := r.rd h hi
  exact ⟨ad, h1, by simpa [Addr.add] using h2⟩
theorem bv {a b : Bool} (h : a = true ↔ b = true) : Value.bool a = Value.bool b := by rw [Bool.eq_iff_iff.2 h]
set_option maxRecDepth 100000
theorem Small_spec {h : PH} {n : Nat} (hn : n < 2 ^ 64) : Spec mach 68 #[.int .u64 n] h (fun v h' => N32 h' v n) NP := by
  refine Spec.enter (args := [_]) (n := 10) Tryz.func68 rfl (by kernel_rfl) rfl (by simp) [.tmp 2] rfl (fun C _ => ?_)
  refine AWP_rs rfl (fun K hK => ?_); (repeat (first | (refine wo rfl (fun k hk => ?_); simp (disch := omega) only [go_sem, Nat.reduceBEq, Nat.reduceAdd]; refine hk _ _ ?_; clear hk k) | refine wkt rfl ?_)); (try refine wk0 ?_); (first | refine hK _ _ ?_ | (clear hK; refine hK _ _ ?_) | (clear hK; clear hK; refine hK _ _ ?_)); clear hK; (try clear K)
  refine AWP_rsp [.o 0, .o 1, .o 2, .o 3, .o 4, .o 5, .p 0, .o 6, .o 7] rfl rfl (fun K hK => ?_); (repeat (first | (refine wo rfl (fun k hk => ?_); simp (disch := omega) only [go_sem, Nat.reduceBEq, Nat.reduceAdd]; refine hk _ _ ?_; clear hk k) | refine wkt rfl ?_)); (try refine wk0 ?_)
  refine wkp ?_; simp (disch := omega) only [go_sem, Nat.reduceBEq, Nat.reduceAdd]; intro b h1 hs1 hb; (repeat (first | (refine wo rfl (fun k hk => ?_); simp (disch := omega) only [go_sem, Nat.reduceBEq, Nat.reduceAdd]; refine hk _ _ ?_; clear hk k) | refine wkt rfl ?_)); (try refine wk0 ?_)
  have hA : Arr h1 (some ⟨b, 0, none⟩) 2 [n % 4294967296, n / 4294967296] := .of_row (fun _ => hb (by simp)) (by intro x hx; simp at hx; omega) (by simp) (by simp)
  refine cN rfl rfl rfl rfl (by exact Of_N hA) ?_; rintro v h2 hs2 hv; (repeat (first | (refine wo rfl (fun k hk => ?_); simp (disch := omega) only [go_sem, Nat.reduceBEq, Nat.reduceAdd]; refine hk _ _ ?_; clear hk k) | refine wkt rfl ?_)); (try refine wk0 ?_)
  (repeat (first | (refine wo rfl (fun k hk => ?_); simp (disch := omega) only [go_sem, Nat.reduceBEq, Nat.reduceAdd]; refine hk _ _ ?_; clear hk k) | refine wkt rfl ?_)); (try refine wk0 ?_)
  (try (simp (disch := omega) only [go_sem, Nat.reduceBEq, Nat.reduceAdd])); refine hK _ _ ?_; clear hK; (try clear K); (try dsimp only [behind, qs])
  refine AWP_ret ?_; simp (disch := omega) only [go_sem, Nat.reduceBEq, Nat.reduceAdd]
  have : val 4294967296 [n % 4294967296, n / 4294967296] = n := by simp only [val]; omega
  rwa [this] at hv
theorem N32.out {h : PH} {v : Value} {n : Nat} (r : N32 h v n) : ∃ a c xs, v = .slice a xs.length c ∧ Arr h a c xs ∧ W 4294967296 n = xs ∧ val 4294967296 xs = n := let ⟨a, c, h1, h2⟩ := r
  ⟨a, c, _, h1, h2, rfl, val_W B32 n⟩
theorem W_len0 {B : Nat} (hB : 2 ≤ B) {n : Nat} : (W B n).length = 0 ↔ n = 0 :=
  ⟨fun h => by rw [← val_W hB n, List.eq_nil_of_length_eq_zero h]; rfl, fun h => by subst h; rw [W_zero]; rfl⟩
theorem Zero_spec {h0 h : PH} [Le h0 h] {v : Value} {n : Nat} (hv : N32 h0 v n) : Spec mach 124 #[v] h (fun v _ => v = .bool (decide (n = 0))) NP := by
  obtain ⟨a, c, rfl, ha⟩ := hv
  have hs := ha.small
  have hc := ha.cap
  refine Spec.enter (args := [_]) (n := 6) Tryz.func124 rfl (by kernel_rfl) rfl (by simp) [.tmp 2] rfl (fun C _ => ?_)
  repeat (first | (refine wo rfl (fun k hk => ?_); simp (disch := omega) only [go_sem, Nat.reduceBEq, Nat.reduceAdd]; refine hk _ _ ?_; clear hk k) | refine wkt rfl ?_ | refine wk0 ?_ | refine rg rfl rfl (fun K hK => ?_) | ((first | refine AWP_exit ?_ | refine AWP_skip ?_); simp (disch := decide) only [qs, qb, if_true, if_false, reduceIte]) | refine AWP_sq rfl (fun K hK => ?_) | refine ct rfl ?_ | ((try simp (disch := omega) only [go_sem, Nat.reduceBEq, Nat.reduceAdd]); (first | apply hK | (clear hK; apply hK) | (clear hK; clear hK; apply hK)); clear hK; (try clear K); (try dsimp only [behind, qs, qb])))
  refine AWP_ret ?_; simp (disch := omega) only [go_sem, Nat.reduceBEq, Nat.reduceAdd]
  simp only [← W_len0 B32 (n := n)]
  refine bv ?_
  simp only [beq_iff_eq, decide_eq_true_eq]; omega
theorem W_len1 {B : Nat} (hB : 2 ≤ B) {n : Nat} (h : (W B n).length = 1) : n < B ∧ (W B n).getD 0 0 = n := by
  have h1 := lt_W_length hB n
  rw [h, Nat.pow_one] at h1
  refine ⟨h1, ?_⟩
  by_cases hn : n = 0
  · subst hn; rw [W_zero] at h; cases h
  · rw [W_pos hB hn]; simp [Nat.mod_eq_of_lt h1]
theorem W_one {B : Nat} (hB : 2 ≤ B) : W B 1 = [1] := by
  rw [W_pos hB (by omega), Nat.mod_eq_of_lt (by omega), Nat.div_eq_of_lt (by omega), W_zero]
theorem One_spec {h0 h : PH} [Le h0 h] {v : Value} {n : Nat} (hv : N32 h0 v n) : Spec mach 178 #[v] h (fun v _ => v = .bool (decide (n = 1))) NP := by
  obtain ⟨a, c, rfl, ha⟩ := hv
  have hs := ha.small
  have hc := ha.cap
  refine Spec.enter (args := [_]) (n := 12) Tryz.func178 rfl (by kernel_rfl) rfl (by simp) [.tmp 2] rfl (fun C _ => ?_)
  by_cases h1 : (W 4294967296 n).length = 1
  · obtain ⟨ad, rfl, hat1⟩ := ha.rd0 h (by omega)
    repeat (first | (refine wo rfl (fun k hk => ?_); simp (disch := omega) only [go_sem, Nat.reduceBEq, Nat.reduceAdd, hat1]; refine hk _ _ ?_; clear hk k) | refine wkt rfl ?_ | refine wk0 ?_ | refine rg rfl rfl (fun K hK => ?_) | ((first | refine AWP_exit ?_ | refine AWP_skip ?_); simp (disch := decide) only [qs, qb, if_true, if_false, reduceIte]) | refine AWP_sq rfl (fun K hK => ?_) | refine ct rfl ?_ | ((try simp (disch := omega) only [go_sem, Nat.reduceBEq, Nat.reduceAdd]); (first | apply hK | (clear hK; apply hK) | (clear hK; clear hK; apply hK)); clear hK; (try clear K); (try dsimp only [behind, qs, qb])))
    refine AWP_ret ?_; simp (disch := omega) only [go_sem, Nat.reduceBEq, Nat.reduceAdd]
    rw [(W_len1 B32 h1).2]
    refine bv ?_
    simp only [beq_iff_eq, decide_eq_true_eq]; omega
  · repeat (first | (refine wo rfl (fun k hk => ?_); simp (disch := omega) only [go_sem, Nat.reduceBEq, Nat.reduceAdd]; refine hk _ _ ?_; clear hk k) | refine wkt rfl ?_ | refine wk0 ?_ | refine rg rfl rfl (fun K hK => ?_) | ((first | refine AWP_exit ?_ | refine AWP_skip ?_); simp (disch := decide) only [qs, qb, if_true, if_false, reduceIte]) | refine AWP_sq rfl (fun K hK => ?_) | refine ct rfl ?_ | ((try simp (disch := omega) only [go_sem, Nat.reduceBEq, Nat.reduceAdd]); (first | apply hK | (clear hK; apply hK) | (clear hK; clear hK; apply hK)); clear hK; (try clear K); (try dsimp only [behind, qs, qb])))
    refine AWP_ret ?_; simp (disch := omega) only [go_sem, Nat.reduceBEq, Nat.reduceAdd]
    have : n ≠ 1 := by rintro rfl; rw [W_one B32] at h1; exact h1 rfl
    simp [this]
def cmp3 (m n : Nat) : Int := if m < n then -1 else if n < m then 1 else 0
theorem W_len_lt {B : Nat} (hB : 2 ≤ B) {m n : Nat} (h : (W B m).length < (W B n).length) : m < n := by
  rcases Nat.lt_or_ge m n with h' | h'
  · exact h'
  · exfalso
    have h1 := lt_W_length hB m
    have : n < B ^ (W B m).length := by omega
    have := W_length_le hB this
    omega
theorem val_split {B : Nat} (xs : List Nat) {k : Nat} (hk : k < xs.length) : val B xs = val B (xs.take k) + B ^ k * (xs.getD k 0 + B * val B (xs.drop (k + 1))) := by
  have h1 : xs = xs.take k ++ xs.drop k := (List.take_append_drop k xs).symm
  have h2 : xs.drop k = xs.getD k 0 :: xs.drop (k + 1) := by rw [List.drop_eq_getElem_cons hk]; simp [hk]
  calc val B xs = val B (xs.take k ++ xs.drop k) := by rw [← h1]
    _ = _ := by rw [val_append, h2, val]; simp [Nat.min_eq_left (Nat.le_of_lt hk)]
theorem val_lt_of {B : Nat} (hB : 2 ≤ B) {xs ys : List Nat} (hx : ∀ x ∈ xs, x < B) {k : Nat} (hl : xs.length = ys.length) (hk : k < xs.length) (hd : xs.drop (k + 1) = ys.drop (k + 1)) (h : xs.getD k 0 < ys.getD k 0) : val B xs < val B ys := by
  rw [val_split xs hk, val_split ys (k := k) (by omega), hd]
  have h1 := val_lt (show 1 ≤ B by omega) (xs.take k) (fun x hx' => hx x (List.mem_of_mem_take hx'))
  have h2 : (xs.take k).length = k := by simp; omega
  rw [h2] at h1
  have h3 : B ^ k * (xs.getD k 0 + B * val B (ys.drop (k + 1)) + 1) ≤ B ^ k * (ys.getD k 0 + B * val B (ys.drop (k + 1))) := Nat.mul_le_mul_left _ (by omega)
  rw [Nat.mul_add, Nat.mul_one] at h3
  omega
theorem Cmp_spec {h0 h : PH} [Le h0 h] {v w : Value} {m n : Nat} (hv : N32 h0 v m) (hw : N32 h0 w n) : Spec mach 89 #[v, w] h (fun v _ => v = .int .i64 (cmp3 m n)) NP := by
  obtain ⟨a, c, xs, rfl, ha, hxs, hm⟩ := hv.out
  obtain ⟨a', c', ys, rfl, ha', hys, hn⟩ := hw.out
  have hs := ha.small
  have hc := ha.cap
  have hs' := ha'.small
  have hc' := ha'.cap
  refine Spec.enter (args := [_, _]) (n := 41) Tryz.func89 rfl (by kernel_rfl) rfl (by simp) [.tmp 4] rfl (fun C _ => ?_)
  by_cases hl : xs.length = ys.length
  · repeat (first | (refine wo rfl (fun k hk => ?_); simp (disch := omega) only [go_sem, Nat.reduceBEq, Nat.reduceAdd]; refine hk _ _ ?_; clear hk k) | refine wkt rfl ?_ | refine wk0 ?_ | refine rg rfl rfl (fun K hK => ?_) | refine rd [.o 0, .o 1, .o 2, .o 3, .o 4, .o 5, .o 6, .o 7, .o 8] rfl (by decide +kernel) rfl (fun K hK => ?_) | ((first | refine AWP_exit ?_ | refine AWP_skip ?_); simp (disch := decide) only [qs, qb, if_true, if_false, reduceIte]) | refine AWP_sq rfl (fun K hK => ?_) | refine ct rfl ?_ | ((try simp (disch := omega) only [go_sem, Nat.reduceBEq, Nat.reduceAdd]); (first | apply hK | (clear hK; apply hK) | (clear hK; clear hK; apply hK)); clear hK; (try clear K); (try dsimp only [behind, qs, qb])))
    refine AWP_loop (fun k : Nat => ⟨[(0, .v (.slice a xs.length c)), (1, .v (.slice a' ys.length c')), (5, .v (.int .i64 ((k : Int) - 1)))], []⟩) (fun k h' => Le h0 h' ∧ k ≤ xs.length ∧ xs.drop k = ys.drop k) id xs.length ?_ ⟨inferInstance, Nat.le_refl _, by simp [hl]⟩ ?_
    · simp (disch := omega) only [go_sem, Nat.reduceBEq, Nat.reduceAdd]
    · rintro k h1 ⟨hle, hk, hd⟩
      by_cases hk0 : k = 0
      · subst hk0
        repeat (first | (refine wo rfl (fun k hk => ?_); simp (disch := omega) only [go_sem, Nat.reduceBEq, Nat.reduceAdd]; refine hk _ _ ?_; clear hk k) | refine wkt rfl ?_ | refine wk0 ?_ | refine rg rfl rfl (fun K hK => ?_) | refine rd [.o 0, .o 1, .o 2, .o 3, .o 4, .o 5, .o 6, .o 7, .o 8] rfl (by decide +kernel) rfl (fun K hK => ?_) | ((first | refine AWP_exit ?_ | refine AWP_skip ?_); simp (disch := decide) only [qs, qb, if_true, if_false, reduceIte]) | refine AWP_sq rfl (fun K hK => ?_) | refine ct rfl ?_ | ((try simp (disch := omega) only [go_sem, Nat.reduceBEq, Nat.reduceAdd]); (first | apply hK | (clear hK; apply hK) | (clear hK; clear hK; apply hK)); clear hK; (try clear K); (try dsimp only [behind, qs, qb])))
        refine AWP_ret ?_; simp (disch := omega) only [go_sem, Nat.reduceBEq, Nat.reduceAdd]
        have : m = n := by rw [← hm, ← hn, show xs = ys by simpa using hd]
        simp [cmp3, this]
      · obtain ⟨k, rfl⟩ : ∃ j, k = j + 1 := ⟨k - 1, by omega⟩
        obtain ⟨ad, rfl, hat⟩ := ha.rd h1 (i := k) (by omega)
        obtain ⟨ad', rfl, hat'⟩ := ha'.rd h1 (i := k) (by omega)
        by_cases hx : xs.getD k 0 < ys.getD k 0
        · repeat (first | (refine wo rfl (fun k hk => ?_); simp (disch := omega) only [go_sem, Nat.reduceBEq, Nat.reduceAdd, hat, hat']; refine hk _ _ ?_; clear hk k) | refine wkt rfl ?_ | refine wk0 ?_ | refine rg rfl rfl (fun K hK => ?_) | refine rd [.o 0, .o 1, .o 2, .o 3, .o 4, .o 5, .o 6, .o 7, .o 8] rfl (by decide +kernel) rfl (fun K hK => ?_) | ((first | refine AWP_exit ?_ | refine AWP_skip ?_); simp (disch := decide) only [qs, qb, if_true, if_false, reduceIte]) | refine AWP_sq rfl (fun K hK => ?_) | refine ct rfl ?_ | ((try simp (disch := omega) only [go_sem, Nat.reduceBEq, Nat.reduceAdd]); (first | apply hK | (clear hK; apply hK) | (clear hK; clear hK; apply hK)); clear hK; (try clear K); (try dsimp only [behind, qs, qb])))
          refine AWP_ret ?_; simp (disch := omega) only [go_sem, Nat.reduceBEq, Nat.reduceAdd]
          have : m < n := by rw [← hm, ← hn]; exact val_lt_of B32 ha.lt hl (by omega) hd hx
          simp [cmp3, this]
        · by_cases hy : ys.getD k 0 < xs.getD k 0
          · repeat (first | (refine wo rfl (fun k hk => ?_); simp (disch := omega) only [go_sem, Nat.reduceBEq, Nat.reduceAdd, hat, hat']; refine hk _ _ ?_; clear hk k) | refine wkt rfl ?_ | refine wk0 ?_ | refine rg rfl rfl (fun K hK => ?_) | refine rd [.o 0, .o 1, .o 2, .o 3, .o 4, .o 5, .o 6, .o 7, .o 8] rfl (by decide +kernel) rfl (fun K hK => ?_) | ((first | refine AWP_exit ?_ | refine AWP_skip ?_); simp (disch := decide) only [qs, qb, if_true, if_false, reduceIte]) | refine AWP_sq rfl (fun K hK => ?_) | refine ct rfl ?_ | ((try simp (disch := omega) only [go_sem, Nat.reduceBEq, Nat.reduceAdd]); (first | apply hK | (clear hK; apply hK) | (clear hK; clear hK; apply hK)); clear hK; (try clear K); (try dsimp only [behind, qs, qb])))
            refine AWP_ret ?_; simp (disch := omega) only [go_sem, Nat.reduceBEq, Nat.reduceAdd]
            have : n < m := by rw [← hm, ← hn]; exact val_lt_of B32 ha'.lt hl.symm (by omega) hd.symm hy
            simp [cmp3, this, Nat.not_lt.2 (Nat.le_of_lt this)]
          · repeat (first | (refine wo rfl (fun k hk => ?_); simp (disch := omega) only [go_sem, Nat.reduceBEq, Nat.reduceAdd, hat, hat']; refine hk _ _ ?_; clear hk k) | refine wkt rfl ?_ | refine wk0 ?_ | refine rg rfl rfl (fun K hK => ?_) | refine rd [.o 0, .o 1, .o 2, .o 3, .o 4, .o 5, .o 6, .o 7, .o 8] rfl (by decide +kernel) rfl (fun K hK => ?_) | ((first | refine AWP_exit ?_ | refine AWP_skip ?_); simp (disch := decide) only [qs, qb, if_true, if_false, reduceIte]) | refine AWP_sq rfl (fun K hK => ?_) | refine ct rfl ?_ | ((try simp (disch := omega) only [go_sem, Nat.reduceBEq, Nat.reduceAdd]); (first | apply hK | (clear hK; apply hK) | (clear hK; clear hK; apply hK)); clear hK; (try clear K); (try dsimp only [behind, qs, qb])))
            refine ⟨k, ?_, ⟨hle, by omega, ?_⟩, by simp⟩
            · simp (disch := omega) only [go_sem, Nat.reduceBEq, Nat.reduceAdd]
            · rw [List.drop_eq_getElem_cons (by omega), List.drop_eq_getElem_cons (i := k) (by omega : k < ys.length), hd]
              congr 1
              have h1 : k < xs.length := by omega
              have h2 : k < ys.length := by omega
              simp only [List.getD_eq_getElem?_getD, List.getElem?_eq_getElem h1, List.getElem?_eq_getElem h2, Option.getD_some] at hx hy
              omega
  · by_cases hl' : xs.length < ys.length
    · repeat (first | (refine wo rfl (fun k hk => ?_); simp (disch := omega) only [go_sem, Nat.reduceBEq, Nat.reduceAdd]; refine hk _ _ ?_; clear hk k) | refine wkt rfl ?_ | refine wk0 ?_ | refine rg rfl rfl (fun K hK => ?_) | refine rd [.o 0, .o 1, .o 2, .o 3, .o 4, .o 5, .o 6, .o 7, .o 8] rfl (by decide +kernel) rfl (fun K hK => ?_) | ((first | refine AWP_exit ?_ | refine AWP_skip ?_); simp (disch := decide) only [qs, qb, if_true, if_false, reduceIte]) | refine AWP_sq rfl (fun K hK => ?_) | refine ct rfl ?_ | ((try simp (disch := omega) only [go_sem, Nat.reduceBEq, Nat.reduceAdd]); (first | apply hK | (clear hK; apply hK) | (clear hK; clear hK; apply hK)); clear hK; (try clear K); (try dsimp only [behind, qs, qb])))
      refine AWP_ret ?_; simp (disch := omega) only [go_sem, Nat.reduceBEq, Nat.reduceAdd]
      have : m < n := W_len_lt B32 (by rw [hxs, hys]; exact hl')
      simp [cmp3, this]
    · repeat (first | (refine wo rfl (fun k hk => ?_); simp (disch := omega) only [go_sem, Nat.reduceBEq, Nat.reduceAdd]; refine hk _ _ ?_; clear hk k) | refine wkt rfl ?_ | refine wk0 ?_ | refine rg rfl rfl (fun K hK => ?_) | refine rd [.o 0, .o 1, .o 2, .o 3, .o 4, .o 5, .o 6, .o 7, .o 8] rfl (by decide +kernel) rfl (fun K hK => ?_) | ((first | refine AWP_exit ?_ | refine AWP_skip ?_); simp (disch := decide) only [qs, qb, if_true, if_false, reduceIte]) | refine AWP_sq rfl (fun K hK => ?_) | refine ct rfl ?_ | ((try simp (disch := omega) only [go_sem, Nat.reduceBEq, Nat.reduceAdd]); (first | apply hK | (clear hK; apply hK) | (clear hK; clear hK; apply hK)); clear hK; (try clear K); (try dsimp only [behind, qs, qb])))
      refine AWP_ret ?_; simp (disch := omega) only [go_sem, Nat.reduceBEq, Nat.reduceAdd]
      have : n < m := W_len_lt B32 (by rw [hxs, hys]; omega)
      simp [cmp3, this, Nat.not_lt.2 (Nat.le_of_lt this)]
def bl (n : Nat) : Nat := if n = 0 then 0 else n.log2 + 1
theorem bl_le {n k : Nat} : bl n ≤ k ↔ n < 2 ^ k := by
  unfold bl
  split
  · rename_i h; subst h; simp [Nat.pow_pos]
  · rename_i h; rw [← Nat.log2_lt h]; omega
theorem bl_div {n k : Nat} (h : 2 ^ k ≤ n) : bl n = bl (n / 2 ^ k) + k := by
  have hp : 0 < 2 ^ k := Nat.pow_pos (by omega)
  apply Nat.le_antisymm
  · rw [bl_le, Nat.pow_add]
    have := bl_le.1 (Nat.le_refl (bl (n / 2 ^ k)))
    rwa [Nat.div_lt_iff_lt_mul hp] at this
  · have h1 := bl_le.1 (Nat.le_refl (bl n))
    have h2 : k < bl n := by
      rcases Nat.lt_or_ge k (bl n) with h' | h'
      · exact h'
      · have := bl_le.1 h'; omega
    have : bl (n / 2 ^ k) ≤ bl n - k := by
      rw [bl_le, Nat.div_lt_iff_lt_mul hp, ← Nat.pow_add, show bl n - k + k = bl n by omega]
      exact h1
    omega
def blTab (s : ByteArray) : Bool := (List.range 256).all fun i => match s[i]? with
  | some b => b.toNat == bl i
  | none => false
theorem iv {k : IntKind} {a b : Int} (h : a = b) : Value.int k a = Value.int k b := by rw [h]
theorem blTab_get {s : ByteArray} (ht : blTab s = true) {j : Nat} (hj : j < 256) {k : UInt8 → Prop} (hk : ∀ b : UInt8, b.toNat = bl j → k b) : ∃ b, s[j]? = some b ∧ k b := by
  have := List.all_eq_true.1 ht j (List.mem_range.2 hj)
  cases hs : s[j]? with
  | none => rw [hs] at this; cases this
  | some b => rw [hs] at this; exact ⟨b, rfl, hk b (by simpa using this)⟩
theorem Len32_spec {h : PH} {n : Nat} (hn : n < 4294967296) : Spec mach 137 #[.int .u32 n] h (fun v _ => v = .int .i64 (bl n)) NP := by
  refine Spec.enter (args := [_]) (n := 19) Tryz.func137 rfl (by kernel_rfl) rfl (by simp) [.tmp 2] rfl (fun C _ => ?_)
  by_cases h1 : n < 65536
  · by_cases h2 : n < 256
    · repeat (first | (refine wo rfl (fun k hk => ?_); simp (disch := omega) only [go_sem, Nat.reduceBEq, Nat.reduceAdd]; refine hk _ _ ?_; clear hk k) | refine wkt rfl ?_ | refine wk0 ?_ | refine rg rfl rfl (fun K hK => ?_) | ((first | refine AWP_exit ?_ | refine AWP_skip ?_); simp (disch := decide) only [qs, qb, if_true, if_false, reduceIte]) | refine AWP_sq rfl (fun K hK => ?_) | refine ct rfl ?_ | ((try simp (disch := omega) only [go_sem, Nat.reduceBEq, Nat.reduceAdd]); (first | apply hK | (clear hK; apply hK) | (clear hK; clear hK; apply hK)); clear hK; (try clear K); (try dsimp only [behind, qs, qb])))
      refine wo rfl (fun k hk => ?_); simp (disch := omega) only [go_sem, Nat.reduceBEq, Nat.reduceAdd]
      refine blTab_get (by kernel_rfl) h2 (fun b hb => ?_)
      rw [hb]
      have := bl_le.2 (show n < 2 ^ 8 by omega)
      refine hk _ _ ?_; clear hk k
      (repeat (first | (refine wo rfl (fun k hk => ?_); simp (disch := omega) only [go_sem, Nat.reduceBEq, Nat.reduceAdd]; refine hk _ _ ?_; clear hk k) | refine wkt rfl ?_)); (try refine wk0 ?_)
      (try (simp (disch := omega) only [go_sem, Nat.reduceBEq, Nat.reduceAdd])); refine hK _ _ ?_; clear hK; (try clear K); (try dsimp only [behind, qs])
      refine AWP_ret ?_; simp (disch := omega) only [go_sem, Nat.reduceBEq, Nat.reduceAdd]
      try (refine iv ?_; omega)
    · repeat (first | (refine wo rfl (fun k hk => ?_); simp (disch := omega) only [go_sem, Nat.reduceBEq, Nat.reduceAdd]; refine hk _ _ ?_; clear hk k) | refine wkt rfl ?_ | refine wk0 ?_ | refine rg rfl rfl (fun K hK => ?_) | ((first | refine AWP_exit ?_ | refine AWP_skip ?_); simp (disch := decide) only [qs, qb, if_true, if_false, reduceIte]) | refine AWP_sq rfl (fun K hK => ?_) | refine ct rfl ?_ | ((try simp (disch := omega) only [go_sem, Nat.reduceBEq, Nat.reduceAdd]); (first | apply hK | (clear hK; apply hK) | (clear hK; clear hK; apply hK)); clear hK; (try clear K); (try dsimp only [behind, qs, qb])))
      refine wo rfl (fun k hk => ?_); simp (disch := omega) only [go_sem, Nat.reduceBEq, Nat.reduceAdd]
      refine blTab_get (by kernel_rfl) (show n / 256 < 256 by omega) (fun b hb => ?_)
      rw [hb]
      have := bl_le.2 (show n / 256 < 2 ^ 8 by omega)
      refine hk _ _ ?_; clear hk k
      (repeat (first | (refine wo rfl (fun k hk => ?_); simp (disch := omega) only [go_sem, Nat.reduceBEq, Nat.reduceAdd]; refine hk _ _ ?_; clear hk k) | refine wkt rfl ?_)); (try refine wk0 ?_)
      (try (simp (disch := omega) only [go_sem, Nat.reduceBEq, Nat.reduceAdd])); refine hK _ _ ?_; clear hK; (try clear K); (try dsimp only [behind, qs])
      refine AWP_ret ?_; simp (disch := omega) only [go_sem, Nat.reduceBEq, Nat.reduceAdd]
      have := bl_div (show 2 ^ 8 ≤ n by omega)
      simp only [Nat.reducePow] at this
      try (refine iv ?_; omega)
  · by_cases h2 : n / 65536 < 256
    · repeat (first | (refine wo rfl (fun k hk => ?_); simp (disch := omega) only [go_sem, Nat.reduceBEq, Nat.reduceAdd]; refine hk _ _ ?_; clear hk k) | refine wkt rfl ?_ | refine wk0 ?_ | refine rg rfl rfl (fun K hK => ?_) | ((first | refine AWP_exit ?_ | refine AWP_skip ?_); simp (disch := decide) only [qs, qb, if_true, if_false, reduceIte]) | refine AWP_sq rfl (fun K hK => ?_) | refine ct rfl ?_ | ((try simp (disch := omega) only [go_sem, Nat.reduceBEq, Nat.reduceAdd]); (first | apply hK | (clear hK; apply hK) | (clear hK; clear hK; apply hK)); clear hK; (try clear K); (try dsimp only [behind, qs, qb])))
      refine wo rfl (fun k hk => ?_); simp (disch := omega) only [go_sem, Nat.reduceBEq, Nat.reduceAdd]
      refine blTab_get (by kernel_rfl) h2 (fun b hb => ?_)
      rw [hb]
      have := bl_le.2 (show n / 65536 < 2 ^ 8 by omega)
      refine hk _ _ ?_; clear hk k
      (repeat (first | (refine wo rfl (fun k hk => ?_); simp (disch := omega) only [go_sem, Nat.reduceBEq, Nat.reduceAdd]; refine hk _ _ ?_; clear hk k) | refine wkt rfl ?_)); (try refine wk0 ?_)
      (try (simp (disch := omega) only [go_sem, Nat.reduceBEq, Nat.reduceAdd])); refine hK _ _ ?_; clear hK; (try clear K); (try dsimp only [behind, qs])
      refine AWP_ret ?_; simp (disch := omega) only [go_sem, Nat.reduceBEq, Nat.reduceAdd]
      have := bl_div (show 2 ^ 16 ≤ n by omega)
      simp only [Nat.reducePow] at this
      try (refine iv ?_; omega)
    · repeat (first | (refine wo rfl (fun k hk => ?_); simp (disch := omega) only [go_sem, Nat.reduceBEq, Nat.reduceAdd]; refine hk _ _ ?_; clear hk k) | refine wkt rfl ?_ | refine wk0 ?_ | refine rg rfl rfl (fun K hK => ?_) | ((first | refine AWP_exit ?_ | refine AWP_skip ?_); simp (disch := decide) only [qs, qb, if_true, if_false, reduceIte]) | refine AWP_sq rfl (fun K hK => ?_) | refine ct rfl ?_ | ((try simp (disch := omega) only [go_sem, Nat.reduceBEq, Nat.reduceAdd]); (first | apply hK | (clear hK; apply hK) | (clear hK; clear hK; apply hK)); clear hK; (try clear K); (try dsimp only [behind, qs, qb])))
      refine wo rfl (fun k hk => ?_); simp (disch := omega) only [go_sem, Nat.reduceBEq, Nat.reduceAdd]
      refine blTab_get (by kernel_rfl) (show n / 65536 / 256 < 256 by omega) (fun b hb => ?_)
      rw [hb]
      have := bl_le.2 (show n / 65536 / 256 < 2 ^ 8 by omega)
      refine hk _ _ ?_; clear hk k
      (repeat (first | (refine wo rfl (fun k hk => ?_); simp (disch := omega) only [go_sem, Nat.reduceBEq, Nat.reduceAdd]; refine hk _ _ ?_; clear hk k) | refine wkt rfl ?_)); (try refine wk0 ?_)
      (try (simp (disch := omega) only [go_sem, Nat.reduceBEq, Nat.reduceAdd])); refine hK _ _ ?_; clear hK; (try clear K); (try dsimp only [behind, qs])
      refine AWP_ret ?_; simp (disch := omega) only [go_sem, Nat.reduceBEq, Nat.reduceAdd]
      have h3 := bl_div (show 2 ^ 16 ≤ n by omega)
      have h4 := bl_div (show 2 ^ 8 ≤ n / 2 ^ 16 by omega)
      simp only [Nat.reducePow] at h3 h4
      try (refine iv ?_; omega)
theorem W_getD {B : Nat} (hB : 2 ≤ B) (n i : Nat) : (W B n).getD i 0 = n / B ^ i % B := by
  induction i generalizing n with
  | zero =>
    by_cases hn : n = 0
    · subst hn; rw [W_zero]; simp
    · rw [W_pos hB hn]; simp
  | succ i ih =>
    by_cases hn : n = 0
    · subst hn; rw [W_zero]; simp
    · rw [W_pos hB hn, List.getD_cons_succ, ih, Nat.div_div_eq_div_mul, Nat.pow_succ, Nat.mul_comm B]
theorem W_len_pos {B : Nat} (hB : 2 ≤ B) {n : Nat} (hn : n ≠ 0) : 0 < (W B n).length := by
  have := W_len0 hB (n := n); omega
theorem W_top {B : Nat} (hB : 2 ≤ B) {n : Nat} (hn : n ≠ 0) : (W B n).getD ((W B n).length - 1) 0 = n / B ^ ((W B n).length - 1) ∧ B ^ ((W B n).length - 1) ≤ n ∧ n / B ^ ((W B n).length - 1) < B := by
  have hp := W_len_pos hB hn
  have h1 : B ^ ((W B n).length - 1) ≤ n := by
    rcases Nat.lt_or_ge n (B ^ ((W B n).length - 1)) with h | h
    · have := W_length_le hB h; omega
    · exact h
  have h2 : n / B ^ ((W B n).length - 1) < B := by
    rw [Nat.div_lt_iff_lt_mul (Nat.pow_pos (by omega)), Nat.mul_comm, ← Nat.pow_succ, Nat.succ_eq_add_one, show (W B n).length - 1 + 1 = (W B n).length by omega]
    exact lt_W_length hB n
  exact ⟨by rw [W_getD hB, Nat.mod_eq_of_lt h2], h1, h2⟩
theorem B_pow (k : Nat) : 2 ^ (32 * k) = 4294967296 ^ k := by
  rw [Nat.pow_mul, show (2 : Nat) ^ 32 = 4294967296 from by decide]
theorem Bits_spec {h0 h : PH} [Le h0 h] {v : Value} {n : Nat} (hv : N32 h0 v n) : Spec mach 87 #[v] h (fun v _ => v = .int .i64 (bl n)) NP := by
  obtain ⟨a, c, rfl, ha⟩ := hv
  have hs := ha.small
  have hc := ha.cap
  refine Spec.enter (args := [_]) (n := 18) Tryz.func87 rfl (by kernel_rfl) rfl (by simp) [.tmp 2] rfl (fun C _ => ?_)
  have hl := W_len0 B32 (n := n)
  by_cases hn : n = 0
  · repeat (first | (refine wo rfl (fun k hk => ?_); simp (disch := omega) only [go_sem, Nat.reduceBEq, Nat.reduceAdd]; refine hk _ _ ?_; clear hk k) | refine wkt rfl ?_ | refine wk0 ?_ | refine rg rfl rfl (fun K hK => ?_) | ((first | refine AWP_exit ?_ | refine AWP_skip ?_); simp (disch := decide) only [qs, qb, if_true, if_false, reduceIte]) | refine AWP_sq rfl (fun K hK => ?_) | refine ct rfl ?_ | ((try simp (disch := omega) only [go_sem, Nat.reduceBEq, Nat.reduceAdd]); (first | apply hK | (clear hK; apply hK) | (clear hK; clear hK; apply hK)); clear hK; (try clear K); (try dsimp only [behind, qs, qb])))
    refine AWP_ret ?_; simp (disch := omega) only [go_sem, Nat.reduceBEq, Nat.reduceAdd]
    subst hn; rfl
  · have hp := W_len_pos B32 hn
    obtain ⟨h1, h2, h3⟩ := W_top B32 hn
    obtain ⟨ad, rfl, hat⟩ := ha.rd h (i := (W 4294967296 n).length - 1) (by omega)
    rw [h1] at hat
    repeat (first | (refine rg rfl rfl (fun K hK => ?_); (repeat (first | (refine wo rfl (fun k hk => ?_); simp (disch := omega) only [go_sem, Nat.reduceBEq, Nat.reduceAdd]; refine hk _ _ ?_; clear hk k) | refine wkt rfl ?_)); (try refine wk0 ?_); refine hK _ _ ?_; clear hK K; (try dsimp only [behind, qs, qb])) | ((first | refine AWP_exit ?_ | refine AWP_skip ?_); simp (disch := decide) only [qs, qb, if_true, if_false, reduceIte]) | refine AWP_sq rfl (fun K hK => ?_) | refine ct rfl ?_ | ((first | refine hK _ _ ?_ | (clear hK; refine hK _ _ ?_) | (clear hK; clear hK; refine hK _ _ ?_)); clear hK; (try clear K)))
    refine rg rfl rfl (fun K hK => ?_); (repeat (first | (refine wo rfl (fun k hk => ?_); simp (disch := omega) only [go_sem, Nat.reduceBEq, Nat.reduceAdd, hat]; refine hk _ _ ?_; clear hk k) | refine wkt rfl ?_)); (try refine wk0 ?_)
    refine cN rfl rfl rfl rfl (by exact Len32_spec h3) ?_; rintro v h4 s4 rfl; (repeat (first | (refine wo rfl (fun k hk => ?_); simp (disch := omega) only [go_sem, Nat.reduceBEq, Nat.reduceAdd]; refine hk _ _ ?_; clear hk k) | refine wkt rfl ?_)); (try refine wk0 ?_)
    have h5 := (bl_le (k := 32)).2 h3
    (repeat (first | (refine wo rfl (fun k hk => ?_); simp (disch := omega) only [go_sem, Nat.reduceBEq, Nat.reduceAdd]; refine hk _ _ ?_; clear hk k) | refine wkt rfl ?_)); (try refine wk0 ?_)
    (try (simp (disch := omega) only [go_sem, Nat.reduceBEq, Nat.reduceAdd])); refine hK _ _ ?_; clear hK; (try clear K); (try dsimp only [behind, qs])
    refine AWP_ret ?_; simp (disch := omega) only [go_sem, Nat.reduceBEq, Nat.reduceAdd]
    refine iv ?_
    have h6 := bl_div (n := n) (k := 32 * ((W 4294967296 n).length - 1)) (by rw [B_pow]; exact h2)
    rw [h6, B_pow]
    omega
theorem LeadingZeros32_spec {h : PH} {n : Nat} (hn : n < 4294967296) : Spec mach 174 #[.int .u32 n] h (fun v _ => v = .int .i64 (32 - bl n : Nat)) NP := by
  refine Spec.enter (args := [_]) (n := 6) Tryz.func174 rfl (by kernel_rfl) rfl (by simp) [.tmp 2] rfl (fun C _ => ?_)
  have h5 := (bl_le (k := 32)).2 hn
  refine AWP_rs rfl (fun K hK => ?_); (repeat (first | (refine wo rfl (fun k hk => ?_); simp (disch := omega) only [go_sem, Nat.reduceBEq, Nat.reduceAdd]; refine hk _ _ ?_; clear hk k) | refine wkt rfl ?_)); (try refine wk0 ?_); (first | refine hK _ _ ?_ | (clear hK; refine hK _ _ ?_) | (clear hK; clear hK; refine hK _ _ ?_)); clear hK; (try clear K)
  refine rg rfl rfl (fun K hK => ?_); (repeat (first | (refine wo rfl (fun k hk => ?_); simp (disch := omega) only [go_sem, Nat.reduceBEq, Nat.reduceAdd]; refine hk _ _ ?_; clear hk k) | refine wkt rfl ?_)); (try refine wk0 ?_)
  refine cN rfl rfl rfl rfl (by exact Len32_spec hn) ?_; rintro v h4 s4 rfl; (repeat (first | (refine wo rfl (fun k hk => ?_); simp (disch := omega) only [go_sem, Nat.reduceBEq, Nat.reduceAdd]; refine hk _ _ ?_; clear hk k) | refine wkt rfl ?_)); (try refine wk0 ?_)
  (repeat (first | (refine wo rfl (fun k hk => ?_); simp (disch := omega) only [go_sem, Nat.reduceBEq, Nat.reduceAdd]; refine hk _ _ ?_; clear hk k) | refine wkt rfl ?_)); (try refine wk0 ?_)
  (try (simp (disch := omega) only [go_sem, Nat.reduceBEq, Nat.reduceAdd])); refine hK _ _ ?_; clear hK; (try clear K); (try dsimp only [behind, qs])
  refine AWP_ret ?_; simp (disch := omega) only [go_sem, Nat.reduceBEq, Nat.reduceAdd]
  try (try (refine iv ?_; omega))
end Go.Q
