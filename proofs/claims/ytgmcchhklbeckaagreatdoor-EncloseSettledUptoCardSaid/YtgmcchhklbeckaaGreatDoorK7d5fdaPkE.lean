/-
  Whole bodies walked by one call of the simplifier: the code is turned into what it must reach, operation by operation; calls, loops and loads through pointers stand still, what follows them unseen. Conditions: none beyond each rule's own.
-/
import Derived.Test.YtgmcchhklbeckaaGreatDoorK0ef115PkD
set_option linter.unusedVariables false
set_option linter.unusedSimpArgs false
open List renaming length_append→qAp
namespace Go.Q
open Go.RowKit (Below)
inductive TT where
 |d
 |s (l:List Nat) (t:TT)
 |a (i:Nat) (t u:TT)
 |p (i:Nat) (t:TT)
 |n
def TT.it:TT→IT
 |.d=>.done
 |.s l t=>.seg (l.map .o) t.it
 |.a i t u=>.alt i t.it u.it
 |.p i t=>.seg [.p i] t.it
 |.n=>.no
def TT.pl:TT→Option (List PL)
 |.d=>some []
 |.s l t=>t.pl.map (l.map .o ++·)
 |.p i t=>t.pl.map (.p i :: ·)
 |_=>none
inductive PW where
 |o (l:List Nat)
 |t (t:TT)
 |y (t:TT)
 |h (seps sepn:List (Nat×Nat)) (al c:List Nat)
 |x
abbrev Plans:=List (Nat×PW)
@[go_sem] def Plans.get:Plans→Nat→Option PW
 |[],_=>none
 |(i,p) :: l,k=>bif i == k then some p else Plans.get l k
def pickO (all:List Oper):List Nat→List Oper
 |[]=>[]
 | i :: l=>match nth all i with
  |some o=>o :: pickO all l
  |none=>pickO all l
def op2 {α:Type} (o:Option α) (k:α→Prop):Prop:=match o with
 |some a=>k a
 |none=>False
def op3 {α:Type} (o:Option α) (k:α→Prop) (d:Prop):Prop:=match o with
 |some a=>k a
 |none=>d
theorem op3_some {α:Type} (a:α) (k:α→Prop) (d:Prop):op3 (some a) k d=k a:=(rfl)
theorem op3_none {α:Type} (k:α→Prop) (d:Prop):op3 none k d=d:=(rfl)
theorem op2_some {α:Type} (a:α) (k:α→Prop):op2 (some a) k=k a:=(rfl)
def calS (M:Mach) (E:List PanicEntry→PH→Prop) (f:FuncId) (vs:List Value) (S:AS) (h:PH) (k:AS→PH→AV→Prop):Prop:=
 (∃R E',Spec M f vs.toArray h R E'∧(∀v h',Step h h'→R v h'→k S h' (.v v))∧(∀ch h',Step h h'→E' ch h'→E ch h'))∨ownA M f vs S h k
def calL (M:Mach) (fo:Operand) (f:FuncId) (xs:List AV) (S:AS) (h:PH) (k:AS→PH→AV→Prop):Prop:=
 loanA M (cls (.call {callee:=.value fo,args:=#[],argTypes:=#[]})) f xs S h k∨lendA M f xs S h k
def calV (M:Mach) (E:List PanicEntry→PH→Prop) (fo:Operand) (f:FuncId) (first cap:List Value) (xs:List AV):Option (List Value)→AS→PH→(AS→PH→AV→Prop)→Prop
 |some vs,S,h,k=>calS M E f (first ++vs ++cap) S h k
 |none,S,h,k=>first=[]∧cap=[]∧calL M fo f xs S h k
def calA (M:Mach) (E:List PanicEntry→PH→Prop) (fo:Operand) (xs:List AV):AV→AS→PH→(AS→PH→AV→Prop)→Prop
 |.v (.func (.func f) first cap),S,h,k=>calV M E fo f first.toList cap.toList xs (vals xs) S h k
 |_,_,_,_=>False
def opA (M:Mach) (E:List PanicEntry→PH→Prop) (op:Op) (S:AS) (h:PH) (k:AS→PH→AV→Prop):Prop:=
 bif cls op == 0 then rdA M op S h (fun x=>k S h x) else imA M op S h E k
def bnA (P:Program) (op:BinOp) (T:TypeId) (x y:AV) (k:Value→Prop):Prop:=binA P op T x y k
section
variable {P:Program} {T:TypeId} {K L:IntKind} {a b:Int} {k:Value→Prop}
theorem bn_add:bnA P .add T (.v (.int K a)) (.v (.int K b)) k=k (.int K (K.wrap (a+b))):=by simp[bnA,binA,binI]
theorem bn_sub:bnA P .sub T (.v (.int K a)) (.v (.int K b)) k=k (.int K (K.wrap (a - b))):=by simp[bnA,binA,binI]
theorem bn_mul:bnA P .mul T (.v (.int K a)) (.v (.int K b)) k=k (.int K (K.wrap (a*b))):=by simp[bnA,binA,binI]
theorem bn_quo (h:b≠0):bnA P .quo T (.v (.int K a)) (.v (.int K b)) k=k (.int K (K.wrap (a.tdiv b))):=by simp[bnA,binA,binI,h]
theorem bn_rem (h:b≠0):bnA P .rem T (.v (.int K a)) (.v (.int K b)) k=k (.int K (a.tmod b)):=by simp[bnA,binA,binI,h]
theorem bn_and:bnA P .and T (.v (.int K a)) (.v (.int K b)) k=k (.int K (andI K a b)):=by simp[bnA,binA,binI]
theorem bn_or:bnA P .or T (.v (.int K a)) (.v (.int K b)) k=k (.int K (orI K a b)):=by simp[bnA,binA,binI]
theorem bn_xor:bnA P .xor T (.v (.int K a)) (.v (.int K b)) k=k (.int K (xorI K a b)):=by simp[bnA,binA,binI]
theorem bn_eql:bnA P .eql T (.v (.int K a)) (.v (.int K b)) k=k (.bool (a == b)):=by simp[bnA,binA,binI]
theorem bn_neq:bnA P .neq T (.v (.int K a)) (.v (.int K b)) k=k (.bool (a != b)):=by simp[bnA,binA,binI]
theorem bn_lss:bnA P .lss T (.v (.int K a)) (.v (.int K b)) k=k (.bool (decide (a < b))):=by simp[bnA,binA,binI]
theorem bn_leq:bnA P .leq T (.v (.int K a)) (.v (.int K b)) k=k (.bool (decide (a≤b))):=by simp[bnA,binA,binI]
theorem bn_gtr:bnA P .gtr T (.v (.int K a)) (.v (.int K b)) k=k (.bool (decide (a > b))):=by simp[bnA,binA,binI]
theorem bn_geq:bnA P .geq T (.v (.int K a)) (.v (.int K b)) k=k (.bool (decide (a≥b))):=by simp[bnA,binA,binI]
theorem bn_shl (h:0≤b):bnA P .shl T (.v (.int K a)) (.v (.int L b)) k=k (.int K (K.wrap (a*2^(min b.toNat K.bits)))):=by simp[bnA,binA,h]
theorem bn_shr (h:0≤b):bnA P .shr T (.v (.int K a)) (.v (.int L b)) k=k (.int K (a.fdiv (2^(min b.toNat K.bits)))):=by simp[bnA,binA,h]
theorem bn_beq (a b:Bool):bnA P .eql T (.v (.bool a)) (.v (.bool b)) k=(uk P T=.bool∧k (.bool (a == b))):=(rfl)
theorem bn_bne (a b:Bool):bnA P .neq T (.v (.bool a)) (.v (.bool b)) k=(uk P T=.bool∧k (.bool (!(a == b)))):=(rfl)
theorem bn_seq (a:Option Addr) (m c m' c':Nat):bnA P .eql T (.v (.slice a m c)) (.v (.slice none m' c')) k=(uk P T=.slice∧k (.bool a.isNone)):=(rfl)
theorem bn_sne (a:Option Addr) (m c m' c':Nat):bnA P .neq T (.v (.slice a m c)) (.v (.slice none m' c')) k=(uk P T=.slice∧k (.bool (!a.isNone))):=(rfl)
theorem bn_teq (a b:ByteArray):bnA P .eql T (.v (.string a)) (.v (.string b)) k=k (.bool (a.toList == b.toList)):=(rfl)
theorem bn_tne (a b:ByteArray):bnA P .neq T (.v (.string a)) (.v (.string b)) k=k (.bool (!(a.toList == b.toList))):=(rfl)
theorem bn_tge (a b:ByteArray):bnA P .geq T (.v (.string a)) (.v (.string b)) k=k (.bool (!Op.bytesLess a.toList b.toList)):=(rfl)
theorem bn_tad (a b:ByteArray):bnA P .add T (.v (.string a)) (.v (.string b)) k=(((a.size+b.size:Nat):Int)≤IntKind.i64.max∧k (.string (a ++b))):=(rfl)
end
attribute [go_sem] op2_some op3_some op3_none bn_add bn_sub bn_mul bn_quo bn_rem bn_and bn_or bn_xor bn_eql bn_neq bn_lss bn_leq bn_gtr bn_geq bn_shl bn_shr bn_beq bn_bne bn_seq bn_sne bn_teq bn_tne bn_tad bn_tge
def appB (S:AS) (h:PH) (b m:Nat) (news:List Value) (k:AS→PH→AV→Prop):AV→Prop
 |.v (.slice none 0 0)=>(m=0→k S h (.v (.slice none 0 0)))∧(m≠0→(2*m+1024)*b≤2^48∧∀junk:List Value,k (S.push (news ++junk)) h (.s S.bx.length 0 m (m+junk.length)))
 |.s i off len cap=>off=0∧len≤cap∧cap=(S.box i).length∧(2*(len+m)+1024)*b≤2^48∧
   ∀junk:List Value,k ((S.setBox i []).push ((S.box i).take len ++news ++junk)) h (.s S.bx.length 0 (len+m) (len+m+junk.length))
 |_=>False
def appP (S:AS) (h:PH) (b:Nat) (a:Option Addr) (m:Nat) (k:AS→PH→AV→Prop) (x:AV):Prop:=∃news:List Value,news.length=m∧(m≠0→∃ad,a=some ad∧∀(j:Nat) (v:Value),news[j]?=some v→h.at (ad.add j)=some v)∧news.all Value.oneCell'=true∧appB S h b m news k x
def appX (S:AS) (h:PH) (b:Nat) (k:AS→PH→AV→Prop) (x:AV):AV→Prop
 |.v (.slice a m _)=>appP S h b a m k x
 |.s i off m _=>off+m≤(S.box i).length∧(((S.box i).drop off).take m).all Value.oneCell'=true∧appB S h b m (((S.box i).drop off).take m) k x
 |_=>False
def copB (S:AS) (h:PH) (k:AS→PH→AV→Prop):AV→AV→Prop
 |.s i off dlen _,.v (.slice a m _)=>∃news:List Value,news.length=min m dlen∧(m≠0→∃ad,a=some ad∧∀(j:Nat) (v:Value),news[j]?=some v→h.at (ad.add j)=some v)∧news.all Value.oneCell'=true∧off < (S.box i).length∧off+min m dlen≤(S.box i).length∧
   k (S.setBox i (spl (S.box i) off news)) h (.v (.int .i64 (min m dlen:Nat)))
 |_,_=>False
def ld1 (S:AS) (h:PH) (a:Addr) (k:AS→PH→AV→Prop):Prop:=∃v,h.at a=some v∧k S h (.v v)
def ldm (S:AS) (h:PH) (a:Addr) (m:Nat) (k:AS→PH→AV→Prop):Prop:=∃cs:List Value,cs.length=m∧(∀j v,cs[j]?=some v→h.at (a.add j)=some v)∧k S h (.v (.agg cs.toArray))
def ixP (S:AS) (h:PH) (a:Option Addr) (j:Int) (len e:Nat) (k:AS→PH→AV→Prop):Prop:=∃ad,a=some ad∧0≤j∧j < len∧k S h (.v (.pointer (some (ad.add (j.toNat*e)))))
def ixS (S:AS) (h:PH) (s:ByteArray) (j:Int) (k:AS→PH→AV→Prop):Prop:=0≤j∧∃b,s[j.toNat]?=some b∧k S h (.v (.int .u8 b.toNat))
def ldN (S:AS) (h:PH) (a:Addr) (k:AS→PH→AV→Prop):Option Nat→Prop
 |none=>ld1 S h a k
 |some m=>ldm S h a m k
def ldA (M:Mach) (T:TypeId) (S:AS) (h:PH) (k:AS→PH→AV→Prop):AV→Prop
 |.p i off=>op2 (tk M.P T) fun t=>op2 (ldb t (S.box i) off) fun v=>k S h (.v v)
 |.v (.pointer (some a))=>op2 (tk M.P T) fun t=>ldN S h a k t
 |_=>False
def pickA (k:AV→Prop) (x y:AV):AV→Prop
 |.v (.bool t)=>k (bif t then x else y)
 |_=>False
def unA (k:AV→Prop):UnOp→AV→Prop
 |.not,.v (.bool b)=>k (.v (.bool (!b)))
 |.neg,.v (.int K a)=>k (.v (.int K (K.wrap (0 - a))))
 |_,_=>False
def convA (k:AV→Prop):UK→UK→AV→Prop
 |.int _,.int K,.v (.int _ a)=>k (.v (.int K (K.wrap a)))
 |_,_,_=>False
def faA (k:AV→Prop) (o:Nat):AV→Prop
 |.p i off=>k (.p i (off+o))
 |.v (.pointer (some a))=>k (.v (.pointer (some (a.add o))))
 |_=>False
def fA (k:AV→Prop) (pl:Option (Nat×Option Nat)):AV→Prop
 |.v (.agg cs)=>op2 pl fun(o,t)=>op2 (ldb t cs.toList o) fun v=>k (.v v)
 |_=>False
def iaA (M:Mach) (T:TypeId) (S:AS) (h:PH) (k:AS→PH→AV→Prop) (e:Nat):AV→AV→Prop
 |.v (.slice a len _),.v (.int _ j)=>uk M.P T=.slice∧ixP S h a j len e k
 |.s b off len _,.v (.int _ j)=>uk M.P T=.slice∧0≤j∧j < len∧k S h (.p b (off+j.toNat*e))
 |.p b off,.v (.int _ j)=>op2 (alen M.P T) fun m=>0≤j∧j < m∧k S h (.p b (off+j.toNat*e))
 |.v (.pointer (some a)),.v (.int _ j)=>op2 (alen M.P T) fun m=>0≤j∧j < m∧k S h (.v (.pointer (some (a.add (j.toNat*e)))))
 |_,_=>False
def iA (M:Mach) (T:TypeId) (S:AS) (h:PH) (k:AS→PH→AV→Prop):AV→AV→Prop
 |.v (.agg cs),.v (.int _ j)=>op2 (alen M.P T) fun m=>op2 (esz M.P T) fun e=>op2 (etk M.P T) fun t=>0≤j∧j < m∧op2 (ldb t cs.toList (j.toNat*e)) fun v=>k S h (.v v)
 |.v (.string s),.v (.int _ j)=>uk M.P T=.string∧ixS S h s j k
 |_,_=>False
def extA (k:AV→Prop) (i:Nat):AV→Prop
 |.v (.tuple vs)=>op2 (vs.toList[i]?) fun v=>k (.v v)
 |_=>False
def slcA (M:Mach) (T:TypeId) (k:AV→Prop) (lo hi:Option AV):AV→Prop
 |.v (.slice a len cap)=>uk M.P T=.slice∧op2 (esz M.P T) fun e=>op2 (lowA lo) fun l=>op2 (highA len hi) fun u=>
   0≤l∧l≤u∧u≤cap∧k (.v (.slice (if cap=l.toNat then a else a.map (·.add (l.toNat*e))) (u.toNat - l.toNat) (cap - l.toNat)))
 |.s b off len cap=>uk M.P T=.slice∧op2 (esz M.P T) fun e=>op2 (lowA lo) fun l=>op2 (highA len hi) fun u=>
   0≤l∧l≤u∧u≤cap∧k (.s b (if cap=l.toNat then off else off+l.toNat*e) (u.toNat - l.toNat) (cap - l.toNat))
 |_=>False
def miA (M:Mach) (T:TypeId) (k:AV→Prop):AV→Prop
 |.v v=>M.P.concrete T=true∧k (.v (.iface T v))
 |_=>False
def minA (k:AV→Prop):AV→AV→Prop
 |.v (.int K a),.v (.int _ b)=>k (.v (.int K (if b < a then b else a)))
 |_,_=>False
def maxA (k:AV→Prop):AV→AV→Prop
 |.v (.int K a),.v (.int _ b)=>k (.v (.int K (if b > a then b else a)))
 |_,_=>False
def boxA (S:AS) (h:PH) (k:AS→PH→AV→Prop):AV→Prop
 |.v v=>k (S.push v.cells.toList) h (.p S.bx.length 0)
 |_=>False
def stoA (M:Mach) (T:TypeId) (S:AS) (h:PH) (k:AS→PH→AV→Prop):AV→AV→Prop
 |.p i off,.v v=>op2 (tk M.P T) fun t=>op2 (fits t v) fun vs=>vs.all Value.oneCell'=true∧off < (S.box i).length∧off+vs.length≤(S.box i).length∧k (S.setBox i (spl (S.box i) off vs)) h .top
 |_,_=>False
def mksA (M:Mach) (T:TypeId) (S:AS) (h:PH) (k:AS→PH→AV→Prop):AV→AV→Prop
 |.v (.int _ l),.v (.int _ c)=>op2 (mk1 M.P T) fun(z,b)=>0≤l∧l≤c∧(b:Int)*c≤2^48∧k (S.push (List.replicate c.toNat z)) h (.s S.bx.length 0 l.toNat c.toNat)
 |_,_=>False
def panA (E:List PanicEntry→PH→Prop) (h:PH):AV→Prop
 |.v (.iface t v)=>E [{v:=.iface t v,recovered:=false}] h
 |_=>False
section
variable {M:Mach} {E:List PanicEntry→PH→Prop} {S S':AS} {h:PH} {k:AS→PH→AV→Prop}
theorem op_move (x:Operand):opA M E (.move x) S h k=k S h (S.ev x):=(rfl)
theorem JG (x:Operand):opA M E (.assign x) S h k=k S h (S.ev x):=(rfl)
theorem op_pick (c x y:Operand):opA M E (.pick c x y) S h k=pickA (k S h) (S.ev x) (S.ev y) (S.ev c):=by
 show rdA M (.pick c x y) S h (k S h)=_
 simp only[rdA]
 generalize S.ev c=v
 cases v<;>first |rfl |(rename_i v;cases v<;>rfl)
theorem op_load (T:TypeId) (x:Operand):opA M E (.load T x) S h k=ldA M T S h k (S.ev x):=by
 show rdA M (.load T x) S h (k S h)=_
 simp only[rdA]
 generalize S.ev x=v
 cases v<;>first |rfl |skip
theorem op_bin (o:BinOp) (T U:TypeId) (x y:Operand):opA M E (.binOp o T x y U) S h k=bnA M.P o T (S.ev x) (S.ev y) (fun v=>k S h (.v v)):=(rfl)
theorem op_un (o:UnOp) (T:TypeId) (x:Operand):opA M E (.unOp o T x) S h k=unA (k S h) o (S.ev x):=by
 show rdA M (.unOp o T x) S h (k S h)=_
 simp only[rdA]
 generalize S.ev x=v
 cases o<;>cases v<;>first |rfl |(rename_i v;cases v<;>rfl)
theorem op_conv (T U:TypeId) (x:Operand):opA M E (.convert T U x) S h k=convA (k S h) (uk M.P T) (uk M.P U) (S.ev x):=by
 show rdA M (.convert T U x) S h (k S h)=_
 simp only[rdA]
 generalize uk M.P T=a
 generalize uk M.P U=b
 generalize S.ev x=v
 cases a<;>cases b<;>cases v<;>first |rfl |(rename_i v;cases v<;>rfl)
theorem op_fa (T:TypeId) (x:Operand) (f:Nat):opA M E (.fieldAddr T x f) S h k=op2 (fo M.P T f) fun o=>faA (k S h) o (S.ev x):=by
 show rdA M (.fieldAddr T x f) S h (k S h)=_
 simp only[rdA]
 congr 1
theorem op_f (T:TypeId) (x:Operand) (f:Nat):opA M E (.field T x f) S h k=fA (k S h) (fpl M.P T f) (S.ev x):=by
 show rdA M (.field T x f) S h (k S h)=_
 simp only[rdA]
 generalize S.ev x=v
 cases v<;>first |rfl |(rename_i v;cases v<;>rfl)
theorem op_ia (T:TypeId) (x y:Operand):opA M E (.indexAddr T x y) S h k=op2 (esz M.P T) fun e=>iaA M T S h k e (S.ev x) (S.ev y):=by
 show rdA M (.indexAddr T x y) S h (k S h)=_
 simp only[rdA]
 congr 1
theorem op_i (T:TypeId) (x y:Operand):opA M E (.index T x y) S h k=iA M T S h k (S.ev x) (S.ev y):=by
 show rdA M (.index T x y) S h (k S h)=_
 simp only[rdA]
 generalize S.ev x=v
 generalize S.ev y=w
 cases v<;>first |rfl |skip
theorem op_ex (x:Operand) (i:Nat):opA M E (.extract x i) S h k=extA (k S h) i (S.ev x):=by
 show rdA M (.extract x i) S h (k S h)=_
 simp only[rdA]
 generalize S.ev x=v
 cases v<;>first |rfl |(rename_i v;cases v<;>rfl)
theorem op_sl (T:TypeId) (x:Operand) (l u:Option Operand):opA M E (.slice T x l u none) S h k=slcA M T (k S h) (l.map S.ev) (u.map S.ev) (S.ev x):=by
 show rdA M (.slice T x l u none) S h (k S h)=_
 simp only[rdA]
 generalize S.ev x=v
 cases v<;>first |rfl |(rename_i v;cases v<;>rfl)
theorem op_build (T:TypeId) (p:Array (Nat×Operand)):opA M E (.build T p) S h k=op2 (EW M.P T (p.toList.map fun p=>(p.1,S.ev p.2))) fun cs=>k S h (.v (.agg cs.toArray)):=(rfl)
theorem op_mf (f:Fn) (x y:Array Operand):opA M E (.makeFunc f x y) S h k=op2 (vals (x.toList.map S.ev)) fun fs=>op2 (vals (y.toList.map S.ev)) fun cs=>k S h (.v (.func f fs.toArray cs.toArray)):=(rfl)
theorem op_mi (T:TypeId) (x:Operand):opA M E (.makeInterface T x) S h k=miA M T (k S h) (S.ev x):=by
 show rdA M (.makeInterface T x) S h (k S h)=_
 simp only[rdA]
 generalize S.ev x=v
 cases v<;>rfl
theorem op_len (x:Operand) (T:TypeId):opA M E (.call {callee:=.builtin .len,args:=#[x],argTypes:=#[T]}) S h k=op2 (lenA M.P T (S.ev x)) fun v=>k S h (.v v):=(rfl)
theorem op_min (x y:Operand) (t:Array TypeId):opA M E (.call {callee:=.builtin .min,args:=#[x,y],argTypes:=t}) S h k=minA (k S h) (S.ev x) (S.ev y):=by
 show rdA M (.call {callee:=.builtin .min,args:=#[x,y],argTypes:=t}) S h (k S h)=_
 simp only[rdA]
 generalize S.ev x=v
 generalize S.ev y=w
 cases v<;>first |rfl |skip
theorem op_max (x y:Operand) (t:Array TypeId):opA M E (.call {callee:=.builtin .max,args:=#[x,y],argTypes:=t}) S h k=maxA (k S h) (S.ev x) (S.ev y):=by
 show rdA M (.call {callee:=.builtin .max,args:=#[x,y],argTypes:=t}) S h (k S h)=_
 simp only[rdA]
 generalize S.ev x=v
 generalize S.ev y=w
 cases v<;>first |rfl |skip
theorem op_app (x y:Operand) (T U:TypeId):opA M E (.call {callee:=.builtin .append,args:=#[x,y],argTypes:=#[T,U]}) S h k=(uk M.P U=.slice∧op2 (mk1 M.P T) fun(_,b)=>appX S h b k (S.ev x) (S.ev y)):=by
 show(bif (bif nilB #[x,y] then 1 else 2:Nat) == 0 then _ else imA M _ S h E k)=_
 cases nilB #[x,y]<;>rfl
theorem op_cop (x y:Operand) (T U:TypeId):opA M E (.call {callee:=.builtin .copy,args:=#[x,y],argTypes:=#[T,U]}) S h k=op2 (mk1 M.P T) fun _=>copB S h k (S.ev x) (S.ev y):=by
 show(op2 (mk1 M.P T) fun _=>copA S h (S.ev x) (S.ev y) k)=_
 unfold copB copA
 rfl
theorem op_alloc (T:TypeId):opA M E (.alloc T) S h k=op2 (zer M.P T) fun z=>k (S.push z) h (.p S.bx.length 0):=(rfl)
theorem op_box (T:TypeId) (x:Operand):opA M E (.box T x) S h k=boxA S h k (S.ev x):=by
 show imA M (.box T x) S h E k=_
 simp only[imA]
 generalize S.ev x=v
 cases v<;>rfl
theorem op_store (T:TypeId) (x y:Operand):opA M E (.store T x y) S h k=stoA M T S h k (S.ev x) (S.ev y):=by
 show imA M (.store T x y) S h E k=_
 simp only[imA]
 generalize S.ev x=v
 generalize S.ev y=w
 cases v<;>cases w<;>rfl
theorem op_ms (T:TypeId) (x y:Operand):opA M E (.makeSlice T x y) S h k=mksA M T S h k (S.ev x) (S.ev y):=by
 show imA M (.makeSlice T x y) S h E k=_
 simp only[imA]
 generalize S.ev x=v
 generalize S.ev y=w
 cases v<;>first |rfl |skip
theorem op_bs (T:TypeId) (n:Nat) (p:Array (Nat×Operand)):opA M E (.buildSlice T n p) S h k=op3 (mk1 M.P T) (fun(z,_)=>n≤2^24∧op2 (fillA (fun i=>some (i,none)) (List.replicate n z) (p.toList.map fun p=>(p.1,S.ev p.2))) fun cs=>k (S.push cs) h (.s S.bx.length 0 n n))
  (op2 (mkB M.P T) fun(z,t)=>n*bT t≤2^24∧1≤n∧op2 (fillA (fun i=>some (i*bT t,t)) (repC z n) (p.toList.map fun p=>(p.1,S.ev p.2))) fun cs=>k (S.push cs) h (.s S.bx.length 0 n n)):=by
 show imA M (.buildSlice T n p) S h E k=_
 simp only[imA]
 generalize mk1 M.P T=o
 cases o<;>rfl
theorem op_panic (x:Operand):opA M E (.panic x) S h k=panA E h (S.ev x):=by
 show imA M (.panic x) S h E k=_
 simp only[imA]
 generalize S.ev x=v
 cases v<;>first |rfl |(rename_i v;cases v<;>rfl)
theorem aE {a:Addr} {v:Value} (hv:h.at a=some v) (hk:k S h (.v v)):ld1 S h a k:=⟨v,hv,hk⟩
theorem dL {a:Addr} {m:Nat} (cs:List Value) (hl:cs.length=m) (hv:∀j v,cs[j]?=some v→h.at (a.add j)=some v) (hk:k S h (.v (.agg cs.toArray))):ldm S h a m k:=⟨cs,hl,hv,hk⟩
theorem ixP_some {ad:Addr} {j:Int} {len e:Nat}:ixP S h (some ad) j len e k=(0≤j∧j < len∧k S h (.v (.pointer (some (ad.add (j.toNat*e)))))):=propext ⟨fun⟨_,e,k⟩=>by cases e;exact k,fun k=>⟨_,rfl,k⟩⟩
theorem ble_t {a b:Nat} (h:a≤b):Nat.ble a b=true:=by simpa using h
theorem ble_f {a b:Nat} (h:b < a):Nat.ble a b=false:=by
 cases e:Nat.ble a b with
 |false=>rfl
 |true=>have:=Nat.le_of_ble_eq_true e;omega
theorem cls_call (fo:Operand) (x:Array Operand) (t:Array TypeId):cls (.call {callee:=.value fo,args:=x,argTypes:=t})=cls (.call {callee:=.value fo,args:=#[],argTypes:=#[]})∧(cls (.call {callee:=.value fo,args:=x,argTypes:=t}) == 0)=false:=by
 cases fo with
 |func f=>simp only[cls];split<;>simp
 |_=>exact⟨rfl,rfl⟩
theorem op_call (fo:Operand) (x:Array Operand) (t:Array TypeId):opA M E (.call {callee:=.value fo,args:=x,argTypes:=t}) S h k=calA M E fo (x.toList.map S.ev) (S.ev fo) S h k:=by
 obtain⟨h1,h2⟩:=cls_call fo x t
 rw[show opA M E (.call {callee:=.value fo,args:=x,argTypes:=t}) S h k=imA M (.call {callee:=.value fo,args:=x,argTypes:=t}) S h E k from by unfold opA;rw[h2];rfl]
 simp only[imA,h1]
 split
 ·rename_i f first cap hf
  rw[hf]
  simp only[calA]
  split
  ·rename_i vs hv
   rw[hv];rfl
  ·rename_i hv
   rw[hv];rfl
 ·rename_i hf
  unfold calA
  split
  ·rename_i f first cap hx
   exact(hf _ _ _ hx).elim
  ·rfl
end
attribute [go_sem] ixP_some ble_t ble_f op_move JG op_pick op_load op_bin op_un op_conv op_fa op_f op_ia op_i op_ex op_sl op_build op_mf op_mi op_len op_min op_max op_app op_cop op_alloc op_box op_store op_ms op_bs op_panic op_call
def dstA (all:List Oper) (j:Nat):Option Nat:=match nth all j with
 |some o=>o.dst
 |none=>none
def gvB (want:Bool):AV→Option Bool
 |.v (.bool b)=>some (b == want)
 |.v (.tuple _)=>some false
 |_=>none
def gvT (S:AS) (want:Bool):Option Nat→Option Bool
 |some t=>gvB want (lk S.sl t)
 |none=>none
def gst (M:Mach) (E:List PanicEntry→PH→Prop) (d:Option Nat) (op:Op):Option Bool→AS→PH→(AS→PH→AV→Prop)→Prop
 |some true,S,h,k=>opA M E op S h k
 |some false,S,h,k=>k S h (.v undef)
 |none,_,_,_=>False
def AS.putC (S:AS) (d:Option Nat) (x:AV):AS:=S.put d x
theorem putC_n (S:AS) (x:AV):S.putC none x=S:=rfl
theorem putC_s (sl:List (Nat×AV)) (bx:List (List Value)) (d:Nat) (x:AV):AS.putC ⟨sl,bx⟩ (some d) x=⟨(d,x) :: sl,bx⟩:=rfl
attribute [go_sem] putC_n putC_s
def walkO (M:Mach) (E:List PanicEntry→PH→Prop) (all:List Oper):List Oper→(AS→PH→Prop)→AS→PH→Prop
 |[],K,S,h=>K S h
 |o :: l,K,S,h=>gst M E o.dst o.op (match o.guard with |none=>some true |some (j,want)=>gvT S want (dstA all j)) S h (fun S' h' x=>walkO M E all l K (S'.putC o.dst x) h')
section
variable {M:Mach} {E:List PanicEntry→PH→Prop} {all l:List Oper} {K:AS→PH→Prop} {sl:List (Nat×AV)} {bx:List (List Value)} {h:PH}
theorem wo_nil:walkO M E all [] K ⟨sl,bx⟩ h=K ⟨sl,bx⟩ h:=(rfl)
theorem wo_o (d:Option Nat) (op:Op) (T:TypeId) (p:String) (a:Array Edge):walkO M E all (⟨d,op,T,p,a,none⟩ :: l) K ⟨sl,bx⟩ h=opA M E op ⟨sl,bx⟩ h (fun S' h' x=>walkO M E all l K (S'.putC d x) h'):=(rfl)
theorem wo_g (d:Option Nat) (op:Op) (T:TypeId) (p:String) (a:Array Edge) (j:Nat) (w:Bool):walkO M E all (⟨d,op,T,p,a,some (j,w)⟩ :: l) K ⟨sl,bx⟩ h=gst M E d op (gvT ⟨sl,bx⟩ w (dstA all j)) ⟨sl,bx⟩ h (fun S' h' x=>walkO M E all l K (S'.putC d x) h'):=(rfl)
theorem nth_o (o:Oper) (l:List Oper):nth (o :: l) 0=some o:=rfl
theorem nth_s (o:Oper) (l:List Oper) (i:Nat):nth (o :: l) (i+1)=nth l i:=rfl
end
attribute [go_sem] wo_nil wo_o wo_g nth_o nth_s pickO
theorem oE {M : Mach} {E:List PanicEntry→PH→Prop} {K:AS→PH→Prop} {n:Nat} {ops:Array Oper}:∀(pl:List Nat) (gx:List GX),prep n ops (pl.map .o)=some gx→walkO M E ops.toList (pickO ops.toList pl) K=walk M E gx K:=by
 intro pl
 induction pl with
 | nil=>
  intro gx hp
  cases hp
  funext S h
  exact propext ⟨fun k=>wk0 k,fun k=>by unfold walk at k;exact k⟩
 | cons i pl ih=>
  intro gx hp
  simp only[List.map_cons,prep] at hp
  cases ho:nth ops.toList i with
  |none=>rw[ho] at hp;cases hp
  | some o=>
   rw[ho] at hp
   dsimp only at hp
   cases hg:gOf ops o with
   |none=>rw[hg] at hp;cases hp
   | some gd =>
    rw[hg] at hp
    dsimp only at hp
    cases hd:(o.dst.all (Nat.blt · n)) with
    |false=>rw[hd] at hp;cases hp
    | true=>
     rw[hd] at hp
     cases hq:prep n ops (pl.map .o) with
     |none=>rw[hq] at hp;cases hp
     | some l' =>
      rw[hq] at hp;cases hp
      have e:=ih l' hq
      funext S h
      simp only[pickO,ho,walkO,e]
      have st:opA M E o.op S h (fun S' h' x=>walk M E l' K (S'.putC o.dst x) h')=step1 M E ⟨o.dst,o.op,gd⟩ (walk M E l' K) S h:=rfl
      unfold gOf at hg
      split at hg
      ·rename_i hn
       cases hg
       rw[hn]
       simp only[gst,st]
       exact propext ⟨fun k=>by rw[walk.eq_def];exact k,fun k=>by rw[walk.eq_def] at k;exact k⟩
      ·rename_i j want hn
       split at hg
       ·rename_i t ht
        cases hg
        rw[hn]
        have hda:dstA ops.toList j=some t:=by
         unfold dstA
         cases hx:nth ops.toList j with
         |none=>rw[hx] at ht;cases ht
         |some o'=>rw[hx] at ht;exact ht
        simp only[hda,gvT]
        refine propext ⟨fun k=>?_,fun k=>?_⟩
        ·rw[walk.eq_def]
         dsimp only
         cases hl:lk S.sl t with
         |top=>rw[hl] at k;exact k.elim
         |p i off=>rw[hl] at k;exact k.elim
         |s i off len cap=>rw[hl] at k;exact k.elim
         | v x=>
          rw[hl] at k
          cases x<;>first |exact k.elim |exact k |skip
          rename_i b
          simp only[gvB] at k
          dsimp only
          cases b<;>cases want<;>first |exact⟨fun _=>k,fun e=>(nomatch e)⟩ |exact⟨fun e=>(nomatch e),fun _=>k⟩
        ·rw[walk.eq_def] at k
         dsimp only at k
         cases hl:lk S.sl t with
         |top=>rw[hl] at k;exact k.elim
         |p i off=>rw[hl] at k;exact k.elim
         |s i off len cap=>rw[hl] at k;exact k.elim
         | v x=>
          rw[hl] at k
          cases x<;>first |exact k.elim |exact k |skip
          rename_i b
          dsimp only at k
          simp only[gvB]
          cases b<;>cases want<;>first |exact k.1 rfl |exact k.2 rfl
       ·cases hg
def walkZ (M:Mach) (E:List PanicEntry→PH→Prop) (all:List Oper) (K:AS→PH→Prop):TT→AS→PH→Prop
 |.d=>K
 |.s l t=>walkO M E all (pickO all l) (walkZ M E all K t)
 |.a i t u=>fun S h=>walkO M E all (pickO all [i]) (walkZ M E all K t) S h∧walkZ M E all K u S h
 |.p i t=>fun S h=>pubA S h i (walkZ M E all K t)
 |.n=>fun _ _=>True
section
variable {M:Mach} {E:List PanicEntry→PH→Prop} {all l:List Oper} {K:AS→PH→Prop} {sl:List (Nat×AV)} {bx:List (List Value)} {h:PH}
theorem wz_d:walkZ M E all K .d ⟨sl,bx⟩ h=K ⟨sl,bx⟩ h:=(rfl)
theorem wz_s (l:List Nat) (t:TT):walkZ M E all K (.s l t) ⟨sl,bx⟩ h=walkO M E all (pickO all l) (walkZ M E all K t) ⟨sl,bx⟩ h:=(rfl)
theorem wz_a (i:Nat) (t u:TT):walkZ M E all K (.a i t u) ⟨sl,bx⟩ h=(walkO M E all (pickO all [i]) (walkZ M E all K t) ⟨sl,bx⟩ h∧walkZ M E all K u ⟨sl,bx⟩ h):=(rfl)
theorem wz_p (i:Nat) (t:TT):walkZ M E all K (.p i t) ⟨sl,bx⟩ h=(i < bx.length∧∀b h',Step h h'→((⟨sl,bx⟩:AS).box i≠[]→h' b=some ((⟨sl,bx⟩:AS).box i).toArray)→walkZ M E all K t ((⟨sl,bx⟩:AS).pub i b) h'):=(rfl)
theorem wz_n:walkZ M E all K .n ⟨sl,bx⟩ h=True:=(rfl)
end
attribute [go_sem] wz_d wz_s wz_a wz_p wz_n
theorem Ed {M:Mach} {E:List PanicEntry→PH→Prop} {K:AS→PH→Prop} {n:Nat} {ops:Array Oper}:∀(t:TT) (g:GT),prepT n ops t.it=some g→walkZ M E ops.toList K t=walkT M E K g:=by
 intro t
 induction t with
 |d=>intro g h;cases h;rfl
 |n=>intro g h;cases h;rfl
 | s l t ih=>
  intro g h
  simp only[TT.it,prepT] at h
  split at h
  ·rename_i l' t' h1 h2
   cases h
   simp only[walkZ,ih _ h2]
   rw[oE _ _ h1]
   rfl
  ·cases h
 | p i t ih=>
  intro g h
  simp only[TT.it,prepT,prep] at h
  split at h
  ·rename_i l' t' h1 h2
   cases h1
   cases h
   simp only[walkZ,ih _ h2]
   funext S h
   refine propext ⟨fun k=>?_,fun k=>?_⟩
   ·exact ao (wkp ⟨k.1,fun b h' s e=>wk0 (k.2 b h' s e)⟩)
   ·have k:walk M E [.p i] (walkT M E K t') S h:=k
    rw[walk.eq_def] at k
    exact⟨k.1,fun b h' s e=>by have:=k.2 b h' s e;rw[walk.eq_def] at this;exact this⟩
  ·cases h
 | a i t u iht ihu=>
  intro g h
  simp only[TT.it,prepT] at h
  split at h
  ·rename_i g' t' u' h1 h2 h3
   cases h
   simp only[walkZ,iht _ h2,ihu _ h3]
   rw[oE (n:=n) (ops:=ops) [i] [g'] h1]
   rfl
  ·cases h
theorem walkZ_pl {M:Mach} {E:List PanicEntry→PH→Prop} {K:AS→PH→Prop} {n:Nat} {ops:Array Oper}:∀(t:TT) (pl:List PL) (l:List GX),t.pl=some pl→prep n ops pl=some l→walkZ M E ops.toList K t=walk M E l K:=by
 intro t
 induction t with
 |d=>intro pl l h hp;cases h;cases hp;funext S h';exact propext ⟨fun k=>wk0 k,fun k=>by rw[walk.eq_def] at k;exact k⟩
 |n=>intro pl l h;cases h
 |a i t u=>intro pl l h;cases h
 | p i t ih=>
  intro pl l h hp
  simp only[TT.pl,Option.map_eq_some_iff] at h
  obtain⟨pl',h1,rfl⟩:=h
  simp only[prep] at hp
  cases hq:prep n ops pl' with
  |none=>rw[hq] at hp;cases hp
  | some l'=>
   rw[hq] at hp;cases hp
   funext S h'
   have e:walkZ M E ops.toList K (.p i t) S h'=pubA S h' i (walk M E l' K):=by rw[←ih _ _ h1 hq];rfl
   rw[e]
   exact propext ⟨fun k=>wkp k,fun k=>by rw[walk.eq_def] at k;exact k⟩
 | s x t ih=>
  intro pl l h hp
  simp only[TT.pl,Option.map_eq_some_iff] at h
  obtain⟨pl',h1,rfl⟩:=h
  have key:∀(x:List Nat) (l:List GX),prep n ops (x.map .o ++pl')=some l→∃l1 l2,prep n ops (x.map .o)=some l1∧prep n ops pl'=some l2∧∀K,walk M E l K=walk M E l1 (walk M E l2 K):=by
   intro x
   induction x with
   |nil=>intro l e;exact⟨[],l,rfl,e,fun K=>by funext S h;exact propext ⟨fun k=>wk0 k,fun k=>by rw[walk.eq_def] at k;exact k⟩⟩
   | cons i x ihx=>
    intro l e
    simp only[List.map_cons,List.cons_append,prep] at e ⊢
    cases ho:nth ops.toList i with
    |none=>rw[ho] at e;cases e
    | some o=>
     rw[ho] at e
     dsimp only at e ⊢
     cases hg:gOf ops o with
     |none=>rw[hg] at e;cases e
     | some gd=>
      rw[hg] at e
      dsimp only at e ⊢
      cases hd:(o.dst.all (Nat.blt · n)) with
      |false=>rw[hd] at e;cases e
      | true=>
       rw[hd] at e
       cases hq:prep n ops (x.map .o ++pl') with
       |none=>rw[hq] at e;cases e
       | some l'=>
        rw[hq] at e;cases e
        obtain⟨l1,l2,e1,e2,e3⟩:=ihx l' hq
        refine⟨.o ⟨o.dst,o.op,gd⟩ :: l1,l2,by rw[e1];rfl,e2,fun K=>?_⟩
        funext S h
        rw[walk.eq_def,walk.eq_def M E (_ :: l1)]
        simp only[e3]
  obtain⟨l1,l2,e1,e2,e3⟩:=key x l hp
  rw[e3,←ih _ _ h1 e2,←oE _ _ e1]
  rfl
theorem FH (all:List Oper):pickO all (List.range all.length)=all:=by
 have key:∀(l pre:List Oper),pre ++l=all→pickO all (List.range' pre.length l.length)=l:=by
  intro l
  induction l with
  |nil=>intro pre _;rfl
  | cons o l ih=>
   intro pre he
   have h1:nth all pre.length=some o:=by rw[Fy,←he];simp
   have h2:=ih (pre ++[o]) (by simpa using he)
   simp only[qAp,List.length_singleton] at h2
   simp only[List.length_cons,List.range'_succ,pickO,h1,h2]
 simpa[List.range_eq_range'] using key all [] rfl
end Go.Q
