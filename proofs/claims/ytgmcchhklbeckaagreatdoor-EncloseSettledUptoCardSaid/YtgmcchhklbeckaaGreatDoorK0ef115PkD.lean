/-
  The closed facts on the type table that the walks use, written by a program out of the translation, and what stands on it. Conditions: each theorem's own.
-/
import Derived.Test.YtgmcchhklbeckaaGreatDoorK992e1bPkC
set_option linter.unusedVariables false
set_option linter.unusedSimpArgs false
open Nat renaming le_refl→η,mul_comm→ρ,mul_le_mul_left→ω,mul_assoc→σ,mul_add→qAm,pow_succ→qAn,pow_le_pow_right→qAv,mul_one→qAz,zero_le→qBh,mod_eq_of_lt→qBi,lt_or_ge→qBj,mod_lt→qBl
open Bool renaming and_eq_true→φ
open List renaming length_append→qAp,take_of_length_le→qAr,mem_cons_self→qAt,mem_append→qAu,getD_eq_getElem?_getD→qAy,mem_singleton→qBc,all_eq_true→qBd
namespace Go.Q
@[go_sem] theorem tYTypes1:alen mach.P 9=none∧alen mach.P 22=none∧alen mach.P 25=none∧alen mach.P 28=none∧alen mach.P 41=none∧alen mach.P 45=none∧alen mach.P 58=none∧alen mach.P 80=none∧alen mach.P 87=none∧alen mach.P 97=none∧alen mach.P 252=some 2∧alen mach.P 269=some 2∧alen mach.P 289=some 32∧alen mach.P 298=none∧alen mach.P 316=some 2∧alen mach.P 317=none∧mach.P.concrete 133=true∧esz mach.P 9=none∧esz mach.P 22=some 1∧esz mach.P 24=none∧esz mach.P 25=some 7∧esz mach.P 27=none∧esz mach.P 28=some 9∧esz mach.P 35=none∧esz mach.P 41=some 4∧esz mach.P 45=some 3∧esz mach.P 53=none∧esz mach.P 58=some 1∧esz mach.P 60=none∧esz mach.P 77=none∧esz mach.P 80=some 8∧esz mach.P 82=none∧esz mach.P 87=some 1∧esz mach.P 89=none∧esz mach.P 91=none∧esz mach.P 97=some 1∧esz mach.P 105=none∧esz mach.P 116=none∧esz mach.P 119=none∧esz mach.P 133=none:=by and_intros<;>kernel_rfl
@[go_sem] theorem tYTypes2:esz mach.P 151=none∧esz mach.P 204=none∧esz mach.P 222=none∧esz mach.P 251=none∧esz mach.P 252=some 4∧esz mach.P 268=none∧esz mach.P 269=some 4∧esz mach.P 289=some 1∧esz mach.P 298=some 1∧esz mach.P 311=none∧esz mach.P 316=some 3∧esz mach.P 317=some 6∧etk mach.P 9=none∧etk mach.P 24=none∧etk mach.P 27=none∧etk mach.P 35=none∧etk mach.P 53=none∧etk mach.P 60=none∧etk mach.P 77=none∧etk mach.P 82=none∧etk mach.P 89=none∧etk mach.P 91=none∧etk mach.P 105=none∧etk mach.P 116=none∧etk mach.P 119=none∧etk mach.P 133=none∧etk mach.P 151=none∧etk mach.P 204=none∧etk mach.P 222=none∧etk mach.P 251=none∧etk mach.P 252=some (some 4)∧etk mach.P 268=none∧etk mach.P 269=some (some 4)∧etk mach.P 311=none∧etk mach.P 316=some (some 3)∧fo mach.P 24 0=some 0∧fo mach.P 24 1=some 1∧fo mach.P 24 2=some 2∧fo mach.P 27 0=some 0∧fo mach.P 27 1=some 1:=by and_intros<;>kernel_rfl
@[go_sem] theorem tYTypes3:fo mach.P 27 2=some 2∧fo mach.P 27 3=some 5∧fo mach.P 27 4=some 6∧fo mach.P 35 0=some 0∧fo mach.P 35 1=some 3∧fo mach.P 35 2=some 6∧fo mach.P 35 3=some 7∧fo mach.P 47 0=some 0∧fo mach.P 47 1=some 8∧fo mach.P 53 0=some 0∧fo mach.P 53 1=some 1∧fo mach.P 60 0=some 0∧fo mach.P 60 1=some 1∧fo mach.P 60 2=some 2∧fo mach.P 77 0=some 0∧fo mach.P 77 1=some 3∧fo mach.P 77 2=some 6∧fo mach.P 77 3=some 7∧fo mach.P 77 4=some 8∧fo mach.P 82 0=some 0∧fo mach.P 82 1=some 1∧fo mach.P 82 3=some 3∧fo mach.P 89 0=some 0∧fo mach.P 89 1=some 1∧fo mach.P 89 2=some 2∧fo mach.P 91 0=some 0∧fo mach.P 91 1=some 3∧fo mach.P 91 2=some 6∧fo mach.P 91 3=some 7∧fo mach.P 91 4=some 8∧fo mach.P 105 0=some 0∧fo mach.P 105 1=some 1∧fo mach.P 116 2=some 2∧fo mach.P 116 3=some 3∧fo mach.P 119 0=some 0∧fo mach.P 119 1=some 1∧fo mach.P 119 2=some 9∧fo mach.P 133 0=some 0∧fo mach.P 151 0=some 0∧fo mach.P 151 1=some 3:=by and_intros<;>kernel_rfl
@[go_sem] theorem tYTypes4:fo mach.P 204 0=some 0∧fo mach.P 204 1=some 1∧fo mach.P 222 0=some 0∧fo mach.P 222 1=some 1∧fo mach.P 222 2=some 2∧fo mach.P 251 0=some 0∧fo mach.P 251 1=some 3∧fo mach.P 268 0=some 0∧fo mach.P 268 1=some 1∧fo mach.P 311 0=some 0∧fo mach.P 311 1=some 3∧fpl mach.P 77 4=some (8,none)∧fpl mach.P 91 1=some (3,some 3)∧fpl mach.P 91 4=some (8,none)∧fpl mach.P 151 1=some (3,some 3)∧fpl mach.P 204 0=some (0,none)∧fpl mach.P 204 1=some (1,none)∧fpls mach.P 24=some [(0,none),(1,none),(2,none)]∧fpls mach.P 27=some [(0,none),(1,none),(2,some 3),(5,none),(6,none)]∧fpls mach.P 35=some [(0,some 3),(3,some 3),(6,none),(7,none)]∧fpls mach.P 53=some [(0,none),(1,some 8)]∧fpls mach.P 60=some [(0,none),(1,none),(2,none)]∧fpls mach.P 77=some [(0,some 3),(3,some 3),(6,none),(7,none),(8,none)]∧fpls mach.P 82=some [(0,none),(1,none),(2,none),(3,none)]∧fpls mach.P 89=some [(0,none),(1,none),(2,none)]∧fpls mach.P 91=some [(0,some 3),(3,some 3),(6,none),(7,none),(8,none)]∧fpls mach.P 105=some [(0,none),(1,some 3)]∧fpls mach.P 116=some [(0,none),(1,none),(2,none),(3,none)]∧fpls mach.P 119=some [(0,none),(1,some 8),(9,none)]∧fpls mach.P 133=some [(0,none)]∧fpls mach.P 151=some [(0,some 3),(3,some 3)]∧fpls mach.P 204=some [(0,none),(1,none)]∧fpls mach.P 222=some [(0,none),(1,none),(2,some 9)]∧fpls mach.P 251=some [(0,some 3),(3,none)]∧fpls mach.P 252=none∧fpls mach.P 268=some [(0,none),(1,some 3)]∧fpls mach.P 269=none∧fpls mach.P 311=some [(0,some 3),(3,some 3)]∧fpls mach.P 316=none∧mk1 mach.P 22=some ((.int .u32 0),4):=by and_intros<;>kernel_rfl
@[go_sem] theorem tYTypes5:mk1 mach.P 25=none∧mk1 mach.P 28=none∧mk1 mach.P 41=none∧mk1 mach.P 58=some ((.int .u32 0),4)∧mk1 mach.P 80=none∧mk1 mach.P 97=some ((.string ⟨#[]⟩),16)∧mk1 mach.P 298=some (.nilFunc,8)∧mk1 mach.P 317=none∧mkB mach.P 22=some ([(.int .u32 0)],none)∧mkB mach.P 25=some ([(.int .i64 0),(.int .i64 0),(.bool false),(.slice none 0 0),(.slice none 0 0),(.string ⟨#[]⟩),(.slice none 0 0)],some 7)∧mkB mach.P 28=some ([(.string ⟨#[]⟩),(.bool false),(.slice none 0 0),(.slice none 0 0),(.bool false),(.slice none 0 0),(.slice none 0 0),(.bool false),(.bool false)],some 9)∧mkB mach.P 41=some ([(.string ⟨#[]⟩),(.bool false),(.slice none 0 0),(.slice none 0 0)],some 4)∧mkB mach.P 58=some ([(.int .u32 0)],none)∧mkB mach.P 80=some ([(.bool false),(.slice none 0 0),(.slice none 0 0),(.bool false),(.slice none 0 0),(.slice none 0 0),(.bool false),(.bool false)],some 8)∧mkB mach.P 97=some ([(.string ⟨#[]⟩)],none)∧mkB mach.P 298=some ([.nilFunc],none)∧mkB mach.P 317=some ([(.bool false),(.slice none 0 0),(.slice none 0 0),(.bool false),(.slice none 0 0),(.slice none 0 0)],some 6)∧tk mach.P 3=some none∧tk mach.P 4=some none∧tk mach.P 5=some none∧tk mach.P 9=some none∧tk mach.P 22=some none∧tk mach.P 24=some (some 3)∧tk mach.P 25=some none∧tk mach.P 27=some (some 7)∧tk mach.P 28=some none∧tk mach.P 35=some (some 8)∧tk mach.P 36=some none∧tk mach.P 41=some none∧tk mach.P 45=some none∧tk mach.P 47=some (some 9)∧tk mach.P 53=some (some 9)∧tk mach.P 58=some none∧tk mach.P 60=some (some 3)∧tk mach.P 62=some none∧tk mach.P 77=some (some 9)∧tk mach.P 80=some none∧tk mach.P 82=some (some 4)∧tk mach.P 87=some none∧tk mach.P 89=some (some 3):=by and_intros<;>kernel_rfl
@[go_sem] theorem tYTypes6:tk mach.P 91=some (some 9)∧tk mach.P 97=some none∧tk mach.P 105=some (some 4)∧tk mach.P 133=some (some 1)∧tk mach.P 138=some none∧tk mach.P 151=some (some 6)∧tk mach.P 162=some none∧tk mach.P 176=some none∧tk mach.P 204=some (some 2)∧tk mach.P 222=some (some 11)∧tk mach.P 251=some (some 4)∧tk mach.P 252=some (some 8)∧tk mach.P 268=some (some 4)∧tk mach.P 269=some (some 8)∧tk mach.P 290=some none∧tk mach.P 297=some none∧tk mach.P 311=some (some 6)∧tk mach.P 316=some (some 6)∧uk mach.P 2=.int .i64∧uk mach.P 3=.int .i64∧uk mach.P 4=.bool∧uk mach.P 5=.int .u8∧uk mach.P 9=.string∧uk mach.P 20=.iface∧uk mach.P 22=.slice∧uk mach.P 24=.struct∧uk mach.P 25=.slice∧uk mach.P 27=.struct∧uk mach.P 28=.slice∧uk mach.P 35=.struct∧uk mach.P 36=.int .i64∧uk mach.P 41=.slice∧uk mach.P 45=.slice∧uk mach.P 53=.struct∧uk mach.P 58=.slice∧uk mach.P 60=.struct∧uk mach.P 62=.int .u32∧uk mach.P 77=.struct∧uk mach.P 80=.slice∧uk mach.P 82=.struct:=by and_intros<;>kernel_rfl
@[go_sem] theorem tYTypes7:uk mach.P 87=.slice∧uk mach.P 89=.struct∧uk mach.P 91=.struct∧uk mach.P 96=.int .u64∧uk mach.P 97=.slice∧uk mach.P 105=.struct∧uk mach.P 116=.struct∧uk mach.P 119=.struct∧uk mach.P 133=.struct∧uk mach.P 151=.struct∧uk mach.P 197=.int .u64∧uk mach.P 204=.struct∧uk mach.P 222=.struct∧uk mach.P 251=.struct∧uk mach.P 252=.array 2∧uk mach.P 268=.struct∧uk mach.P 269=.array 2∧uk mach.P 274=.int .i64∧uk mach.P 289=.array 32∧uk mach.P 290=.int .u64∧uk mach.P 298=.slice∧uk mach.P 311=.struct∧uk mach.P 316=.array 2∧uk mach.P 317=.slice∧zer mach.P 3=some [(.int .i64 0)]∧zer mach.P 4=some [(.bool false)]∧zer mach.P 24=some [(.bool false),(.slice none 0 0),(.slice none 0 0)]∧zer mach.P 27=some [(.int .i64 0),(.int .i64 0),(.bool false),(.slice none 0 0),(.slice none 0 0),(.string ⟨#[]⟩),(.slice none 0 0)]∧zer mach.P 35=some [(.bool false),(.slice none 0 0),(.slice none 0 0),(.bool false),(.slice none 0 0),(.slice none 0 0),(.bool false),(.bool false)]∧zer mach.P 36=some [(.int .i64 0)]∧zer mach.P 41=some [(.slice none 0 0)]∧zer mach.P 53=some [(.string ⟨#[]⟩),(.bool false),(.slice none 0 0),(.slice none 0 0),(.bool false),(.slice none 0 0),(.slice none 0 0),(.bool false),(.bool false)]∧zer mach.P 60=some [(.bool false),(.slice none 0 0),(.slice none 0 0)]∧zer mach.P 77=some [(.bool false),(.slice none 0 0),(.slice none 0 0),(.bool false),(.slice none 0 0),(.slice none 0 0),(.bool false),(.bool false),(.bool false)]∧zer mach.P 80=some [(.slice none 0 0)]∧zer mach.P 82=some [(.slice none 0 0),(.int .i64 0),(.slice none 0 0),(.slice none 0 0)]∧zer mach.P 89=some [(.bool false),(.slice none 0 0),(.slice none 0 0)]∧zer mach.P 91=some [(.bool false),(.slice none 0 0),(.slice none 0 0),(.bool false),(.slice none 0 0),(.slice none 0 0),(.bool false),(.bool false),(.bool false)]∧zer mach.P 105=some [(.string ⟨#[]⟩),(.bool false),(.slice none 0 0),(.slice none 0 0)]∧zer mach.P 116=some [(.slice none 0 0),(.slice none 0 0),(.slice none 0 0),(.int .i64 0)]:=by and_intros<;>kernel_rfl
@[go_sem] theorem tYTypes8:zer mach.P 119=some [(.int .i64 0),(.bool false),(.slice none 0 0),(.slice none 0 0),(.bool false),(.slice none 0 0),(.slice none 0 0),(.bool false),(.bool false),(.int .i64 0)]∧zer mach.P 133=some [(.int .i64 0)]∧zer mach.P 151=some [(.bool false),(.slice none 0 0),(.slice none 0 0),(.bool false),(.slice none 0 0),(.slice none 0 0)]∧zer mach.P 204=some [(.slice none 0 0),(.slice none 0 0)]∧zer mach.P 222=some [(.int .i64 0),(.int .i64 0),(.bool false),(.slice none 0 0),(.slice none 0 0),(.bool false),(.slice none 0 0),(.slice none 0 0),(.bool false),(.bool false),(.bool false)]∧zer mach.P 251=some [(.bool false),(.slice none 0 0),(.slice none 0 0),(.int .i64 0)]∧zer mach.P 252=some [(.bool false),(.slice none 0 0),(.slice none 0 0),(.int .i64 0),(.bool false),(.slice none 0 0),(.slice none 0 0),(.int .i64 0)]∧zer mach.P 268=some [(.int .i64 0),(.bool false),(.slice none 0 0),(.slice none 0 0)]∧zer mach.P 269=some [(.int .i64 0),(.bool false),(.slice none 0 0),(.slice none 0 0),(.int .i64 0),(.bool false),(.slice none 0 0),(.slice none 0 0)]∧zer mach.P 290=some [(.int .u64 0)]∧zer mach.P 311=some [(.bool false),(.slice none 0 0),(.slice none 0 0),(.bool false),(.slice none 0 0),(.slice none 0 0)]∧zer mach.P 316=some [(.bool false),(.slice none 0 0),(.slice none 0 0),(.bool false),(.slice none 0 0),(.slice none 0 0)]:=by and_intros<;>kernel_rfl
theorem mlr {a b c:Rat} (h:a≤b) (k:0≤c):a*c≤b*c:=Rat.mul_le_mul_of_nonneg_right h k
theorem mll {a b c:Rat} (h:a≤b) (k:0≤c):c*a≤c*b:=Rat.mul_le_mul_of_nonneg_left h k
theorem lmm {a b c:Rat} (h:a*c≤b*c) (k:0 < c):a≤b:=Rat.le_of_mul_le_mul_right h k
theorem llt {a b:Rat} (h:a < b):a≤b:=Rat.le_of_lt h
def W (B n:Nat):List Nat:=if h:n=0∨B≤1 then [] else n % B :: W B (n / B)
termination_by n
decreasing_by exact Nat.div_lt_self (by omega) (by omega)
def val (B:Nat):List Nat→Nat
 |[]=>0
 |x :: xs=>x+B*val B xs
theorem ff (B:Nat):W B 0=[]:=by unfold W;simp
theorem W_pos {B n:Nat} (hB:2≤B) (hn:n≠0):W B n=n % B :: W B (n / B):=by
 rw[W];rw[dif_neg (by omega)]
theorem val_W {B:Nat} (hB:2≤B) (n:Nat):val B (W B n)=n:=by
 induction n using Nat.strongRecOn with
 | _ n ih=>
  by_cases hn:n=0
  ·subst hn;rw[ff];rfl
  ·rw[W_pos hB hn,val,ih _ (Nat.div_lt_self (by omega) (by omega))]
   exact Nat.mod_add_div n B
theorem W_lt {B:Nat} (hB:2≤B) (n:Nat):∀x∈W B n,x < B:=by
 induction n using Nat.strongRecOn with
 | _ n ih=>
  by_cases hn:n=0
  ·subst hn;rw[ff];intro x hx;cases hx
  ·rw[W_pos hB hn]
   intro x hx
   rcases List.mem_cons.1 hx with rfl |hx
   ·exact qBl _ (by omega)
   ·exact ih _ (Nat.div_lt_self (by omega) (by omega)) x hx
theorem W_val {B:Nat} (hB:2≤B):∀(xs:List Nat),(∀x∈xs,x < B)→xs.getLast?≠some 0→W B (val B xs)=xs:=by
 intro xs
 induction xs with
 |nil=>intro _ _;exact ff B
 | cons x xs ih=>
  intro hlt hlast
  have hx:=hlt x (qAt ..)
  have ih':=ih (fun y hy=>hlt y (List.mem_cons_of_mem _ hy)) (by
   cases xs with
   |nil=>simp
   |cons y ys=>simpa[List.getLast?_cons_cons] using hlast)
  have hne:val B (x :: xs)≠0:=by
   simp only[val]
   intro h
   have hx0:x=0:=by omega
   have hv0:val B xs=0:=by
    rcases Nat.eq_zero_or_pos (val B xs) with h |h
    ·exact h
    ·have:=Nat.mul_pos (show 0 < B by omega) h;omega
   rw[hv0,ff] at ih'
   subst hx0
   rw[←ih'] at hlast
   simp at hlast
  rw[W_pos hB hne]
  have h1:val B (x :: xs) % B=x:=by simp only[val];rw[Nat.add_mul_mod_self_left];exact qBi hx
  have h2:val B (x :: xs) / B=val B xs:=by
   simp only[val]
   rw[Nat.add_mul_div_left _ _ (by omega),Nat.div_eq_of_lt hx,Nat.zero_add]
  rw[h1,h2,ih']
theorem dD (B:Nat):∀(xs ys:List Nat),val B (xs ++ys)=val B xs+B^xs.length*val B ys:=by
 intro xs ys
 induction xs with
 |nil=>simp[val]
 | cons x xs ih=>
  simp only[List.cons_append,val,ih,List.length_cons,qAn]
  rw[qAm,ρ (B^xs.length) B,σ,Nat.add_assoc]
theorem mO (B k:Nat):val B (List.replicate k 0)=0:=by
 induction k with
 |zero=>rfl
 |succ k ih=>simp[List.replicate_succ,val,ih]
theorem iU {B:Nat} (hB:1≤B):∀(xs:List Nat),(∀x∈xs,x < B)→val B xs < B^xs.length:=by
 intro xs
 induction xs with
 |nil=>intro _;simp[val]
 | cons x xs ih=>
  intro hlt
  have hx:=hlt x (qAt ..)
  have h1:=ih (fun y hy=>hlt y (List.mem_cons_of_mem _ hy))
  simp only[val,List.length_cons,qAn]
  have:B*val B xs+B≤B^xs.length*B:=by
   have:=ω B (show val B xs+1≤B^xs.length by omega)
   rw[qAm,qAz] at this
   rw[ρ (B^xs.length) B]
   exact this
  omega
theorem cV {B:Nat} (hB:2≤B) {n k:Nat} (h:n < B^k):(W B n).length≤k:=by
  induction k generalizing n with
  | zero => have:n=0:=by simpa using h
            subst this;rw[ff];simp
  | succ k ih=>
    by_cases hn:n=0
    · subst hn;rw[ff];simp
    · rw[W_pos hB hn]
      have:n / B < B^k:=by rw[Nat.div_lt_iff_lt_mul (by omega)];rw[←qAn];exact h
      have:=ih this
      simp;omega
theorem cW {B:Nat} (hB:2≤B) (n:Nat):n < B^(W B n).length:=by
 have:=iU (show 1≤B by omega) (W B n) (W_lt hB n)
 rwa[val_W hB] at this
theorem vD {B:Nat} (hB:2≤B) {n k:Nat} (h:B^k≤n):k < (W B n).length:=by
 rcases qBj k (W B n).length with h' |h'
 ·exact h'
 ·exfalso
  have h1:=cW hB n
  have h2:=qAv (show 0 < B by omega) h'
  omega
structure Arr (h:PH) (a:Option Addr) (c:Nat) (xs:List Nat):Prop where
 cap:xs.length≤c
 small:xs.length≤2^46
 lt:∀x∈xs,x < 4294967296
 at_:∀(i:Nat) (x:Nat),xs[i]?=some x→∃ad,a=some ad∧h.at (ad.add i)=some (.int .u32 x)
theorem Arr.to {h h':PH} {a:Option Addr} {c:Nat} {xs:List Nat} (r:Arr h a c xs) [l:Le h h']:Arr h' a c xs:=
 ⟨r.cap,r.small,r.lt,fun i x hx=>let ⟨ad,h1,h2⟩:=r.at_ i x hx;⟨ad,h1,l.sub.at h2⟩⟩
theorem Arr.take {h:PH} {a:Option Addr} {c:Nat} {xs:List Nat} (r:Arr h a c xs) (k:Nat):Arr h a c (xs.take k):=
 ⟨by have:=r.cap;simp;omega,by have:=r.small;simp;omega,fun x hx=>r.lt x (List.mem_of_mem_take hx),fun i x hx=>r.at_ i x (by
  rw[List.getElem?_take] at hx
  split at hx
  ·exact hx
  ·cases hx)⟩
theorem Arr.get {h:PH} {a:Option Addr} {c:Nat} {xs:List Nat} (r:Arr h a c xs) {i:Nat} (hi:i < xs.length):∃ad,a=some ad∧h.at (ad.add i)=some (.int .u32 (xs.getD i 0)):=by
 refine r.at_ i _ ?_
 simp[hi]
theorem Arr.nil (h:PH):Arr h none 0 []:=⟨by simp,by simp,by simp,by simp⟩
def N32 (h:PH) (v:Value) (n:Nat):Prop:=∃a c,v=.slice a (W 4294967296 n).length c∧Arr h a c (W 4294967296 n)
theorem N32.to {h h':PH} {v:Value} {n:Nat} (r:N32 h v n) [Le h h']:N32 h' v n:=let ⟨a,c,h1,h2⟩:=r;⟨a,c,h1,h2.to⟩
theorem N32.zero (h:PH):N32 h (.slice none 0 0) 0:=⟨none,0,by rw[ff];rfl,by rw[ff];exact Arr.nil h⟩
@[go_sem] theorem wi64 {x:Int} (h0: -9223372036854775808≤x) (h1:x≤9223372036854775807):IntKind.i64.wrap x=x:=by
 rw[IntKind.wrap_i64]
 omega
@[go_sem] theorem wu64 {x:Int} (h0:0≤x) (h1:x≤18446744073709551615):IntKind.u64.wrap x=x:=by
 rw[IntKind.wrap_u64]
 omega
@[go_sem] theorem wu32 {x:Int} (h0:0≤x) (h1:x≤4294967295):IntKind.u32.wrap x=x:=by
 rw[IntKind.wrap_u32]
 omega
@[go_sem] theorem wu8 {x:Int} (h0:0≤x) (h1:x≤255):IntKind.u8.wrap x=x:=by
 rw[IntKind.wrap_u8]
 omega
@[go_sem low] theorem wu32m (n:Nat):IntKind.u32.wrap (n:Int)=((n % 4294967296:Nat):Int):=by
 rw[IntKind.wrap_u32]
 omega
@[go_sem low] theorem wu64m (n:Nat):IntKind.u64.wrap (n:Int)=((n % 18446744073709551616:Nat):Int):=by
 rw[IntKind.wrap_u64]
 omega
@[go_sem low] theorem wu8m (n:Nat):IntKind.u8.wrap (n:Int)=((n % 256:Nat):Int):=by
 rw[IntKind.wrap_u8]
 omega
@[go_sem] theorem nc_add (a b:Nat):((a:Int)+(b:Int))=((a+b:Nat):Int):=by omega
@[go_sem] theorem nc0:((0:Nat):Int)=0:=rfl
@[go_sem] theorem nc1:((1:Nat):Int)=1:=rfl
@[go_sem] theorem nc_add1 (a:Nat):((a:Int)+1)=((a+1:Nat):Int):=by omega
@[go_sem] theorem nc_mul (a b:Nat):((a:Int)*(b:Int))=((a*b:Nat):Int):=by simp
@[go_sem] theorem nc_sub1 {a:Nat} (h:1≤a):((a:Int) - 1)=((a - 1:Nat):Int):=by omega
@[go_sem] theorem nc_sub {a b:Nat} (h:b≤a):((a:Int) - (b:Int))=((a - b:Nat):Int):=by omega
theorem fdivp (s x:Nat):(s:Int).fdiv (2^x)=((s / 2^x:Nat):Int):=by
 rw[Int.fdiv_eq_ediv_of_nonneg _ (Int.le_of_lt (Int.pow_pos (by omega)))]
 simp
@[go_sem] theorem fdiv32 (s:Nat):(s:Int).fdiv (2^min (Int.toNat 32) 64)=((s / 4294967296:Nat):Int):=fdivp s 32
@[go_sem] theorem fdiv16 (s:Nat):(s:Int).fdiv (2^min (Int.toNat 16) 32)=((s / 65536:Nat):Int):=fdivp s 16
@[go_sem] theorem fdiv8 (s:Nat):(s:Int).fdiv (2^min (Int.toNat 8) 32)=((s / 256:Nat):Int):=fdivp s 8
@[go_sem] theorem fdiv27 (s:Nat):(s:Int).fdiv (2^min (Int.toNat 27) 32)=((s / 134217728:Nat):Int):=fdivp s 27
@[go_sem] theorem fdiv63 (s:Nat):(s:Int).fdiv (2^min (Int.toNat 63) 64)=((s / 9223372036854775808:Nat):Int):=fdivp s 63
@[go_sem low] theorem fdivn (s:Nat) {x w:Nat} (h:x≤w):(s:Int).fdiv (2^min x w)=((s / 2^x:Nat):Int):=by rw[Nat.min_eq_left h,fdivp]
@[go_sem] theorem rep2 {α:Type} (x:α):List.replicate 2 x=[x,x]:=rfl
@[go_sem] theorem tmod_nat (a b:Nat):(a:Int).tmod (b:Int)=((a % b:Nat):Int):=rfl
@[go_sem] theorem tdiv_nat (a b:Nat):(a:Int).tdiv (b:Int)=((a / b:Nat):Int):=rfl
@[go_sem low] theorem nc_addO (a b:Nat):(a:Int)+(no_index (@OfNat.ofNat Int b instOfNat))=((a+@OfNat.ofNat Nat b (instOfNatNat b):Nat):Int):=rfl
@[go_sem low] theorem nc_Oadd (a b:Nat):(no_index (@OfNat.ofNat Int b instOfNat))+(a:Int)=((@OfNat.ofNat Nat b (instOfNatNat b)+a:Nat):Int):=rfl
@[go_sem low] theorem nc_mulO (a b:Nat):(a:Int)*(no_index (@OfNat.ofNat Int b instOfNat))=((a*@OfNat.ofNat Nat b (instOfNatNat b):Nat):Int):=rfl
@[go_sem low] theorem nc_Omul (a b:Nat):(no_index (@OfNat.ofNat Int b instOfNat))*(a:Int)=((@OfNat.ofNat Nat b (instOfNatNat b)*a:Nat):Int):=rfl
@[go_sem low] theorem tdivO (a b:Nat):(a:Int).tdiv (no_index (@OfNat.ofNat Int b instOfNat))=((a / @OfNat.ofNat Nat b (instOfNatNat b):Nat):Int):=rfl
@[go_sem low] theorem tmodO (a b:Nat):(a:Int).tmod (no_index (@OfNat.ofNat Int b instOfNat))=((a % @OfNat.ofNat Nat b (instOfNatNat b):Nat):Int):=rfl
@[go_sem low] theorem nc_subO {a b:Nat} (h: @OfNat.ofNat Nat b (instOfNatNat b)≤a):(a:Int) - (no_index (@OfNat.ofNat Int b instOfNat))=((a - @OfNat.ofNat Nat b (instOfNatNat b):Nat):Int):=by
 have:(@OfNat.ofNat Int b instOfNat)=((@OfNat.ofNat Nat b (instOfNatNat b):Nat):Int):=rfl
 rw[this];omega
@[go_sem] theorem shl32 (x:Nat):(x:Int)*2^(min (Int.toNat 32) 64)=((x*4294967296:Nat):Int):=rfl
@[go_sem low] theorem shln {x r w:Nat} (h:r≤w):(x:Int)*2^(min r w)=((x*2^r:Nat):Int):=by rw[Nat.min_eq_left h];simp
theorem fz (w n:Nat) (h:n < 2^w):(BitVec.ofInt w (n:Int)).toNat=n:=by
 rw[BitVec.toNat_ofInt,←Int.natCast_emod,Int.toNat_natCast,qBi h]
@[go_sem] theorem andI_u32 {a b:Nat} (ha:a < 4294967296) (hb:b < 4294967296):andI .u32 a b=((a &&& b:Nat):Int):=by
 unfold andI
 rw[BitVec.toNat_and]
 rw[show IntKind.u32.bits=32 from rfl,fz 32 a ha,fz 32 b hb,wu32m,qBi (Nat.and_lt_two_pow (n:=32) _ hb)]
@[go_sem] theorem andI_u64 {a b:Nat} (ha:a < 18446744073709551616) (hb:b < 18446744073709551616):andI .u64 a b=((a &&& b:Nat):Int):=by
 unfold andI
 rw[BitVec.toNat_and]
 rw[show IntKind.u64.bits=64 from rfl,fz 64 a ha,fz 64 b hb,wu64m,qBi (Nat.and_lt_two_pow (n:=64) _ hb)]
@[go_sem] theorem orI_u32 {a b:Nat} (ha:a < 4294967296) (hb:b < 4294967296):orI .u32 a b=((a ||| b:Nat):Int):=by
 unfold orI
 rw[BitVec.toNat_or]
 rw[show IntKind.u32.bits=32 from rfl,fz 32 a ha,fz 32 b hb,wu32m,qBi (Nat.or_lt_two_pow (n:=32) ha hb)]
@[go_sem] theorem orI_u64 {a b:Nat} (ha:a < 18446744073709551616) (hb:b < 18446744073709551616):orI .u64 a b=((a ||| b:Nat):Int):=by
 unfold orI
 rw[BitVec.toNat_or]
 rw[show IntKind.u64.bits=64 from rfl,fz 64 a ha,fz 64 b hb,wu64m,qBi (Nat.or_lt_two_pow (n:=64) ha hb)]
theorem dT {p:Prop} [Decidable p] (h:p):decide p=true:=decide_eq_true h
theorem dF {p:Prop} [Decidable p] (h:¬p):decide p=false:=decide_eq_false h
theorem eT {x y:Int} (h:x=y):(x == y)=true:=by simp[h]
theorem eF {x y:Int} (h:x≠y):(x == y)=false:=by simp[h]
theorem nT {x y:Int} (h:x≠y):(x != y)=true:=by simp[h]
theorem nF {x y:Int} (h:x=y):(x != y)=false:=by simp[h]
theorem aT {p q:Prop} (h:p):(p∧q)=q:=by simp[h]
attribute [go_sem] dT dF eT eF nT nF aT Int.toNat_natCast
def notReg:Code→Bool
 |.region ..=>false
 |_=>true
def gl1 (S:AS):Option (Nat×Bool)→AV
 |none=>.v (.bool true)
 |some (t,_)=>lk S.sl t
def gr1:Option (Nat×Bool)→AV
 |none=>.v (.bool true)
 |some (_,w)=>.v (.bool w)
@[go_sem] def gq:Bool→Option (Nat×Bool)→Bool
 |_,none=>true
 |true,some (_,true)=>true
 |true,some (_,false)=>false
 |false,some (_,true)=>false
 |false,some (_,false)=>true
@[go_sem] def stepG:Bool→Mach→(List PanicEntry→PH→Prop)→GOp→(AS→PH→Prop)→AS→PH→Prop
 |true,M,E,g,k,S,h=>step1 M E g k S h
 |false,_,_,g,k,S,h=>k (S.put g.dst (.v undef)) h
section
variable {M:Mach} {C:Ctx} {n:Nat} {E:List PanicEntry→PH→Prop} {d:Option Nat} {op:Op} {l:List GX} {K:AS→PH→Prop} {S:AS} {h:PH} {id:Nat} {ops:Array Oper} {c y:Code} {Q:Exit→AS→PH→Prop} {gd:Option (Nat×Bool)}
theorem wo {b:Bool} (hg:gl1 S gd=.v (.bool b)) (hk:∀k:AS→PH→Prop,(∀S h,walk M E l K S h→k S h)→stepG (gq b gd) M E ⟨d,op,none⟩ k S h):walk M E (.o ⟨d,op,gd⟩ :: l) K S h:=by
 cases gd with
 |none=>exact wk hk
 | some g=>
  obtain⟨t,want⟩:=g
  cases b<;>cases want
  ·exact wkT hg hk
  ·exact wkG hg hk
  ·exact wkG hg hk
  ·exact wkT hg hk
theorem wc (hg:gl1 S gd=gr1 gd) (hk:∀k:AS→PH→Prop,(∀S h,walk M E l K S h→k S h)→step1 M E ⟨d,op,none⟩ k S h):walk M E (.o ⟨d,op,gd⟩ :: l) K S h:=by
 cases gd with
 |none=>exact wk hk
 | some g=>
  obtain⟨t,want⟩:=g
  exact wkT hg hk
theorem cN {f:FuncId} {fo:Operand} {xs:Array Operand} {ts:Array TypeId} {first cap:Array Value} {vs:List Value} {R:Value→PH→Prop} (hc:(cls (.call {callee:=.value fo,args:=xs,argTypes:=ts}) == 0)=false) (hg:gl1 S gd=gr1 gd) (hf:S.ev fo=.v (.func (.func f) first cap)) (hv:vals (xs.toList.map S.ev)=some vs)
  (s:Spec M f (first.toList ++vs ++cap.toList).toArray h R NP) (hn:∀v h',Step h h'→R v h'→walk M E l K (S.put d (.v v)) h'):walk M E (.o ⟨d,.call {callee:=.value fo,args:=xs,argTypes:=ts},gd⟩ :: l) K S h:=wc hg fun k hk=>by
 simp only[step1,hc,cond_false,imA,hf,hv]
 exact call_np s fun v h' hs hr=>hk _ _ (hn v h' hs hr)
theorem cF {f:FuncId} {fo:Operand} {xs:Array Operand} {ts:Array TypeId} {first cap:Array Value} {vs:List Value} {E':List PanicEntry→PH→Prop} (hc:(cls (.call {callee:=.value fo,args:=xs,argTypes:=ts}) == 0)=false) (hg:gl1 S gd=gr1 gd) (hf:S.ev fo=.v (.func (.func f) first cap)) (hv:vals (xs.toList.map S.ev)=some vs)
  (s:Spec M f (first.toList ++vs ++cap.toList).toArray h (fun _ _=>False) E') (hE:∀ch h',E' ch h'→E ch h'):walk M E (.o ⟨d,.call {callee:=.value fo,args:=xs,argTypes:=ts},gd⟩ :: l) K S h:=wc hg fun k hk=>by
 simp only[step1,hc,cond_false,imA,hf,hv]
 exact .inl ⟨_,_,s,fun _ _ _ h=>h.elim,fun ch h' _ he=>hE ch h' he⟩
theorem ah {x:Code} (hr:notReg x=true) (hx:∀K:AS→PH→Prop,(∀S h,AWP M n C y Q E S h→K S h)→AWP M n C x (qs K Q) E S h):AWP M n C (.seq x y) Q E S h:=pC hx
def into (M:Mach) (n:Nat) (C:Ctx) (Q:Exit→AS→PH→Prop) (E:List PanicEntry→PH→Prop) (S:AS) (h:PH):Code→Option Prop
 |.block id x=>some (AWP M n C x (qb id Q) E S h)
 | .cond o x y=>match S.ev o with
  |.v (.bool true)=>some (AWP M n C x Q E S h)
  |.v (.bool false)=>some (AWP M n C y Q E S h)
  |_=>none
 |_=>none
theorem ct {P:Prop} (hi:into M n C Q E S h c=some P) (hp:P):AWP M n C c Q E S h:=by
 unfold into at hi
 split at hi
 ·cases hi;exact ue hp
 ·split at hi
  ·rename_i hx;cases hi;exact mE hx hp
  ·rename_i hx;cases hi;exact je hx hp
  ·cases hi
 ·cases hi
def ag (M:Mach) (n:Nat) (C:Ctx) (Q:Exit→AS→PH→Prop) (E:List PanicEntry→PH→Prop):Option Code→AS→PH→Prop
 |none=>Q .normal
 |some y=>fun S h=>AWP M n C y Q E S h
def front:Code→Option (Array Oper×Bool×Option Code)
 |.region _ ops d=>some (ops,d,none)
 |.seq (.region _ ops d) y=>some (ops,d,some y)
 |_=>none
theorem rg {z:Option Code} (hc:front c=some (ops,false,z)) (hl:prep n ops (plain ops.size)=some l) (hw:∀K:AS→PH→Prop,(∀S h,ag M n C Q E z S h→K S h)→walk M E l K S h):AWP M n C c Q E S h:=by
 unfold front at hc
 split at hc
 ·cases hc;exact ug hl (hw _ fun _ _ h=>h)
 ·cases hc;exact uf hl hw
 ·cases hc
theorem rd {z:Option Code} (pl:List PL) (hc:front c=some (ops,true,z)) (ho:fi ops (order pl)=true) (hl:prep n ops pl=some l) (hw:∀K:AS→PH→Prop,(∀S h,ag M n C Q E z S h→K S h)→walk M E l K S h):AWP M n C c Q E S h:=by
 unfold front at hc
 split at hc
 ·cases hc;exact AWP_dk pl ho hl (hw _ fun _ _ h=>h)
 ·cases hc;exact Ej pl ho hl hw
 ·cases hc
end
theorem rsl_id (a:Option Addr) (c e:Nat):(if c=0 then a else a.map fun x=>x.add (0*e))=a:=by
 split
 ·rfl
 ·cases a<;>simp[Addr.add]
attribute [go_sem] rsl_id Int.toNat_zero qAz Nat.add_sub_cancel
theorem uq {B:Nat} (hB:2≤B):∀(k:Nat) (xs:List Nat),k≤xs.length→(∀x∈xs,x < B)→val B (xs.take k)=val B xs→(k=0∨xs.getD (k - 1) 0≠0)→W B (val B xs)=xs.take k:=by
 intro k xs hk hlt hv hlast
 rw[←hv]
 refine W_val hB _ (fun x hx=>hlt x (List.mem_of_mem_take hx)) ?_
 rcases hlast with rfl |hlast
 ·simp
 ·intro h
  by_cases h0:k=0
  ·subst h0;simp at h
  ·rw[List.getLast?_eq_getElem?,List.getElem?_take] at h
   have hl:(xs.take k).length=k:=by simp;omega
   rw[hl,if_pos (by omega)] at h
   rw[qAy,h] at hlast
   exact hlast rfl
theorem nZ {B:Nat} {xs:List Nat} {k:Nat} (hk:k < xs.length) (h0:xs.getD k 0=0):val B (xs.take k)=val B (xs.take (k+1)):=by
 rw[List.take_succ_eq_append_getElem hk,dD]
 have:xs[k]=0:=by simpa[hk] using h0
 simp[this,val]
theorem xx {B:Nat} (hB:2≤B) (xs:List Nat) (hlt:∀x∈xs,x < B):∃k,k≤xs.length∧W B (val B xs)=xs.take k:=by
 have key:∀(k:Nat),k≤xs.length→val B (xs.take k)=val B xs→∃k,k≤xs.length∧W B (val B xs)=xs.take k:=by
  intro k
  induction k with
  |zero=>intro hk hv;exact⟨0,hk,uq hB 0 xs hk hlt hv (.inl rfl)⟩
  | succ k ih=>
   intro hk hv
   by_cases h:xs.getD k 0=0
   ·exact ih (by omega) (by rw[nZ (by omega) h];exact hv)
   ·exact⟨k+1,hk,uq hB (k+1) xs hk hlt hv (.inr h)⟩
 exact key xs.length (η _) (by simp)
theorem Arr.W {h:PH} {a:Option Addr} {c:Nat} {xs:List Nat} (r:Arr h a c xs):Arr h a c (W 4294967296 (val 4294967296 xs)):=by
 obtain⟨k,_,hk⟩:=xx (B:=4294967296) (by decide) xs r.lt
 rw[hk];exact r.take k
def uw (xs:List Nat):List Value:=xs.map fun(x:Nat)=>Value.int .u32 x
@[go_sem] theorem uw_length (xs:List Nat):(uw xs).length=xs.length:=by simp[uw]
theorem rj (xs ys:List Nat):uw (xs ++ys)=uw xs ++uw ys:=by simp[uw]
theorem yL {xs:List Nat} {i:Nat} (h:i < xs.length):(uw xs)[i]?=some (.int .u32 (xs.getD i 0:Nat)):=by simp[uw,h]
theorem F9 (xs:List Nat) (i y:Nat):(uw xs).set i (.int .u32 (y:Nat))=uw (xs.set i y):=by simp[uw,List.map_set]
theorem uw_zeros (k:Nat):List.replicate k (Value.int .u32 0)=uw (List.replicate k 0):=by simp[uw]
theorem uw_one (xs:List Nat):(uw xs).all Value.oneCell'=true:=by
 rw[qBd]
 intro v hv
 obtain⟨x,_,rfl⟩:=List.mem_map.1 hv
 rfl
theorem Arr.of_block {h:PH} {b:Nat} {cs:List Value} {xs:List Nat} {c:Nat} (hb:cs≠[]→h b=some cs.toArray) (hx:∀(i:Nat) (x:Nat),xs[i]?=some x→cs[i]?=some (.int .u32 x)) (hlt:∀x∈xs,x < 4294967296) (hs:xs.length≤2^46) (hc:xs.length≤c):
  Arr h (some ⟨b,0,none⟩) c xs:=⟨hc,hs,hlt,fun i x hi=>⟨_,rfl,by
 have h1:=hx i x hi
 have hne:cs≠[]:=by intro e;rw[e] at h1;cases h1
 simp[PH.at,gF,hb hne,h1]⟩⟩
theorem Arr.of_row {h:PH} {b:Nat} {xs:List Nat} {c:Nat} (hb:uw xs≠[]→h b=some (uw xs).toArray) (hlt:∀x∈xs,x < 4294967296) (hs:xs.length≤2^46) (hc:xs.length≤c):Arr h (some ⟨b,0,none⟩) c xs:=
 .of_block hb (fun i x hi=>by simp[uw,hi]) hlt hs hc
theorem aq (B:Nat) (xs:List Nat) (k:Nat):val B (xs.take (k+1))=val B (xs.take k)+B^k*xs.getD k 0:=by
 by_cases hk:k < xs.length
 ·rw[List.take_succ_eq_append_getElem hk,dD]
  have h1:xs.getD k 0=xs[k]:=by simp[hk]
  rw[h1]
  simp[val,Nat.min_eq_left (Nat.le_of_lt hk)]
 ·rw[qAr (by omega),qAr (by omega)]
  have:xs.getD k 0=0:=by simp[qAy,List.getElem?_eq_none (by omega:xs.length≤k)]
  rw[this];simp
theorem aM {B:Nat} (hB:0 < B) {xs:List Nat} (h:∀x∈xs,x < B) (i:Nat):xs.getD i 0 < B:=by
 by_cases hi:i < xs.length
 ·simp only[qAy,List.getElem?_eq_getElem hi,Option.getD_some];exact h _ (List.getElem_mem hi)
 ·simp[qAy,List.getElem?_eq_none (by omega:xs.length≤i),hB]
open Go.RowKit (Below)
inductive IT where
 |done
 |seg (l:List PL) (t:IT)
 |alt (i:Nat) (t u:IT)
 |no
def withN (K:Act→World→Prop) (Q:Exit→Act→World→Prop):Exit→Act→World→Prop
 |.normal=>K
 |e=>Q e
section
variable (P:Program) (ops:Array Oper) (Q:Exit→Act→World→Prop)
def RT:IT→Act→World→Prop
 |.done,a,w=>Q .normal a w
 |.seg l t,a,w=>RWc P ops (withN (RT t) Q) (order l) a w
 |.alt i t u,a,w=>RWc P ops (withN (RT t) Q) [i] a w∧RT u a w
 |.no,_,_=>True
end
def heads:IT→List Nat
 |.alt i _ u=>i :: heads u
 |_=>[]
def Fs (m:List Nat) (y x:Nat):Bool:=(m.getD y 0).testBit x
def rdOk (ops:Array Oper) (m:List Nat) (x:Nat) (rem:List Nat):Bool:=match ops[x]? with
 |some ox=>cls ox.op == 0 && rem.all fun y=>me ops m x y
 |none=>false
def chkL (ops:Array Oper) (m:List Nat):List Nat→List Nat→Option (List Nat)
 |[],rem=>some rem
 |x :: l,rem=>bif rem.contains x && rdOk ops m x (rem.erase x) then chkL ops m l (rem.erase x) else none
def chkB (ops:Array Oper) (m:List Nat):IT→Bool→List Nat→Bool
 |.done,top,rem=>top && rem.isEmpty
 | .seg l t,top,rem=>top && match chkL ops m (order l) rem with
  |some rem'=>chkB ops m t true rem'
  |none=>false
 | .alt i t u,top,rem=>(rem.contains i && (match ops[i]? with |some o=>cls o.op != 0 |none=>false) && (rem.erase i).all (fun y=>!bE ops i y) && chkB ops m t true (rem.erase i) && chkB ops m u false rem) &&
  (!top || rem.all fun y=>(heads (.alt i t u)).contains y || rem.any fun j=>Fs m y j)
 |.no,top,_=>!top
def chk (ops:Array Oper) (m:List Nat) (t:IT) (rem:List Nat):Bool:=chkB ops m t true rem
def chkA (ops:Array Oper) (m:List Nat) (t:IT) (rem:List Nat):Bool:=chkB ops m t false rem
theorem chk_seg {ops:Array Oper} {m:List Nat} {l:List PL} {t:IT} {rem:List Nat}:chk ops m (.seg l t) rem=(match chkL ops m (order l) rem with |some rem'=>chk ops m t rem' |none=>false):=by simp[chk,chkB]
theorem AH {ops:Array Oper} {m:List Nat} {i:Nat} {t u:IT} {rem:List Nat}:chk ops m (.alt i t u) rem=(chkA ops m (.alt i t u) rem && rem.all fun y=>(heads (.alt i t u)).contains y || rem.any fun j=>Fs m y j):=by simp[chk,chkA,chkB]
theorem sV {ops:Array Oper} {m:List Nat} {i:Nat} {t u:IT} {rem:List Nat}:chkA ops m (.alt i t u) rem=(rem.contains i && (match ops[i]? with |some o=>cls o.op != 0 |none=>false) && (rem.erase i).all (fun y=>!bE ops i y) && chk ops m t (rem.erase i) && chkA ops m u rem):=by simp[chk,chkA,chkB]
theorem EX {ops:Array Oper} {m:List Nat} {rem:List Nat}:chk ops m .no rem=false:=by simp[chk,chkB]
theorem chk_done {ops:Array Oper} {m:List Nat} {rem:List Nat}:chk ops m .done rem=rem.isEmpty:=by simp[chk,chkB]
def oo (ops:Array Oper) (t:IT):Bool:=sW ops && Region.noSelect ops && (List.range ops.size).all (fun x=>!bE ops x x) && chk ops (bF ops ops.size) t (List.range ops.size)
section
variable {P:Program} {ops:Array Oper} {Q Q':Exit→Act→World→Prop}
theorem wp_Q {o:Oper} {a:Act} {w:World} {K:Act→World→Prop} (hp:∀c a w,Q (.panic c) a w→Q' (.panic c) a w) (ho:∀a w,Q .outgrown a w→Q' .outgrown a w) (h:o.wp P a w K Q):o.wp P a w K Q':=by
 unfold Oper.wp at*
 generalize(execOp a.eval o).run P w=r at*
 cases r with
 | ok n w'=>
  cases n<;>simp only[Oper.upon] at h ⊢
  case value u=>exact h
  case skip=>exact h
  case defer d=>exact h
  case enter f args=>
   refine Calls.mono h fun e w'' he=>?_
   cases e with
   |returned u=>exact he
   |panicked c=>exact hp _ _ _ he
   |outgrown=>obtain⟨a₀,w₀,hq⟩:=he;exact⟨a₀,w₀,ho _ _ hq⟩
  case row row args=>exact h
 | halt x w'=>
  cases x<;>simp only[Oper.upon] at h ⊢
  case panic u=>exact hp _ _ _ h
theorem xh {c d:List Nat}:∀{a:Act} {w:World},RWc P ops (withN (fun a w=>RWc P ops Q d a w) Q') c a w→(∀c a w,Q' (.panic c) a w→Q (.panic c) a w)→(∀a w,Q' .outgrown a w→Q .outgrown a w)→RWc P ops Q (c ++d) a w:=by
 induction c with
 |nil=>intro a w h _ _;exact h
 | cons i c ih=>
  intro a w h hp ho
  simp only[List.cons_append,RWc] at h ⊢
  split at h
  ·exact h.elim
  ·rename_i o _
   split at h
   ·rename_i hw
    rw[if_pos hw]
    split at h
    ·rename_i hc
     rw[if_pos hc]
     obtain⟨v,hv,h⟩:=h
     exact⟨v,hv,ih h hp ho⟩
    ·rename_i hc
     rw[if_neg hc]
     exact wp_Q (Q:=withN (fun a w=>RWc P ops Q d a w) Q') hp ho (nf (fun a' w' k=>⟨k.1,ih k.2 hp ho⟩) h)
   ·rename_i hw
    rw[if_neg hw]
    exact ih h hp ho
theorem vN {K:Act→World→Prop} (hQ:∀c a d v w,Q (.panic c) (Act.put a d v) w→Q (.panic c) a w):∀c a d v w,withN K Q (.panic c) (Act.put a d v) w→withN K Q (.panic c) a w:=hQ
structure GoodT (ops:Array Oper) (listed:Array Bool) (R rem:List Nat):Prop where
 size:listed.size=ops.size
 mem:∀j,j < ops.size→(listed.getD j false=false↔j∈R ++rem)
 lt:∀j∈R ++rem,j < ops.size
 nodup:(R ++rem).Nodup
 cls0:∀x∈R,∃o,ops[x]?=some o∧cls o.op=0
 pairs:R.Pairwise fun x y=>me ops (bF ops ops.size) x y=true
 ahead:∀x∈R,∀y∈rem,me ops (bF ops ops.size) x y=true
 closed:∀j,listed.getD j false=true→∀x,bE ops j x=true→listed.getD x false=true
 edges:∀y x,bE ops y x=true→x < ops.size
 irr:∀x,x < ops.size→bE ops x x=false
theorem ru {R rem:List Nat} {x:Nat} (hx:x∈rem) (j:Nat):j∈(R ++[x]) ++rem.erase x↔j∈R ++rem:=by
 simp only[qAu,qBc]
 constructor
 ·rintro((h |rfl) |h)
  ·exact .inl h
  ·exact .inr hx
  ·exact .inr (List.mem_of_mem_erase h)
 ·rintro(h |h)
  ·exact .inl (.inl h)
  ·by_cases e:j=x
   ·exact .inl (.inr e)
   ·exact .inr ((List.mem_erase_of_ne e).2 h)
theorem GoodT.take {listed:Array Bool} {R rem:List Nat} (g:GoodT ops listed R rem) {x:Nat} (hx:x∈rem) (hr:rdOk ops (bF ops ops.size) x (rem.erase x)=true):GoodT ops listed (R ++[x]) (rem.erase x):=by
 have hnd:=List.nodup_append.1 g.nodup
 unfold rdOk at hr
 split at hr
 ·rename_i ox hox
  simp only[φ,beq_iff_eq,qBd] at hr
  refine⟨g.size,fun j hj=>by rw[g.mem j hj,ru hx],fun j hj=>g.lt j ((ru hx j).1 hj),?_,fun y hy=>?_,?_,fun y hy z hz=>?_,g.closed,g.edges,g.irr⟩
  ·rw[List.append_assoc,List.singleton_append]
   exact List.nodup_append.2 ⟨hnd.1,List.nodup_cons.2 ⟨List.Nodup.not_mem_erase hnd.2.1,hnd.2.1.erase x⟩,fun y hy z hz=>by
    rcases List.mem_cons.1 hz with rfl |hz
    ·exact hnd.2.2 y hy _ hx
    ·exact hnd.2.2 y hy z (List.mem_of_mem_erase hz)⟩
  ·rcases qAu.1 hy with h |h
   ·exact g.cls0 y h
   ·rw[qBc.1 h];exact⟨ox,hox,hr.1⟩
  ·refine List.pairwise_append.2 ⟨g.pairs,List.pairwise_singleton _ _,fun y hy z hz=>?_⟩
   rw[qBc.1 hz];exact g.ahead y hy x hx
  ·rcases qAu.1 hy with h |h
   ·exact g.ahead y h z (List.mem_of_mem_erase hz)
   ·rw[qBc.1 h];exact hr.2 z hz
 ·cases hr
theorem GoodT.takes {listed:Array Bool}:∀{l R rem rem':List Nat},GoodT ops listed R rem→chkL ops (bF ops ops.size) l rem=some rem'→GoodT ops listed (R ++l) rem'∧(R ++l ++rem').length=(R ++rem).length
 |[],R,rem,rem',g,h=>by cases h;simpa using g
 | x :: l,R,rem,rem',g,h=>by
  simp only[chkL] at h
  cases hc:(rem.contains x && rdOk ops (bF ops ops.size) x (rem.erase x)) with
  |false=>rw[hc] at h;cases h
  | true=>
   rw[hc] at h
   simp only[φ,List.contains_eq_mem,decide_eq_true_eq] at hc
   obtain⟨g',hl⟩:=(g.take hc.1 hc.2).takes (l:=l) h
   have ea:R ++[x] ++l=R ++x :: l:=by simp
   rw[ea] at g' hl
   refine⟨g',hl.trans ?_⟩
   have:=List.length_erase_of_mem hc.1
   have:=List.length_pos_of_mem hc.1
   simp only[qAp,List.length_singleton,List.length_cons,List.length_nil]
   omega
def notSeg:IT→Bool
 |.seg ..=>false
 |_=>true
theorem norm {listed:Array Bool} {a:Act} {w:World}:∀(t:IT) (R rem:List Nat),GoodT ops listed R rem→chk ops (bF ops ops.size) t rem=true→RWc P ops (withN (RT P ops Q t) Q) R a w→
  ∃t' R' rem',GoodT ops listed R' rem'∧chk ops (bF ops ops.size) t' rem'=true∧RWc P ops (withN (RT P ops Q t') Q) R' a w∧notSeg t'=true∧(R' ++rem').length=(R ++rem).length
 | .seg l t,R,rem,g,hc,h=>by
  rw[chk_seg] at hc
  split at hc
  ·rename_i rem' hl
   obtain⟨g',hlen⟩:=g.takes hl
   have h':RWc P ops (withN (RT P ops Q t) Q) (R ++order l) a w:=xh (Q':=Q) h (fun _ _ _ h=>h) (fun _ _ h=>h)
   obtain⟨t',R',rem'',g2,c2,r2,n2,l2⟩:=norm t _ _ g' hc h'
   exact⟨t',R',rem'',g2,c2,r2,n2,l2.trans hlen⟩
  ·cases hc
 |.done,R,rem,g,hc,h=>⟨_,_,_,g,hc,h,rfl,rfl⟩
 |.alt ..,R,rem,g,hc,h=>⟨_,_,_,g,hc,h,rfl,rfl⟩
 |.no,R,rem,g,hc,h=>⟨_,_,_,g,hc,h,rfl,rfl⟩
theorem zy {i:Nat} {rem:List Nat}:∀{s:IT},chkA ops (bF ops ops.size) s rem=true→i∈heads s→∃t',chk ops (bF ops ops.size) t' (rem.erase i)=true∧(∃o,ops[i]?=some o∧cls o.op≠0)∧∀{a:Act} {w:World},RT P ops Q s a w→RWc P ops (withN (RT P ops Q t') Q) [i] a w
 | .alt k t u,hc,hi=>by
  simp only[sV,φ,List.contains_eq_mem,decide_eq_true_eq] at hc
  by_cases e:i=k
  ·subst e
   refine⟨t,hc.1.2,?_,fun h=>h.1⟩
   have h2:=hc.1.1.1.2
   split at h2
   ·rename_i o ho;exact⟨o,ho,by simpa using h2⟩
   ·cases h2
  ·obtain⟨t',h1,h2,h3⟩:=zy hc.2 ((List.mem_cons.1 hi).resolve_left e)
   exact⟨t',h1,h2,fun h=>h3 h.2⟩
 |.done,_,hi=>by cases hi
 |.seg ..,_,hi=>by cases hi
 |.no,_,hi=>by cases hi
theorem zJ {i:Nat} {rem:List Nat}:∀{t:IT},chkA ops (bF ops ops.size) t rem=true→i∈heads t→∀y∈rem.erase i,bE ops i y=false
 | .alt j t u,hc,hi=>by
  simp only[sV,φ,qBd,Bool.not_eq_true'] at hc
  rcases List.mem_cons.1 hi with rfl |hi
  ·exact hc.1.1.2
  ·exact zJ hc.2 hi
 |.done,_,hi=>by cases hi
 |.seg ..,_,hi=>by cases hi
 |.no,_,hi=>by cases hi
theorem pq {listed:Array Bool} {R rem:List Nat} (g:GoodT ops listed R rem) {j:Nat}:j∈Region.ready .any ops listed↔j∈R ++rem∧∀x,bE ops j x=true→x ∉ R ++rem:=by
 rw[iO g.size]
 constructor
 ·rintro⟨h1,h2,h3⟩
  refine⟨(g.mem j h1).1 h2,fun x hx hm=>?_⟩
  have:=(g.mem x (g.lt x hm)).2 hm
  rw[h3 x hx] at this;cases this
 ·rintro⟨h1,h2⟩
  refine⟨g.lt j h1,(g.mem j (g.lt j h1)).2 h1,fun x hx=>?_⟩
  cases hl:listed.getD x false with
  |true=>rfl
  |false=>exact(h2 x hx ((g.mem x (g.edges _ _ hx)).1 hl)).elim
theorem yr {listed:Array Bool} {R rem:List Nat} (g:GoodT ops listed R rem) {i x:Nat} (hi:i∈Region.ready .any ops listed) (hx:x∈R ++rem):((bF ops ops.size).getD i 0).testBit x=false:=by
 have hri:=(iO g.size).1 hi
 cases hb:((bF ops ops.size).getD i 0).testBit x with
 |false=>rfl
 | true=>
  have:=po g.closed (nX _ i x hri.1 hb) hri.2.2
  have h2:=(g.mem x (g.lt x hx)).2 hx
  rw[h2] at this;cases this
theorem GoodT.list {listed:Array Bool} {R rem R' rem':List Nat} (g:GoodT ops listed R rem) {i:Nat} (hi:i∈Region.ready .any ops listed) (hR:R'.Sublist R) (hrem:∀y∈rem',y∈rem) (hnd:(R' ++rem').Nodup) (hm:∀j,j∈R' ++rem'↔j∈R ++rem∧j≠i):GoodT ops (listed.setIfInBounds i true) R' rem':=by
  have hri:=(iO g.size).1 hi
  refine⟨by simpa using g.size,fun j hj=>?_,fun j hj=>g.lt j ((hm j).1 hj).1,hnd,fun x hx=>g.cls0 x (hR.subset hx),g.pairs.sublist hR,fun x hx y hy=>g.ahead x (hR.subset hx) y (hrem y hy),fun j hj x hx=>?_,g.edges,g.irr⟩
  · by_cases hij:i=j
    · subst hij
      have:(listed.setIfInBounds i true).getD i false=true:=by simp[g.size,hj]
      simp only[this,Bool.true_eq_false,false_iff]
      intro h;exact((hm i).1 h).2 rfl
    · rw[getD_set_ne false hij,g.mem j hj,hm j]
      constructor
      · intro h;exact⟨h,fun e=>hij e.symm⟩
      · intro h;exact h.1
  · by_cases hij:i=j
    · subst hij;exact getD_set_true (hri.2.2 x hx)
    · rw[getD_set_ne false hij] at hj
      exact getD_set_true (g.closed j hj x hx)
theorem pre_ok {listed:Array Bool} {R rem pre:List Nat} (g:GoodT ops listed R rem) {i:Nat} {oi:Oper} (hi:i∈Region.ready .any ops listed) (hoi:ops[i]?=some oi) (hpre:∀x∈pre,x∈R∧me ops (bF ops ops.size) x i=true):
  ∀x∈pre,∃ox,ops[x]?=some ox∧cls ox.op=0∧cls oi.op≠2∧ox.apart ops oi=true:=by
 intro x hx
 obtain⟨hxR,hp⟩:=hpre x hx
 have hnm:=yr g hi (List.mem_append_left rem hxR)
 have hxl:=g.lt x (List.mem_append_left _ hxR)
 simp only[me,hnm,Bool.false_or,hoi,Array.getElem?_eq_getElem hxl,φ,beq_iff_eq,bne_iff_ne] at hp
 exact⟨ops[x],by simp[hxl],hp.2.1.1,hp.2.1.2,hp.2.2⟩
theorem Ef (hsel:∀(j:Nat) (o:Oper) cs b,ops[j]?=some o→o.op≠.select cs b)
    (hQ:∀c a d v w,Q (.panic c) (Act.put a d v) w→Q (.panic c) a w):
    ∀ (fuel:Nat) (t:IT) (R rem:List Nat) (listed:Array Bool) (a:Act) (w:World),GoodT ops listed R rem→chk ops (bF ops ops.size) t rem=true→(R ++rem).length≤fuel→RWc P ops (withN (RT P ops Q t) Q) R a w→
      wpAny P .any ops Q fuel listed a w:=by
  intro fuel
  induction fuel with
  | zero=>
    intro t R rem listed a w g hc hl h
    obtain⟨t,R,rem,g,hc,h,hn,hl'⟩:=norm t R rem g hc h
    rw[←hl'] at hl
    have e:=List.eq_nil_of_length_eq_zero (Nat.le_zero.1 hl)
    obtain⟨rfl,rfl⟩:=List.append_eq_nil_iff.1 e
    refine⟨?_,?_⟩
    · apply List.eq_nil_iff_forall_not_mem.2
      intro j hj
      have:=((pq g).1 hj).1
      cases this
    · cases t with
      |done=>exact h
      |seg=>cases hn
      |alt i t u=>simp[AH,sV] at hc
      |no=>simp[EX] at hc
  | succ fuel ih=>
    intro t R rem listed a w g hc hl h
    obtain⟨t,R,rem,g,hc,h,hn,hl'⟩:=norm t R rem g hc h
    rw[←hl'] at hl
    refine⟨fun hr=>?_,fun i hi=>?_⟩
    · cases R with
      | cons x R=>
        exfalso
        have:x∈Region.ready .any ops listed:=(pq g).2 ⟨by simp,fun y hy hm=>by
          rcases qAu.1 hm with hm |hm
          · rcases List.mem_cons.1 hm with rfl |hm
            · rw[g.irr _ (g.edges _ _ hy)] at hy;cases hy
            · have:=(List.pairwise_cons.1 g.pairs).1 y hm
              simp[me,hy] at this
          · have:=g.ahead x (qAt ..) y hm
            simp[me,hy] at this⟩
        rw[hr] at this;cases this
      | nil =>
        cases t with
        |done=>exact h
        |seg=>cases hn
        |no=>simp[EX] at hc
        | alt i t u=>
          exfalso
          simp only[AH,φ] at hc
          have h1:=zJ hc.1 (qAt ..)
          have h0:=hc.1
          simp only[sV,φ,List.contains_eq_mem,decide_eq_true_eq] at h0
          have:i∈Region.ready .any ops listed:=(pq g).2 ⟨by simpa using h0.1.1.1.1,fun y hy hm=>by
            simp only[List.nil_append] at hm
            by_cases e:y=i
            · subst e;rw[g.irr _ (g.edges _ _ hy)] at hy;cases hy
            · rw[h1 y ((List.mem_erase_of_ne e).2 hm)] at hy;cases hy⟩
          rw[hr] at this;cases this
    · have hri := (iO g.size).1 hi
      have hoi:ops[i]?=some ops[i]:=by simp[hri.1]
      have hnd:=List.nodup_append.1 g.nodup
      unfold wpOp
      simp only[hoi]
      rcases qAu.1 ((pq g).1 hi).1 with hiR |hirem
      · obtain⟨pre,post,rfl⟩:=List.append_of_mem hiR
        have hpw:=List.pairwise_append.1 g.pairs
        have hpre:=pre_ok g hi hoi (pre:=pre) (fun x hx=>⟨List.mem_append_left _ hx,hpw.2.2 x hx i (qAt ..)⟩)
        obtain⟨o',ho',hc0⟩:=g.cls0 i hiR
        have eo:ops[i]=o':=by rw[hoi] at ho';exact Option.some.inj ho'
        rw[←eo] at hc0
        have hf:=um hoi hsel (vN hQ) post pre a w (.inr (by rw[hc0];decide)) (fun x hx=>let ⟨ox,h1,h2,_,h4⟩:=hpre x hx;⟨ox,h1,h2,h4⟩) h
        have hnd0:=hnd.1
        rw[List.nodup_append] at hnd0
        have hni:i ∉ pre ++post:=by
          intro hm
          rcases qAu.1 hm with hm |hm
          · exact hnd0.2.2 i hm i (qAt ..) rfl
          · exact(List.nodup_cons.1 hnd0.2.1).1 hm
        have hsub:(pre ++post).Sublist (pre ++i :: post):=List.Sublist.append (List.Sublist.refl _) (List.sublist_cons_self ..)
        have g':GoodT ops (listed.setIfInBounds i true) (pre ++post) rem:=g.list hi hsub (fun _ h=>h)
          (g.nodup.sublist (List.Sublist.append hsub (List.Sublist.refl _))) (fun j=>by
            simp only[qAu,List.mem_cons]
            constructor
            · intro hm
              refine⟨by rcases hm with (h |h) |h<;>simp[h],fun e=>?_⟩
              subst e
              rcases hm with hm |hm
              · exact hni (qAu.2 hm)
              · exact hnd.2.2 j hiR j hm rfl
            · rintro⟨(h |h |h) |h,hne⟩
              · exact .inl (.inl h)
              · exact(hne h).elim
              · exact .inl (.inr h)
              · exact .inr h)
        have hlen:(pre ++post ++rem).length≤fuel:=by simp at hl ⊢;omega
        rw[fE hoi hc0] at hf
        obtain⟨v,hy,hf⟩:=hf
        have hk:=ih t _ _ _ _ w g' hc hlen hf
        rcases hy with⟨hw,hv⟩ |⟨hw,rfl⟩
        · rw[if_pos hw]
          refine .inl ?_
          simp only[Oper.wp,hv w (Below.refl _ _),Oper.upon]
          exact hk
        · rw[if_neg (by rw[hw];simp)]
          exact hk
      · cases t with
        |done=>simp only[chk_done,List.isEmpty_iff] at hc;subst hc;cases hirem
        |seg=>cases hn
        |no=>simp[EX] at hc
        | alt j t u =>
          simp only[AH,φ,qBd,Bool.or_eq_true,List.any_eq_true] at hc
          have hih:i∈heads (.alt j t u):=by
            rcases hc.2 i hirem with h |⟨x,hx,h⟩
            · simpa using h
            · have:=yr g hi (List.mem_append_right R hx)
              simp only[Fs] at h
              rw[this] at h;cases h
          obtain⟨t',hct,⟨o',ho',hcn⟩,hbr⟩:=zy (P:=P) (Q:=Q) hc.1 hih
          have eo:ops[i]=o':=by rw[hoi] at ho';exact Option.some.inj ho'
          rw[←eo] at hcn
          have hR1:RWc P ops (withN (RT P ops Q t') Q) (R ++[i]) a w:=by
            refine xh (Q':=Q) ?_ (fun _ _ _ h=>h) (fun _ _ h=>h)
            have mono :∀(c:List Nat) (a:Act) (w:World),RWc P ops (withN (RT P ops Q (.alt j t u)) Q) c a w→RWc P ops (withN (fun a w=>RWc P ops (withN (RT P ops Q t') Q) [i] a w) Q) c a w:=by
              intro c
              induction c with
              |nil=>intro a w h;exact hbr h
              | cons x c ihc=>
                intro a w h
                simp only[RWc] at h ⊢
                split at h
                · exact h.elim
                · split at h
                  · rename_i hw
                    rw[if_pos hw]
                    split at h
                    · rename_i hc
                      rw[if_pos hc]
                      obtain⟨v,hv,h⟩:=h
                      exact⟨v,hv,ihc _ _ h⟩
                    · rename_i hc
                      rw[if_neg hc]
                      exact wp_Q (Q:=withN (RT P ops Q (.alt j t u)) Q) (fun _ _ _ h=>h) (fun _ _ h=>h) (nf (fun a' w' k=>⟨k.1,ihc _ _ k.2⟩) h)
                  · rename_i hw
                    rw[if_neg hw]
                    exact ihc _ _ h
            exact mono R a w h
          have hpre:=pre_ok g hi hoi (pre:=R) (fun x hx=>⟨hx,g.ahead x hx i hirem⟩)
          have hc2:R=[]∨cls ops[i].op≠2:=by
            cases R with
            |nil=>exact .inl rfl
            |cons x R=>obtain⟨_,_,_,h2,_⟩:=hpre x (qAt ..);exact .inr h2
          have hf:=um hoi hsel (vN hQ) [] R a w hc2 (fun x hx=>let ⟨ox,h1,h2,_,h4⟩:=hpre x hx;⟨ox,h1,h2,h4⟩) hR1
          rw[List.append_nil] at hf
          have g':GoodT ops (listed.setIfInBounds i true) R (rem.erase i):=g.list hi (List.Sublist.refl _) (fun _ h=>List.mem_of_mem_erase h)
            (g.nodup.sublist (List.Sublist.append (List.Sublist.refl _) List.erase_sublist)) (fun x=>by
              simp only[qAu]
              constructor
              · rintro(h |h)
                · exact⟨.inl h,fun e=>hnd.2.2 x h i hirem e⟩
                · exact⟨.inr (List.mem_of_mem_erase h),fun e=>by subst e;exact(List.Nodup.not_mem_erase hnd.2.1) h⟩
              · rintro⟨h |h,hne⟩
                · exact .inl h
                · exact .inr ((List.mem_erase_of_ne hne).2 h))
          have hlen:(R ++rem.erase i).length≤fuel:=by
            have:=List.length_erase_of_mem hirem
            have:=List.length_pos_of_mem hirem
            simp at hl ⊢;omega
          have h:=(jP hoi hcn).1 hf
          split
          · rename_i hw
            rw[if_pos hw] at h
            exact .inl (wp_Q (Q:=withN (RT P ops Q t') Q) (fun _ _ _ h=>h) (fun _ _ h=>h) (Oper.wp_mono (fun a' w' k=>ih t' _ _ _ a' w' g' hct hlen k.2) h))
          · rename_i hw
            rw[if_neg hw] at h
            exact ih t' _ _ _ _ w g' hct hlen h
theorem Fl (he:sW ops=true) (hirr:(List.range ops.size).all (fun x=>!bE ops x x)=true):GoodT ops (Array.replicate ops.size false) [] (List.range ops.size):=by
 simp only[qBd,List.mem_range,Bool.not_eq_true'] at hirr
 refine⟨by simp,fun j hj=>by simp[hj],fun j hj=>by simpa using hj,by simpa using List.nodup_range,(by intro x hx;cases hx),.nil,(by intro x hx;cases hx),fun j hj=>?_,fun y x hx=>?_,hirr⟩
 ·exfalso
  rcases qBj j ops.size with h |h
  ·simp[h] at hj
  ·simp[Nat.not_lt.2 h] at hj
 ·cases ho:ops[y]? with
  |none=>simp[bE,ho] at hx
  | some o=>
   simp only[bE,ho] at hx
   obtain⟨e,he',hb⟩:=Array.any_eq_true'.1 hx
   simp only[φ,beq_iff_eq] at hb
   have h6:=Array.all_eq_true_iff_forall_mem.1 (Array.all_eq_true_iff_forall_mem.1 he o (Array.mem_of_getElem? ho)) e he'
   simp only[hb.1,Bool.not_true,Bool.false_or,decide_eq_true_eq] at h6
   rw[←hb.2];exact h6
theorem qq {id:Nat} {a:Act} {w:World} (hm:P.follows .mixedOrders=true) (t:IT) (hc:oo ops t=true)
  (hQ:∀c a d v w,Q (.panic c) (Act.put a d v) w→Q (.panic c) a w) (h:RT P ops Q t a {w with drawn:=w.drawn+1}):
  (Code.region id ops true).wp P Q a w:=by
 simp only[oo,φ] at hc
 exact wp_region_any hm (Ef (Region.noSelect_spec hc.1.1.2) hQ _ t [] _ _ a _ (Fl hc.1.1.1 hc.1.2) hc.2 (by simp) h)
inductive GT where
 |done
 |seg (l:List GX) (t:GT)
 |alt (g:GX) (t u:GT)
 |no
def prepT (n:Nat) (ops:Array Oper):IT→Option GT
 |.done=>some .done
 |.no=>some .no
 | .seg l t=>match prep n ops l,prepT n ops t with
  |some l',some t'=>some (.seg l' t')
  |_,_=>none
 | .alt i t u=>match prep n ops [.o i],prepT n ops t,prepT n ops u with
  |some [g],some t',some u'=>some (.alt g t' u')
  |_,_,_=>none
def walkT (M:Mach) (E:List PanicEntry→PH→Prop) (K:AS→PH→Prop):GT→AS→PH→Prop
 |.done=>K
 |.seg l t=>fun S h=>walk M E l (walkT M E K t) S h
 |.alt g t u=>fun S h=>walk M E [g] (walkT M E K t) S h∧walkT M E K u S h
 |.no=>fun _ _=>True
theorem ao {M:Mach} {E:List PanicEntry→PH→Prop} {K:AS→PH→Prop} {l:List GX} {t:GT} {S:AS} {h:PH} (hk:walk M E l (walkT M E K t) S h):walkT M E K (.seg l t) S h:=hk
theorem aj {M:Mach} {E:List PanicEntry→PH→Prop} {K:AS→PH→Prop} {g:GX} {t u:GT} {S:AS} {h:PH} (h1:walk M E [g] (walkT M E K t) S h) (h2:walkT M E K u S h):walkT M E K (.alt g t u) S h:=⟨h1,h2⟩
theorem wt_no {M:Mach} {E:List PanicEntry→PH→Prop} {K:AS→PH→Prop} {S:AS} {h:PH}:walkT M E K .no S h:=trivial
theorem ak {M:Mach} {E:List PanicEntry→PH→Prop} {K:AS→PH→Prop} {S:AS} {h:PH} (hk:K S h):walkT M E K .done S h:=hk
def withA (K:AS→PH→Prop) (Q:Exit→AS→PH→Prop):Exit→AS→PH→Prop
 |.normal=>K
 |e=>Q e
theorem uo {Q Q':Exit→Act→World→Prop} (hn:∀a w,Q .normal a w→Q' .normal a w) (hp:∀c a w,Q (.panic c) a w→Q' (.panic c) a w) (ho:∀a w,Q .outgrown a w→Q' .outgrown a w):∀(c:List Nat) (a:Act) (w:World),RWc P ops Q c a w→RWc P ops Q' c a w:=by
 intro c
 induction c with
 |nil=>intro a w h;exact hn a w h
 | cons x c ih=>
  intro a w h
  simp only[RWc] at h ⊢
  split at h
  ·exact h.elim
  ·split at h
   ·rename_i hw
    rw[if_pos hw]
    split at h
    ·rename_i hc
     rw[if_pos hc]
     obtain⟨v,hv,h⟩:=h
     exact⟨v,hv,ih _ _ h⟩
    ·rename_i hc
     rw[if_neg hc]
     exact wp_Q hp ho (nf (fun a' w' k=>⟨k.1,ih _ _ k.2⟩) h)
   ·rename_i hw
    rw[if_neg hw]
    exact ih _ _ h
theorem pO {M:Mach} {C:Ctx} {n:Nat} {Q:Exit→AS→PH→Prop} {E:List PanicEntry→PH→Prop}:∀(t:IT) (g:GT) (S:AS) (h:PH) (β:Nat→Nat) (a:Act) (w:World),prepT n ops t=some g→walkT M E (fun S h=>Q .normal S h) g S h→G M C n S h β a w→
  RT M.P ops (LQ M n C Q E) t a w:=by
 intro t
 have piece:∀(pl:List PL) (l:List GX) (t:IT) (g:GT) (S:AS) (h:PH) (β:Nat→Nat) (a:Act) (w:World),prep n ops pl=some l→walk M E l (walkT M E (fun S h=>Q .normal S h) g) S h→G M C n S h β a w→
   (∀(S:AS) (h:PH) (β:Nat→Nat) (a:Act) (w:World),walkT M E (fun S h=>Q .normal S h) g S h→G M C n S h β a w→RT M.P ops (LQ M n C Q E) t a w)→RWc M.P ops (withN (RT M.P ops (LQ M n C Q E) t) (LQ M n C Q E)) (order pl) a w:=by
  intro pl l t g S h β a w hl hw hg ih
  have hn:∀a w,LQ M n C (withA (walkT M E (fun S h=>Q .normal S h) g) Q) E .normal a w→withN (RT M.P ops (LQ M n C Q E) t) (LQ M n C Q E) .normal a w:=by
   rintro a w ⟨S',h',β',g',hk⟩
   exact ih _ _ _ _ _ hk g'
  exact uo (P:=M.P) (Q:=LQ M n C (withA (walkT M E (fun S h=>Q .normal S h) g) Q) E) (Q':=withN (RT M.P ops (LQ M n C Q E) t) (LQ M n C Q E)) hn (fun _ _ _ h=>h) (fun _ _ h=>h) _ _ _ (fx pl l S h β a w hl hw hg)
 induction t with
 |done=>intro g S h β a w hp hw hg;cases hp;exact⟨S,h,β,hg,hw⟩
 |no=>intro g S h β a w hp hw hg;trivial
 | seg l t ih=>
  intro g S h β a w hp hw hg
  simp only[prepT] at hp
  split at hp
  ·rename_i l' t' h1 h2
   cases hp
   exact piece l l' t t' S h β a w h1 hw hg (fun S h β a w hk hg=>ih t' S h β a w h2 hk hg)
  ·cases hp
 | alt i t u iht ihu=>
  intro g S h β a w hp hw hg
  simp only[prepT] at hp
  split at hp
  ·rename_i g' t' u' h1 h2 h3
   cases hp
   exact⟨piece [.o i] [g'] t t' S h β a w h1 hw.1 hg (fun S h β a w hk hg=>iht t' S h β a w h2 hk hg),ihu u' S h β a w h3 hw.2 hg⟩
  ·cases hp
theorem AWP_t {M:Mach} {C:Ctx} {n:Nat} {S:AS} {h:PH} {Q:Exit→AS→PH→Prop} {E:List PanicEntry→PH→Prop} {id:Nat} {g:GT} {y:Code} (t:IT) (hc:oo ops t=true) (hl:prepT n ops t=some g) (hw:∀K:AS→PH→Prop,(∀S h,AWP M n C y Q E S h→K S h)→walkT M E K g S h):AWP M n C (.seq (.region id ops true) y) Q E S h:=
 oG fun β a w hg=>qq M.mixed t hc (fun c a d v w=>sJ c a d v w) (pO (Q:=qs (fun S h=>AWP M n C y Q E S h) Q) t g S h β a _ hl (hw _ fun _ _ h=>h) (hg.below (gt w)))
theorem mR {M:Mach} {C:Ctx} {n:Nat} {S:AS} {h:PH} {Q:Exit→AS→PH→Prop} {E:List PanicEntry→PH→Prop} {id:Nat} {g:GT} (t:IT) (hc:oo ops t=true) (hl:prepT n ops t=some g) (hw:∀K:AS→PH→Prop,(∀S h,Q .normal S h→K S h)→walkT M E K g S h):AWP M n C (.region id ops true) Q E S h:=
 fun β a w hg=>qq M.mixed t hc (fun c a d v w=>sJ c a d v w) (pO t g S h β a _ hl (hw _ fun _ _ h=>h) (hg.below (gt w)))
end
open Go.RowKit (Below)
@[go_sem] def pos (i:Nat):List Nat→Nat→Option Nat
 |[],_=>none
 |x :: l,j=>bif x == i then some j else pos i l (j+1)
@[go_sem] def selV (ix:List Nat):AV→AV
 | .p i off=>match pos i ix 0 with
  |some j=>.p j off
  |none=>.top
 | .s i off len cap=>match pos i ix 0 with
  |some j=>.s j off len cap
  |none=>.top
 |x=>x
def selL (ix:List Nat):List (Nat×AV)→List (Nat×AV)
 |[]=>[]
 |(k,x) :: l=>(k,selV ix x) :: selL ix l
@[go_sem] def selB (S:AS):List Nat→List (List Value)
 |[]=>[]
 |i :: l=>S.box i :: selB S l
@[go_sem] def AS.sel (S:AS) (ix:List Nat):AS:=⟨selL ix S.sl,selB S ix⟩
@[go_sem] theorem lk_sel (ix:List Nat) (l:List (Nat×AV)) (t:Nat):lk (selL ix l) t=selV ix (lk l t):=by
 induction l with
 |nil=>rfl
 | cons y l ih=>
  obtain⟨k,x⟩:=y
  simp only[selL,lk]
  cases(k == t) with
  |true=>rfl
  |false=>exact ih
theorem p9 {i:Nat}:∀{l:List Nat} {j k:Nat},pos i l j=some k→j≤k∧k - j < l.length∧l[k - j]?=some i
 |[],_,_,h=>by cases h
 | x :: l,j,k,h=>by
  simp only[pos] at h
  cases hx:(x == i) with
  | true=>
   rw[hx] at h;cases h
   obtain rfl:x=i:=by simpa using hx
   simp
  | false=>
   rw[hx] at h
   obtain⟨h1,h2,h3⟩:=p9 (l:=l) h
   obtain⟨d,rfl⟩:∃d,k=j+1+d:=⟨k - (j+1),by omega⟩
   have e1:j+1+d - (j+1)=d:=by omega
   have e2:j+1+d - j=d+1:=by omega
   rw[e1] at h2 h3
   rw[e2]
   exact⟨by omega,by simp;omega,by simpa using h3⟩
theorem DO (S:AS):∀(ix:List Nat) (j:Nat),(selB S ix)[j]?=(ix[j]?).map S.box
 |[],j=>by simp[selB]
 |i :: l,0=>by simp[selB]
 |i :: l,j+1=>by simp only[selB,List.getElem?_cons_succ];exact DO S l j
section
variable {M:Mach} {C:Ctx} {n:Nat} {S:AS} {h:PH} {β:Nat→Nat} {a:Act} {w:World} {Q:Exit→AS→PH→Prop} {E:List PanicEntry→PH→Prop}
theorem G.sel [NoPin C] (g:G M C n S h β a w) (ix:List Nat) (hn:aJ ix=true):G M C n (S.sel ix) h (fun j=>β (ix.getD j 0)) a w:=by
 have hnd:=rZ hn
 have hlen:∀l:List Nat,(selB S l).length=l.length:=by
  intro l
  induction l with
  |nil=>rfl
  |cons i l ih=>simp[selB,ih]
 have hbox:∀(j:Nat) (cs:List Value),(S.sel ix).bx[j]?=some cs→cs≠[]→∃i,ix[j]?=some i∧ix.getD j 0=i∧S.bx[i]?=some cs:=by
  intro j cs hj hne
  simp only[AS.sel,DO] at hj
  cases hi:ix[j]? with
  |none=>rw[hi] at hj;cases hj
  | some i=>
   rw[hi] at hj
   simp only[Option.map_some,Option.some.injEq] at hj
   refine⟨i,rfl,by simp[hi],?_⟩
   subst hj
   unfold AS.box at hne ⊢
   cases hb:S.bx[i]? with
   |none=>simp[hb] at hne
   |some cs=>simp[hb]
 have hv :∀{x:AV} {y:Value},Conc β x y→Conc (fun j=>β (ix.getD j 0)) (selV ix x) y:=by
  intro x y hc
  rcases hc with rfl |rfl
  ·exact .inl rfl
  ·cases x with
   |top=>exact .inl rfl
   |v x=>exact .inr rfl
   | p i off=>
    simp only[selV]
    cases hp:pos i ix 0 with
    |none=>exact .inl rfl
    | some j=>
     obtain⟨_,_,h3⟩:=p9 hp
     refine .inr ?_
     simp only[Nat.sub_zero] at h3
     simp[cv,h3]
   | s i off len cap=>
    simp only[selV]
    cases hp:pos i ix 0 with
    |none=>exact .inl rfl
    | some j=>
     obtain⟨_,_,h3⟩:=p9 hp
     refine .inr ?_
     simp only[Nat.sub_zero] at h3
     simp[cv,h3]
 refine⟨g.size,g.defers,g.fine,fun j cs hj hne=>?_,fun i j ci cj hi hj hci hcj hij=>?_,fun t=>?_,fun t i hi=>?_,?_,fun i hi=>?_⟩
 ·obtain⟨i,_,h2,h3⟩:=hbox j cs hj hne
  simp only[h2]
  exact g.boxes i cs h3 hne
 ·obtain⟨p,h1,h2,h3⟩:=hbox i ci hi hci
  obtain⟨q,k1,k2,k3⟩:=hbox j cj hj hcj
  simp only[h2,k2] at hij
  obtain rfl:=g.inj p q _ _ h3 k3 hci hcj hij
  have hi':i < ix.length:=(List.getElem?_eq_some_iff.1 h1).1
  exact(List.getElem?_inj hi' hnd).1 (h1.trans k1.symm)
 ·simp only[AS.sel,lk_sel]
  exact hv (g.slots t)
 ·simp only[AS.sel,lk_sel] at hi
  simp only[AS.sel,hlen]
  cases hx:lk S.sl t with
  |top=>rw[hx] at hi;cases hi
  |v x=>rw[hx] at hi;cases hi
  | p k off=>
   rw[hx] at hi
   simp only[selV] at hi
   cases hp:pos k ix 0 with
   |none=>rw[hp] at hi;cases hi
   |some j=>rw[hp] at hi;cases hi;have:=p9 hp;omega
  | s k off len cap=>
   rw[hx] at hi
   simp only[selV] at hi
   cases hp:pos k ix 0 with
   |none=>rw[hp] at hi;cases hi
   |some j=>rw[hp] at hi;cases hi;have:=p9 hp;omega
 ·rw[NoPin.nil];exact qBh _
 ·rw[NoPin.nil] at hi;cases hi
@[go_sem] def AS.leS (S S':AS) (ix:List Nat):Prop:=aJ ix=true∧(S.sel ix).le S'
theorem eO [NoPin C] {ι:Type} {c:Code} (St:ι→AS) (Inv:ι→PH→Prop) (m:ι→Nat) (x0:ι) (ix0:List Nat) (hS:S.leS (St x0) ix0) (h0:Inv x0 h)
  (round:∀x h,Inv x h→AWP M n C c (qs (fun S' h'=>∃y ix,S'.leS (St y) ix∧Inv y h'∧m y < m x) Q) E (St x) h):AWP M n C (.loop c) Q E S h:=fun β a w g=>by
 refine wp_loop_ghost (fun k a w=>∃x h β,m x=k∧Inv x h∧G M C n (St x) h β a w) (m x0) ⟨x0,h,_,rfl,h0,(g.sel ix0 hS.1).weaken hS.2 (NoPin.le _)⟩ ?_
 rintro k a w ⟨x,h,β,rfl,hi,g⟩
 refine wp_mono (round x h hi β a w g) fun e a' w' hq=>?_
 cases e with
 | normal=>
  obtain⟨S',h',β',g',y,ix,hle,hy,hlt⟩:=hq
  exact⟨m y,hlt,y,h',_,rfl,hy,(g'.sel ix hle.1).weaken hle.2 (NoPin.le _)⟩
 |_=>exact hq
end
attribute [go_sem] aJ List.contains_cons List.contains_nil Bool.or_false Bool.false_or
open Go.RowKit (Below)
def chkY (ops:Array Oper):IT→Bool→Array Bool→Bool
 |.done,top,listed=>top && (Region.ready .any ops listed).isEmpty
 |.alt i t u,top,listed=>(!top || (!(Region.ready .any ops listed).isEmpty && (Region.ready .any ops listed).all fun j=>(heads (.alt i t u)).contains j)) && chkY ops t true (listed.setIfInBounds i true) && chkY ops u false listed
 |.no,top,_=>!top
 |.seg _ _,_,_=>false
def deep:IT→Nat
 |.alt _ t u=>max (deep t+1) (deep u)
 |_=>0
section
variable {P:Program} {ops:Array Oper}
theorem Eg {Q:Exit→Act→World→Prop} {K:Act→World→Prop} {i:Nat} {a:Act} {w:World} (h:RWc P ops (withN K Q) [i] a w):wpOp P ops Q i K a w:=by
 have h:=tY _ _ _ h
 rw[wpOps_cons] at h
 unfold wpOp at h ⊢
 split at h
 ·exact h
 ·split at h
  ·rename_i hw
   rw[if_pos hw]
   refine h.imp (fun k=>?_) (fun k=>⟨k.1,k.2⟩)
   exact wp_Q (fun _ _ _ h=>h) (fun _ _ h=>h) k
  ·rename_i hw
   rw[if_neg hw]
   exact h
theorem Aw {M:Mach} {C:Ctx} {n:Nat} {Q:Exit→AS→PH→Prop} {E:List PanicEntry→PH→Prop}:∀(t:IT) (g:GT) (S:AS) (h:PH) (β:Nat→Nat) (a:Act) (w:World) (listed:Array Bool) (fuel:Nat),
  prepT n ops t=some g→walkT M E (fun S h=>Q .normal S h) g S h→G M C n S h β a w→
  (chkY ops t true listed=true→deep t≤fuel→wpAny M.P .any ops (LQ M n C Q E) fuel listed a w)∧
  (chkY ops t false listed=true→deep t≤fuel+1→∀i∈heads t,wpOp M.P ops (LQ M n C Q E) i (wpAny M.P .any ops (LQ M n C Q E) fuel (listed.setIfInBounds i true)) a w):=by
 intro t
 induction t with
 | done=>
  intro g S h β a w listed fuel hp hw hg
  cases hp
  refine⟨fun hc _=>?_,fun _ _ i hi=>by cases hi⟩
  simp only[chkY,Bool.true_and,List.isEmpty_iff] at hc
  cases fuel with
  |zero=>exact⟨hc,S,h,β,hg,hw⟩
  |succ fuel=>exact⟨fun _=>⟨S,h,β,hg,hw⟩,fun i hi=>by rw[hc] at hi;cases hi⟩
 | no=>
  intro g S h β a w listed fuel hp hw hg
  exact⟨fun hc=>by simp[chkY] at hc,fun _ _ i hi=>by cases hi⟩
 | seg l t ih=>
  intro g S h β a w listed fuel hp hw hg
  exact⟨fun hc=>by simp[chkY] at hc,fun hc=>by simp[chkY] at hc⟩
 | alt i t u iht ihu=>
  intro g S h β a w listed fuel hp hw hg
  simp only[prepT] at hp
  split at hp
  ·rename_i g' t' u' h1 h2 h3
   cases hp
   have branch:∀fuel,chkY ops t true (listed.setIfInBounds i true)=true→deep t≤fuel→wpOp M.P ops (LQ M n C Q E) i (wpAny M.P .any ops (LQ M n C Q E) fuel (listed.setIfInBounds i true)) a w:=by
    intro fuel hc hd
    refine Eg ?_
    have hn:∀a w,LQ M n C (withA (walkT M E (fun S h=>Q .normal S h) t') Q) E .normal a w→withN (wpAny M.P .any ops (LQ M n C Q E) fuel (listed.setIfInBounds i true)) (LQ M n C Q E) .normal a w:=by
     rintro a w ⟨S',h',β',g',hk⟩
     exact(iht t' S' h' β' a w _ fuel h2 hk g').1 hc hd
    exact uo (P:=M.P) (Q:=LQ M n C (withA (walkT M E (fun S h=>Q .normal S h) t') Q) E) hn (fun _ _ _ h=>h) (fun _ _ h=>h) _ _ _ (fx [.o i] [g'] S h β a w h1 hw.1 hg)
   have all:∀fuel,chkY ops t true (listed.setIfInBounds i true)=true→chkY ops u false listed=true→deep (.alt i t u)≤fuel+1→
     ∀j∈heads (.alt i t u),wpOp M.P ops (LQ M n C Q E) j (wpAny M.P .any ops (LQ M n C Q E) fuel (listed.setIfInBounds j true)) a w:=by
    intro fuel hc1 hc2 hd j hj
    simp only[deep] at hd
    simp only[heads,List.mem_cons] at hj
    rcases hj with rfl |hj
    ·exact branch fuel hc1 (by omega)
    ·exact(ihu u' S h β a w listed fuel h3 hw.2 hg).2 hc2 (by omega) j hj
   refine⟨fun hc hd=>?_,fun hc hd=>?_⟩
   ·simp only[chkY,Bool.not_true,Bool.false_or,φ,qBd] at hc
    cases fuel with
    |zero=>simp only[deep] at hd;omega
    | succ fuel=>
     refine⟨fun hr=>?_,fun j hj=>?_⟩
     ·rw[hr] at hc;simp at hc
     ·exact all fuel hc.1.2 hc.2 hd j (by simpa using hc.1.1.2 j hj)
   ·simp only[chkY,Bool.not_false,Bool.true_or,Bool.true_and,φ] at hc
    exact all fuel hc.1 hc.2 hd
  ·cases hp
theorem qr {M:Mach} {C:Ctx} {n:Nat} {Q:Exit→AS→PH→Prop} {E:List PanicEntry→PH→Prop} {id:Nat} {g:GT} {S:AS} {h:PH} (t:IT) (hc:(Nat.ble (deep t) ops.size && chkY ops t true (Array.replicate ops.size false))=true) (hl:prepT n ops t=some g)
  (hw:walkT M E (fun S h=>Q .normal S h) g S h):AWP M n C (.region id ops true) Q E S h:=fun β a w hg=>by
 simp only[φ,Nat.ble_eq] at hc
 exact wp_region_any M.mixed ((Aw t g S h β a _ _ _ hl hw (hg.below (gt w))).1 hc.2 hc.1)
theorem pD {M:Mach} {C:Ctx} {n:Nat} {S:AS} {h:PH} {Q:Exit→AS→PH→Prop} {E:List PanicEntry→PH→Prop} {id:Nat} {g:GT} (t:IT) (hc:(Nat.ble (deep t) ops.size && chkY ops t true (Array.replicate ops.size false))=true) (hl:prepT n ops t=some g) (hw:∀K:AS→PH→Prop,(∀S h,Q .normal S h→K S h)→walkT M E K g S h):AWP M n C (.region id ops true) Q E S h:=
 qr t hc hl (hw _ fun _ _ h=>h)
end
end Go.Q
