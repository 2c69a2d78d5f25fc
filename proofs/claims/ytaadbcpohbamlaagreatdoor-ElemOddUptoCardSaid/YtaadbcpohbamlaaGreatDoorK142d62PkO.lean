/-
  Contracts of package elem: whole parts of quotients; numbers of a remainder modulo 4 in a range; Turns. Conditions: the sizes are those that the program uses.
  Intervals as plain sets: two ends, each a number or infinite, or empty; the operations on them. Conditions: none.
  Plain laws of intervals: membership, meets, hulls, grids. Conditions: ends in order (ok).
  The remainder of a number by quarter turns, plain: bounds. Conditions: the number's absolute value is at most 2^32; the working precision is from 64 to 192.
  Roots of numbers on a grid, plain; what package number returns for them. Conditions: the number is not large, the index from 2 to 8, the precision at most 256.
  What package number returns for roots on a grid: positive numbers. Conditions: the number is not large, the index from 2 to 8, the precision at most 256. (Printed by a program.)
  What package number returns for roots on a grid: negative numbers. Conditions: the number is not large, the index from 2 to 8, the precision at most 256. (Printed by a program.)
  What number.root returns, of any number. Conditions: the number is not large, the index from 2 to 8, the precision at most 256; no even root of a number below 0.
  Contracts of package number: roots rounded down and up. Conditions: the values are numbers of at most 2048 binary digits.
  What arcsine, asin and acos return. Conditions: the number's absolute value is at most 1, of at most 1024 binary digits; the precision is at most 128.
-/
import Derived.Test.YtaadbcpohbamlaaGreatDoorK309e69PkF
import Derived.Test.YtaadbcpohbamlaaGreatDoorKfadf7aPkN
import Derived.Test.YtaadbcpohbamlaaGreatDoorK1d1240PkM
import Derived.Test.YtaadbcpohbamlaaGreatDoorK89a0c7PkH
import Derived.Test.YtaadbcpohbamlaaGreatDoorKb66c94PkL
import Derived.Test.YtaadbcpohbamlaaGreatDoorK4e04cfPkI
set_option linter.unusedVariables false
set_option linter.unusedSimpArgs false
namespace Go.Q
open Go.Proofs
set_option maxRecDepth 100000
set_option maxHeartbeats 8000000
theorem W_1 {m:Nat} (h0:m≠0) (h:m < 4294967296):W 4294967296 m=[m]:=by
  rw[W_pos (by decide) h0,Nat.mod_eq_of_lt h,Nat.div_eq_of_lt h,W_zero]
theorem N32.one {h:PH} {a:Option Addr} {l c m:Nat} (r:N32 h (.slice a l c) m) (h0:m≠0) (hm:m < 4294967296):∃ad,a=some ad∧l=1∧h.at (ad.add 0)=some (.int .u32 m):=by
  obtain⟨a',c',e,r⟩:=r
  cases e
  rw[W_1 h0 hm] at r ⊢
  obtain⟨ad,rfl,e⟩:=r.get (i:=0) (by simp)
  exact⟨ad,rfl,rfl,e⟩
def mt (a b r:Int):Bool:=decide (a+(r - a) % 4≤b)
theorem num_bd {x:Rat} (h:¬x.den*4294967296 < x.num.natAbs): -4294967296≤x∧x≤4294967296:=by
  have e:x=mkRat x.num x.den:=(Rat.mkRat_self x).symm
  have hd:(0:Rat) < (x.den:Rat):=by exact_mod_cast x.den_pos
  have e2:x*(x.den:Rat)=(x.num:Rat):=by
    have key:∀(d n y:Rat),d≠0→y=n / d→y*d=n:=fun d n y hd hy=>by rw[hy];exact Rat.div_mul_cancel hd
    have:=Rat.mkRat_eq_div x.num x.den
    rw[←e] at this
    exact key _ _ _ (Rat.ne_of_gt hd) this
  have k1:(x.num:Rat)≤4294967296*(x.den:Rat):=by
    have h1:x.num≤4294967296*(x.den:Int):=by omega
    have h2:=Rat.intCast_le_intCast.2 h1
    rw[Rat.intCast_mul] at h2
    exact h2
  have k2: -(4294967296*(x.den:Rat))≤(x.num:Rat):=by
    have h1: -(4294967296*(x.den:Int))≤x.num:=by omega
    have h2:=Rat.intCast_le_intCast.2 h1
    rw[Rat.intCast_neg,Rat.intCast_mul] at h2
    exact h2
  rw[←e2] at k1 k2
  constructor
  · refine Decidable.byContradiction fun hc=>?_
    have:=Rat.mul_lt_mul_of_pos_right (show x < -4294967296 by grind) hd
    grind
  · refine Decidable.byContradiction fun hc=>?_
    have:=Rat.mul_lt_mul_of_pos_right (show 4294967296 < x by grind) hd
    grind
theorem quo_bd {x y:Rat} (hx: -4294967296≤x∧x≤4294967296) (hy:3 / 2≤y): -2863311531≤x*y⁻¹∧x*y⁻¹≤2863311531:=by
  have y0:y≠0:=by grind
  have e:x*y⁻¹*y=x:=by rw[Rat.mul_assoc,Rat.inv_mul_cancel _ y0,Rat.mul_one]
  generalize x*y⁻¹=q at*
  have key:∀p:Rat,2863311531 < p→¬p*y≤4294967296:=by
    intro p hp hc
    have h1:p*(3 / 2)≤p*y:=Rat.mul_le_mul_of_nonneg_left hy (by grind)
    have h2:2863311531*(3 / 2)≤p*(3 / 2):=Rat.mul_le_mul_of_nonneg_right (by grind) (by decide+kernel)
    grind
  constructor
  · refine Decidable.byContradiction fun hc=>key (-q) (by grind) (by rw[Rat.neg_mul,e];grind)
  · refine Decidable.byContradiction fun hc=>key q (by grind) (by rw[e];exact hx.2)
theorem floor_bd {q:Rat} {c:Int} (h: -(c:Rat)≤q∧q≤(c:Rat)): -c≤q.floor∧q.floor≤c:=by
  constructor
  · rw[Rat.le_floor_iff]
    exact_mod_cast h.1
  · have:=Rat.le_trans (Rat.floor_le q) h.2
    exact_mod_cast this
end Go.Q
namespace Go.Q
inductive NS where
  |e
  |i (lo hi:Option Rat)
def ordO:Option Rat→Option Rat→Bool
  |some x,some y=>!decide (y < x)
  |_,_=>true
namespace NS
def void:NS→Bool
  |.e=>true
  |_=>false
def ok:NS→Prop
  |.e=>True
  |.i a b=>ordO a b=true
def all (f:Rat→Bool):NS→Bool
  |.e=>true
  |.i a b=>a.all f && b.all f
def le (k:Nat) (x:NS):Prop:=x.all (fun q=>decide (sz q≤k))=true
instance (k:Nat) (x:NS):Decidable (x.le k):=by unfold le;infer_instance
def slo:NS→Int
  |.e=>0
  | .i a _=>match a with
    |none=>-1
    |some q=>sgn3 q
def shi:NS→Int
  |.e=>0
  | .i _ b=>match b with
    |none=>1
    |some q=>sgn3 q
def zero (x:NS):Bool:=!x.void && decide (x.slo≤0) && decide (0≤x.shi)
def lowIn:Option Rat→Option Rat→Bool
  |none,_=>true
  |some _,none=>false
  |some c,some a=>!decide (a < c)
def highIn:Option Rat→Option Rat→Bool
  |none,_=>true
  |some _,none=>false
  |some d,some b=>!decide (d < b)
def within:NS→NS→Bool
  |.e,_=>true
  |_,.e=>false
  |.i a b,.i c d=>lowIn c a && highIn d b
def has:NS→Rat→Bool
  |.e,_=>false
  |.i a b,q=>a.all (fun x=>!decide (q < x)) && b.all (fun x=>!decide (x < q))
end NS
end Go.Q
namespace Go.Q
namespace NS
theorem has_i {a b:Option Rat} {q:Rat}:(NS.i a b).has q=true↔(∀x,a=some x→x≤q)∧(∀x,b=some x→q≤x):=by
  cases a<;>cases b<;>simp[has]<;>grind
theorem ne_has {a b:Option Rat} (h:ordO a b=true):∃q,(NS.i a b).has q=true:=by
  cases a with
  | none=>cases b with
    |none=>exact⟨0,by simp[has]⟩
    |some b=>exact⟨b,by simp[has]<;>grind⟩
  | some a=>cases b with
    |none=>exact⟨a,by simp[has]<;>grind⟩
    |some b=>exact⟨a,by simp[ordO] at h;simp[has];grind⟩
theorem low_has {b:Option Rat} (c:Rat):∃q,q < c∧(NS.i none b).has q=true:=by
  cases b with
  |none=>exact⟨c - 1,by grind,by simp[has]⟩
  |some b=>exact⟨min (c - 1) b,by grind,by simp[has]<;>grind⟩
theorem high_has {a:Option Rat} (c:Rat):∃q,c < q∧(NS.i a none).has q=true:=by
  cases a with
  |none=>exact⟨c+1,by grind,by simp[has]⟩
  |some a=>exact⟨max (c+1) a,by grind,by simp[has]<;>grind⟩
theorem lo_has {a:Rat} {b:Option Rat} (h:ordO (some a) b=true):(NS.i (some a) b).has a=true:=by
  cases b with
  |none=>simp[has]<;>grind
  |some b=>simp[ordO] at h;simp[has];grind
theorem hi_has {a:Option Rat} {b:Rat} (h:ordO a (some b)=true):(NS.i a (some b)).has b=true:=by
  cases a with
  |none=>simp[has]<;>grind
  |some a=>simp[ordO] at h;simp[has];grind
theorem within_iff {x y:NS} (hx:x.ok):x.within y=true↔∀q,x.has q=true→y.has q=true:=by
  cases x with
  |e=>simp[within,has]
  | i a b =>
    cases y with
    | e=>
      obtain⟨q,hq⟩:=ne_has hx
      simp only[within,has,Bool.false_eq_true,false_iff]
      exact fun h=>h q hq
    | i c d =>
      constructor
      · intro h q hq
        rw[has_i] at hq ⊢
        cases a<;>cases b<;>cases c<;>cases d<;>simp[within,lowIn,highIn] at h hq ⊢<;>grind
      · intro h
        have h1:lowIn c a=true:=by
          cases c with
          |none=>rfl
          | some c=>cases a with
            | none=>
              obtain⟨q,hc,hq⟩:=low_has (b:=b) c
              have:=has_i.1 (h q hq)
              have:=this.1 c rfl
              grind
            | some a=>
              have:=has_i.1 (h a (lo_has hx))
              have:=this.1 c rfl
              simp[lowIn,highIn];grind
        have h2:highIn d b=true:=by
          cases d with
          |none=>rfl
          | some d=>cases b with
            | none=>
              obtain⟨q,hc,hq⟩:=high_has (a:=a) d
              have:=has_i.1 (h q hq)
              have:=this.2 d rfl
              grind
            | some b=>
              have:=has_i.1 (h b (hi_has hx))
              have:=this.2 d rfl
              simp[lowIn,highIn];grind
        simp only[within,h1,h2,Bool.and_self]
theorem anti {x y:NS} (hx:x.ok) (hy:y.ok) (h1:x.within y=true) (h2:y.within x=true):x=y:=by
  cases x with
  | e=>cases y with
    |e=>rfl
    |i c d=>cases h2
  | i a b=>cases y with
    |e=>cases h1
    | i c d=>
      cases a<;>cases b<;>cases c<;>cases d<;>simp[within,lowIn,highIn] at h1 h2 ⊢<;>grind
theorem ext {x y:NS} (hx:x.ok) (hy:y.ok) (h:∀q,x.has q=y.has q):x=y:=
  anti hx hy ((within_iff hx).2 fun q k=>by rw[←h];exact k) ((within_iff hy).2 fun q k=>by rw[h];exact k)
end NS
theorem pow2_pos (p:Nat):(0:Rat) < 2^p:=Rat.pow_pos (by decide)
theorem div_le' {a b c:Rat} (hb:0 < b):a / b≤c↔a≤c*b:=by
  have:=Rat.lt_div_iff (a:=c) (b:=a) hb
  grind
theorem gdown_le (x:Rat) (p:Nat):gdown x p≤x:=by
  unfold gdown
  have h:=Rat.floor_le (x*2^p)
  rw[div_le' (pow2_pos p)]
  exact h
theorem gdown_mono {x y:Rat} (p:Nat) (h:x≤y):gdown x p≤gdown y p:=by
  unfold gdown
  have h1:x*2^p≤y*2^p:=Rat.mul_le_mul_of_nonneg_right h (Rat.le_of_lt (pow2_pos p))
  have h2:(x*2^p).floor≤(y*2^p).floor:=Rat.le_floor_iff.2 (Rat.le_trans (Rat.floor_le _) h1)
  rw[div_le' (pow2_pos p),Rat.div_mul_cancel (by have:=pow2_pos p;grind)]
  exact_mod_cast h2
theorem gup_neg (x:Rat) (p:Nat):gup (-x) p= -gdown x p:=by
  unfold gup gdown
  rw[Rat.neg_mul,Rat.ceil_eq_neg_floor_neg,Rat.neg_neg,Rat.intCast_neg,Rat.div_def,Rat.neg_mul,←Rat.div_def]
theorem gdown_neg (x:Rat) (p:Nat):gdown (-x) p= -gup x p:=by
  have:=gup_neg (-x) p
  rw[Rat.neg_neg] at this
  rw[this,Rat.neg_neg]
theorem gup_eq (x:Rat) (p:Nat):gup x p= -gdown (-x) p:=by rw[gdown_neg,Rat.neg_neg]
theorem le_gup (x:Rat) (p:Nat):x≤gup x p:=by
  have:=gdown_le (-x) p
  rw[gup_eq];grind
namespace NS
end NS
end Go.Q
namespace Go.Q
open Go.Proofs
set_option maxRecDepth 100000
set_option maxHeartbeats 8000000
def piFine (w:Nat):Bool:=Nat.ble (piH w*5) (16*2^w) && Nat.ble (piH w) (piL w+1024)
theorem piFine_all:((List.range 129).all fun i=>piFine (i+64))=true:=by decide+kernel
theorem pi_fine {w:Nat} (h1:64≤w) (h2:w≤192):piH w*5≤16*2^w∧piH w≤piL w+1024:=by
  have h:=List.all_eq_true.1 piFine_all (w - 64) (List.mem_range.2 (by omega))
  rw[show w - 64+64=w by omega] at h
  simpa[piFine] using h
def fW (w:Nat):Rat:=sgn false (piL w) (2^(w+1))
def gW (w:Nat):Rat:=sgn false (piH w) (2^(w+1))
theorem sgn_u (n w:Nat):sgn false n (2^w)*((2^w:Nat):Rat)=(n:Rat):=by
  have hd:((2^w:Nat):Rat)≠0:=by exact_mod_cast pow2_ne w
  unfold sgn
  rw[Rat.mkRat_eq_div]
  show((n:Int):Rat) / ((2^w:Nat):Rat)*((2^w:Nat):Rat)=_
  rw[Rat.div_mul_cancel hd]
  rfl
theorem u_pos (w:Nat):(0:Rat) < ((2^w:Nat):Rat):=by exact_mod_cast Nat.pow_pos (by decide)
theorem fW_bd {w:Nat} (h1:64≤w) (h2:w≤192):3 / 2≤fW w∧fW w≤gW w∧gW w≤8 / 5∧(gW w - fW w)*18014398509481984≤1:=by
  obtain⟨a1,a2,a3⟩:=piL_ge (w:=w) (by omega) h2
  obtain⟨a4,a5⟩:=pi_fine h1 h2
  have e1:=sgn_u (piL w) (w+1)
  have e2:=sgn_u (piH w) (w+1)
  have hp:=u_pos (w+1)
  have eu:((2^(w+1):Nat):Rat)=((2^w:Nat):Rat)*2:=by rw[Nat.pow_succ];push_cast;rfl
  have b1:(3:Rat)*((2^w:Nat):Rat)≤(piL w:Rat):=by exact_mod_cast a1
  have b2:(piL w:Rat)≤(piH w:Rat):=by exact_mod_cast Nat.le_of_lt a2
  have b3:(piH w:Rat)*5≤16*((2^w:Nat):Rat):=by exact_mod_cast a4
  have b4:(piH w:Rat)≤(piL w:Rat)+1024:=by exact_mod_cast a5
  have b5:(18446744073709551616:Rat)≤((2^w:Nat):Rat):=by
    have:2^64≤2^w:=Nat.pow_le_pow_right (by decide) h1
    exact_mod_cast this
  unfold fW gW
  generalize sgn false (piL w) (2^(w+1))=f at*
  generalize sgn false (piH w) (2^(w+1))=g at*
  rw[←e1] at b1 b2 b4
  rw[←e2] at b2 b3 b4
  rw[eu] at e1 e2 b1 b2 b3 b4 hp
  generalize((2^w:Nat):Rat)=u at*
  clear e1 e2 eu a1 a2 a3 a4 a5
  have hu:(0:Rat) < u:=by grind
  refine⟨?_,?_,?_,?_⟩
  · exact Rat.le_of_mul_le_mul_right (by grind) hu
  · exact Rat.le_of_mul_le_mul_right (by grind) hp
  · exact Rat.le_of_mul_le_mul_right (by grind) hp
  · have:(g - f)*(u*2)≤1024:=by grind
    have h0:0≤g - f:=by
      have:f≤g:=Rat.le_of_mul_le_mul_right (by grind) hp
      grind
    have:=Rat.mul_le_mul_of_nonneg_left b5 h0
    grind
def rsK (x:Rat) (w:Nat):Int:=(x*(fW w)⁻¹+1 / 2).floor
def rsA (x:Rat) (w:Nat):Rat:=gdown (x+ -((rsK x w:Rat)*(if rsK x w < 0 then fW w else gW w))) w
def rsB (x:Rat) (w:Nat):Rat:=gup (x+ -((rsK x w:Rat)*(if rsK x w < 0 then gW w else fW w))) w
theorem rsK_bd {x:Rat} {w:Nat} (h1:64≤w) (h2:w≤192) (hx: -4294967296≤x∧x≤4294967296): -2863311532≤rsK x w∧rsK x w≤2863311532:=by
  obtain⟨a1,_,_,_⟩:=fW_bd h1 h2
  obtain⟨b1,b2⟩:=quo_bd hx a1
  have e:((2863311532:Int):Rat)=2863311532:=rfl
  exact floor_bd (c:=2863311532) (by rw[e];constructor<;>grind)
theorem gd_ge_int {x:Rat} {z:Int} {w:Nat} (h:(z:Rat)≤x):(z:Rat)≤gdown x w:=by
  have e:gdown (z:Rat) w=(z:Rat):=by
    unfold gdown
    have hp:=pow2_pos w
    rw[show(z:Rat)*2^w=((z*2^w:Int):Rat) by push_cast;rfl,Rat.floor_intCast]
    push_cast
    rw[Rat.div_def,Rat.mul_assoc,Rat.mul_inv_cancel _ (by grind),Rat.mul_one]
  rw[←e]
  exact gdown_mono w h
theorem gu_le_int {x:Rat} {z:Int} {w:Nat} (h:x≤(z:Rat)):gup x w≤(z:Rat):=by
  rw[gup_eq]
  have:=gd_ge_int (x:=-x) (z:=-z) (w:=w) (by push_cast;grind)
  push_cast at this
  grind
theorem rs_mid {x:Rat} {w:Nat} (h1:64≤w) (h2:w≤192) (hx: -4294967296≤x∧x≤4294967296):
    -1≤x+ -((rsK x w:Rat)*(if rsK x w < 0 then fW w else gW w))∧x+ -((rsK x w:Rat)*(if rsK x w < 0 then fW w else gW w))≤x+ -((rsK x w:Rat)*(if rsK x w < 0 then gW w else fW w))∧x+ -((rsK x w:Rat)*(if rsK x w < 0 then gW w else fW w))≤1:=by
  obtain⟨a1,a2,a3,a4⟩:=fW_bd h1 h2
  obtain⟨k1,k2⟩:=rsK_bd h1 h2 hx
  have l1:=Rat.floor_le (x*(fW w)⁻¹+1 / 2)
  have l2:=Rat.lt_floor_add_one (x*(fW w)⁻¹+1 / 2)
  have e:x*(fW w)⁻¹*fW w=x:=by rw[Rat.mul_assoc,Rat.inv_mul_cancel _ (by grind),Rat.mul_one]
  have k1':(-2863311532:Rat)≤(rsK x w:Rat):=Rat.intCast_le_intCast.2 k1
  have k2':(rsK x w:Rat)≤(2863311532:Rat):=Rat.intCast_le_intCast.2 k2
  have ks:rsK x w < 0↔(rsK x w:Rat) < 0:=by
    have:=@Rat.intCast_lt_intCast (rsK x w) 0
    simpa using this.symm
  unfold rsK at*
  generalize hk:(x*(fW w)⁻¹+1 / 2).floor=k at*
  clear hk
  generalize(fW w)⁻¹=i at*
  generalize fW w=f at*
  generalize gW w=g at*
  have m1:x≤((k:Rat)+1 / 2)*f:=by
    have:x*i≤(k:Rat)+1 / 2:=by grind
    have:=Rat.mul_le_mul_of_nonneg_right this (show 0≤f by grind)
    grind
  have m2:((k:Rat) - 1 / 2)*f≤x:=by
    have:(k:Rat) - 1 / 2≤x*i:=by grind
    have:=Rat.mul_le_mul_of_nonneg_right this (show 0≤f by grind)
    grind
  have d0:0≤g - f:=by grind
  clear e l1 l2
  by_cases hk:k < 0
  · have hk':=ks.1 hk
    simp only[if_pos hk]
    have n1:=Rat.mul_le_mul_of_nonneg_right k1' d0
    have n2:=Rat.mul_le_mul_of_nonneg_right (Rat.le_of_lt hk') d0
    clear ks k1 k2
    refine⟨?_,?_,?_⟩<;>grind
  · have hk':(0:Rat)≤(k:Rat):=Rat.not_lt.1 fun c=>hk (ks.2 c)
    simp only[if_neg hk]
    have n1:=Rat.mul_le_mul_of_nonneg_right k2' d0
    have n2:=Rat.mul_le_mul_of_nonneg_right hk' d0
    clear ks k1 k2
    refine⟨?_,?_,?_⟩<;>grind
theorem rs_bd {x:Rat} {w:Nat} (h1:64≤w) (h2:w≤192) (hx: -4294967296≤x∧x≤4294967296): -1≤rsA x w∧rsA x w≤rsB x w∧rsB x w≤1:=by
  obtain⟨a1,a2,a3⟩:=rs_mid h1 h2 hx
  unfold rsA rsB
  refine⟨?_,Rat.le_trans (gdown_le _ _) (Rat.le_trans a2 (le_gup _ _)),?_⟩
  · exact_mod_cast gd_ge_int (z:=-1) (w:=w) (by exact_mod_cast a1)
  · exact_mod_cast gu_le_int (z:=1) (w:=w) (by exact_mod_cast a3)
theorem q_den (q:Rat):q*(q.den:Rat)=(q.num:Rat):=by
  have hd:(q.den:Rat)≠0:=by exact_mod_cast q.den_nz
  have e:=Rat.mkRat_self q
  rw[Rat.mkRat_eq_div] at e
  generalize(q.den:Rat)=d at*
  generalize(q.num:Rat)=n at*
  rw[←e,Rat.div_mul_cancel hd]
theorem abs_num {q:Rat} (h1: -1≤q) (h2:q≤1):¬q.den < q.num.natAbs:=by
  have hd:(0:Rat) < (q.den:Rat):=by exact_mod_cast q.den_pos
  have e:=q_den q
  have m1:=Rat.mul_le_mul_of_nonneg_right h1 (Rat.le_of_lt hd)
  have m2:=Rat.mul_le_mul_of_nonneg_right h2 (Rat.le_of_lt hd)
  rw[e] at m1 m2
  have n1: -(q.den:Int)≤q.num:=by
    have:((-(q.den:Int):Int):Rat)≤(q.num:Rat):=by push_cast;grind
    exact_mod_cast this
  have n2:q.num≤(q.den:Int):=by
    have:(q.num:Rat)≤((q.den:Int):Rat):=by push_cast;grind
    exact_mod_cast this
  omega
end Go.Q
namespace Go.Q
open Go.Proofs
set_option maxRecDepth 100000
set_option maxHeartbeats 8000000
def rtw (q:Rat) (n p:Nat):Nat:=q.num.natAbs*2^(p*n) / q.den
def rtx (q:Rat) (n p:Nat):Bool:=decide (irt n (rtw q n p)^n=rtw q n p) && decide (q.num.natAbs*2^(p*n) % q.den=0)
def rtm (up:Bool) (q:Rat) (n p:Nat):Nat:=if (up != decide (q.num < 0))=true∧rtx q n p=false then irt n (rtw q n p)+1 else irt n (rtw q n p)
def rootg (up:Bool) (q:Rat) (n p:Nat):Rat:=sgn (decide (q.num < 0)) (rtm up q n p) (2^p)
theorem irt_bl {n a k:Nat} (hn:n≠0) (h:bl a≤n*k):bl (irt n a)≤k:=by
  have h1:a < 2^bl a:=bl_le.1 (Nat.le_refl _)
  have h2:(2:Nat)^bl a≤2^(n*k):=Nat.pow_le_pow_right (by decide) h
  exact bl_le.2 (irt_lt_pow hn (Nat.lt_of_lt_of_le h1 h2))
theorem rtw_bl {q:Rat} {n p:Nat} (hs:sz q≤2048) (hn:2≤n):bl (rtw q n p)≤n*(1024+p):=by
  have h1:=bl_div_le (q.num.natAbs*2^(p*n)) q.den
  have h2:=bl_shl q.num.natAbs (p*n)
  have h3:=sz_num q
  have h4:2*1024≤n*1024:=Nat.mul_le_mul_right _ hn
  have h5:n*(1024+p)=n*1024+p*n:=by rw[Nat.mul_add,Nat.mul_comm n p]
  unfold rtw
  omega
theorem rtm_bl {up:Bool} {q:Rat} {n p:Nat} (hs:sz q≤2048) (hn:2≤n):bl (rtm up q n p)≤1025+p:=by
  have h1:=irt_bl (n:=n) (by omega) (rtw_bl (p:=p) hs hn)
  unfold rtm
  split
  · have h2:=bl_add (irt n (rtw q n p)) 1
    rw[bl_one] at h2
    omega
  · omega
theorem rootg_sz {up:Bool} {q:Rat} {n p:Nat} (hs:sz q≤2048) (hn:2≤n) (hp:p≤256):sz (rootg up q n p)≤2048:=by
  have h1:=sz_sgn (decide (q.num < 0)) (rtm up q n p) (d:=2^p) (Nat.ne_of_gt (Nat.pow_pos (by decide)))
  have h2:=rtm_bl (up:=up) (p:=p) hs hn
  have h3:=bl_pow2 p
  unfold rootg
  omega
end Go.Q
namespace Go.Q
open Go.Proofs
set_option maxRecDepth 100000
set_option maxHeartbeats 8000000
theorem root_pos {h0 h:PH} [Le h0 h] {v:Value} {neg:Bool} {a d n p:Nat} {u:Bool} (hv:Rw h0 v neg a d) (hl:¬lg neg a d) (hn:2≤n) (hn8:n≤8) (hp:p≤256) (hd:¬((qof neg a d).num < 0∧n % 2=0)) (en:decide ((qof neg a d).num < 0)=false):
    Spec mach 175 #[v,.int .i64 n,.int .i64 p,.bool u] h (fun r h'=>∃w,r=.tuple #[w,.int .i64 0]∧Cn h' w (rootg u (qof neg a d) n p)) NP:=by
  have kR:=fun {h} [Le h0 h]=>Read_ok (h:=h) hv hl
  have hz:sz (qof neg a d)≤2048:=by unfold Go.Q.lg at hl;omega
  obtain⟨_,_,_,_,_,_,_,rfl,_⟩:=hv.sa
  generalize qof neg a d=x at*
  have b1:=sz_num x
  have b2:=sz_den x
  have hpn:p*n≤2048:=Nat.mul_le_mul hp hn8
  have b3:=bl_shl x.num.natAbs (p*n)
  have bw:=rtw_bl (p:=p) hz hn
  have bw':n*(1024+p)≤8*1280:=Nat.mul_le_mul hn8 (by omega)
  have bi:=irt_bl (n:=n) (by omega) bw
  have bi2:=bl_add (irt n (rtw x n p)) 1
  rw[bl_one] at bi2
  have b6:=bl_pow2 p
  have b0:=bl_one
  have hsz:=rootg_sz (up:=u) (p:=p) hz hn hp
  have m1:¬(n:Int) < 2:=by omega
  have m2:¬(8:Int) < n:=by omega
  have m3:¬(p:Int) < 0:=by omega
  have m4:¬(256:Int) < p:=by omega
  have hr:rootg u x n p=sgn (decide (x.num < 0)) (rtm u x n p) (2^p):=rfl
  have hm:rtm u x n p=if (u != decide (x.num < 0))=true∧rtx x n p=false then irt n (rtw x n p)+1 else irt n (rtw x n p):=rfl
  have hx0:rtx x n p=(decide (irt n (rtw x n p)^n=rtw x n p) && decide (x.num.natAbs*2^(p*n) % x.den=0)):=rfl
  have hw0:x.num.natAbs*2^(p*n) / x.den=rtw x n p:=rfl
  have hdn:=x.den_nz
  have b4:bl (x.num.natAbs*2^(p*n))≤8192:=by omega
  generalize hk:p*n=k at*
  have kS:=fun {h1 h:PH} [Le h1 h] {v:Value} (y:N32 h1 v x.num.natAbs)=>Shl_spec (h:=h) (n:=k) y (by omega)
  have kD:=fun {h1 h:PH} [Le h1 h] {v w:Value} (y:N32 h1 v (x.num.natAbs*2^k)) (l:N32 h1 w x.den)=>Div_spec (h:=h) y l hdn (by omega) (by omega)
  rw[hw0] at kD
  have hbw:bl (rtw x n p)≤2^20:=by omega
  have hi1:bl (irt n (rtw x n p))≤2^38:=by omega
  have hi2:bl (irt n (rtw x n p)+1)≤2^38:=by omega
  have hp2:bl (2^p)≤2^38:=by omega
  have hb1:bl 1≤1:=by omega
  clear b0 b1 b2 b3 b4 b6 bw bw' bi bi2 hz hw0
  rw[en] at hr hm
  cases u with
  | false=>
    generalize eB:decide (irt n (rtw x n p)^n=rtw x n p)=B
    have hr0:rootg false x n p=sgn false (irt n (rtw x n p)) (2^p):=by rw[hr,hm,if_neg (by intro k;cases k.1)]
    clear hm hr hx0
    refine Spec.go [(8,.o [0,1,2,3,4,6,7,5,8,9,10,11,12,13]),(12,.o [0,1,2,4,3,5,6,7,8,9,10,11])] Tryz.func175 rfl rfl (by kernel_rfl) fun C _=>?_
    try simp(disch:=omega) only[go_sem,Nat.reduceBEq,Nat.reduceAdd]
    refine caN (by exact kR) ?_;rintro v1 h1 s1 ⟨f,rfl,hf⟩;obtain⟨na,nl,nc,da,dl,dc,rfl,hnn,hdd⟩:=hf.sl
    try simp(disch:=omega) only[go_sem,Nat.reduceBEq,Nat.reduceAdd]
    rw[en]
    try simp(disch:=omega) only[go_sem,Nat.reduceBEq,Nat.reduceAdd]
    rw[hk]
    refine caN (by exact kS hnn) ?_;rintro v2 h2 s2 q2
    try simp(disch:=omega) only[go_sem,Nat.reduceBEq,Nat.reduceAdd]
    refine caN (by exact kD q2 (hdd.to (h':=h2))) ?_;rintro v3 h3 s3 ⟨q,r,rfl,hq,hr⟩
    try simp(disch:=omega) only[go_sem,Nat.reduceBEq,Nat.reduceAdd]
    refine caN (by exact NRoot_spec (n:=n) hq hn hn8 (by omega)) ?_;rintro v4 h4 s4 ⟨t,rfl,ht⟩
    try simp(disch:=omega) only[go_sem,Nat.reduceBEq,Nat.reduceAdd]
    rw[eB]
    try simp(disch:=omega) only[go_sem,Nat.reduceBEq,Nat.reduceAdd]
    refine caN (by exact Small_spec (n:=1) (by decide)) ?_;rintro _ g1 _ t1;obtain⟨_,_,_,rfl,t1⟩:=t1.sl
    try simp(disch:=omega) only[go_sem,Nat.reduceBEq,Nat.reduceAdd]
    refine caN (by exact Shl_spec (n:=p) t1 (by omega)) ?_;rintro _ g2 _ t2;obtain⟨_,_,_,rfl,t2⟩:=t2.sl
    try simp(disch:=omega) only[go_sem,Nat.reduceBEq,Nat.reduceAdd]
    rw[Nat.one_mul] at t2
    refine caN (by exact Reduce_spec (neg:=false) (ht.to (h':=g2)) t2 (Nat.ne_of_gt (Nat.pow_pos (by decide))) (by omega) (by omega)) ?_;rintro _ g3 _ t3;obtain⟨_,_,_,_,_,_,_,rfl,t3⟩:=t3.sa
    try simp(disch:=omega) only[go_sem,Nat.reduceBEq,Nat.reduceAdd]
    rw[←hr0] at t3
    refine caN (by exact Give_ok t3 hsz) ?_;rintro w4 g4 s4' ⟨z,rfl,hz4⟩;obtain⟨_,_,_,_,_,_,_,rfl,hz5⟩:=hz4.sa
    try simp(disch:=omega) only[go_sem,Nat.reduceBEq,Nat.reduceAdd]
    exact⟨_,rfl,hz5⟩
  | true=>
    cases eB:decide (irt n (rtw x n p)^n=rtw x n p) with
    | false=>
      have hr0:rootg true x n p=sgn false (irt n (rtw x n p)+1) (2^p):=by rw[hr,hm,if_pos ⟨rfl,by rw[hx0,eB];rfl⟩]
      clear hm hr hx0
      refine Spec.go [(8,.o [0,1,2,3,4,6,7,5,8,9,10,11,12,13]),(12,.o [0,1,2,4,3,5,6,7,8,9,10,11])] Tryz.func175 rfl rfl (by kernel_rfl) fun C _=>?_
      try simp(disch:=omega) only[go_sem,Nat.reduceBEq,Nat.reduceAdd]
      refine caN (by exact kR) ?_;rintro v1 h1 s1 ⟨f,rfl,hf⟩;obtain⟨na,nl,nc,da,dl,dc,rfl,hnn,hdd⟩:=hf.sl
      try simp(disch:=omega) only[go_sem,Nat.reduceBEq,Nat.reduceAdd]
      rw[en]
      try simp(disch:=omega) only[go_sem,Nat.reduceBEq,Nat.reduceAdd]
      rw[hk]
      refine caN (by exact kS hnn) ?_;rintro v2 h2 s2 q2
      try simp(disch:=omega) only[go_sem,Nat.reduceBEq,Nat.reduceAdd]
      refine caN (by exact kD q2 (hdd.to (h':=h2))) ?_;rintro v3 h3 s3 ⟨q,r,rfl,hq,hr⟩
      try simp(disch:=omega) only[go_sem,Nat.reduceBEq,Nat.reduceAdd]
      refine caN (by exact NRoot_spec (n:=n) hq hn hn8 (by omega)) ?_;rintro v4 h4 s4 ⟨t,rfl,ht⟩
      try simp(disch:=omega) only[go_sem,Nat.reduceBEq,Nat.reduceAdd]
      rw[eB]
      try simp(disch:=omega) only[go_sem,Nat.reduceBEq,Nat.reduceAdd]
      refine caN (by exact Small_spec (n:=1) (by decide)) ?_;rintro _ k1 _ y1;obtain⟨_,_,_,rfl,y1⟩:=y1.sl
      try simp(disch:=omega) only[go_sem,Nat.reduceBEq,Nat.reduceAdd]
      refine caN (by exact Add_spec (ht.to (h':=k1)) y1 (by omega) (by omega)) ?_;rintro _ k2 _ y2;obtain⟨_,_,_,rfl,y2⟩:=y2.sl
      try simp(disch:=omega) only[go_sem,Nat.reduceBEq,Nat.reduceAdd]
      refine caN (by exact Small_spec (n:=1) (by decide)) ?_;rintro _ g1 _ t1;obtain⟨_,_,_,rfl,t1⟩:=t1.sl
      try simp(disch:=omega) only[go_sem,Nat.reduceBEq,Nat.reduceAdd]
      refine caN (by exact Shl_spec (n:=p) t1 (by omega)) ?_;rintro _ g2 _ t2;obtain⟨_,_,_,rfl,t2⟩:=t2.sl
      try simp(disch:=omega) only[go_sem,Nat.reduceBEq,Nat.reduceAdd]
      rw[Nat.one_mul] at t2
      refine caN (by exact Reduce_spec (neg:=false) (y2.to (h':=g2)) t2 (Nat.ne_of_gt (Nat.pow_pos (by decide))) (by omega) (by omega)) ?_;rintro _ g3 _ t3;obtain⟨_,_,_,_,_,_,_,rfl,t3⟩:=t3.sa
      try simp(disch:=omega) only[go_sem,Nat.reduceBEq,Nat.reduceAdd]
      rw[←hr0] at t3
      refine caN (by exact Give_ok t3 hsz) ?_;rintro w4 g4 s4' ⟨z,rfl,hz4⟩;obtain⟨_,_,_,_,_,_,_,rfl,hz5⟩:=hz4.sa
      try simp(disch:=omega) only[go_sem,Nat.reduceBEq,Nat.reduceAdd]
      exact⟨_,rfl,hz5⟩
    | true=>
      by_cases hrm:x.num.natAbs*2^k % x.den=0
      · have hr0:rootg true x n p=sgn false (irt n (rtw x n p)) (2^p):=by rw[hr,hm,if_neg (by rw[hx0,eB,decide_eq_true hrm];intro k;cases k.2)]
        clear hm hr hx0
        refine Spec.go [(8,.o [0,1,2,3,4,6,7,5,8,9,10,11,12,13]),(12,.o [0,1,2,4,3,5,6,7,8,9,10,11])] Tryz.func175 rfl rfl (by kernel_rfl) fun C _=>?_
        try simp(disch:=omega) only[go_sem,Nat.reduceBEq,Nat.reduceAdd]
        refine caN (by exact kR) ?_;rintro v1 h1 s1 ⟨f,rfl,hf⟩;obtain⟨na,nl,nc,da,dl,dc,rfl,hnn,hdd⟩:=hf.sl
        try simp(disch:=omega) only[go_sem,Nat.reduceBEq,Nat.reduceAdd]
        rw[en]
        try simp(disch:=omega) only[go_sem,Nat.reduceBEq,Nat.reduceAdd]
        rw[hk]
        refine caN (by exact kS hnn) ?_;rintro v2 h2 s2 q2
        try simp(disch:=omega) only[go_sem,Nat.reduceBEq,Nat.reduceAdd]
        refine caN (by exact kD q2 (hdd.to (h':=h2))) ?_;rintro v3 h3 s3 ⟨q,r,rfl,hq,hr⟩
        try simp(disch:=omega) only[go_sem,Nat.reduceBEq,Nat.reduceAdd]
        refine caN (by exact NRoot_spec (n:=n) hq hn hn8 (by omega)) ?_;rintro v4 h4 s4 ⟨t,rfl,ht⟩
        try simp(disch:=omega) only[go_sem,Nat.reduceBEq,Nat.reduceAdd]
        rw[eB]
        try simp(disch:=omega) only[go_sem,Nat.reduceBEq,Nat.reduceAdd]
        refine caN (by exact Zero_spec (hr.to (h':=h4))) ?_;rintro v5 h5 s5 rfl
        try simp(disch:=omega) only[go_sem,Nat.reduceBEq,Nat.reduceAdd]
        refine caN (by exact Small_spec (n:=1) (by decide)) ?_;rintro _ g1 _ t1;obtain⟨_,_,_,rfl,t1⟩:=t1.sl
        try simp(disch:=omega) only[go_sem,Nat.reduceBEq,Nat.reduceAdd]
        refine caN (by exact Shl_spec (n:=p) t1 (by omega)) ?_;rintro _ g2 _ t2;obtain⟨_,_,_,rfl,t2⟩:=t2.sl
        try simp(disch:=omega) only[go_sem,Nat.reduceBEq,Nat.reduceAdd]
        rw[Nat.one_mul] at t2
        refine caN (by exact Reduce_spec (neg:=false) (ht.to (h':=g2)) t2 (Nat.ne_of_gt (Nat.pow_pos (by decide))) (by omega) (by omega)) ?_;rintro _ g3 _ t3;obtain⟨_,_,_,_,_,_,_,rfl,t3⟩:=t3.sa
        try simp(disch:=omega) only[go_sem,Nat.reduceBEq,Nat.reduceAdd]
        rw[←hr0] at t3
        refine caN (by exact Give_ok t3 hsz) ?_;rintro w4 g4 s4' ⟨z,rfl,hz4⟩;obtain⟨_,_,_,_,_,_,_,rfl,hz5⟩:=hz4.sa
        try simp(disch:=omega) only[go_sem,Nat.reduceBEq,Nat.reduceAdd]
        exact⟨_,rfl,hz5⟩
      · have hr0:rootg true x n p=sgn false (irt n (rtw x n p)+1) (2^p):=by rw[hr,hm,if_pos ⟨rfl,by rw[hx0,eB,decide_eq_false hrm];rfl⟩]
        clear hm hr hx0
        refine Spec.go [(8,.o [0,1,2,3,4,6,7,5,8,9,10,11,12,13]),(12,.o [0,1,2,4,3,5,6,7,8,9,10,11])] Tryz.func175 rfl rfl (by kernel_rfl) fun C _=>?_
        try simp(disch:=omega) only[go_sem,Nat.reduceBEq,Nat.reduceAdd]
        refine caN (by exact kR) ?_;rintro v1 h1 s1 ⟨f,rfl,hf⟩;obtain⟨na,nl,nc,da,dl,dc,rfl,hnn,hdd⟩:=hf.sl
        try simp(disch:=omega) only[go_sem,Nat.reduceBEq,Nat.reduceAdd]
        rw[en]
        try simp(disch:=omega) only[go_sem,Nat.reduceBEq,Nat.reduceAdd]
        rw[hk]
        refine caN (by exact kS hnn) ?_;rintro v2 h2 s2 q2
        try simp(disch:=omega) only[go_sem,Nat.reduceBEq,Nat.reduceAdd]
        refine caN (by exact kD q2 (hdd.to (h':=h2))) ?_;rintro v3 h3 s3 ⟨q,r,rfl,hq,hr⟩
        try simp(disch:=omega) only[go_sem,Nat.reduceBEq,Nat.reduceAdd]
        refine caN (by exact NRoot_spec (n:=n) hq hn hn8 (by omega)) ?_;rintro v4 h4 s4 ⟨t,rfl,ht⟩
        try simp(disch:=omega) only[go_sem,Nat.reduceBEq,Nat.reduceAdd]
        rw[eB]
        try simp(disch:=omega) only[go_sem,Nat.reduceBEq,Nat.reduceAdd]
        refine caN (by exact Zero_spec (hr.to (h':=h4))) ?_;rintro v5 h5 s5 rfl
        try simp(disch:=omega) only[go_sem,Nat.reduceBEq,Nat.reduceAdd]
        refine caN (by exact Small_spec (n:=1) (by decide)) ?_;rintro _ k1 _ y1;obtain⟨_,_,_,rfl,y1⟩:=y1.sl
        try simp(disch:=omega) only[go_sem,Nat.reduceBEq,Nat.reduceAdd]
        refine caN (by exact Add_spec (ht.to (h':=k1)) y1 (by omega) (by omega)) ?_;rintro _ k2 _ y2;obtain⟨_,_,_,rfl,y2⟩:=y2.sl
        try simp(disch:=omega) only[go_sem,Nat.reduceBEq,Nat.reduceAdd]
        refine caN (by exact Small_spec (n:=1) (by decide)) ?_;rintro _ g1 _ t1;obtain⟨_,_,_,rfl,t1⟩:=t1.sl
        try simp(disch:=omega) only[go_sem,Nat.reduceBEq,Nat.reduceAdd]
        refine caN (by exact Shl_spec (n:=p) t1 (by omega)) ?_;rintro _ g2 _ t2;obtain⟨_,_,_,rfl,t2⟩:=t2.sl
        try simp(disch:=omega) only[go_sem,Nat.reduceBEq,Nat.reduceAdd]
        rw[Nat.one_mul] at t2
        refine caN (by exact Reduce_spec (neg:=false) (y2.to (h':=g2)) t2 (Nat.ne_of_gt (Nat.pow_pos (by decide))) (by omega) (by omega)) ?_;rintro _ g3 _ t3;obtain⟨_,_,_,_,_,_,_,rfl,t3⟩:=t3.sa
        try simp(disch:=omega) only[go_sem,Nat.reduceBEq,Nat.reduceAdd]
        rw[←hr0] at t3
        refine caN (by exact Give_ok t3 hsz) ?_;rintro w4 g4 s4' ⟨z,rfl,hz4⟩;obtain⟨_,_,_,_,_,_,_,rfl,hz5⟩:=hz4.sa
        try simp(disch:=omega) only[go_sem,Nat.reduceBEq,Nat.reduceAdd]
        exact⟨_,rfl,hz5⟩
end Go.Q
namespace Go.Q
open Go.Proofs
set_option maxRecDepth 100000
set_option maxHeartbeats 8000000
theorem root_neg {h0 h:PH} [Le h0 h] {v:Value} {neg:Bool} {a d n p:Nat} {u:Bool} (hv:Rw h0 v neg a d) (hl:¬lg neg a d) (hn:2≤n) (hn8:n≤8) (hp:p≤256) (hd:¬((qof neg a d).num < 0∧n % 2=0)) (en:decide ((qof neg a d).num < 0)=true):
    Spec mach 175 #[v,.int .i64 n,.int .i64 p,.bool u] h (fun r h'=>∃w,r=.tuple #[w,.int .i64 0]∧Cn h' w (rootg u (qof neg a d) n p)) NP:=by
  have kR:=fun {h} [Le h0 h]=>Read_ok (h:=h) hv hl
  have hz:sz (qof neg a d)≤2048:=by unfold Go.Q.lg at hl;omega
  obtain⟨_,_,_,_,_,_,_,rfl,_⟩:=hv.sa
  generalize qof neg a d=x at*
  have b1:=sz_num x
  have b2:=sz_den x
  have hpn:p*n≤2048:=Nat.mul_le_mul hp hn8
  have b3:=bl_shl x.num.natAbs (p*n)
  have bw:=rtw_bl (p:=p) hz hn
  have bw':n*(1024+p)≤8*1280:=Nat.mul_le_mul hn8 (by omega)
  have bi:=irt_bl (n:=n) (by omega) bw
  have bi2:=bl_add (irt n (rtw x n p)) 1
  rw[bl_one] at bi2
  have b6:=bl_pow2 p
  have b0:=bl_one
  have hsz:=rootg_sz (up:=u) (p:=p) hz hn hp
  have m1:¬(n:Int) < 2:=by omega
  have m2:¬(8:Int) < n:=by omega
  have m3:¬(p:Int) < 0:=by omega
  have m4:¬(256:Int) < p:=by omega
  have hr:rootg u x n p=sgn (decide (x.num < 0)) (rtm u x n p) (2^p):=rfl
  have hm:rtm u x n p=if (u != decide (x.num < 0))=true∧rtx x n p=false then irt n (rtw x n p)+1 else irt n (rtw x n p):=rfl
  have hx0:rtx x n p=(decide (irt n (rtw x n p)^n=rtw x n p) && decide (x.num.natAbs*2^(p*n) % x.den=0)):=rfl
  have hw0:x.num.natAbs*2^(p*n) / x.den=rtw x n p:=rfl
  have hdn:=x.den_nz
  have b4:bl (x.num.natAbs*2^(p*n))≤8192:=by omega
  generalize hk:p*n=k at*
  have kS:=fun {h1 h:PH} [Le h1 h] {v:Value} (y:N32 h1 v x.num.natAbs)=>Shl_spec (h:=h) (n:=k) y (by omega)
  have kD:=fun {h1 h:PH} [Le h1 h] {v w:Value} (y:N32 h1 v (x.num.natAbs*2^k)) (l:N32 h1 w x.den)=>Div_spec (h:=h) y l hdn (by omega) (by omega)
  rw[hw0] at kD
  have hbw:bl (rtw x n p)≤2^20:=by omega
  have hi1:bl (irt n (rtw x n p))≤2^38:=by omega
  have hi2:bl (irt n (rtw x n p)+1)≤2^38:=by omega
  have hp2:bl (2^p)≤2^38:=by omega
  have hb1:bl 1≤1:=by omega
  clear b0 b1 b2 b3 b4 b6 bw bw' bi bi2 hz hw0
  rw[en] at hr hm
  have hodd:n % 2=1:=by
    have:x.num < 0:=of_decide_eq_true en
    have:=fun k=>hd ⟨this,k⟩
    omega
  cases u with
  | false=>
    cases eB:decide (irt n (rtw x n p)^n=rtw x n p) with
    | false=>
      have hr0:rootg false x n p=sgn true (irt n (rtw x n p)+1) (2^p):=by rw[hr,hm,if_pos ⟨rfl,by rw[hx0,eB];rfl⟩]
      clear hm hr hx0
      refine Spec.go [(8,.o [0,1,2,3,4,6,7,5,8,9,10,11,12,13]),(12,.o [0,1,2,4,3,5,6,7,8,9,10,11])] Tryz.func175 rfl rfl (by kernel_rfl) fun C _=>?_
      try simp(disch:=omega) only[go_sem,Nat.reduceBEq,Nat.reduceAdd]
      refine caN (by exact kR) ?_;rintro v1 h1 s1 ⟨f,rfl,hf⟩;obtain⟨na,nl,nc,da,dl,dc,rfl,hnn,hdd⟩:=hf.sl
      try simp(disch:=omega) only[go_sem,Nat.reduceBEq,Nat.reduceAdd]
      rw[en]
      try simp(disch:=omega) only[go_sem,Nat.reduceBEq,Nat.reduceAdd]
      rw[hk]
      refine caN (by exact kS hnn) ?_;rintro v2 h2 s2 q2
      try simp(disch:=omega) only[go_sem,Nat.reduceBEq,Nat.reduceAdd]
      refine caN (by exact kD q2 (hdd.to (h':=h2))) ?_;rintro v3 h3 s3 ⟨q,r,rfl,hq,hr⟩
      try simp(disch:=omega) only[go_sem,Nat.reduceBEq,Nat.reduceAdd]
      refine caN (by exact NRoot_spec (n:=n) hq hn hn8 (by omega)) ?_;rintro v4 h4 s4 ⟨t,rfl,ht⟩
      try simp(disch:=omega) only[go_sem,Nat.reduceBEq,Nat.reduceAdd]
      rw[eB]
      try simp(disch:=omega) only[go_sem,Nat.reduceBEq,Nat.reduceAdd]
      refine caN (by exact Small_spec (n:=1) (by decide)) ?_;rintro _ k1 _ y1;obtain⟨_,_,_,rfl,y1⟩:=y1.sl
      try simp(disch:=omega) only[go_sem,Nat.reduceBEq,Nat.reduceAdd]
      refine caN (by exact Add_spec (ht.to (h':=k1)) y1 (by omega) (by omega)) ?_;rintro _ k2 _ y2;obtain⟨_,_,_,rfl,y2⟩:=y2.sl
      try simp(disch:=omega) only[go_sem,Nat.reduceBEq,Nat.reduceAdd]
      refine caN (by exact Small_spec (n:=1) (by decide)) ?_;rintro _ g1 _ t1;obtain⟨_,_,_,rfl,t1⟩:=t1.sl
      try simp(disch:=omega) only[go_sem,Nat.reduceBEq,Nat.reduceAdd]
      refine caN (by exact Shl_spec (n:=p) t1 (by omega)) ?_;rintro _ g2 _ t2;obtain⟨_,_,_,rfl,t2⟩:=t2.sl
      try simp(disch:=omega) only[go_sem,Nat.reduceBEq,Nat.reduceAdd]
      rw[Nat.one_mul] at t2
      refine caN (by exact Reduce_spec (neg:=true) (y2.to (h':=g2)) t2 (Nat.ne_of_gt (Nat.pow_pos (by decide))) (by omega) (by omega)) ?_;rintro _ g3 _ t3;obtain⟨_,_,_,_,_,_,_,rfl,t3⟩:=t3.sa
      try simp(disch:=omega) only[go_sem,Nat.reduceBEq,Nat.reduceAdd]
      rw[←hr0] at t3
      refine caN (by exact Give_ok t3 hsz) ?_;rintro w4 g4 s4' ⟨z,rfl,hz4⟩;obtain⟨_,_,_,_,_,_,_,rfl,hz5⟩:=hz4.sa
      try simp(disch:=omega) only[go_sem,Nat.reduceBEq,Nat.reduceAdd]
      exact⟨_,rfl,hz5⟩
    | true=>
      by_cases hrm:x.num.natAbs*2^k % x.den=0
      · have hr0:rootg false x n p=sgn true (irt n (rtw x n p)) (2^p):=by rw[hr,hm,if_neg (by rw[hx0,eB,decide_eq_true hrm];intro k;cases k.2)]
        clear hm hr hx0
        refine Spec.go [(8,.o [0,1,2,3,4,6,7,5,8,9,10,11,12,13]),(12,.o [0,1,2,4,3,5,6,7,8,9,10,11])] Tryz.func175 rfl rfl (by kernel_rfl) fun C _=>?_
        try simp(disch:=omega) only[go_sem,Nat.reduceBEq,Nat.reduceAdd]
        refine caN (by exact kR) ?_;rintro v1 h1 s1 ⟨f,rfl,hf⟩;obtain⟨na,nl,nc,da,dl,dc,rfl,hnn,hdd⟩:=hf.sl
        try simp(disch:=omega) only[go_sem,Nat.reduceBEq,Nat.reduceAdd]
        rw[en]
        try simp(disch:=omega) only[go_sem,Nat.reduceBEq,Nat.reduceAdd]
        rw[hk]
        refine caN (by exact kS hnn) ?_;rintro v2 h2 s2 q2
        try simp(disch:=omega) only[go_sem,Nat.reduceBEq,Nat.reduceAdd]
        refine caN (by exact kD q2 (hdd.to (h':=h2))) ?_;rintro v3 h3 s3 ⟨q,r,rfl,hq,hr⟩
        try simp(disch:=omega) only[go_sem,Nat.reduceBEq,Nat.reduceAdd]
        refine caN (by exact NRoot_spec (n:=n) hq hn hn8 (by omega)) ?_;rintro v4 h4 s4 ⟨t,rfl,ht⟩
        try simp(disch:=omega) only[go_sem,Nat.reduceBEq,Nat.reduceAdd]
        rw[eB]
        try simp(disch:=omega) only[go_sem,Nat.reduceBEq,Nat.reduceAdd]
        refine caN (by exact Zero_spec (hr.to (h':=h4))) ?_;rintro v5 h5 s5 rfl
        try simp(disch:=omega) only[go_sem,Nat.reduceBEq,Nat.reduceAdd]
        refine caN (by exact Small_spec (n:=1) (by decide)) ?_;rintro _ g1 _ t1;obtain⟨_,_,_,rfl,t1⟩:=t1.sl
        try simp(disch:=omega) only[go_sem,Nat.reduceBEq,Nat.reduceAdd]
        refine caN (by exact Shl_spec (n:=p) t1 (by omega)) ?_;rintro _ g2 _ t2;obtain⟨_,_,_,rfl,t2⟩:=t2.sl
        try simp(disch:=omega) only[go_sem,Nat.reduceBEq,Nat.reduceAdd]
        rw[Nat.one_mul] at t2
        refine caN (by exact Reduce_spec (neg:=true) (ht.to (h':=g2)) t2 (Nat.ne_of_gt (Nat.pow_pos (by decide))) (by omega) (by omega)) ?_;rintro _ g3 _ t3;obtain⟨_,_,_,_,_,_,_,rfl,t3⟩:=t3.sa
        try simp(disch:=omega) only[go_sem,Nat.reduceBEq,Nat.reduceAdd]
        rw[←hr0] at t3
        refine caN (by exact Give_ok t3 hsz) ?_;rintro w4 g4 s4' ⟨z,rfl,hz4⟩;obtain⟨_,_,_,_,_,_,_,rfl,hz5⟩:=hz4.sa
        try simp(disch:=omega) only[go_sem,Nat.reduceBEq,Nat.reduceAdd]
        exact⟨_,rfl,hz5⟩
      · have hr0:rootg false x n p=sgn true (irt n (rtw x n p)+1) (2^p):=by rw[hr,hm,if_pos ⟨rfl,by rw[hx0,eB,decide_eq_false hrm];rfl⟩]
        clear hm hr hx0
        refine Spec.go [(8,.o [0,1,2,3,4,6,7,5,8,9,10,11,12,13]),(12,.o [0,1,2,4,3,5,6,7,8,9,10,11])] Tryz.func175 rfl rfl (by kernel_rfl) fun C _=>?_
        try simp(disch:=omega) only[go_sem,Nat.reduceBEq,Nat.reduceAdd]
        refine caN (by exact kR) ?_;rintro v1 h1 s1 ⟨f,rfl,hf⟩;obtain⟨na,nl,nc,da,dl,dc,rfl,hnn,hdd⟩:=hf.sl
        try simp(disch:=omega) only[go_sem,Nat.reduceBEq,Nat.reduceAdd]
        rw[en]
        try simp(disch:=omega) only[go_sem,Nat.reduceBEq,Nat.reduceAdd]
        rw[hk]
        refine caN (by exact kS hnn) ?_;rintro v2 h2 s2 q2
        try simp(disch:=omega) only[go_sem,Nat.reduceBEq,Nat.reduceAdd]
        refine caN (by exact kD q2 (hdd.to (h':=h2))) ?_;rintro v3 h3 s3 ⟨q,r,rfl,hq,hr⟩
        try simp(disch:=omega) only[go_sem,Nat.reduceBEq,Nat.reduceAdd]
        refine caN (by exact NRoot_spec (n:=n) hq hn hn8 (by omega)) ?_;rintro v4 h4 s4 ⟨t,rfl,ht⟩
        try simp(disch:=omega) only[go_sem,Nat.reduceBEq,Nat.reduceAdd]
        rw[eB]
        try simp(disch:=omega) only[go_sem,Nat.reduceBEq,Nat.reduceAdd]
        refine caN (by exact Zero_spec (hr.to (h':=h4))) ?_;rintro v5 h5 s5 rfl
        try simp(disch:=omega) only[go_sem,Nat.reduceBEq,Nat.reduceAdd]
        refine caN (by exact Small_spec (n:=1) (by decide)) ?_;rintro _ k1 _ y1;obtain⟨_,_,_,rfl,y1⟩:=y1.sl
        try simp(disch:=omega) only[go_sem,Nat.reduceBEq,Nat.reduceAdd]
        refine caN (by exact Add_spec (ht.to (h':=k1)) y1 (by omega) (by omega)) ?_;rintro _ k2 _ y2;obtain⟨_,_,_,rfl,y2⟩:=y2.sl
        try simp(disch:=omega) only[go_sem,Nat.reduceBEq,Nat.reduceAdd]
        refine caN (by exact Small_spec (n:=1) (by decide)) ?_;rintro _ g1 _ t1;obtain⟨_,_,_,rfl,t1⟩:=t1.sl
        try simp(disch:=omega) only[go_sem,Nat.reduceBEq,Nat.reduceAdd]
        refine caN (by exact Shl_spec (n:=p) t1 (by omega)) ?_;rintro _ g2 _ t2;obtain⟨_,_,_,rfl,t2⟩:=t2.sl
        try simp(disch:=omega) only[go_sem,Nat.reduceBEq,Nat.reduceAdd]
        rw[Nat.one_mul] at t2
        refine caN (by exact Reduce_spec (neg:=true) (y2.to (h':=g2)) t2 (Nat.ne_of_gt (Nat.pow_pos (by decide))) (by omega) (by omega)) ?_;rintro _ g3 _ t3;obtain⟨_,_,_,_,_,_,_,rfl,t3⟩:=t3.sa
        try simp(disch:=omega) only[go_sem,Nat.reduceBEq,Nat.reduceAdd]
        rw[←hr0] at t3
        refine caN (by exact Give_ok t3 hsz) ?_;rintro w4 g4 s4' ⟨z,rfl,hz4⟩;obtain⟨_,_,_,_,_,_,_,rfl,hz5⟩:=hz4.sa
        try simp(disch:=omega) only[go_sem,Nat.reduceBEq,Nat.reduceAdd]
        exact⟨_,rfl,hz5⟩
  | true=>
    generalize eB:decide (irt n (rtw x n p)^n=rtw x n p)=B
    have hr0:rootg true x n p=sgn true (irt n (rtw x n p)) (2^p):=by rw[hr,hm,if_neg (by intro k;cases k.1)]
    clear hm hr hx0
    refine Spec.go [(8,.o [0,1,2,3,4,6,7,5,8,9,10,11,12,13]),(12,.o [0,1,2,4,3,5,6,7,8,9,10,11])] Tryz.func175 rfl rfl (by kernel_rfl) fun C _=>?_
    try simp(disch:=omega) only[go_sem,Nat.reduceBEq,Nat.reduceAdd]
    refine caN (by exact kR) ?_;rintro v1 h1 s1 ⟨f,rfl,hf⟩;obtain⟨na,nl,nc,da,dl,dc,rfl,hnn,hdd⟩:=hf.sl
    try simp(disch:=omega) only[go_sem,Nat.reduceBEq,Nat.reduceAdd]
    rw[en]
    try simp(disch:=omega) only[go_sem,Nat.reduceBEq,Nat.reduceAdd]
    rw[hk]
    refine caN (by exact kS hnn) ?_;rintro v2 h2 s2 q2
    try simp(disch:=omega) only[go_sem,Nat.reduceBEq,Nat.reduceAdd]
    refine caN (by exact kD q2 (hdd.to (h':=h2))) ?_;rintro v3 h3 s3 ⟨q,r,rfl,hq,hr⟩
    try simp(disch:=omega) only[go_sem,Nat.reduceBEq,Nat.reduceAdd]
    refine caN (by exact NRoot_spec (n:=n) hq hn hn8 (by omega)) ?_;rintro v4 h4 s4 ⟨t,rfl,ht⟩
    try simp(disch:=omega) only[go_sem,Nat.reduceBEq,Nat.reduceAdd]
    rw[eB]
    try simp(disch:=omega) only[go_sem,Nat.reduceBEq,Nat.reduceAdd]
    refine caN (by exact Small_spec (n:=1) (by decide)) ?_;rintro _ g1 _ t1;obtain⟨_,_,_,rfl,t1⟩:=t1.sl
    try simp(disch:=omega) only[go_sem,Nat.reduceBEq,Nat.reduceAdd]
    refine caN (by exact Shl_spec (n:=p) t1 (by omega)) ?_;rintro _ g2 _ t2;obtain⟨_,_,_,rfl,t2⟩:=t2.sl
    try simp(disch:=omega) only[go_sem,Nat.reduceBEq,Nat.reduceAdd]
    rw[Nat.one_mul] at t2
    refine caN (by exact Reduce_spec (neg:=true) (ht.to (h':=g2)) t2 (Nat.ne_of_gt (Nat.pow_pos (by decide))) (by omega) (by omega)) ?_;rintro _ g3 _ t3;obtain⟨_,_,_,_,_,_,_,rfl,t3⟩:=t3.sa
    try simp(disch:=omega) only[go_sem,Nat.reduceBEq,Nat.reduceAdd]
    rw[←hr0] at t3
    refine caN (by exact Give_ok t3 hsz) ?_;rintro w4 g4 s4' ⟨z,rfl,hz4⟩;obtain⟨_,_,_,_,_,_,_,rfl,hz5⟩:=hz4.sa
    try simp(disch:=omega) only[go_sem,Nat.reduceBEq,Nat.reduceAdd]
    exact⟨_,rfl,hz5⟩
end Go.Q
namespace Go.Q
open Go.Proofs
set_option maxRecDepth 100000
set_option maxHeartbeats 8000000
theorem root_any {h0 h:PH} [Le h0 h] {v:Value} {neg:Bool} {a d n p:Nat} {u:Bool} (hv:Rw h0 v neg a d) (hl:¬lg neg a d) (hn:2≤n) (hn8:n≤8) (hp:p≤256) (hd:¬((qof neg a d).num < 0∧n % 2=0)):
    Spec mach 175 #[v,.int .i64 n,.int .i64 p,.bool u] h (fun r h'=>∃w,r=.tuple #[w,.int .i64 0]∧Cn h' w (rootg u (qof neg a d) n p)) NP:=by
  cases en:decide ((qof neg a d).num < 0) with
  |false=>exact root_pos hv hl hn hn8 hp hd en
  |true=>exact root_neg hv hl hn hn8 hp hd en
end Go.Q
namespace Go.Q
open Go.Proofs
set_option maxRecDepth 100000
set_option maxHeartbeats 8000000
theorem NumRoot {h0 h:PH} [Le h0 h] {v:Value} {x:Rat} {n p:Nat} {u:Bool} (hv:Rv h0 v x) (hn:2≤n) (hn8:n≤8) (hp:p≤256) (hd:¬(x < 0∧n % 2=0)):Spec mach 175 #[v,.int .i64 n,.int .i64 p,.bool u] h (fun r h'=>∃b na nl nc da dl dc,r=.tuple #[.agg #[.bool b,.slice na nl nc,.slice da dl dc],.int .i64 0]∧Rv h' (.agg #[.bool b,.slice na nl nc,.slice da dl dc]) (rootg u x n p)) NP:=by
  have sr:=rootg_sz (up:=u) hv.sz hn hp
  obtain⟨_,_,_,h1,h2,rfl⟩:=hv
  refine(root_any (u:=u) (p:=p) h1 h2 hn hn8 hp (by rw[num_neg];exact hd)).mono (fun r h' _ k=>?_) (fun _ _ _ k=>k)
  obtain⟨w,rfl,c⟩:=k
  obtain⟨_,_,_,_,_,_,_,rfl,c⟩:=c.sa
  exact⟨_,_,_,_,_,_,_,rfl,Rv.of c sr⟩
theorem NumDown {h0 h:PH} [Le h0 h] {v:Value} {x:Rat} {n p:Nat} (hv:Rv h0 v x) (hn:2≤n) (hn8:n≤8) (hp:p≤256) (hd:¬(x < 0∧n % 2=0)):Spec mach 129 #[v,.int .i64 n,.int .i64 p] h (fun r h'=>∃b na nl nc da dl dc,r=.tuple #[.agg #[.bool b,.slice na nl nc,.slice da dl dc],.int .i64 0]∧Rv h' (.agg #[.bool b,.slice na nl nc,.slice da dl dc]) (rootg false x n p)) NP:=by
  have kR:=fun {h} [Le h0 h]=>NumRoot (h:=h) (u:=false) hv hn hn8 hp hd
  obtain⟨_,_,_,_,_,_,_,rfl,_⟩:=hv.sa
  refine Spec.go [] Tryz.func129 rfl rfl (by kernel_rfl) fun C _=>?_
  try simp(disch:=omega) only[go_sem,Nat.reduceBEq,Nat.reduceAdd]
  refine caN (by exact kR) ?_;rintro v1 h1 s1 ⟨_,_,_,_,_,_,_,rfl,q1⟩
  try simp(disch:=omega) only[go_sem,Nat.reduceBEq,Nat.reduceAdd]
  exact⟨_,_,_,_,_,_,_,rfl,q1⟩
theorem NumUp {h0 h:PH} [Le h0 h] {v:Value} {x:Rat} {n p:Nat} (hv:Rv h0 v x) (hn:2≤n) (hn8:n≤8) (hp:p≤256) (hd:¬(x < 0∧n % 2=0)):Spec mach 128 #[v,.int .i64 n,.int .i64 p] h (fun r h'=>∃b na nl nc da dl dc,r=.tuple #[.agg #[.bool b,.slice na nl nc,.slice da dl dc],.int .i64 0]∧Rv h' (.agg #[.bool b,.slice na nl nc,.slice da dl dc]) (rootg true x n p)) NP:=by
  have kR:=fun {h} [Le h0 h]=>NumRoot (h:=h) (u:=true) hv hn hn8 hp hd
  obtain⟨_,_,_,_,_,_,_,rfl,_⟩:=hv.sa
  refine Spec.go [] Tryz.func128 rfl rfl (by kernel_rfl) fun C _=>?_
  try simp(disch:=omega) only[go_sem,Nat.reduceBEq,Nat.reduceAdd]
  refine caN (by exact kR) ?_;rintro v1 h1 s1 ⟨_,_,_,_,_,_,_,rfl,q1⟩
  try simp(disch:=omega) only[go_sem,Nat.reduceBEq,Nat.reduceAdd]
  exact⟨_,_,_,_,_,_,_,rfl,q1⟩
end Go.Q
namespace Go.Q
open Go.Proofs
set_option maxRecDepth 100000
set_option maxHeartbeats 8000000
def abQ (x:Rat):Rat:=sgn false x.num.natAbs x.den
def asR (x:Rat):Rat:=1+ -(abQ x*abQ x)
def asG (u:Bool) (x:Rat) (w:Nat):Rat:=rootg u (asR x) 2 w
def asH (u:Bool) (x:Rat) (w:Nat):Rat:=abQ x*(1+asG u x w)⁻¹
def asL (x:Rat) (w:Nat):Nat:=anL (glo (asH true x w) w) (ghi (asH false x w) w) w*2^1
def asU (x:Rat) (w:Nat):Nat:=anH (glo (asH true x w) w) (ghi (asH false x w) w) w*2^1
theorem abQ_parts (x:Rat):(abQ x).num=(x.num.natAbs:Int)∧(abQ x).den=x.den:=by
  have:=sgn_num (neg:=false) (n:=x.num.natAbs) (d:=x.den) x.den_nz x.reduced
  simpa[abQ] using this
theorem abQ_sz (x:Rat):sz (abQ x)=sz x:=by
  obtain⟨e1,e2⟩:=abQ_parts x
  unfold sz
  rw[e1,e2]
  simp
theorem abQ_bd {x:Rat} (h:x.num.natAbs≤x.den):0≤abQ x∧abQ x≤1:=by
  obtain⟨e1,e2⟩:=abQ_parts x
  have hd:(0:Rat) < (x.den:Rat):=by exact_mod_cast x.den_pos
  have e:abQ x*(x.den:Rat)=(x.num.natAbs:Rat):=by
    have:=q_den (abQ x)
    rw[e1,e2] at this
    exact_mod_cast this
  have h':(x.num.natAbs:Rat)≤(x.den:Rat):=by exact_mod_cast h
  have h0:(0:Rat)≤(x.num.natAbs:Rat):=by exact_mod_cast Nat.zero_le _
  generalize(x.num.natAbs:Rat)=n at*
  generalize(x.den:Rat)=d at*
  exact⟨Rat.le_of_mul_le_mul_right (by grind) hd,Rat.le_of_mul_le_mul_right (by grind) hd⟩
theorem abQ_cn {h:PH} {b:Bool} {x:Rat} {v w:Value} (hx:Cn h (.agg #[.bool b,v,w]) x):Cn h (.agg #[.bool false,v,w]) (abQ x):=by
  obtain⟨sn,sd,e,h1,h2⟩:=hx
  obtain⟨e1,e2⟩:=abQ_parts x
  simp only[Value.agg.injEq,Array.mk.injEq,List.cons.injEq,and_true] at e
  obtain⟨_,rfl,rfl⟩:=e
  refine⟨v,w,?_,?_,?_⟩
  · rw[e1,decide_eq_false (by omega)]
  · rw[e1];exact h1
  · rw[e2];exact h2
theorem sq_sgn (x:Rat):abQ x*abQ x=sgn false (x.num.natAbs*x.num.natAbs) (x.den*x.den)∧asR x=mkRat ((x.den*x.den:Nat) - (x.num.natAbs*x.num.natAbs:Nat):Int) (x.den*x.den):=by
  have hd:(x.den:Rat)≠0:=by exact_mod_cast x.den_nz
  have e1:abQ x=(x.num.natAbs:Rat) / (x.den:Rat):=by unfold abQ sgn;rw[Rat.mkRat_eq_div];rfl
  have e2:(((x.den*x.den:Nat) - (x.num.natAbs*x.num.natAbs:Nat):Int):Rat)=(x.den:Rat)*(x.den:Rat) - (x.num.natAbs:Rat)*(x.num.natAbs:Rat):=by push_cast;rfl
  unfold asR sgn
  rw[e1,Rat.mkRat_eq_div,Rat.mkRat_eq_div,e2]
  push_cast
  generalize(x.num.natAbs:Rat)=n
  generalize(x.den:Rat)=d at*
  constructor<;>grind
theorem sq_sz {x:Rat} (bx:sz x≤1024) (h:x.num.natAbs≤x.den):sz (abQ x*abQ x)≤2048∧sz (asR x)≤2048:=by
  obtain⟨e1,e2⟩:=sq_sgn x
  have b1:=bl_mul x.num.natAbs x.num.natAbs
  have b2:=bl_mul x.den x.den
  have b3:=sz_num x
  have b4:=sz_den x
  have hd:x.den*x.den≠0:=Nat.mul_ne_zero x.den_nz x.den_nz
  rw[e1,e2]
  constructor
  · have:=sz_sgn false (x.num.natAbs*x.num.natAbs) hd
    omega
  · have hm:x.num.natAbs*x.num.natAbs≤x.den*x.den:=Nat.mul_le_mul h h
    rw[show((x.den*x.den:Nat) - (x.num.natAbs*x.num.natAbs:Nat):Int)=((x.den*x.den - x.num.natAbs*x.num.natAbs:Nat):Int) by omega]
    have:=sz_sgn false (x.den*x.den - x.num.natAbs*x.num.natAbs) hd
    have b5:bl (x.den*x.den - x.num.natAbs*x.num.natAbs)≤_:=bl_mono (Nat.sub_le _ _)
    simp only[sgn,Bool.false_eq_true,if_false] at this
    omega
theorem asR_bd {x:Rat} (h:x.num.natAbs≤x.den):0≤asR x∧asR x≤1:=by
  obtain⟨h1,h2⟩:=abQ_bd h
  have m1:=Rat.mul_le_mul_of_nonneg_left h2 h1
  have m2:=Rat.mul_nonneg h1 h1
  unfold asR
  generalize abQ x=a at*
  constructor<;>grind
theorem rtw_le {q:Rat} {w:Nat} (h0:0≤q) (h1:q≤1):rtw q 2 w≤2^(w*2):=by
  have:=abs_num (q:=q) (by grind) h1
  unfold rtw
  exact Nat.div_le_of_le_mul (Nat.mul_le_mul_right _ (by omega))
theorem asG_m {u:Bool} {q:Rat} {w:Nat} (h0:0≤q) (h1:q≤1):∃m,rootg u q 2 w=sgn false m (2^w)∧m≤2^w+1:=by
  have hw:=rtw_le (w:=w) h0 h1
  have hi:irt 2 (rtw q 2 w)≤2^w:=by
    have h2:=irt_le (n:=2) (a:=rtw q 2 w) (by decide)
    have h3:irt 2 (rtw q 2 w)^2≤(2^w)^2:=by rw[←Nat.pow_mul];exact Nat.le_trans h2 hw
    exact(Nat.pow_le_pow_iff_left (by decide)).1 h3
  refine⟨rtm u q 2 w,?_,?_⟩
  · unfold rootg
    rw[show decide (q.num < 0)=false from decide_eq_false (by rw[num_neg];grind)]
  · unfold rtm
    split<;>omega
theorem one_sgn (m w:Nat):1+sgn false m (2^w)=sgn false (2^w+m) (2^w):=by
  have hd:((2^w:Nat):Rat)≠0:=by exact_mod_cast pow2_ne w
  have e1:=sgn_u m w
  have e2:=sgn_u (2^w+m) w
  have e3:((2^w+m:Nat):Rat)=((2^w:Nat):Rat)+(m:Rat):=by push_cast;rfl
  rw[e3] at e2
  generalize sgn false m (2^w)=a at*
  generalize sgn false (2^w+m) (2^w)=b at*
  generalize((2^w:Nat):Rat)=u at*
  have:(1+a)*u=b*u:=by grind
  grind
theorem asG_bd {u:Bool} {x:Rat} {w:Nat} (h:x.num.natAbs≤x.den):0≤asG u x w∧sz (1+asG u x w)≤w+3:=by
  obtain⟨h0,h1⟩:=asR_bd h
  obtain⟨m,e,hm⟩:=asG_m (u:=u) (w:=w) h0 h1
  unfold asG
  rw[e]
  constructor
  · have:=sgn_u m w
    have hp:=u_pos w
    have hm0:(0:Rat)≤(m:Rat):=by exact_mod_cast Nat.zero_le _
    exact Rat.le_of_mul_le_mul_right (by grind) hp
  · rw[one_sgn]
    have b1:=sz_sgn false (2^w+m) (pow2_ne w)
    have b2:bl (2^w+m)≤w+3:=bl_le.2 (by
      have:2^(w+3)=2^w*8:=Nat.pow_add _ _ _
      have:=Nat.pos_of_ne_zero (pow2_ne w)
      omega)
    have b3:=bl_pow2 w
    omega
theorem asH_bd {u:Bool} {x:Rat} {w:Nat} (h:x.num.natAbs≤x.den):0≤asH u x w∧asH u x w≤1:=by
  obtain⟨h0,h1⟩:=abQ_bd h
  obtain⟨g0,_⟩:=asG_bd (u:=u) (w:=w) h
  unfold asH
  generalize asG u x w=g at*
  generalize abQ x=a at*
  have hp:(0:Rat) < 1+g:=by grind
  have e:(1+g)*(1+g)⁻¹=1:=Rat.mul_inv_cancel _ (by grind)
  have hi:0≤(1+g)⁻¹:=Rat.le_of_lt (Rat.inv_pos.2 hp)
  constructor
  · exact Rat.mul_nonneg h0 hi
  · have:=Rat.mul_le_mul_of_nonneg_right (show a≤1+g by grind) hi
    grind
theorem asH_sz {u:Bool} {x:Rat} {w:Nat} (bx:sz x≤1024) (h:x.num.natAbs≤x.den):sz (asH u x w)≤1027+w:=by
  obtain⟨_,h1⟩:=asG_bd (u:=u) (w:=w) h
  have h2:=sz_mul (abQ x) (1+asG u x w)⁻¹
  have h3:=sz_inv (1+asG u x w)
  rw[abQ_sz] at h2
  unfold asH
  omega
theorem as_arg {x:Rat} {w:Nat} (h:x.num.natAbs≤x.den):glo (asH true x w) w≤2^w∧ghi (asH false x w) w≤2^w:=by
  obtain⟨a1,a2⟩:=asH_bd (u:=true) (w:=w) h
  obtain⟨b1,b2⟩:=asH_bd (u:=false) (w:=w) h
  exact⟨(g_le (abs_num (by grind) a2)).1,(g_le (abs_num (by grind) b2)).2⟩
theorem at_rowB {h:PH} {b:Nat} {cs:List Value} (hb:h b=some cs.toArray) (j:Nat) (v:Value) (hj:cs[j]?=some v):h.at ((⟨b,0,none⟩:Addr).add j)=some v:=by
  cases j<;>simp[PH.at,Addr.add,hb,hj]
theorem pub_to {h h':PH} [l:Le h h'] {b:Nat} {cs:Array Value} (hb:h b=some cs):h' b=some cs:=l.sub _ _ hb
theorem EHalf1_spec {h0 h:PH} [Le h0 h] {b:Nat} {na da:Option Addr} {nl nc dl dc:Nat} {w:Value} {x r:Rat} (hb:h0 b=some #[.bool false,.slice na nl nc,.slice da dl dc]) (hx:Cn h0 (.agg #[.bool false,.slice na nl nc,.slice da dl dc]) x) (hr:Rv h0 w r) (sx:sz x≤2048) (s1:sz (1+r)≤2048) (n1:1+r≠0) (s2:sz (x*(1+r)⁻¹)≤2048):
    Spec mach 130 #[w,.pointer (some ⟨b,0,none⟩)] h (fun v h'=>Cn h' v (x*(1+r)⁻¹)) NP:=by
  obtain⟨_,_,_,_,_,_,_,rfl,hr⟩:=hr.sa
  refine Spec.go [(1,.h [] [] [6] [6,1,0,2,3,4,5,7,8])] Tryz.func130 rfl rfl (by kernel_rfl) fun C _=>?_
  try simp(disch:=omega) only[go_sem,Nat.reduceBEq,Nat.reduceAdd]
  refine caN (by exact FromInt_spec (n:=1) (by decide) (by decide)) ?_;rintro v1 h1 s1' c;have c:Cn h1 v1 1:=c;obtain⟨_,_,_,_,_,_,_,rfl,c⟩:=c.sa
  try simp(disch:=omega) only[go_sem,Nat.reduceBEq,Nat.reduceAdd]
  refine caN (by exact NumAdd (Rv.of c (by decide)) (hr.to (h':=h1))) ?_;rintro v2 h2 s2' p2;obtain⟨_,_,_,_,_,_,_,rfl,q2⟩:=p2.ok s1
  try simp(disch:=omega) only[go_sem,Nat.reduceBEq,Nat.reduceAdd]
  refine ldm_of [.bool false,.slice na nl nc,.slice da dl dc] rfl (at_rowB (pub_to (h':=h2) hb)) ?_
  try simp(disch:=omega) only[go_sem,Nat.reduceBEq,Nat.reduceAdd]
  refine caN (by exact NumDiv (Rv.of (hx.to (h':=h2)) sx) (Rv.of q2 s1) n1) ?_;rintro v3 h3 s3' p3;obtain⟨_,_,_,_,_,_,_,rfl,q3⟩:=p3.ok s2
  try simp(disch:=omega) only[go_sem,Nat.reduceBEq,Nat.reduceAdd]
  exact q3
theorem EArcsine_spec {h0 h:PH} [Le h0 h] {v:Value} {x:Rat} {w:Nat} (hx:Cn h0 v x) (bx:sz x≤1024) (hd:x.num.natAbs≤x.den) (hw:32≤w) (hw':w≤192):Spec mach 88 #[v,.int .i64 w] h (fun r h'=>Pr h' r (asL x w) (asU x w)) NP:=by
  obtain⟨na,nl,nc,da,dl,dc,rfl,_,_,_,_⟩:=hx.parts
  have hA:=abQ_cn hx
  obtain⟨z1,z2⟩:=sq_sz bx hd
  have zA:sz (abQ x)≤2048:=by rw[abQ_sz];omega
  obtain⟨r0,r1⟩:=asR_bd hd
  have nR:¬(asR x < 0∧2 % 2=0):=fun k=>by have:=k.1;grind
  obtain⟨g0,g1⟩:=asG_bd (u:=true) (w:=w) hd
  obtain⟨g2,g3⟩:=asG_bd (u:=false) (w:=w) hd
  have n0:1+asG true x w≠0:=by grind
  have n1:1+asG false x w≠0:=by grind
  have s0:sz (asH true x w)≤2048:=Nat.le_trans (asH_sz bx hd) (by omega)
  have s1:sz (asH false x w)≤2048:=Nat.le_trans (asH_sz bx hd) (by omega)
  have g1:sz (1+asG true x w)≤2048:=by omega
  have g3:sz (1+asG false x w)≤2048:=by omega
  obtain⟨l1,l2⟩:=as_arg (w:=w) hd
  obtain⟨m1,m2⟩:=an_le (w:=w) (by omega) l1 l2
  have b1:=bl_w3 (by omega) m1
  have b2:=bl_w3 (by omega) m2
  have z1:=Hid.mk z1
  have z2:=Hid.mk z2
  have zA:=Hid.mk zA
  have s0:=Hid.mk s0
  have s1:=Hid.mk s1
  have g1:=Hid.mk g1
  have g3:=Hid.mk g3
  have l1:=Hid.mk l1
  have l2:=Hid.mk l2
  have nR:=Hid.mk nR
  have n0:=Hid.mk n0
  have n1:=Hid.mk n1
  clear m1 m2 r0 r1 g0 g2 bx hd hx
  generalize decide (x.num < 0)=neg at*
  have F:=Hid.mk (And.intro b1 b2);clear b1 b2
  refine Spec.go [(3,.h [] [] [6] [6,1,0,2,3,4,5,7,8]),(7,.o [0,1,3,6,7,9,13,2,4,5,8,10,11,12,14,15,16]),(6,.t (.p 0 (.s [0,1] .d)))] Tryz.func88 rfl rfl (by kernel_rfl) fun C _=>?_
  try simp(disch:=omega) only[go_sem,Nat.reduceBEq,Nat.reduceAdd]
  refine caN (by exact NumMul (Rv.of hA zA.out) (Rv.of hA zA.out)) ?_;rintro v1 h1 s1' p1;obtain⟨_,_,_,_,_,_,_,rfl,q1⟩:=p1.ok z1.out
  try simp(disch:=omega) only[go_sem,Nat.reduceBEq,Nat.reduceAdd]
  refine caN (by exact FromInt_spec (n:=1) (by decide) (by decide)) ?_;rintro v2 h2 s2' c;have c:Cn h2 v2 1:=c;obtain⟨_,_,_,_,_,_,_,rfl,c⟩:=c.sa
  try simp(disch:=omega) only[go_sem,Nat.reduceBEq,Nat.reduceAdd]
  refine caN (by exact NumSub (Rv.of c (by decide)) (Rv.of (q1.to (h':=h2)) z1.out)) ?_;rintro v3 h3 s3' p3;obtain⟨_,_,_,_,_,_,_,rfl,q3⟩:=p3.ok z2.out
  try simp(disch:=omega) only[go_sem,Nat.reduceBEq,Nat.reduceAdd]
  refine caN (by exact NumUp (n:=2) (p:=w) (Rv.of q3 z2.out) (by decide) (by decide) (by have:=F.out;omega) nR.out) ?_;rintro v4 h4 s4' ⟨_,_,_,_,_,_,_,rfl,q4⟩
  try simp(disch:=omega) only[go_sem,Nat.reduceBEq,Nat.reduceAdd]
  refine caN (by exact NumDown (n:=2) (p:=w) (Rv.of (q3.to (h':=h4)) z2.out) (by decide) (by decide) (by have:=F.out;omega) nR.out) ?_;rintro v5 h5 s5' ⟨_,_,_,_,_,_,_,rfl,q5⟩
  try simp(disch:=omega) only[go_sem,Nat.reduceBEq,Nat.reduceAdd]
  intro b h6 st6 hb
  try simp(disch:=omega) only[go_sem,Nat.reduceBEq,Nat.reduceAdd]
  have hb:h6 b=some #[.bool false,.slice na nl nc,.slice da dl dc]:=hb (by simp)
  try simp(disch:=omega) only[go_sem,Nat.reduceBEq,Nat.reduceAdd]
  refine caN (by exact EHalf1_spec (h0:=h6) hb hA.to (q4.to (h':=h6)) zA.out g1.out n0.out s0.out) ?_;rintro v7 h7 s7' q7;obtain⟨_,_,_,_,_,_,_,rfl,q7⟩:=q7.sa
  try simp(disch:=omega) only[go_sem,Nat.reduceBEq,Nat.reduceAdd]
  refine caN (by exact EScaled_spec (x:=asH true x w) (w:=w) q7 (Nat.le_trans s0.out (by decide)) (by have:=F.out;omega)) ?_;rintro v8 h8 s8' ⟨_,_,_,_,_,_,rfl,q8,_⟩
  try simp(disch:=omega) only[go_sem,Nat.reduceBEq,Nat.reduceAdd]
  refine caN (by exact EHalf1_spec (h0:=h8) (pub_to hb) hA.to (q5.to (h':=h8)) zA.out g3.out n1.out s1.out) ?_;rintro v9 h9 s9' q9;obtain⟨_,_,_,_,_,_,_,rfl,q9⟩:=q9.sa
  try simp(disch:=omega) only[go_sem,Nat.reduceBEq,Nat.reduceAdd]
  refine caN (by exact EScaled_spec (x:=asH false x w) (w:=w) q9 (Nat.le_trans s1.out (by decide)) (by have:=F.out;omega)) ?_;rintro v10 h10 s10' ⟨_,_,_,_,_,_,rfl,_,q10⟩
  try simp(disch:=omega) only[go_sem,Nat.reduceBEq,Nat.reduceAdd]
  refine caN (by exact EAngle_spec ⟨_,_,_,_,_,_,rfl,q8.to (h':=h10),q10⟩ l1.out l2.out (by have:=F.out;omega) (by have:=F.out;omega)) ?_;rintro v11 h11 s11' q11;obtain⟨_,_,_,_,_,_,rfl,q11⟩:=q11.sp
  try simp(disch:=omega) only[go_sem,Nat.reduceBEq,Nat.reduceAdd]
  refine caN (by exact PTimes_spec (n:=1) q11 (by have:=F.out;omega) (by have:=F.out;omega) (by decide)) ?_;rintro v12 h12 s12' q12;obtain⟨_,_,_,_,_,_,rfl,q12⟩:=q12.sp
  try simp(disch:=omega) only[go_sem,Nat.reduceBEq,Nat.reduceAdd]
  exact q12
def asinLo (x:Rat) (p:Nat):Rat:=bkL (decide (x.num < 0)) (asL x (p+32)) (asU x (p+32)) 32 p
def asinHi (x:Rat) (p:Nat):Rat:=bkH (decide (x.num < 0)) (asL x (p+32)) (asU x (p+32)) 32 p
theorem bl_as {x:Rat} {w:Nat} (hw:2≤w) (h:x.num.natAbs≤x.den):bl (asL x w)≤w+4∧bl (asU x w)≤w+4:=by
  obtain⟨l1,l2⟩:=as_arg (w:=w) h
  obtain⟨m1,m2⟩:=an_le hw l1 l2
  have b1:=bl_w3 hw m1
  have b2:=bl_w3 hw m2
  have b3:=bl_shl (anL (glo (asH true x w) w) (ghi (asH false x w) w) w) 1
  have b4:=bl_shl (anH (glo (asH true x w) w) (ghi (asH false x w) w) w) 1
  unfold asL asU
  omega
theorem EAsin_spec {h0 h:PH} [Le h0 h] {v:Value} {x:Rat} {p:Nat} (hx:Cn h0 v x) (bx:sz x≤1024) (hd:x.num.natAbs≤x.den) (hp:p≤128):Spec mach 39 #[v,.int .i64 p] h (fun r h'=>Be h' r (asinLo x p) (asinHi x p)) NP:=by
  have kA:=fun {h} [Le h0 h]=>EArcsine_spec (h:=h) (w:=p+32) hx bx hd (by omega) (by omega)
  obtain⟨b1,b2⟩:=bl_as (w:=p+32) (by omega) hd
  have b7:=bl_div_le (asL x (p+32)) (2^(p+32 - p))
  have b8:=bl_cdiv (asU x (p+32)) (pow2_ne (p+32 - p))
  have ep:Hid (p+32 - p=32):=⟨by omega⟩
  obtain⟨na,nl,nc,da,dl,dc,rfl,_,_,_,_⟩:=hx.parts
  unfold asinLo asinHi
  generalize decide (x.num < 0)=neg at*
  generalize asL x (p+32)=ga at*
  generalize asU x (p+32)=gb at*
  clear hd hx bx
  have F:=Hid.mk (And.intro b1 (And.intro b2 (And.intro b7 b8)));clear b1 b2 b7 b8
  refine Spec.go [(2,.o [0,1,3,4,5,6,2,7,8,9])] Tryz.func39 rfl rfl (by kernel_rfl) fun C _=>?_
  try simp(disch:=omega) only[go_sem,Nat.reduceBEq,Nat.reduceAdd]
  refine caN (by exact kA) ?_;rintro v1 h1 s1 q1;obtain⟨_,_,_,_,_,_,rfl,q1⟩:=q1.sp
  try simp(disch:=omega) only[go_sem,Nat.reduceBEq,Nat.reduceAdd]
  refine caN (by exact Bracket_spec (w:=p+32) (p:=p) (neg:=neg) q1 (by have:=F.out;omega) (by have:=F.out;omega) (by have:=F.out;omega) (by have:=F.out;omega) (by have:=F.out;omega) (by have:=F.out;omega) (by have:=F.out;omega)) ?_;rintro v10 h10 s10 ⟨_,_,_,_,_,_,_,_,_,_,_,_,_,_,rfl,r1,r2⟩
  try simp(disch:=omega) only[go_sem,Nat.reduceBEq,Nat.reduceAdd]
  rw[ep.out] at r1 r2
  exact⟨_,_,_,_,_,_,_,_,_,_,_,_,_,_,rfl,r1,r2⟩
def acLo (x:Rat) (p:Nat):Rat:=if x=0 then bkL false (piL (p+32)) (piH (p+32)) 33 p else if x.num < 0 then bkL false (piL (p+32)+asL x (p+32)*2^1) (piH (p+32)+asU x (p+32)*2^1) 33 p else gdown (sgn false (piL (p+32)) (2^(p+32+1))+ -sgn false (asU x (p+32)*2^1) (2^(p+32+1))) p
def acHi (x:Rat) (p:Nat):Rat:=if x=0 then bkH false (piL (p+32)) (piH (p+32)) 33 p else if x.num < 0 then bkH false (piL (p+32)+asL x (p+32)*2^1) (piH (p+32)+asU x (p+32)*2^1) 33 p else gup (sgn false (piH (p+32)) (2^(p+32+1))+ -sgn false (asL x (p+32)*2^1) (2^(p+32+1))) p
end Go.Q
