/-
  Sine, cosine and tangent lie between the bounds of their brackets, with any two precisions: no program. Conditions: the number's absolute value is at most 2^32; precisions up to 128.
  Brackets with two precisions have a number in common: no program. Conditions: the functions' domains; precisions up to 128.
  What Turns returns. Conditions: the ends are numbers as they come in.
  Quarter turns in a range: a wide range has them; a wider one has what a narrower one has. Plain. Conditions: none.
  The reference's helpers of layer 2: natural numbers, quotients rounded, numbers of a grid; its domains and exact values. Conditions: the values are natural numbers (N16) and numbers (Qr).
  The reference of layer 2: its grid, the series of the arctangent, pi. Conditions: the values are natural numbers (N16) and numbers (Qr).
  Contracts of package elem: the argument of exp made ready; what Exp returns. Conditions: the argument is small enough, the value is not exact.
  The statements' check of one bracket (sane); the statement ElemPi. Conditions: none.
  The reference of layer 2: quarter turns. Conditions: the values are numbers (Qr).
  The statement ElemInverse. Conditions: the argument is a number as it comes in (Rw).
  The statement ElemPrecisions. Conditions: the argument is a number as it comes in (Rw).
  A number with a function and two precisions, as a statement's argument, read. Conditions: what is read is of bulk at most 1048576.
-/
import Derived.Test.YtacebncjhpdacaaGreatDoorK01395ePkS
import Derived.Test.YtacebncjhpdacaaGreatDoorK8c97aaPkF
import Derived.Test.YtacebncjhpdacaaGreatDoorKe595c9PkO
import Derived.Test.YtacebncjhpdacaaGreatDoorKfdb860PkL
import Derived.Test.YtacebncjhpdacaaGreatDoorK2e7ba5PkM
import Derived.Test.YtacebncjhpdacaaGreatDoorK43338aPkR
import Derived.Test.YtacebncjhpdacaaGreatDoorK272729PkN
set_option linter.unusedVariables false
set_option linter.unusedSimpArgs false
namespace Go.Q
set_option maxRecDepth 100000
set_option maxHeartbeats 4000000
def qtN:Nat:=7166664963380783727887865350899649915563065761450709164855436847124101877928951947489229989474418519168592235180394551152626136545096354515382124214146388240116051238163776092789750994438183638
def qtD:Nat:=2^640
def qtR:Rat:=(qtN:Rat)*(qtD:Rat)⁻¹
def qtOk (w:Nat):Bool:=Nat.ble (piL w*qtD) (qtN*2^(w+1)) && Nat.ble (qtN*2^(w+1)) (piH w*qtD)
theorem qtOk_all:((List.range 129).all fun i=>qtOk (i+64))=true:=by decide+kernel
theorem qt_num:Ab (al 1 (qtR*qtR) 0 81) eps∧Ab (qtR*al 2 (qtR*qtR) 0 80 - 1) eps∧3 / 2≤qtR∧qtR≤8 / 5:=by
  unfold Ab
  decide+kernel
theorem qt_cs:Ab (cNN (-1) qtR) eps∧Ab (sNN (-1) qtR - 1) eps:=by
  rw[(N_al qtR).1,(N_al qtR).2]
  exact⟨qt_num.1,qt_num.2.1⟩
theorem qtR_bd {w:Nat} (h1:64≤w) (h2:w≤192):fW w≤qtR∧qtR≤gW w:=by
  have h:=List.all_eq_true.1 qtOk_all (w - 64) (List.mem_range.2 (by omega))
  rw[show w - 64+64=w by omega] at h
  unfold qtOk at h
  simp only[Bool.and_eq_true,Nat.ble_eq] at h
  obtain⟨a1,a2⟩:=h
  have e1:=sgn_u (piL w) (w+1)
  have e2:=sgn_u (piH w) (w+1)
  have u0:=u_pos (w+1)
  have v0:(0:Rat) < (qtD:Rat):=Rat.natCast_lt_natCast.2 (show 0 < qtD by decide+kernel)
  have b1:(piL w:Rat)*(qtD:Rat)≤(qtN:Rat)*((2^(w+1):Nat):Rat):=by rw[←Rat.natCast_mul,←Rat.natCast_mul];exact Rat.natCast_le_natCast.2 a1
  have b2:(qtN:Rat)*((2^(w+1):Nat):Rat)≤(piH w:Rat)*(qtD:Rat):=by rw[←Rat.natCast_mul,←Rat.natCast_mul];exact Rat.natCast_le_natCast.2 a2
  unfold fW gW qtR
  rw[←e1] at b1
  rw[←e2] at b2
  generalize sgn false (piL w) (2^(w+1))=f at*
  generalize sgn false (piH w) (2^(w+1))=g at*
  generalize((2^(w+1):Nat):Rat)=u at*
  generalize(qtD:Rat)=v at*
  generalize(qtN:Rat)=n at*
  have i:v*v⁻¹=1:=Rat.mul_inv_cancel _ (by grind)
  constructor
  · refine Rat.le_of_mul_le_mul_right (c:=u*v) ?_ (Rat.mul_pos u0 v0)
    have:n*v⁻¹*(u*v)=n*u:=by grind
    rw[this];grind
  · refine Rat.le_of_mul_le_mul_right (c:=u*v) ?_ (Rat.mul_pos u0 v0)
    have:n*v⁻¹*(u*v)=n*u:=by grind
    rw[this];grind
theorem qt_rot {r:Rat} (h:Ab r 2):Ab (sNN (-1) (r+qtR) - cNN (-1) r) (121*eps)∧Ab (cNN (-1) (r+qtR)+sNN (-1) r) (121*eps):=by
  have hq:Ab (-1) 1:=⟨Rat.le_refl,by decide⟩
  obtain⟨p1,p2⟩:=qt_cs
  obtain⟨_,_,b1,b2⟩:=qt_num
  obtain⟨a1,a2⟩:=N_add hq h (⟨by grind,by grind⟩:Ab qtR 2)
  obtain⟨n1,n2⟩:=N_ab hq (h.le (by decide))
  have m1:=n2.mul p1
  have m2:=n1.mul p2
  have m3:=n1.mul p1
  have m4:=n2.mul p2
  have r1:=(a1.neg.add m1).add m2
  have r2:=(a2.neg.add m3).add m4.neg
  generalize sNN (-1) r=s at*
  generalize cNN (-1) r=c at*
  generalize sNN (-1) qtR=S at*
  generalize cNN (-1) qtR=C at*
  generalize eps=e at*
  have e1: -(s*C+c*S - sNN (-1) (r+qtR))+s*C+c*(S - 1)=sNN (-1) (r+qtR) - c:=by grind
  have e2: -(c*C+ -1*(s*S) - cNN (-1) (r+qtR))+c*C+ -(s*(S - 1))=cNN (-1) (r+qtR)+s:=by grind
  rw[e1] at r1
  rw[e2] at r2
  exact⟨r1.le (by grind),r2.le (by grind)⟩
def vS (k:Int) (r:Rat):Rat:=if k % 4=1 then cNN (-1) r else if k % 4=2 then -sNN (-1) r else if k % 4=3 then -cNN (-1) r else sNN (-1) r
def vC (k:Int) (r:Rat):Rat:=if k % 4=1 then -sNN (-1) r else if k % 4=2 then -cNN (-1) r else if k % 4=3 then sNN (-1) r else cNN (-1) r
theorem v_ab {k:Int} {r:Rat} (h:Ab r 4):Ab (vS k r) 60∧Ab (vC k r) 60:=by
  obtain⟨n1,n2⟩:=N_ab (q:=-1) ⟨Rat.le_refl,by decide⟩ h
  unfold vS vC
  split
  · exact⟨n1,n2.neg⟩
  split
  · exact⟨n2.neg,n1.neg⟩
  split
  · exact⟨n1.neg,n2⟩
  · exact⟨n2,n1⟩
theorem v_one {k:Int} {r:Rat} (h:Ab r 2):Ab (vS k r - vS (k - 1) (r+qtR)) (121*eps)∧Ab (vC k r - vC (k - 1) (r+qtR)) (121*eps):=by
  obtain⟨a1,a2⟩:=qt_rot h
  have b1:=a1.neg
  have b2:=a2.neg
  have f:∀{x y d:Rat},Ab x d→x=y→Ab y d:=fun h e=>e▸h
  unfold vS vC
  have k4:k % 4=0∨k % 4=1∨k % 4=2∨k % 4=3:=by omega
  rcases k4 with h0 |h0 |h0 |h0
  · have h1:(k - 1) % 4=3:=by omega
    rw[h0,h1]
    simp only[show ¬(0:Int)=1 by decide,show ¬(0:Int)=2 by decide,show ¬(0:Int)=3 by decide,show ¬(3:Int)=1 by decide,show ¬(3:Int)=2 by decide,if_false,if_true]
    exact⟨f a2 (by grind),f b1 (by grind)⟩
  · have h1:(k - 1) % 4=0:=by omega
    rw[h0,h1]
    simp only[show ¬(0:Int)=1 by decide,show ¬(0:Int)=2 by decide,show ¬(0:Int)=3 by decide,if_false,if_true]
    exact⟨f b1 (by grind),f b2 (by grind)⟩
  · have h1:(k - 1) % 4=1:=by omega
    rw[h0,h1]
    simp only[show ¬(2:Int)=1 by decide,if_false,if_true]
    exact⟨f b2 (by grind),f a1 (by grind)⟩
  · have h1:(k - 1) % 4=2:=by omega
    rw[h0,h1]
    simp only[show ¬(2:Int)=1 by decide,show ¬(3:Int)=1 by decide,show ¬(3:Int)=2 by decide,if_false,if_true]
    exact⟨f a1 (by grind),f a2 (by grind)⟩
def rsR (x:Rat) (w:Nat):Rat:=x - (rsK x w:Rat)*qtR
theorem rsR_bd {x:Rat} {w:Nat} (h1:64≤w) (h2:w≤192) (hx: -4294967296≤x∧x≤4294967296):rsA x w≤rsR x w∧rsR x w≤rsB x w∧Ab (rsR x w) 1:=by
  obtain⟨q1,q2⟩:=qtR_bd h1 h2
  obtain⟨r1,r2,r3⟩:=rs_bd h1 h2 hx
  have g1:=gdown_le (x+ -((rsK x w:Rat)*(if rsK x w < 0 then fW w else gW w))) w
  have g2:=le_gup (x+ -((rsK x w:Rat)*(if rsK x w < 0 then gW w else fW w))) w
  have ks:rsK x w < 0↔(rsK x w:Rat) < 0:=by
    have:=@Rat.intCast_lt_intCast (rsK x w) 0
    simpa using this.symm
  have m:rsA x w≤rsR x w∧rsR x w≤rsB x w:=by
    unfold rsA rsB rsR at*
    by_cases hk:rsK x w < 0
    · have hk':=ks.1 hk
      rw[if_pos hk] at g1 g2 ⊢
      rw[if_pos hk]
      have m1:=Rat.mul_le_mul_of_nonneg_left q1 (show 0≤ -(rsK x w:Rat) by grind)
      have m2:=Rat.mul_le_mul_of_nonneg_left q2 (show 0≤ -(rsK x w:Rat) by grind)
      exact⟨by grind,by grind⟩
    · have hk':(0:Rat)≤(rsK x w:Rat):=Rat.not_lt.1 fun c=>hk (ks.2 c)
      rw[if_neg hk] at g1 g2 ⊢
      rw[if_neg hk]
      have m1:=Rat.mul_le_mul_of_nonneg_left q1 hk'
      have m2:=Rat.mul_le_mul_of_nonneg_left q2 hk'
      exact⟨by grind,by grind⟩
  exact⟨m.1,m.2,by grind,by grind⟩
theorem abs_grid {q:Rat} {w:Nat} (hq:∃z:Int,q=(z:Rat) / 2^w):((glo q w:Nat):Rat) / ((2^w:Nat):Rat)=if q < 0 then -q else q:=by
  obtain⟨g1,g2⟩:=grid_abs hq
  by_cases h:q < 0
  · rw[if_pos h];exact g2 h
  · rw[if_neg h];exact g1 (by grind)
theorem sc_val {x:Rat} {w:Nat} (h1:64≤w) (h2:w≤192) (hb:¬x.den*4294967296 < x.num.natAbs):
    (snl x w≤sNN (-1) (rsR x w)∧sNN (-1) (rsR x w)≤snh x w)∧csl x w≤cNN (-1) (rsR x w)∧cNN (-1) (rsR x w)≤csh x w:=by
  obtain⟨r1,r2,r3⟩:=rsR_bd h1 h2 (num_bd hb)
  obtain⟨l1,l2⟩:=rs_glo h1 h2 hb
  obtain⟨t1,t2,t3⟩:=rs_bd h1 h2 (num_bd hb)
  have gA:∃z:Int,rsA x w=(z:Rat) / 2^w:=⟨_,rfl⟩
  have gB:∃z:Int,rsB x w=(z:Rat) / 2^w:=⟨_,rfl⟩
  obtain⟨s1,s2⟩:=sNN_bd r3
  obtain⟨c1,c2⟩:=cNN_bd r3
  obtain⟨r4,r5⟩:=r3
  refine⟨⟨?_,?_⟩,?_,?_⟩
  · exact Rat.le_trans (snAt_Q gA l1).1 (Rat.le_trans (snX_mono true r1 t1 r5) s1)
  · exact Rat.le_trans s2 (Rat.le_trans (snX_mono false r2 r4 t3) (snAt_Q gB l2).2)
  · have aA:=abs_grid gA
    have aB:=abs_grid gB
    have l3:csX (rsA x w) (rsB x w) w≤2^w:=by unfold csX;omega
    refine Rat.le_trans (cs_Q l3).1 (Rat.le_trans ?_ c1)
    obtain⟨m0,m1⟩:=grid_01 l3
    have mA:=grid_div (w:=w) (show glo (rsA x w) w≤csX (rsA x w) (rsB x w) w by unfold csX;omega)
    have mB:=grid_div (w:=w) (show glo (rsB x w) w≤csX (rsA x w) (rsB x w) w by unfold csX;omega)
    rw[aA] at mA
    rw[aB] at mB
    generalize((csX (rsA x w) (rsB x w) w:Nat):Rat) / ((2^w:Nat):Rat)=m at*
    have hr:rsR x w^2≤m^2:=by
      rw[sqE,sqE]
      have:=(Ab.mul (⟨by grind,by grind⟩:Ab (rsR x w) m) (⟨by grind,by grind⟩:Ab (rsR x w) m)).2
      exact this
    exact(waQ_c (by rw[sqE];exact hh_pos _) hr (by rw[sqE];exact sq_le1 ⟨by grind,m1⟩) false).2.1
  · have aA:=abs_grid gA
    have aB:=abs_grid gB
    have l3:csN (rsA x w) (rsB x w) w≤2^w:=by unfold csN;split<;>omega
    refine Rat.le_trans c2 (Rat.le_trans ?_ (cs_Q l3).2)
    obtain⟨m0,m1⟩:=grid_01 l3
    have hm:((csN (rsA x w) (rsB x w) w:Nat):Rat) / ((2^w:Nat):Rat)≤(if rsR x w < 0 then -rsR x w else rsR x w):=by
      by_cases hz:((rsA x w).num < 0∧¬(rsB x w).num < 0)∨rsA x w=0∨rsB x w=0
      · have:csN (rsA x w) (rsB x w) w=0:=by unfold csN;rw[if_pos hz]
        rw[this,show((0:Nat):Rat)=0 from rfl,Rat.div_def,Rat.zero_mul]
        split<;>grind
      · have mA:=grid_div (w:=w) (show csN (rsA x w) (rsB x w) w≤glo (rsA x w) w by unfold csN;rw[if_neg hz];omega)
        have mB:=grid_div (w:=w) (show csN (rsA x w) (rsB x w) w≤glo (rsB x w) w by unfold csN;rw[if_neg hz];omega)
        rw[aA] at mA
        rw[aB] at mB
        rw[num_lt0,num_lt0] at hz
        grind
    generalize((csN (rsA x w) (rsB x w) w:Nat):Rat) / ((2^w:Nat):Rat)=m at*
    have hr:m^2≤rsR x w^2:=by
      rw[sqE,sqE]
      by_cases hn:rsR x w < 0
      · rw[if_pos hn] at hm
        have:=(Ab.mul (⟨by grind,hm⟩:Ab m (-rsR x w)) (⟨by grind,hm⟩:Ab m (-rsR x w))).2
        grind
      · rw[if_neg hn] at hm
        exact(Ab.mul (⟨by grind,hm⟩:Ab m (rsR x w)) (⟨by grind,hm⟩:Ab m (rsR x w))).2
    exact(waQ_c (by rw[sqE];exact hh_pos _) hr (by rw[sqE];exact sq_le1 ⟨r4,r5⟩) true).2.1
theorem si_val {x:Rat} {w:Nat} (h1:64≤w) (h2:w≤192) (hb:¬x.den*4294967296 < x.num.natAbs):
    (siL x w≤vS (rsK x w) (rsR x w)∧vS (rsK x w) (rsR x w)≤siH x w)∧coL x w≤vC (rsK x w) (rsR x w)∧vC (rsK x w) (rsR x w)≤coH x w:=by
  obtain⟨⟨a1,a2⟩,a3,a4⟩:=sc_val h1 h2 hb
  unfold siL siH coL coH vS vC
  by_cases k1:rsK x w % 4=1
  · simp only[if_pos k1];exact⟨⟨a3,a4⟩,by grind,by grind⟩
  simp only[if_neg k1]
  by_cases k2:rsK x w % 4=2
  · simp only[if_pos k2];exact⟨⟨by grind,by grind⟩,by grind,by grind⟩
  simp only[if_neg k2]
  by_cases k3:rsK x w % 4=3
  · simp only[if_pos k3];exact⟨⟨by grind,by grind⟩,a1,a2⟩
  simp only[if_neg k3]
  exact⟨⟨a1,a2⟩,a3,a4⟩
theorem v_two {x:Rat} {w z:Nat} (h1:64≤w) (h2:w≤192) (h3:64≤z) (h4:z≤192) (hx: -4294967296≤x∧x≤4294967296):
    Ab (vS (rsK x w) (rsR x w) - vS (rsK x z) (rsR x z)) (121*eps)∧Ab (vC (rsK x w) (rsR x w) - vC (rsK x z) (rsR x z)) (121*eps):=by
  obtain⟨_,_,a⟩:=rsR_bd h1 h2 hx
  obtain⟨_,_,b⟩:=rsR_bd h3 h4 hx
  obtain⟨_,_,q1,q2⟩:=qt_num
  have e0:(0:Rat)≤121*eps:=by decide+kernel
  have e:rsR x w - rsR x z=((rsK x z - rsK x w:Int):Rat)*qtR:=by unfold rsR;rw[Rat.intCast_sub];grind
  have hk: -1≤rsK x z - rsK x w∧rsK x z - rsK x w≤1:=by
    obtain⟨a1,a2⟩:=a
    obtain⟨b1,b2⟩:=b
    generalize rsK x z - rsK x w=k at*
    constructor
    · refine Decidable.byContradiction fun c=>?_
      have:(k:Rat)≤((-2:Int):Rat):=Rat.intCast_le_intCast.2 (by omega)
      have:=Rat.mul_le_mul_of_nonneg_right this (show 0≤qtR by grind)
      rw[show((-2:Int):Rat)= -2 from rfl] at this
      grind
    · refine Decidable.byContradiction fun c=>?_
      have:((2:Int):Rat)≤(k:Rat):=Rat.intCast_le_intCast.2 (by omega)
      have:=Rat.mul_le_mul_of_nonneg_right this (show 0≤qtR by grind)
      rw[show((2:Int):Rat)=2 from rfl] at this
      grind
  have hk3:rsK x z - rsK x w=0∨rsK x z - rsK x w=1∨rsK x z - rsK x w= -1:=by omega
  rcases hk3 with k |k |k
  · rw[k,show((0:Int):Rat)=0 from rfl] at e
    rw[show rsK x w=rsK x z by omega,show rsR x w=rsR x z by grind]
    have n:∀v:Rat,v - v=0:=fun v=>by grind
    rw[n,n]
    exact⟨Ab.zero e0,Ab.zero e0⟩
  · rw[k,show((1:Int):Rat)=1 from rfl] at e
    obtain⟨c1,c2⟩:=v_one (k:=rsK x z) (b.le (by decide))
    rw[show rsR x z+qtR=rsR x w by grind,show rsK x z - 1=rsK x w by omega] at c1 c2
    have n:∀u v:Rat,-(u - v)=v - u:=fun u v=>by grind
    have d1:=c1.neg
    have d2:=c2.neg
    rw[n] at d1 d2
    exact⟨d1,d2⟩
  · rw[k,show((-1:Int):Rat)= -1 from rfl] at e
    obtain⟨c1,c2⟩:=v_one (k:=rsK x w) (a.le (by decide))
    rw[show rsR x w+qtR=rsR x z by grind,show rsK x w - 1=rsK x z by omega] at c1 c2
    exact⟨c1,c2⟩
theorem pw_add (p k:Nat):(2:Rat)^(p+k)=2^p*2^k:=by
  have h:((2^(p+k):Nat):Rat)=((2^p:Nat):Rat)*((2^k:Nat):Rat):=by rw[Nat.pow_add,Rat.natCast_mul]
  rw[Rat.natCast_pow,Rat.natCast_pow,Rat.natCast_pow] at h
  exact h
theorem int_near {a b e:Rat} {n:Nat} (ha:∃z:Int,a*2^n=(z:Rat)) (hb:∃z:Int,b*2^n=(z:Rat)) (h:a≤b+e) (he:e*2^n < 1):a≤b:=by
  obtain⟨y,hy⟩:=ha
  obtain⟨z,hz⟩:=hb
  have hp:=pow2_pos n
  have k:=Rat.mul_le_mul_of_nonneg_right h (Rat.le_of_lt hp)
  have l:(y:Rat) < ((z+1:Int):Rat):=by push_cast;grind
  have l2:y < z+1:=Rat.intCast_lt_intCast.1 l
  have l3:(y:Rat)≤(z:Rat):=Rat.intCast_le_intCast.2 (by omega)
  rw[←hy,←hz] at l3
  exact Rat.le_of_mul_le_mul_right l3 hp
theorem int_up {a:Rat} {n k:Nat} (h:∃z:Int,a*2^n=(z:Rat)):∃z:Int,a*2^(n+k)=(z:Rat):=by
  obtain⟨z,hz⟩:=h
  refine⟨z*2^k,?_⟩
  rw[pw_add,←Rat.mul_assoc,hz]
  push_cast
  rfl
theorem int_to {a:Rat} {n m:Nat} (h:∃z:Int,a*2^n=(z:Rat)) (hm:n≤m):∃z:Int,a*2^m=(z:Rat):=by
  obtain⟨k,rfl⟩:=Nat.exists_eq_add_of_le hm
  exact int_up h
theorem int_neg {a:Rat} {n:Nat} (h:∃z:Int,a*2^n=(z:Rat)):∃z:Int,-a*2^n=(z:Rat):=by
  obtain⟨z,hz⟩:=h
  exact⟨-z,by rw[Rat.neg_mul,hz];push_cast;rfl⟩
theorem sn_ints (x:Rat) (w:Nat):(∃z:Int,snl x w*2^w=(z:Rat))∧(∃z:Int,snh x w*2^w=(z:Rat))∧(∃z:Int,csl x w*2^w=(z:Rat))∧∃z:Int,csh x w*2^w=(z:Rat):=by
  refine⟨?_,?_,⟨_,sgn_int _ _ _⟩,⟨_,sgn_int _ _ _⟩⟩
  · unfold snl snAt;split<;>exact⟨_,sgn_int _ _ _⟩
  · unfold snh snAt;split<;>exact⟨_,sgn_int _ _ _⟩
theorem si_ints (x:Rat) (w:Nat):(∃z:Int,siL x w*2^w=(z:Rat))∧(∃z:Int,siH x w*2^w=(z:Rat))∧(∃z:Int,coL x w*2^w=(z:Rat))∧∃z:Int,coH x w*2^w=(z:Rat):=by
  obtain⟨a,b,c,d⟩:=sn_ints x w
  unfold siL siH coL coH
  by_cases k1:rsK x w % 4=1
  · simp only[if_pos k1];exact⟨c,d,int_neg b,int_neg a⟩
  simp only[if_neg k1]
  by_cases k2:rsK x w % 4=2
  · simp only[if_pos k2];exact⟨int_neg b,int_neg a,int_neg d,int_neg c⟩
  simp only[if_neg k2]
  by_cases k3:rsK x w % 4=3
  · simp only[if_pos k3];exact⟨int_neg d,int_neg c,a,b⟩
  simp only[if_neg k3]
  exact⟨a,b,c,d⟩
theorem eps_192:121*eps*2^192 < 1:=by decide+kernel
theorem si_two {x:Rat} {w z:Nat} (h1:64≤w) (h2:w≤192) (h3:64≤z) (h4:z≤192) (hb:¬x.den*4294967296 < x.num.natAbs):siL x w≤siH x z∧coL x w≤coH x z:=by
  obtain⟨⟨a1,_⟩,a3,_⟩:=si_val h1 h2 hb
  obtain⟨⟨_,b2⟩,_,b4⟩:=si_val h3 h4 hb
  obtain⟨⟨v1,v2⟩,v3,v4⟩:=v_two h1 h2 h3 h4 (num_bd hb)
  obtain⟨i1,_,i3,_⟩:=si_ints x w
  obtain⟨_,j2,_,j4⟩:=si_ints x z
  exact⟨int_near (int_to i1 h2) (int_to j2 h4) (by grind) eps_192,int_near (int_to i3 h2) (int_to j4 h4) (by grind) eps_192⟩
theorem bil_ge {a b u v s i m:Rat} (h1:a≤s) (h2:s≤b) (h3:u≤i) (h4:i≤v) (m1:m≤a*u) (m2:m≤a*v) (m3:m≤b*u) (m4:m≤b*v):m≤s*i:=by
  have ca:m≤a*i:=by
    by_cases k:0≤a
    · have:=Rat.mul_le_mul_of_nonneg_left h3 k;grind
    · have:=Rat.mul_le_mul_of_nonneg_left h4 (show 0≤ -a by grind);grind
  have cb:m≤b*i:=by
    by_cases k:0≤b
    · have:=Rat.mul_le_mul_of_nonneg_left h3 k;grind
    · have:=Rat.mul_le_mul_of_nonneg_left h4 (show 0≤ -b by grind);grind
  by_cases k:0≤i
  · have:=Rat.mul_le_mul_of_nonneg_right h1 k;grind
  · have:=Rat.mul_le_mul_of_nonneg_right h2 (show 0≤ -i by grind);grind
theorem bil_le {a b u v s i m:Rat} (h1:a≤s) (h2:s≤b) (h3:u≤i) (h4:i≤v) (m1:a*u≤m) (m2:a*v≤m) (m3:b*u≤m) (m4:b*v≤m):s*i≤m:=by
  have:=bil_ge (m:=-m) (a:=-b) (b:=-a) (u:=u) (v:=v) (s:=-s) (i:=i) (by grind) (by grind) h3 h4 (by grind) (by grind) (by grind) (by grind)
  grind
theorem tq_all (x:Rat) (w:Nat):tqL x w 3≤tq x w 0∧tqL x w 3≤tq x w 1∧tqL x w 3≤tq x w 2∧tqL x w 3≤tq x w 3∧tq x w 0≤tqH x w 3∧tq x w 1≤tqH x w 3∧tq x w 2≤tqH x w 3∧tq x w 3≤tqH x w 3:=by
  have l:∀n,tqL x w (n+1)≤tqL x w n∧tqL x w (n+1)≤tq x w (n+1):=fun n=>by
    show(if tq x w (n+1) < tqL x w n then tq x w (n+1) else tqL x w n)≤tqL x w n∧(if tq x w (n+1) < tqL x w n then tq x w (n+1) else tqL x w n)≤tq x w (n+1)
    split<;>grind
  have u:∀n,tqH x w n≤tqH x w (n+1)∧tq x w (n+1)≤tqH x w (n+1):=fun n=>by
    show tqH x w n≤(if tqH x w n < tq x w (n+1) then tq x w (n+1) else tqH x w n)∧tq x w (n+1)≤(if tqH x w n < tq x w (n+1) then tq x w (n+1) else tqH x w n)
    split<;>grind
  obtain⟨a1,a2⟩:=l 0
  obtain⟨a3,a4⟩:=l 1
  obtain⟨a5,a6⟩:=l 2
  obtain⟨b1,b2⟩:=u 0
  obtain⟨b3,b4⟩:=u 1
  obtain⟨b5,b6⟩:=u 2
  have c0:tqL x w 0=tq x w 0:=rfl
  have d0:tqH x w 0=tq x w 0:=rfl
  simp only[Nat.zero_add,Nat.reduceAdd] at*
  refine⟨?_,?_,?_,?_,?_,?_,?_,?_⟩<;>grind
theorem inv_in {l h c:Rat} (h1:l≤c) (h2:c≤h) (hn:¬(l≤0∧0≤h)):h⁻¹≤c⁻¹∧c⁻¹≤l⁻¹:=by
  have n:∀z:Rat,(-z)⁻¹= -z⁻¹:=fun z=>by grind
  by_cases hl:0 < l
  · exact⟨rinv_le (by grind) h2,rinv_le hl h1⟩
  · have hh:h < 0:=by grind
    have k1:=rinv_le (a:=-h) (b:=-c) (by grind) (by grind)
    have k2:=rinv_le (a:=-c) (b:=-l) (by grind) (by grind)
    rw[n,n] at k1 k2
    exact⟨by grind,by grind⟩
theorem tan_val {x:Rat} {w:Nat} (h1:64≤w) (h2:w≤192) (hb:¬x.den*4294967296 < x.num.natAbs) (hn:¬(coL x w≤0∧0≤coH x w)):
    tqL x w 3≤vS (rsK x w) (rsR x w)*(vC (rsK x w) (rsR x w))⁻¹∧vS (rsK x w) (rsR x w)*(vC (rsK x w) (rsR x w))⁻¹≤tqH x w 3:=by
  obtain⟨⟨a1,a2⟩,a3,a4⟩:=si_val h1 h2 hb
  obtain⟨q0,q1,q2,q3,r0,r1,r2,r3⟩:=tq_all x w
  obtain⟨i1,i2⟩:=inv_in a3 a4 hn
  exact⟨bil_ge a1 a2 i1 i2 q1 q0 q3 q2,bil_le a1 a2 i1 i2 r1 r0 r3 r2⟩
theorem co_big {x:Rat} {w:Nat} (h1:64≤w) (h2:w≤192) (hb:¬x.den*4294967296 < x.num.natAbs) (hn:¬(coL x w≤0∧0≤coH x w)):Ab (vC (rsK x w) (rsR x w))⁻¹ (2^192)∧vC (rsK x w) (rsR x w)*(vC (rsK x w) (rsR x w))⁻¹=1:=by
  obtain⟨_,a3,a4⟩:=si_val h1 h2 hb
  obtain⟨_,_,i3,i4⟩:=si_ints x w
  obtain⟨y,hy⟩:=int_to i3 h2
  obtain⟨z,hz⟩:=int_to i4 h2
  have hp:=pow2_pos 192
  obtain⟨j1,j2⟩:=inv_in a3 a4 hn
  generalize vC (rsK x w) (rsR x w)=c at*
  generalize coL x w=l at*
  generalize coH x w=h at*
  have ne:c≠0:=by grind
  refine⟨?_,Rat.mul_inv_cancel _ ne⟩
  have n:∀z:Rat,(-z)⁻¹= -z⁻¹:=fun z=>by grind
  have key:∀{t:Rat} {y:Int},0 < t→t*2^192=(y:Rat)→t⁻¹≤2^192:=fun {t y} ht hy=>by
    have y0:(0:Rat) < (y:Rat):=by rw[←hy];exact Rat.mul_pos ht hp
    have y1:0 < y:=by exact_mod_cast y0
    have y2:((1:Int):Rat)≤(y:Rat):=Rat.intCast_le_intCast.2 y1
    rw[←hy,show((1:Int):Rat)=1 from rfl] at y2
    have ti:=Rat.inv_pos.2 ht
    have m:=Rat.mul_le_mul_of_nonneg_left y2 (Rat.le_of_lt ti)
    have e:t⁻¹*t=1:=Rat.inv_mul_cancel _ (by grind)
    rw[Rat.mul_one,←Rat.mul_assoc,e,Rat.one_mul] at m
    exact m
  by_cases hl:0 < l
  · have:=key hl hy
    have h0:0 < h⁻¹:=Rat.inv_pos.2 (by grind)
    exact⟨by grind,by grind⟩
  · have hh:h < 0:=by grind
    have:=key (t:=-h) (y:=-z) (by grind) (by rw[Rat.neg_mul,hz];push_cast;rfl)
    rw[n] at this
    have l0:0 < (-l)⁻¹:=Rat.inv_pos.2 (by grind)
    rw[n] at l0
    exact⟨by grind,by grind⟩
theorem eps_tan:14520*eps*(2^192*2^192)*2^128 < 1:=by decide+kernel
theorem tan_two {x:Rat} {p q:Nat} (hp:p≤128) (hq:q≤128) (hb:¬x.den*4294967296 < x.num.natAbs) (n1:¬pole x p) (n2:¬pole x q):tanLo x p≤tanHi x q:=by
  obtain⟨a,_⟩:=tan_val (w:=p+64) (by omega) (by omega) hb n1
  obtain⟨_,b⟩:=tan_val (w:=q+64) (by omega) (by omega) hb n2
  obtain⟨c1,c2⟩:=co_big (w:=p+64) (by omega) (by omega) hb n1
  obtain⟨d1,d2⟩:=co_big (w:=q+64) (by omega) (by omega) hb n2
  obtain⟨v1,v2⟩:=v_two (w:=p+64) (z:=q+64) (by omega) (by omega) (by omega) (by omega) (num_bd hb)
  obtain⟨e1,e2⟩:=v_ab (k:=rsK x (q+64)) ((rsR_bd (w:=q+64) (by omega) (by omega) (num_bd hb)).2.2.le (show(1:Rat)≤4 by decide))
  have g1:=gdown_le (tqL x (p+64) 3) p
  have g2:=le_gup (tqH x (q+64) 3) q
  have gi:∀(y:Rat) (r:Nat),(∃z:Int,gdown y r*2^r=(z:Rat))∧∃z:Int,gup y r*2^r=(z:Rat):=fun y r=>by
    have hp:=pow2_pos r
    have e:∀z:Rat,z / 2^r*2^r=z:=fun z=>Rat.div_mul_cancel (by grind)
    exact⟨⟨_,e _⟩,⟨_,e _⟩⟩
  unfold tanLo tanHi
  refine int_near (n:=128) (e:=14520*eps*(2^192*2^192)) (int_to (gi _ p).1 hp) (int_to (gi _ q).2 hq) ?_ eps_tan
  generalize vS (rsK x (p+64)) (rsR x (p+64))=S at*
  generalize vC (rsK x (p+64)) (rsR x (p+64))=C at*
  generalize vS (rsK x (q+64)) (rsR x (q+64))=s at*
  generalize vC (rsK x (q+64)) (rsR x (q+64))=c at*
  have m:=(((v1.mul e2).add (e1.mul v2.neg)).mul (c1.mul d1)).2
  generalize(2:Rat)^192*2^192=B at*
  generalize C⁻¹=I at*
  generalize c⁻¹=i at*
  have e:((S - s)*c+s* -(C - c))*(I*i)=S*I*(c*i) - s*i*(C*I):=by grind
  rw[e,c2,d2] at m
  generalize eps=ep at*
  grind
end Go.Q
namespace Go.Q
set_option maxRecDepth 100000
set_option maxHeartbeats 4000000
def Cr (a w b z:Nat):Prop:=a*2^z≤b*2^w
theorem Cr.rat {a w b z:Nat} (h:Cr a w b z):(a:Rat) / ((2^w:Nat):Rat)≤(b:Rat) / ((2^z:Nat):Rat):=by
  have u:=u_pos w
  have v:=u_pos z
  have h':(a:Rat)*((2^z:Nat):Rat)≤(b:Rat)*((2^w:Nat):Rat):=by rw[←Rat.natCast_mul,←Rat.natCast_mul];exact Rat.natCast_le_natCast.2 h
  generalize((2^w:Nat):Rat)=U at*
  generalize((2^z:Nat):Rat)=V at*
  rw[Rat.div_def,Rat.div_def]
  have i1:U*U⁻¹=1:=Rat.mul_inv_cancel _ (by grind)
  have i2:V*V⁻¹=1:=Rat.mul_inv_cancel _ (by grind)
  refine Rat.le_of_mul_le_mul_right (c:=U*V) ?_ (Rat.mul_pos u v)
  have e1:(a:Rat)*U⁻¹*(U*V)=(a:Rat)*V:=by grind
  have e2:(b:Rat)*V⁻¹*(U*V)=(b:Rat)*U:=by grind
  rw[e1,e2]
  exact h'
theorem Cr.mul {a w b z:Nat} (h:Cr a w b z) (k:Nat):Cr (a*k) w (b*k) z:=by
  unfold Cr at*
  rw[Nat.mul_right_comm,Nat.mul_right_comm b]
  exact Nat.mul_le_mul_right k h
theorem Cr.add {a w b z c d:Nat} (h:Cr a w b z) (h':Cr c w d z):Cr (a+c) w (b+d) z:=by
  unfold Cr at*
  rw[Nat.add_mul,Nat.add_mul]
  omega
theorem Cr.sub {a w b z c d:Nat} (h:Cr a w b z) (h':Cr d z c w):Cr (a - c) w (b - d) z:=by
  unfold Cr at*
  rw[Nat.sub_mul,Nat.sub_mul]
  omega
theorem Cr.up {a w b z:Nat} (h:Cr a w b z):Cr a (w+1) b (z+1):=by
  unfold Cr at*
  rw[Nat.pow_succ,Nat.pow_succ,←Nat.mul_assoc,←Nat.mul_assoc]
  exact Nat.mul_le_mul_right 2 h
theorem Cr.of {a w b z:Nat} {x y:Rat} (h1:(a:Rat)≤x*((2^w:Nat):Rat)) (h2:y*((2^z:Nat):Rat)≤(b:Rat)) (h:x≤y):Cr a w b z:=by
  have u:=u_pos w
  have v:=u_pos z
  have k1:=Rat.mul_le_mul_of_nonneg_right h1 (Rat.le_of_lt v)
  have k2:=Rat.mul_le_mul_of_nonneg_right h2 (Rat.le_of_lt u)
  have k3:=Rat.mul_le_mul_of_nonneg_right h (Rat.le_of_lt (Rat.mul_pos u v))
  have k:(a:Rat)*((2^z:Nat):Rat)≤(b:Rat)*((2^w:Nat):Rat):=by grind
  rw[←Rat.natCast_mul,←Rat.natCast_mul] at k
  exact Rat.natCast_le_natCast.1 k
theorem arc_cross {a1 b1 a2 b2 w z:Nat} (hw:20≤w) (hz:20≤z) (h1:a1≤b1) (h2:a2≤b2) (h:Cr a1 w b2 z) (l1:b1≤2^w) (l2:b2≤2^z):Cr (arcL a1 b1 w) w (arcH a2 b2 z) z:=by
  have k1:=(arcL_Q hw (Nat.le_refl a1) h1 l1).1
  have k2:=(arcL_Q hz h2 (Nat.le_refl b2) l2).2
  exact Cr.of k1 k2 (arcQ_mono (grid_01 (Nat.le_trans h1 l1)).1 h.rat (grid_01 l2).2)
theorem sq_le_sq {a b:Nat} (h:a*a≤b*b):a≤b:=Nat.le_of_not_lt fun c=>by
  have:=Nat.mul_lt_mul'' c c
  omega
theorem hv_cross {a b w z:Nat} (h:Cr a w b z):Cr (hvL a w) w (hvH b z) z:=by
  have r1:=rtUp_sq (2^(2*w)+a*a)
  have r2:=irt_le (n:=2) (a:=2^(2*z)+b*b) (by decide)
  have u:=Nat.pos_of_ne_zero (pow2_ne w)
  have v:=Nat.pos_of_ne_zero (pow2_ne z)
  unfold Cr hvL hvH at*
  rw[Nat.pow_two] at r2
  have e1:2^(2*w)=2^w*2^w:=by rw[Nat.two_mul,Nat.pow_add]
  have e2:2^(2*z)=2^z*2^z:=by rw[Nat.two_mul,Nat.pow_add]
  generalize rtUp (2^(2*w)+a*a)=R at*
  generalize irt 2 (2^(2*z)+b*b)=r at*
  rw[e1] at r1
  rw[e2] at r2
  have c1:=Nat.div_mul_le_self (a*2^w) (2^w+R)
  have c2:b*2^z≤(2^z+r)*cdiv (b*2^z) (2^z+r):=(cdiv_le_iff (by omega)).1 (Nat.le_refl _)
  generalize a*2^w / (2^w+R)=m at*
  generalize cdiv (b*2^z) (2^z+r)=n at*
  generalize 2^w=U at*
  generalize 2^z=V at*
  have k1:a*r≤b*R:=by
    refine sq_le_sq ?_
    have s1:=Nat.mul_le_mul h h
    have s2:=Nat.mul_le_mul_left (a*a) r2
    have s3:=Nat.mul_le_mul_left (b*b) r1
    grind
  have k2:a*(V+r)≤b*(U+R):=by rw[Nat.mul_add,Nat.mul_add];omega
  have k3:=Nat.mul_le_mul_right (V*(V+r)) c1
  have k4:=Nat.mul_le_mul_right (U*V) k2
  have k5:=Nat.mul_le_mul_right (U*(U+R)) c2
  refine Nat.le_of_mul_le_mul_right (c:=(U+R)*(V+r)) ?_ (Nat.mul_pos (by omega) (by omega))
  calc m*V*((U+R)*(V+r))=m*(U+R)*(V*(V+r)):=by grind
    _≤a*U*(V*(V+r)):=k3
    _=a*(V+r)*(U*V):=by grind
    _≤b*(U+R)*(U*V):=k4
    _=b*V*(U*(U+R)):=by grind
    _≤(V+r)*n*(U*(U+R)):=k5
    _=n*U*((U+R)*(V+r)):=by grind
theorem an_cross {a1 b1 a2 b2 w z:Nat} (hw:20≤w) (hz:20≤z) (h1:a1≤b1) (h2:a2≤b2) (h:Cr a1 w b2 z) (l1:b1≤2^w) (l2:b2≤2^z):Cr (anL a1 b1 w) w (anH a2 b2 z) z:=by
  have k:=arc_cross hw hz (hv_ord (hv_ord h1)) (hv_ord (hv_ord h2)) (hv_cross (hv_cross h)) (Nat.le_trans (hvH_le _ w) (Nat.le_trans (hvH_le _ w) l1)) (Nat.le_trans (hvH_le _ z) (Nat.le_trans (hvH_le _ z) l2))
  exact k.mul _
theorem fif_cross (n:Nat) {w z:Nat} (hn:n≠0) (hw:20≤w) (hz:20≤z):Cr (fifL n w) w (fifH n z) z:=by
  refine arc_cross hw hz (le_cdiv _ hn) (le_cdiv _ hn) ?_ (fif_le n hn).2 (fif_le n hn).2
  unfold Cr
  have c1:=Nat.div_mul_le_self (2^w) n
  have c2:2^z≤n*cdiv (2^z) n:=(cdiv_le_iff hn).1 (Nat.le_refl _)
  generalize 2^w / n=a at*
  generalize cdiv (2^z) n=b at*
  generalize 2^w=U at*
  generalize 2^z=V at*
  have k1:=Nat.mul_le_mul_right V c1
  have k2:=Nat.mul_le_mul_left U c2
  exact Nat.le_of_mul_le_mul_right (c:=n) (by grind) (Nat.pos_of_ne_zero hn)
theorem pi_cross {w z:Nat} (hw:20≤w) (hz:20≤z):Cr (piL w) w (piH z) z:=by
  exact((fif_cross 5 (by decide) hw hz).mul _).sub ((fif_cross 239 (by decide) hz hw).mul _)
theorem g_cross {x y:Rat} {w z:Nat} (h:x.num.natAbs*y.den≤y.num.natAbs*x.den):Cr (glo x w) w (ghi y z) z:=by
  have c1:=Nat.div_mul_le_self (x.num.natAbs*2^w) x.den
  have c2:y.num.natAbs*2^z≤y.den*ghi y z:=(cdiv_le_iff y.den_nz).1 (Nat.le_refl _)
  have d1:=x.den_pos
  have d2:=y.den_pos
  unfold Cr glo
  generalize x.num.natAbs*2^w / x.den=a at*
  generalize ghi y z=b at*
  generalize x.num.natAbs=n at*
  generalize y.num.natAbs=m at*
  generalize x.den=d at*
  generalize y.den=e at*
  generalize 2^w=U at*
  generalize 2^z=V at*
  have k1:=Nat.mul_le_mul_right (V*e) c1
  have k2:=Nat.mul_le_mul_right (U*V) h
  have k3:=Nat.mul_le_mul_right (U*d) c2
  exact Nat.le_of_mul_le_mul_right (c:=d*e) (by grind) (Nat.mul_pos d1 d2)
theorem bk_cross {neg:Bool} {a b a' b' k p q:Nat} (h:Cr a (p+32) b' (q+32)) (h':Cr a' (q+32) b (p+32)):bkL neg a b k p≤bkH neg a' b' k q:=by
  have key:∀{a b p q:Nat},Cr a (p+32) b (q+32)→sgn false (a / 2^k) (2^p)≤sgn false (cdiv b (2^k)) (2^q):=fun {a b p q} h=>by
    have c1:=Nat.div_mul_le_self a (2^k)
    have c2:b≤2^k*cdiv b (2^k):=(cdiv_le_iff (pow2_ne k)).1 (Nat.le_refl _)
    have e1:=sgn_u (a / 2^k) p
    have e2:=sgn_u (cdiv b (2^k)) q
    have u:=u_pos p
    have v:=u_pos q
    have n:(a / 2^k)*2^q≤cdiv b (2^k)*2^p:=by
      unfold Cr at h
      rw[Nat.pow_add,Nat.pow_add] at h
      have k0:=Nat.pos_of_ne_zero (pow2_ne k)
      have b0:=Nat.pos_of_ne_zero (pow2_ne 32)
      generalize a / 2^k=A at*
      generalize cdiv b (2^k)=B at*
      generalize 2^k=K at*
      generalize 2^32=D at*
      generalize 2^p=P at*
      generalize 2^q=Q at*
      have k1:=Nat.mul_le_mul_right (Q*D) c1
      have k2:=Nat.mul_le_mul_right (P*D) c2
      exact Nat.le_of_mul_le_mul_right (c:=K*D) (by grind) (Nat.mul_pos k0 b0)
    have r:((a / 2^k:Nat):Rat)*((2^q:Nat):Rat)≤((cdiv b (2^k):Nat):Rat)*((2^p:Nat):Rat):=by rw[←Rat.natCast_mul,←Rat.natCast_mul];exact Rat.natCast_le_natCast.2 n
    rw[←e1,←e2] at r
    refine Rat.le_of_mul_le_mul_right (c:=((2^p:Nat):Rat)*((2^q:Nat):Rat)) ?_ (Rat.mul_pos u v)
    grind
  unfold bkL bkH
  cases neg
  · exact key h
  · have:=key h'
    simp only[if_true]
    rw[sgn_negs,sgn_negs]
    grind
theorem at_cross {x:Rat} {p q:Nat}:atLo x p≤atHi x q:=by
  have key:∀p q:Nat,Cr (atA x (p+32)) (p+32) (atB x (q+32)) (q+32):=fun p q=>by
    unfold atA atB
    by_cases hb:x.den < x.num.natAbs
    · rw[if_pos hb,if_pos hb]
      obtain⟨i1,i2⟩:=invQ_parts (x:=x) (by omega)
      have l:=fun w=>g_le (x:=invQ x) (w:=w) (by rw[i1,i2];simp only[Int.natAbs_natCast];omega)
      have k1:=pi_cross (w:=p+32) (z:=q+32) (by omega) (by omega)
      have k2:=an_cross (w:=q+32) (z:=p+32) (by omega) (by omega) (glo_ghi (invQ x) _) (glo_ghi (invQ x) _) (g_cross (Nat.le_refl _)) (l _).2 (l _).2
      exact k1.sub (k2.mul _)
    · rw[if_neg hb,if_neg hb]
      have l:=fun w=>g_le (w:=w) hb
      exact an_cross (by omega) (by omega) (glo_ghi x _) (glo_ghi x _) (g_cross (Nat.le_refl _)) (l _).2 (l _).2
  exact bk_cross (key p q) (key q p)
theorem sq_mono0 {a b:Rat} (hb:0≤b) (h:a*a≤b*b):a≤b:=by
  refine Rat.not_lt.1 fun c=>?_
  have k1:=Rat.mul_le_mul_of_nonneg_left (Rat.le_of_lt c) hb
  have k2:=Rat.mul_lt_mul_of_pos_right c (show 0 < a by grind)
  grind
theorem asH_cross {x:Rat} {w z:Nat} (dx:x.num.natAbs≤x.den):asH true x w≤asH false x z:=by
  have g1:=(asG_bd (u:=true) (w:=w) dx).1
  have g2:=(asG_bd (u:=false) (w:=z) dx).1
  have r:asG false x z≤asG true x w:=by
    have k1:=root_low (asR_bd dx).1 (n:=2) (by decide) z
    have k2:=root_high (asR_bd dx).1 (n:=2) (by decide) w
    have sq:∀z:Rat,z^2=z*z:=fun z=>by rw[show(2:Nat)=1+1 from rfl,Rat.pow_succ,Rat.pow_one]
    rw[sq] at k1 k2
    exact sq_mono0 g1 (Rat.le_trans k1 k2)
  have hi:=rinv_le (a:=1+asG false x z) (b:=1+asG true x w) (by grind) (by grind)
  unfold asH
  exact Rat.mul_le_mul_of_nonneg_left hi (abQ_bd dx).1
theorem as_cross {x:Rat} {w z:Nat} (hw:20≤w) (hz:20≤z) (dx:x.num.natAbs≤x.den):Cr (asL x w) w (asU x z) z:=by
  have g:∀{a b:Rat},0≤a→a≤b→∀{w},glo a w≤ghi b w:=fun {a b} ha h {w}=>glo_ghi_le (rat_cross ha h)
  have k:=an_cross hw hz (g (asH_bd dx).1 (asH_ord (w:=w) dx dx Rat.le_refl)) (g (asH_bd dx).1 (asH_ord (w:=z) dx dx Rat.le_refl)) (g_cross (w:=w) (z:=z) (rat_cross (asH_bd dx).1 (asH_cross dx))) (as_arg dx).2 (as_arg dx).2
  exact k.mul _
theorem asin_cross {x:Rat} {p q:Nat} (dx:x.num.natAbs≤x.den):asinLo x p≤asinHi x q:=
  bk_cross (as_cross (by omega) (by omega) dx) (as_cross (by omega) (by omega) dx)
theorem sgn_cross {a b w z:Nat} (h:Cr a w b z):sgn false a (2^w)≤sgn false b (2^z):=by
  have e1:=sgn_u a w
  have e2:=sgn_u b z
  have u:=u_pos w
  have v:=u_pos z
  have r:(a:Rat)*((2^z:Nat):Rat)≤(b:Rat)*((2^w:Nat):Rat):=by rw[←Rat.natCast_mul,←Rat.natCast_mul];exact Rat.natCast_le_natCast.2 h
  rw[←e1,←e2] at r
  refine Rat.le_of_mul_le_mul_right (c:=((2^w:Nat):Rat)*((2^z:Nat):Rat)) ?_ (Rat.mul_pos u v)
  grind
theorem ac_cross {x:Rat} {p q:Nat} (dx:x.num.natAbs≤x.den):acLo x p≤acHi x q:=by
  have a1:∀p q:Nat,Cr (asL x (p+32)) (p+32) (asU x (q+32)) (q+32):=fun p q=>as_cross (by omega) (by omega) dx
  have p1:∀p q:Nat,Cr (piL (p+32)) (p+32) (piH (q+32)) (q+32):=fun p q=>pi_cross (by omega) (by omega)
  unfold acLo acHi
  by_cases h0:x=0
  · rw[if_pos h0,if_pos h0]
    exact bk_cross (p1 p q) (p1 q p)
  rw[if_neg h0,if_neg h0]
  by_cases hn:x.num < 0
  · rw[if_pos hn,if_pos hn]
    have s:∀p q:Nat,Cr (piL (p+32)+asL x (p+32)*2^1) (p+32) (piH (q+32)+asU x (q+32)*2^1) (q+32):=fun p q=>(p1 p q).add ((a1 p q).mul _)
    exact bk_cross (s p q) (s q p)
  · rw[if_neg hn,if_neg hn]
    have k1:=sgn_cross (p1 p q).up
    have k2:=sgn_cross ((a1 q p).mul (2^1)).up
    refine Rat.le_trans (gdown_le _ _) (Rat.le_trans ?_ (le_gup _ _))
    grind
theorem g_in (x:Rat) (w:Nat):((glo x w:Nat):Rat)≤(x.num.natAbs:Rat)*(x.den:Rat)⁻¹*((2^w:Nat):Rat)∧(x.num.natAbs:Rat)*(x.den:Rat)⁻¹*((2^w:Nat):Rat)≤((ghi x w:Nat):Rat):=by
  have d0:(0:Rat) < (x.den:Rat):=by exact_mod_cast x.den_pos
  have h1:=div_rat (a:=x.num.natAbs*2^w) x.den_nz
  have h2:=cdiv_rat (a:=x.num.natAbs*2^w) x.den_nz
  rw[Rat.natCast_mul] at h1 h2
  unfold glo ghi
  generalize((x.num.natAbs*2^w / x.den:Nat):Rat)=A at*
  generalize((cdiv (x.num.natAbs*2^w) x.den:Nat):Rat)=B at*
  generalize(x.num.natAbs:Rat)=n at*
  generalize(x.den:Rat)=d at*
  generalize((2^w:Nat):Rat)=u at*
  have i:d*d⁻¹=1:=Rat.mul_inv_cancel _ (by grind)
  constructor
  · refine Rat.le_of_mul_le_mul_right (c:=d) ?_ d0
    have:n*d⁻¹*u*d=n*u:=by grind
    rw[this];exact h1
  · refine Rat.le_of_mul_le_mul_right (c:=d) ?_ d0
    have:n*d⁻¹*u*d=n*u:=by grind
    rw[this];exact h2
def eQ (y:Rat):Bool→Nat→Rat
  |false,0=>1
  |true,0=>2
  |c,k+1=>1+y*eQ y c k*((256*(40 - k):Nat):Rat)⁻¹
theorem eQ_s (y:Rat) (c:Bool) (k:Nat):eQ y c (k+1)=1+y*eQ y c k*((256*(40 - k):Nat):Rat)⁻¹:=by cases c<;>rfl
theorem eQ_le {y:Rat} (hy:0≤y):∀k,k≤40→1≤eQ y false k∧eQ y false k≤eQ y true k
  |0,_=>by show(1:Rat)≤1∧(1:Rat)≤2;exact⟨Rat.le_refl,by decide⟩
  | k+1,hk=>by
    obtain⟨h1,h2⟩:=eQ_le hy k (by omega)
    have d0:(0:Rat) < ((256*(40 - k):Nat):Rat):=by exact_mod_cast (show 0 < 256*(40 - k) by omega)
    have i0:=Rat.le_of_lt (Rat.inv_pos.2 d0)
    rw[eQ_s,eQ_s]
    have m1:=Rat.mul_le_mul_of_nonneg_right (Rat.mul_le_mul_of_nonneg_left h2 hy) i0
    have m2:=Rat.mul_nonneg (Rat.mul_nonneg hy (show 0≤eQ y false k by grind)) i0
    exact⟨by grind,by grind⟩
theorem eV_Q {w a b:Nat} {y:Rat} (hy:0≤y) (ha:(a:Rat)≤y*((2^w:Nat):Rat)) (hb:y*((2^w:Nat):Rat)≤(b:Rat)):∀k,k≤40→((eLo w a k:Nat):Rat)≤((2^w:Nat):Rat)*eQ y false k∧((2^w:Nat):Rat)*eQ y true k≤((eHi w b k:Nat):Rat)
  | 0,_=>by
    rw[eLo_0,eHi_0,show eQ y false 0=1 from rfl,show eQ y true 0=2 from rfl,Rat.mul_one,Rat.natCast_mul]
    exact⟨Rat.le_refl,Rat.le_refl⟩
  | k + 1,hk=>by
    obtain⟨h1,h2⟩:=eV_Q hy ha hb k (by omega)
    have u0:=u_pos w
    have hi:40 - k≠0:=by omega
    have k0:(0:Rat) < ((40 - k:Nat):Rat):=by exact_mod_cast Nat.pos_of_ne_zero hi
    have v1:(0:Rat)≤((eLo w a k:Nat):Rat):=by exact_mod_cast Nat.zero_le _
    have v2:(0:Rat)≤((eHi w b k:Nat):Rat):=by exact_mod_cast Nat.zero_le _
    have yu:=Rat.mul_nonneg hy (Rat.le_of_lt u0)
    have m1:=Rat.le_trans (Rat.mul_le_mul_of_nonneg_right ha v1) (Rat.mul_le_mul_of_nonneg_left h1 yu)
    have m2:=Rat.le_trans (Rat.mul_le_mul_of_nonneg_left h2 yu) (Rat.mul_le_mul_of_nonneg_right hb v2)
    have c1:=div_rat (a:=a*eLo w a k) (d:=2^(w+8)) (pow2_ne _)
    have c2:=div_rat (a:=a*eLo w a k / 2^(w+8)) (d:=40 - k) hi
    have c3:=cdiv_rat (a:=b*eHi w b k) (d:=2^(w+8)) (pow2_ne _)
    have c4:=cdiv_rat (a:=cdiv (b*eHi w b k) (2^(w+8))) (d:=40 - k) hi
    have eu:((2^(w+8):Nat):Rat)=((2^w:Nat):Rat)*256:=by rw[Nat.pow_add,Rat.natCast_mul];rfl
    have ed:((256*(40 - k):Nat):Rat)=256*((40 - k:Nat):Rat):=by rw[Rat.natCast_mul];rfl
    rw[eLo_s,eHi_s,eQ_s,eQ_s,Rat.natCast_add,Rat.natCast_add,ed]
    rw[Rat.natCast_mul,eu] at c1 c3
    generalize((a*eLo w a k / 2^(w+8) / (40 - k):Nat):Rat)=A at*
    generalize((a*eLo w a k / 2^(w+8):Nat):Rat)=A' at*
    generalize((cdiv (cdiv (b*eHi w b k) (2^(w+8))) (40 - k):Nat):Rat)=B at*
    generalize((cdiv (b*eHi w b k) (2^(w+8)):Nat):Rat)=B' at*
    generalize((eLo w a k:Nat):Rat)=L at*
    generalize((eHi w b k:Nat):Rat)=H at*
    generalize eQ y false k=Q at*
    generalize eQ y true k=R at*
    generalize((40 - k:Nat):Rat)=i at*
    generalize((2^w:Nat):Rat)=u at*
    have ii:256*i*(256*i)⁻¹=1:=Rat.mul_inv_cancel _ (by grind)
    have ku:0 < u*256*i:=Rat.mul_pos (Rat.mul_pos u0 (by decide)) k0
    have n1:=Rat.mul_le_mul_of_nonneg_right c2 (show 0≤u*256 by grind)
    have n2:=Rat.mul_le_mul_of_nonneg_right c4 (show 0≤u*256 by grind)
    generalize(256*i)⁻¹=j at*
    constructor
    · have:A≤u*(y*Q*j):=by
        refine Rat.le_of_mul_le_mul_right (c:=u*256*i) ?_ ku
        have e:u*(y*Q*j)*(u*256*i)=y*u*(u*Q)*(256*i*j):=by grind
        rw[e,ii];grind
      grind
    · have:u*(y*R*j)≤B:=by
        refine Rat.le_of_mul_le_mul_right (c:=u*256*i) ?_ ku
        have e:u*(y*R*j)*(u*256*i)=y*u*(u*R)*(256*i*j):=by grind
        rw[e,ii];grind
      grind
def sqk (z:Rat):Nat→Rat
  |0=>z
  |k+1=>sqk z k*sqk z k
theorem sqk_mono {a b:Rat} (ha:1≤a) (h:a≤b):∀k,1≤sqk a k∧sqk a k≤sqk b k
  |0=>⟨ha,h⟩
  | k+1=>by
    obtain⟨h1,h2⟩:=sqk_mono ha h k
    show 1≤sqk a k*sqk a k∧sqk a k*sqk a k≤sqk b k*sqk b k
    have m1:=Rat.mul_le_mul_of_nonneg_left h1 (show 0≤sqk a k by grind)
    have m2:=Rat.mul_le_mul_of_nonneg_left h2 (show 0≤sqk a k by grind)
    have m3:=Rat.mul_le_mul_of_nonneg_right h2 (show 0≤sqk b k by grind)
    exact⟨by grind,by grind⟩
theorem q_Q {w a b:Nat} {x y:Rat} (hy:1≤y) (ha:(a:Rat)≤((2^w:Nat):Rat)*x) (hb:((2^w:Nat):Rat)*y≤(b:Rat)):∀k,((qLo w a k:Nat):Rat)≤((2^w:Nat):Rat)*sqk x k∧((2^w:Nat):Rat)*sqk y k≤((qHi w b k:Nat):Rat)
  |0=>by rw[qLo_0,qHi_0];exact⟨ha,hb⟩
  | k +1=>by
    obtain⟨h1,h2⟩:=q_Q hy ha hb k
    have u0:=u_pos w
    have v1:(0:Rat)≤((qLo w a k:Nat):Rat):=by exact_mod_cast Nat.zero_le _
    have y0:=(sqk_mono hy Rat.le_refl k).1
    have w0:0≤((2^w:Nat):Rat)*sqk y k:=Rat.mul_nonneg (Rat.le_of_lt u0) (by grind)
    have m1:=Rat.le_trans (Rat.mul_le_mul_of_nonneg_left h1 v1) (Rat.mul_le_mul_of_nonneg_right h1 (Rat.le_trans v1 h1))
    have m2:=Rat.le_trans (Rat.mul_le_mul_of_nonneg_left h2 w0) (Rat.mul_le_mul_of_nonneg_right h2 (Rat.le_trans w0 h2))
    have c1:=div_rat (a:=qLo w a k*qLo w a k) (d:=2^w) (pow2_ne _)
    have c2:=cdiv_rat (a:=qHi w b k*qHi w b k) (d:=2^w) (pow2_ne _)
    rw[qLo_s,qHi_s]
    rw[Rat.natCast_mul] at c1 c2
    show _≤_*(sqk x k*sqk x k)∧_*(sqk y k*sqk y k)≤_
    constructor
    · refine Rat.le_of_mul_le_mul_right (c:=((2^w:Nat):Rat)) ?_ u0
      grind
    · refine Rat.le_of_mul_le_mul_right (c:=((2^w:Nat):Rat)) ?_ u0
      grind
def exV2 (c:Bool) (x:Rat):Rat:=sqk (eQ ((x.num.natAbs:Rat)*(x.den:Rat)⁻¹) c 40) 8
theorem exV2_le (x:Rat):1≤exV2 false x∧exV2 false x≤exV2 true x:=by
  have y0:0≤(x.num.natAbs:Rat)*(x.den:Rat)⁻¹:=Rat.mul_nonneg (by exact_mod_cast Nat.zero_le _) (Rat.le_of_lt (Rat.inv_pos.2 (by exact_mod_cast x.den_pos)))
  obtain⟨h1,h2⟩:=eQ_le y0 40 (Nat.le_refl _)
  exact sqk_mono h1 h2 8
theorem exV2_bd (x:Rat) (p:Nat):((expL x p:Nat):Rat)≤((2^(p+112):Nat):Rat)*exV2 false x∧((2^(p+112):Nat):Rat)*exV2 true x≤((expH x p:Nat):Rat):=by
  have y0:0≤(x.num.natAbs:Rat)*(x.den:Rat)⁻¹:=Rat.mul_nonneg (by exact_mod_cast Nat.zero_le _) (Rat.le_of_lt (Rat.inv_pos.2 (by exact_mod_cast x.den_pos)))
  obtain⟨g1,g2⟩:=g_in x (p+112)
  obtain⟨h1,h2⟩:=eV_Q y0 g1 g2 40 (Nat.le_refl _)
  obtain⟨h3,h4⟩:=eQ_le y0 40 (Nat.le_refl _)
  exact q_Q (Rat.le_trans h3 h4) h1 h2 8
def exW (c:Bool) (x:Rat):Rat:=if x.num < 0 then (exV2 (!c) x)⁻¹ else exV2 c x
theorem exW_le (x:Rat):exW false x≤exW true x:=by
  obtain⟨h1,h2⟩:=exV2_le x
  unfold exW
  split
  · exact rinv_le (by grind) h2
  · exact h2
theorem exp_in (x:Rat) (p:Nat):expLo x p≤exW false x∧exW true x≤expHi x p:=by
  obtain⟨h1,h2⟩:=exV2_bd x p
  obtain⟨f1,f2⟩:=exp_ge x p
  obtain⟨v1,v2⟩:=exV2_le x
  have u:=u_pos p
  have nz:=pow2_ne (p+112)
  have nL:expL x p≠0:=Nat.ne_of_gt (Nat.lt_of_lt_of_le (Nat.pos_of_ne_zero nz) f1)
  have nH:expH x p≠0:=Nat.ne_of_gt (Nat.lt_of_lt_of_le (Nat.pos_of_ne_zero nz) f2)
  have e2:((2^(p+112):Nat):Rat)=((2^p:Nat):Rat)*((2^112:Nat):Rat):=by rw[Nat.pow_add,Rat.natCast_mul]
  have d:=u_pos 112
  unfold expLo expHi exW
  by_cases hn:x.num < 0
  · rw[if_pos hn,if_pos hn,if_pos hn,if_pos hn]
    have c1:=div_rat (a:=2^(p+112+p)) (d:=expH x p) nH
    have c2:=cdiv_rat (a:=2^(p+112+p)) (d:=expL x p) nL
    have e3:((2^(p+112+p):Nat):Rat)=((2^(p+112):Nat):Rat)*((2^p:Nat):Rat):=by rw[Nat.pow_add,Rat.natCast_mul]
    have s1:=sgn_u (2^(p+112+p) / expH x p) p
    have s2:=sgn_u (cdiv (2^(p+112+p)) (expL x p)) p
    have U:=u_pos (p+112)
    rw[←s1,e3] at c1
    rw[←s2,e3] at c2
    have l0:0≤sgn false (2^(p+112+p) / expH x p) (2^p):=sgn_nonneg _ _
    have r0:0≤sgn false (cdiv (2^(p+112+p)) (expL x p)) (2^p):=sgn_nonneg _ _
    simp only[Bool.not_false,Bool.not_true]
    generalize sgn false (2^(p+112+p) / expH x p) (2^p)=A at*
    generalize sgn false (cdiv (2^(p+112+p)) (expL x p)) (2^p)=B at*
    generalize((2^(p+112):Nat):Rat)=W at*
    generalize((2^p:Nat):Rat)=P at*
    generalize((expL x p:Nat):Rat)=L at*
    generalize((expH x p:Nat):Rat)=H at*
    generalize exV2 false x=S at*
    generalize exV2 true x=T at*
    have iS:S*S⁻¹=1:=Rat.mul_inv_cancel _ (by grind)
    have iT:T*T⁻¹=1:=Rat.mul_inv_cancel _ (by grind)
    have t0:0 < T:=by grind
    have s0:0 < S:=by grind
    have WP:=Rat.mul_pos U u
    have m1:=Rat.mul_le_mul_of_nonneg_left h2 (Rat.mul_nonneg l0 (Rat.le_of_lt u))
    have m2:=Rat.mul_le_mul_of_nonneg_left h1 (Rat.mul_nonneg r0 (Rat.le_of_lt u))
    constructor
    · have:A*T≤1:=Rat.le_of_mul_le_mul_right (c:=W*P) (by grind) WP
      have:=Rat.mul_le_mul_of_nonneg_right this (Rat.le_of_lt (Rat.inv_pos.2 t0))
      rw[Rat.mul_assoc,iT,Rat.mul_one,Rat.one_mul] at this
      exact this
    · have:1≤B*S:=Rat.le_of_mul_le_mul_right (c:=W*P) (by grind) WP
      have:=Rat.mul_le_mul_of_nonneg_right this (Rat.le_of_lt (Rat.inv_pos.2 s0))
      rw[Rat.mul_assoc,iS,Rat.mul_one,Rat.one_mul] at this
      exact this
  · rw[if_neg hn,if_neg hn,if_neg hn,if_neg hn]
    have c1:=div_rat (a:=expL x p) (d:=2^112) (pow2_ne _)
    have c2:=cdiv_rat (a:=expH x p) (d:=2^112) (pow2_ne _)
    have s1:=sgn_u (expL x p / 2^112) p
    have s2:=sgn_u (cdiv (expH x p) (2^112)) p
    rw[←s1] at c1
    rw[←s2] at c2
    rw[e2] at h1 h2
    generalize sgn false (expL x p / 2^112) (2^p)=A at*
    generalize sgn false (cdiv (expH x p) (2^112)) (2^p)=B at*
    generalize((2^112:Nat):Rat)=D at*
    generalize((2^p:Nat):Rat)=P at*
    have PD:=Rat.mul_pos u d
    constructor
    · exact Rat.le_of_mul_le_mul_right (c:=P*D) (by grind) PD
    · exact Rat.le_of_mul_le_mul_right (c:=P*D) (by grind) PD
theorem exp_cross (x:Rat) (p q:Nat):expLo x p≤expHi x q:=Rat.le_trans (exp_in x p).1 (Rat.le_trans (exW_le x) (exp_in x q).2)
def lQ (x:Rat):Bool→Nat→Rat
  |false,0=>(111:Rat)⁻¹
  |true,0=>(111:Rat)⁻¹+x*(100:Rat)⁻¹
  |c,j+1=>((109 - 2*j:Nat):Rat)⁻¹+x*lQ x c j
theorem lQ_s (x:Rat) (c:Bool) (j:Nat):lQ x c (j+1)=((109 - 2*j:Nat):Rat)⁻¹+x*lQ x c j:=by cases c<;>rfl
theorem lQ_le {x:Rat} (hx:0≤x):∀j,0≤lQ x false j∧lQ x false j≤lQ x true j
  | 0=>by
    have:0≤x*(100:Rat)⁻¹:=Rat.mul_nonneg hx (by decide+kernel)
    have h:(0:Rat)≤(111:Rat)⁻¹:=by decide+kernel
    show(0:Rat)≤(111:Rat)⁻¹∧(111:Rat)⁻¹≤(111:Rat)⁻¹+x*(100:Rat)⁻¹
    exact⟨h,by grind⟩
  | j +1=>by
    obtain⟨h1,h2⟩:=lQ_le hx j
    have i0:(0:Rat)≤((109 - 2*j:Nat):Rat)⁻¹:=by
      by_cases h:109 - 2*j=0
      · rw[h];decide+kernel
      · exact Rat.le_of_lt (Rat.inv_pos.2 (by exact_mod_cast Nat.pos_of_ne_zero h))
    rw[lQ_s,lQ_s]
    have m1:=Rat.mul_le_mul_of_nonneg_left h2 hx
    have m2:=Rat.mul_nonneg hx h1
    exact⟨by grind,by grind⟩
theorem logV_Q {w s t:Nat} {x:Rat} (hx:0≤x) (hs:(s:Rat)≤x*((2^w:Nat):Rat)) (ht:x*((2^w:Nat):Rat)≤(t:Rat)):
    ∀j,j≤55→((logV w s t false j:Nat):Rat)≤((2^w:Nat):Rat)*lQ x false j∧((2^w:Nat):Rat)*lQ x true j≤((logV w s t true j:Nat):Rat)
  | 0,_=>by
    have u0:=u_pos w
    rw[logV_0,logV_0']
    constructor
    · have h1:=div_rat (a:=2^w) (d:=111) (by decide)
      show _≤((2^w:Nat):Rat)*(111:Rat)⁻¹
      have c1:((111:Nat):Rat)=111:=rfl
      rw[c1] at h1
      have i1:(111:Rat)*(111:Rat)⁻¹=1:=by decide+kernel
      have i0:(0:Rat)≤(111:Rat)⁻¹:=by decide+kernel
      have:=Rat.mul_le_mul_of_nonneg_right h1 i0
      rw[Rat.mul_assoc,i1,Rat.mul_one] at this
      exact this
    · have h1:=cdiv_rat (a:=2^w*100+t*111) (d:=11100) (by decide)
      rw[Rat.natCast_add,Rat.natCast_mul,Rat.natCast_mul,show((11100:Nat):Rat)=11100 from rfl,show((100:Nat):Rat)=100 from rfl,show((111:Nat):Rat)=111 from rfl] at h1
      show((2^w:Nat):Rat)*((111:Rat)⁻¹+x*(100:Rat)⁻¹)≤_
      have i1:(111:Rat)⁻¹=100 / 11100:=by decide+kernel
      have i2:(100:Rat)⁻¹=111 / 11100:=by decide+kernel
      rw[i1,i2]
      generalize((cdiv (2^w*100+t*111) 11100:Nat):Rat)=V at*
      generalize((2^w:Nat):Rat)=u at*
      grind
  | j +1,hj=>by
    obtain⟨h1,h2⟩:=logV_Q hx hs ht j (by omega)
    have u0:=u_pos w
    have hk:(109 - 2*j)*2^w≠0:=Nat.mul_ne_zero (by omega) (pow2_ne w)
    have k0:(0:Rat) < ((109 - 2*j:Nat):Rat):=by exact_mod_cast (show 0 < 109 - 2*j by omega)
    have i1:((109 - 2*j:Nat):Rat)*((109 - 2*j:Nat):Rat)⁻¹=1:=Rat.mul_inv_cancel _ (by grind)
    have v1:(0:Rat)≤((logV w s t true j:Nat):Rat):=by exact_mod_cast Nat.zero_le _
    have v2:(0:Rat)≤((logV w s t false j:Nat):Rat):=by exact_mod_cast Nat.zero_le _
    have xu:0≤x*((2^w:Nat):Rat):=Rat.mul_nonneg hx (Rat.le_of_lt u0)
    have m1:=Rat.le_trans (Rat.mul_le_mul_of_nonneg_left h2 xu) (Rat.mul_le_mul_of_nonneg_right ht v1)
    have m3:=Rat.le_trans (Rat.mul_le_mul_of_nonneg_right hs v2) (Rat.mul_le_mul_of_nonneg_left h1 xu)
    rw[logV_s,logV_s',lQ_s,lQ_s]
    have c1:=div_rat (a:=2^w*2^w+s*logV w s t false j*(109 - 2*j)) hk
    have c2:=cdiv_rat (a:=2^w*2^w+t*logV w s t true j*(109 - 2*j)) hk
    rw[Rat.natCast_add,Rat.natCast_mul (2^w),Rat.natCast_mul (s*logV w s t false j),Rat.natCast_mul s,Rat.natCast_mul (109 - 2*j)] at c1
    rw[Rat.natCast_add,Rat.natCast_mul (2^w),Rat.natCast_mul (t*logV w s t true j),Rat.natCast_mul t,Rat.natCast_mul (109 - 2*j)] at c2
    clear hk
    generalize(((2^w*2^w+s*logV w s t false j*(109 - 2*j)) / ((109 - 2*j)*2^w):Nat):Rat)=Z1 at*
    generalize((cdiv (2^w*2^w+t*logV w s t true j*(109 - 2*j)) ((109 - 2*j)*2^w):Nat):Rat)=Z2 at*
    generalize((logV w s t true j:Nat):Rat)=V at*
    generalize((logV w s t false j:Nat):Rat)=W at*
    generalize((109 - 2*j:Nat):Rat)=K at*
    generalize((2^w:Nat):Rat)=u at*
    generalize lQ x true j=Q at*
    generalize lQ x false j=R at*
    have ku:0 < K*u:=Rat.mul_pos k0 u0
    have n1:=Rat.mul_le_mul_of_nonneg_right m1 (Rat.le_of_lt k0)
    have n3:=Rat.mul_le_mul_of_nonneg_right m3 (Rat.le_of_lt k0)
    constructor
    · refine Rat.le_of_mul_le_mul_right (c:=K*u) ?_ ku
      have:u*(K⁻¹+x*R)*(K*u)=u*u*(K*K⁻¹)+x*u*(u*R)*K:=by grind
      rw[this,i1]
      grind
    · refine Rat.le_of_mul_le_mul_right (c:=K*u) ?_ ku
      have:u*(K⁻¹+x*Q)*(K*u)=u*u*(K*K⁻¹)+x*u*(u*Q)*K:=by grind
      rw[this,i1]
      grind
theorem log_Q {a b w:Nat} {z:Rat} (hz:0≤z) (ha:(a:Rat)≤z*((2^w:Nat):Rat)) (hb:z*((2^w:Nat):Rat)≤(b:Rat)):((logL a b w:Nat):Rat)≤2*(z*lQ (z*z) false 55)*((2^w:Nat):Rat)∧2*(z*lQ (z*z) true 55)*((2^w:Nat):Rat)≤((logH a b w:Nat):Rat):=by
  have u0:=u_pos w
  have zu:=Rat.mul_nonneg hz (Rat.le_of_lt u0)
  have a0:(0:Rat)≤(a:Rat):=by exact_mod_cast Nat.zero_le a
  have s1:((sqL a w:Nat):Rat)≤z*z*((2^w:Nat):Rat):=by
    have d:=div_rat (a:=a*a) (d:=2^w) (pow2_ne w)
    rw[Rat.natCast_mul] at d
    have m:=Rat.le_trans (Rat.mul_le_mul_of_nonneg_left ha a0) (Rat.mul_le_mul_of_nonneg_right ha zu)
    exact Rat.le_of_mul_le_mul_right (c:=((2^w:Nat):Rat)) (by unfold sqL;grind) u0
  have s2:z*z*((2^w:Nat):Rat)≤((sqH b w:Nat):Rat):=by
    have d:=cdiv_rat (a:=b*b) (d:=2^w) (pow2_ne w)
    rw[Rat.natCast_mul] at d
    have m:=Rat.le_trans (Rat.mul_le_mul_of_nonneg_left hb zu) (Rat.mul_le_mul_of_nonneg_right hb (Rat.le_trans zu hb))
    exact Rat.le_of_mul_le_mul_right (c:=((2^w:Nat):Rat)) (by unfold sqH;grind) u0
  obtain⟨h1,h2⟩:=logV_Q (hh_pos z) s1 s2 55 (Nat.le_refl _)
  have d1:=div_rat (a:=a*logV w (sqL a w) (sqH b w) false 55*2^1) (d:=2^w) (pow2_ne w)
  have d2:=cdiv_rat (a:=b*logV w (sqL a w) (sqH b w) true 55*2^1) (d:=2^w) (pow2_ne w)
  rw[Rat.natCast_mul (a*_),Rat.natCast_mul a,show((2^1:Nat):Rat)=2 from rfl] at d1
  rw[Rat.natCast_mul (b*_),Rat.natCast_mul b,show((2^1:Nat):Rat)=2 from rfl] at d2
  have v2:(0:Rat)≤((logV w (sqL a w) (sqH b w) false 55:Nat):Rat):=by exact_mod_cast Nat.zero_le _
  have q0:=(lQ_le (hh_pos z) 55)
  unfold logL logH
  generalize((logV w (sqL a w) (sqH b w) false 55:Nat):Rat)=F at*
  generalize((logV w (sqL a w) (sqH b w) true 55:Nat):Rat)=T at*
  generalize((a*logV w (sqL a w) (sqH b w) false 55*2^1 / 2^w:Nat):Rat)=A at*
  generalize((cdiv (b*logV w (sqL a w) (sqH b w) true 55*2^1) (2^w):Nat):Rat)=B at*
  generalize lQ (z*z) false 55=Q at*
  generalize lQ (z*z) true 55=R at*
  generalize((2^w:Nat):Rat)=u at*
  have m1:=Rat.le_trans (Rat.mul_le_mul_of_nonneg_right ha v2) (Rat.mul_le_mul_of_nonneg_left h1 zu)
  have m2:=Rat.le_trans (Rat.mul_le_mul_of_nonneg_left h2 zu) (Rat.mul_le_mul_of_nonneg_right hb (Rat.le_trans (Rat.mul_nonneg (Rat.le_of_lt u0) (by grind)) h2))
  constructor
  · exact Rat.le_of_mul_le_mul_right (c:=u) (by grind) u0
  · exact Rat.le_of_mul_le_mul_right (c:=u) (by grind) u0
def lM (c:Bool) (n d:Nat):Rat:=2*(((lgT n d 0:Nat):Rat)*((lgB n d:Nat):Rat)⁻¹*lQ (((lgT n d 0:Nat):Rat)*((lgB n d:Nat):Rat)⁻¹*(((lgT n d 0:Nat):Rat)*((lgB n d:Nat):Rat)⁻¹)) c 55)
def l2 (c:Bool):Rat:=2*((3:Rat)⁻¹*lQ ((3:Rat)⁻¹*(3:Rat)⁻¹) c 55)
theorem q_in {t b w:Nat} (hb:b≠0):((t*2^w / b:Nat):Rat)≤(t:Rat)*(b:Rat)⁻¹*((2^w:Nat):Rat)∧(t:Rat)*(b:Rat)⁻¹*((2^w:Nat):Rat)≤((cdiv (t*2^w) b:Nat):Rat):=by
  have d0:(0:Rat) < (b:Rat):=by exact_mod_cast Nat.pos_of_ne_zero hb
  have h1:=div_rat (a:=t*2^w) hb
  have h2:=cdiv_rat (a:=t*2^w) hb
  rw[Rat.natCast_mul] at h1 h2
  generalize((t*2^w / b:Nat):Rat)=A at*
  generalize((cdiv (t*2^w) b:Nat):Rat)=B at*
  generalize(t:Rat)=n at*
  generalize(b:Rat)=d at*
  generalize((2^w:Nat):Rat)=u at*
  have i:d*d⁻¹=1:=Rat.mul_inv_cancel _ (by grind)
  have e:n*d⁻¹*u*d=n*u:=by grind
  constructor
  · refine Rat.le_of_mul_le_mul_right (c:=d) ?_ d0
    rw[e];exact h1
  · refine Rat.le_of_mul_le_mul_right (c:=d) ?_ d0
    rw[e];exact h2
theorem lM_bd {n d w:Nat} (hn:n≠0):((lgmL n d w:Nat):Rat)≤lM false n d*((2^w:Nat):Rat)∧lM true n d*((2^w:Nat):Rat)≤((lgmH n d w:Nat):Rat):=by
  have hb:=lgB_ne (d:=d) hn
  have z0:0≤((lgT n d 0:Nat):Rat)*((lgB n d:Nat):Rat)⁻¹:=Rat.mul_nonneg (by exact_mod_cast Nat.zero_le _) (Rat.le_of_lt (Rat.inv_pos.2 (by exact_mod_cast Nat.pos_of_ne_zero hb)))
  obtain⟨g1,g2⟩:=q_in (t:=lgT n d 0) (w:=w) hb
  have e:lgT n d 0*2^w=lgT n d w:=by unfold lgT;rw[Nat.pow_zero,Nat.mul_one]
  rw[e] at g1 g2
  exact log_Q z0 g1 g2
theorem l2_bd (w:Nat):((lg2L w:Nat):Rat)≤l2 false*((2^w:Nat):Rat)∧l2 true*((2^w:Nat):Rat)≤((lg2H w:Nat):Rat):=by
  obtain⟨g1,g2⟩:=q_in (t:=1) (b:=3) (w:=w) (by decide)
  rw[Nat.one_mul,show((1:Nat):Rat)=1 from rfl,show((3:Nat):Rat)=3 from rfl,Rat.one_mul] at g1 g2
  exact log_Q (by decide+kernel) g1 g2
theorem lM_le {n d:Nat} (hn:n≠0):lM false n d≤lM true n d:=by
  have hb:=lgB_ne (d:=d) hn
  have z0:0≤((lgT n d 0:Nat):Rat)*((lgB n d:Nat):Rat)⁻¹:=Rat.mul_nonneg (by exact_mod_cast Nat.zero_le _) (Rat.le_of_lt (Rat.inv_pos.2 (by exact_mod_cast Nat.pos_of_ne_zero hb)))
  unfold lM
  have:=Rat.mul_le_mul_of_nonneg_left (lQ_le (hh_pos (((lgT n d 0:Nat):Rat)*((lgB n d:Nat):Rat)⁻¹)) 55).2 z0
  grind
theorem l2_le:l2 false≤l2 true:=by
  have:=Rat.mul_le_mul_of_nonneg_left (lQ_le (hh_pos (3:Rat)⁻¹) 55).2 (show(0:Rat)≤(3:Rat)⁻¹ by decide+kernel)
  unfold l2
  grind
def lnV (c:Bool) (n d:Nat):Rat:=if 0≤lge n d then l2 c*((lge n d).toNat:Rat)+lM c n d else lM c n d - l2 (!c)*((0 - lge n d).toNat:Rat)
theorem lnV_le {n d:Nat} (hn:n≠0):lnV false n d≤lnV true n d:=by
  have h1:=lM_le (d:=d) hn
  unfold lnV
  split
  · have:=Rat.mul_le_mul_of_nonneg_right l2_le (show(0:Rat)≤((lge n d).toNat:Rat) by exact_mod_cast Nat.zero_le _)
    grind
  · have:=Rat.mul_le_mul_of_nonneg_right l2_le (show(0:Rat)≤((0 - lge n d).toNat:Rat) by exact_mod_cast Nat.zero_le _)
    simp only[Bool.not_false,Bool.not_true]
    grind
theorem ln_in {n d p:Nat} (hn:n≠0):lnLo n d p≤lnV false n d∧lnV true n d≤lnHi n d p:=by
  obtain⟨o1,o2⟩:=ln_out n d p
  obtain⟨m1,m2⟩:=lM_bd (d:=d) (w:=p+32) hn
  obtain⟨t1,t2⟩:=l2_bd (p+32)
  have u:=u_pos (p+32)
  suffices h:lnA n d (p+32)≤lnV false n d∧lnV true n d≤lnB n d (p+32) from⟨Rat.le_trans o1 h.1,Rat.le_trans h.2 o2⟩
  unfold lnA lnB lnV
  by_cases he:0≤lge n d
  · rw[if_pos he,if_pos he,if_pos he,if_pos he]
    generalize(lge n d).toNat=m at*
    have m0:(0:Rat)≤(m:Rat):=by exact_mod_cast Nat.zero_le m
    have e1:=sgn_u (lg2L (p+32)*m+lgmL n d (p+32)) (p+32)
    have e2:=sgn_u (lg2H (p+32)*m+lgmH n d (p+32)) (p+32)
    rw[Rat.natCast_add,Rat.natCast_mul] at e1 e2
    have k1:=Rat.mul_le_mul_of_nonneg_right t1 m0
    have k2:=Rat.mul_le_mul_of_nonneg_right t2 m0
    constructor
    · exact Rat.le_of_mul_le_mul_right (c:=((2^(p+32):Nat):Rat)) (by rw[e1];grind) u
    · exact Rat.le_of_mul_le_mul_right (c:=((2^(p+32):Nat):Rat)) (by rw[e2];grind) u
  · rw[if_neg he,if_neg he,if_neg he,if_neg he]
    generalize(0 - lge n d).toNat=m at*
    have m0:(0:Rat)≤(m:Rat):=by exact_mod_cast Nat.zero_le m
    have e1:=sgn_u (lgmL n d (p+32)) (p+32)
    have e2:=sgn_u (lg2H (p+32)*m) (p+32)
    have e3:=sgn_u (lgmH n d (p+32)) (p+32)
    have e4:=sgn_u (lg2L (p+32)*m) (p+32)
    rw[Rat.natCast_mul] at e2 e4
    have k1:=Rat.mul_le_mul_of_nonneg_right t1 m0
    have k2:=Rat.mul_le_mul_of_nonneg_right t2 m0
    simp only[Bool.not_false,Bool.not_true]
    rw[←e1] at m1
    rw[←e3] at m2
    rw[←e2] at k2
    rw[←e4] at k1
    generalize sgn false (lgmL n d (p+32)) (2^(p+32))=A at*
    generalize sgn false (lgmH n d (p+32)) (2^(p+32))=B at*
    generalize sgn false (lg2H (p+32)*m) (2^(p+32))=C at*
    generalize sgn false (lg2L (p+32)*m) (2^(p+32))=D at*
    generalize((2^(p+32):Nat):Rat)=U at*
    constructor
    · exact Rat.le_of_mul_le_mul_right (c:=U) (by grind) u
    · exact Rat.le_of_mul_le_mul_right (c:=U) (by grind) u
theorem ln_cross {n d p q:Nat} (hn:n≠0):lnLo n d p≤lnHi n d q:=Rat.le_trans (ln_in hn).1 (Rat.le_trans (lnV_le hn) (ln_in hn).2)
end Go.Q
namespace Go.Q
open Go.Proofs
set_option maxRecDepth 100000
set_option maxHeartbeats 16000000
def wideB (x:Rat):Prop:=1024 < sz x∨x.den*4294967296 < x.num.natAbs
instance (x:Rat):Decidable (wideB x):=inferInstanceAs (Decidable (_∨_))
end Go.Q
namespace Go.Q
open Go.Proofs
set_option maxRecDepth 100000
end Go.Q
namespace Go.Q
open Go.Proofs
set_option maxRecDepth 100000
set_option maxHeartbeats 8000000
end Go.Q
namespace Go.Q
open Go.Proofs
set_option maxRecDepth 100000
set_option maxHeartbeats 8000000
end Go.Q
namespace Go.Q
open Go.Proofs
set_option maxRecDepth 100000
set_option maxHeartbeats 8000000
theorem EReady_exp {h0 h:PH} [Le h0 h] {v:Value} {x:Rat} {p:Int} (hx:Rv h0 v x) (hp:0≤p∧p≤128) (hl:¬1024 < sz x) (hb:¬x.den*64 < x.num.natAbs):Spec mach 79 #[.int .i64 1,v,.int .i64 p] h (fun r h'=>∃b na nl nc da dl dc,r=.tuple #[.agg #[.bool b,.slice na nl nc,.slice da dl dc],.int .i64 0]∧Cn h' (.agg #[.bool b,.slice na nl nc,.slice da dl dc]) x) NP:=by
  have kK:=fun {h} [Le h0 h]=>EKnown_ok (h:=h) (fn:=1) hx (by decide)
  have bx:=hx.sz
  obtain⟨_,_,_,_,_,_,_,rfl,_⟩:=hx.sa
  have d1:defB 1 x=true:=rfl
  refine Spec.go [] Tryz.func79 rfl rfl (by kernel_rfl) fun C _=>?_
  try simp(disch:=omega) only[go_sem,Nat.reduceBEq,Nat.reduceAdd]
  refine caN (by exact kK) ?_;rintro v1 h1 s1 ⟨_,_,_,_,_,_,_,rfl,c⟩
  try simp(disch:=omega) only[go_sem,Nat.reduceBEq,Nat.reduceAdd]
  refine caN (by exact EDefined_spec (fn:=1) c) ?_;rintro v2 h2 s2 rfl
  try simp(disch:=omega) only[go_sem,Nat.reduceBEq,Nat.reduceAdd]
  rw[d1]
  try simp(disch:=omega) only[go_sem,Nat.reduceBEq,Nat.reduceAdd]
  refine caN (by exact TooLong_spec (c.to (h':=h2))) ?_;rintro v3 h3 s3 rfl
  try simp(disch:=omega) only[go_sem,Nat.reduceBEq,Nat.reduceAdd]
  try rw[decide_eq_false hl]
  try simp(disch:=omega) only[go_sem,Nat.reduceBEq,Nat.reduceAdd]
  refine caN (by exact Beyond_spec (n:=64) (c.to (h':=h3)) (by omega) (by decide)) ?_;rintro v4 h4 s4 rfl
  try simp(disch:=omega) only[go_sem,Nat.reduceBEq,Nat.reduceAdd]
  try rw[decide_eq_false hb]
  try simp(disch:=omega) only[go_sem,Nat.reduceBEq,Nat.reduceAdd]
  exact⟨_,_,_,_,_,_,_,rfl,c.to⟩
theorem EApply_exp {h0 h:PH} [Le h0 h] {v:Value} {x y z:Rat} {p:Int} {g:FuncId} (hx:Rv h0 v x) (hp:0≤p∧p≤128) (hl:¬1024 < sz x) (hb:¬x.den*64 < x.num.natAbs) (hx0:x≠0) (hg:∀{h0 h:PH} {a:Value} [Le h0 h],Cn h0 a x→Spec mach g #[a,.int .i64 p] h (fun r h'=>Be h' r y z) NP):
    Spec mach 34 #[.int .i64 1,v,.int .i64 p,.func (.func g) #[] #[]] h (fun r h'=>Be h' r y z) NP:=by
  have kK:=fun {h} [Le h0 h]=>EReady_exp (h:=h) hx hp hl hb
  have e1:exB 1 x=false:=by unfold exB;rw[if_neg (by decide)];exact decide_eq_false hx0
  have kE:=fun {h1 h:PH} {a:Value} [Le h1 h] (c:Cn h1 a x)=>EExact_spec (h:=h) (fn:=1) c
  rw[e1] at kE
  obtain⟨_,_,_,_,_,_,_,rfl,_⟩:=hx.sa
  refine Spec.go [] Tryz.func34 rfl rfl (by kernel_rfl) fun C _=>?_
  try simp(disch:=omega) only[go_sem,Nat.reduceBEq,Nat.reduceAdd]
  refine caN (by exact kK) ?_;rintro v1 h1 s1 ⟨_,_,_,_,_,_,_,rfl,c⟩
  try simp(disch:=omega) only[go_sem,Nat.reduceBEq,Nat.reduceAdd]
  refine caN (by exact kE c) ?_;rintro v2 h2 s2 ⟨_,_,_,_,_,_,_,rfl,_⟩
  try simp(disch:=omega) only[go_sem,Nat.reduceBEq,Nat.reduceAdd]
  refine caN (by exact hg (c.to (h':=h2))) ?_;rintro v3 h3 s3 ⟨_,_,_,_,_,_,_,_,_,_,_,_,_,_,rfl,q3⟩
  try simp(disch:=omega) only[go_sem,Nat.reduceBEq,Nat.reduceAdd]
  exact⟨_,_,_,_,_,_,_,_,_,_,_,_,_,_,rfl,q3⟩
theorem FExp_ok {h0 h:PH} [Le h0 h] {v:Value} {x:Rat} {p:Nat} (hx:Rv h0 v x) (hp:p≤128) (hl:¬1024 < sz x) (hb:¬x.den*64 < x.num.natAbs) (hx0:x≠0):Spec mach 35 #[v,.int .i64 p] h (fun r h'=>Be h' r (expLo x p) (expHi x p)) NP:=by
  have kA:=fun {h} [Le h0 h]=>EApply_exp (h:=h) (p:=p) (g:=25) hx (by omega) hl hb hx0 (fun {h0 h a} _ c=>EExp_spec c (by omega) hb hp)
  obtain⟨_,_,_,_,_,_,_,rfl,_⟩:=hx.sa
  clear hl hb
  refine Spec.go [] Tryz.func35 rfl rfl (by kernel_rfl) fun C _=>?_
  try simp(disch:=omega) only[go_sem,Nat.reduceBEq,Nat.reduceAdd]
  refine caN (by exact kA) ?_;rintro v1 h1 s1 ⟨_,_,_,_,_,_,_,_,_,_,_,_,_,_,rfl,r1,r2⟩
  try simp(disch:=omega) only[go_sem,Nat.reduceBEq,Nat.reduceAdd]
  exact⟨_,_,_,_,_,_,_,_,_,_,_,_,_,_,rfl,r1,r2⟩
end Go.Q
namespace Go.Q
open Go.Proofs
set_option maxRecDepth 100000
set_option maxHeartbeats 8000000
theorem RFrac2_spec {h:PH} {a b:Nat} (ha:a < 2^20) (hb:b < 2^20):Spec mach 37 #[.int .i64 a,.int .i64 b] h (fun v h'=>Qr h' v ((a:Rat) / (b:Rat))) NP:=by
  have S:∀{n:Nat},n < 2^20→sz (((n:Int)):Rat)≤2^35:=by
    intro n hn
    unfold sz
    have e1:bl ((((n:Int)):Rat).num.natAbs)≤64:=bl_le.2 (by simp;omega)
    have e2:bl ((((n:Int)):Rat).den)≤64:=bl_le.2 (by simp)
    omega
  have b1:=S ha
  have b2:=S hb
  have e:((((a:Int)):Rat) / (((b:Int)):Rat))=(a:Rat) / (b:Rat):=rfl
  refine Spec.go [] Tryz.func37 rfl rfl (by kernel_rfl) fun C _=>?_
  try simp(disch:=omega) only[go_sem,Nat.reduceBEq,Nat.reduceAdd]
  refine caN (by exact QInt_spec (n:=a) (by omega) (by omega)) ?_;rintro v1 g1 s1 q1;obtain⟨_,_,_,_,_,_,_,rfl,q1⟩:=q1.sa
  try simp(disch:=omega) only[go_sem,Nat.reduceBEq,Nat.reduceAdd]
  refine caN (by exact QInt_spec (n:=b) (by omega) (by omega)) ?_;rintro v2 g2 s2 q2;obtain⟨_,_,_,_,_,_,_,rfl,q2⟩:=q2.sa
  try simp(disch:=omega) only[go_sem,Nat.reduceBEq,Nat.reduceAdd]
  refine caN (by exact QDiv_spec (q1.to (h':=g2)) q2 b1 b2) ?_;rintro v3 g3 s3 q3;rw[e] at q3;obtain⟨_,_,_,_,_,_,_,rfl,q3⟩:=q3.sa
  try simp(disch:=omega) only[go_sem,Nat.reduceBEq,Nat.reduceAdd]
  exact q3
theorem exp_sane1:expLo 1 3=((21:Nat):Rat) / ((8:Nat):Rat):=by
  unfold expLo
  rw[if_neg (by decide),show expL 1 3 / 2^112=21 by decide+kernel]
  decide+kernel
theorem exp_sane2:expHi 1 3=((11:Nat):Rat) / ((4:Nat):Rat):=by
  unfold expHi
  rw[if_neg (by decide),show cdiv (expH 1 3) (2^112)=22 by decide+kernel]
  decide+kernel
theorem one_rv {h:PH} {b:Nat} (hb:h b=some #[.int .u32 1]):Rv h (.agg #[.bool false,.slice (some ⟨b,0,none⟩) 1 1,.slice none 0 0]) 1:=by
  have e:qof false 1 0=1:=by decide+kernel
  refine⟨false,1,0,⟨some ⟨b,0,none⟩,1,[1],none,0,[],rfl,Arr.of_row (fun _=>hb) (by decide) (by decide) (by decide),Arr.nil _,rfl,rfl,by decide,by decide⟩,?_,e⟩
  unfold lg
  rw[e]
  decide+kernel
theorem sane_spec {h:PH}:Spec mach 8 #[] h (fun r _=>r=.bool true) NP:=by
  have z1:sz (((21:Nat):Rat) / ((8:Nat):Rat))≤2^30:=by decide+kernel
  have z2:sz (((11:Nat):Rat) / ((4:Nat):Rat))≤2^30:=by decide+kernel
  have e1:decide (((21:Nat):Rat) / ((8:Nat):Rat)=((21:Nat):Rat) / ((8:Nat):Rat))=true:=decide_eq_true rfl
  have e2:decide (((11:Nat):Rat) / ((4:Nat):Rat)=((11:Nat):Rat) / ((4:Nat):Rat))=true:=decide_eq_true rfl
  have z1:=Hid.mk z1
  have z2:=Hid.mk z2
  refine Spec.go [(1,.t (.s [0] (.p 0 (.s [1,2,3,4,5,6,7,8] .d))))] Tryz.func8 rfl rfl (by kernel_rfl) fun C _=>?_
  try simp(disch:=omega) only[go_sem,Nat.reduceBEq,Nat.reduceAdd]
  intro b h1 st1 hb
  try simp(disch:=omega) only[go_sem,Nat.reduceBEq,Nat.reduceAdd]
  have hb:=hb (by simp[uw])
  try simp(disch:=omega) only[go_sem,Nat.reduceBEq,Nat.reduceAdd]
  refine caN (by exact FExp_ok (x:=1) (p:=3) (one_rv hb) (by decide) (by decide) (by decide) (by decide)) ?_;rintro v2 h2 s2 ⟨_,_,_,_,_,_,_,_,_,_,_,_,_,_,rfl,r1,r2⟩
  try simp(disch:=omega) only[go_sem,Nat.reduceBEq,Nat.reduceAdd]
  rw[exp_sane1] at r1
  rw[exp_sane2] at r2
  try simp(disch:=omega) only[go_sem,Nat.reduceBEq,Nat.reduceAdd]
  refine caN (by exact RFrac2_spec (a:=21) (b:=8) (by decide) (by decide)) ?_;rintro v3 h3 s3 q3;obtain⟨_,_,_,_,_,_,_,rfl,q3⟩:=q3.sa
  try simp(disch:=omega) only[go_sem,Nat.reduceBEq,Nat.reduceAdd]
  refine caN (by exact Right_spec (r1.to (h':=h3)) q3 z1.out z1.out) ?_;rintro v4 h4 s4 rfl
  try simp(disch:=omega) only[go_sem,Nat.reduceBEq,Nat.reduceAdd,e1,decide_true]
  refine caN (by exact RFrac2_spec (a:=11) (b:=4) (by decide) (by decide)) ?_;rintro v5 h5 s5 q5;obtain⟨_,_,_,_,_,_,_,rfl,q5⟩:=q5.sa
  try simp(disch:=omega) only[go_sem,Nat.reduceBEq,Nat.reduceAdd]
  refine caN (by exact Right_spec (r2.to (h':=h5)) q5 z2.out z2.out) ?_;rintro v6 h6 s6 rfl
  try simp(disch:=omega) only[go_sem,Nat.reduceBEq,Nat.reduceAdd,e2,decide_true]
end Go.Q
namespace Go.Q
open Go.Proofs
set_option maxRecDepth 100000
set_option maxHeartbeats 16000000
end Go.Q
namespace Go.Q
open Go.Proofs
set_option maxRecDepth 100000
set_option maxHeartbeats 8000000
end Go.Q
namespace Go.Q
open Go.Proofs
set_option maxRecDepth 100000
set_option maxHeartbeats 8000000
theorem br_pole {x:Rat} {p:Nat} (h:brE 5 x p=0) (hb:exB 5 x=false):¬pole x p:=by
  have he:=br_e h
  intro hp
  unfold brE at h
  split at h
  · cases h
  · unfold elE at h
    rw[if_neg (fun c=>c he),if_neg (by rw[hb];decide),if_pos ⟨rfl,hp⟩] at h
    cases h
theorem br_two {fn:Int} {x:Rat} {p q:Nat} (h:brE fn x p=0) (h':brE fn x q=0):brL fn x p≤brH fn x q:=by
  obtain⟨_,_,p1⟩:=br_p h
  obtain⟨_,_,q1⟩:=br_p h'
  obtain⟨hf,_,_,dx,_,k1,k2⟩:=eErr_p (br_e h)
  rw[(br_ser h).1,(br_ser h').2,show((p:Int)).toNat=p from rfl,show((q:Int)).toNat=q from rfl]
  have hp:p≤128:=by omega
  have hq:q≤128:=by omega
  cases hb:exB fn x with
  |true=>rw[if_pos rfl,if_pos rfl];exact Rat.le_refl
  | false=>
    rw[if_neg (by decide),if_neg (by decide)]
    unfold serL serH
    by_cases h1:fn=1
    · subst h1;exact exp_cross x p q
    rw[if_neg h1,if_neg h1]
    by_cases h2:fn=2
    · subst h2
      rw[if_pos rfl,if_pos rfl]
      have hx:0 < x:=by simpa[defB] using dx
      exact ln_cross (num_pos0 hx).2
    rw[if_neg h2,if_neg h2]
    by_cases h3:fn=3
    · subst h3
      rw[if_pos rfl,if_pos rfl]
      exact Rat.le_trans (gdown_le _ _) (Rat.le_trans (si_two (w:=p+64) (z:=q+64) (by omega) (by omega) (by omega) (by omega) (k2 (.inl rfl))).1 (le_gup _ _))
    rw[if_neg h3,if_neg h3]
    by_cases h4:fn=4
    · subst h4
      rw[if_pos rfl,if_pos rfl]
      exact Rat.le_trans (gdown_le _ _) (Rat.le_trans (si_two (w:=p+64) (z:=q+64) (by omega) (by omega) (by omega) (by omega) (k2 (.inr (.inl rfl)))).2 (le_gup _ _))
    rw[if_neg h4,if_neg h4]
    by_cases h5:fn=5
    · subst h5
      rw[if_pos rfl,if_pos rfl]
      exact tan_two hp hq (k2 (.inr (.inr rfl))) (br_pole h hb) (br_pole h' hb)
    rw[if_neg h5,if_neg h5]
    by_cases h6:fn=6
    · subst h6
      rw[if_pos rfl,if_pos rfl]
      exact asin_cross (abs_1 dx)
    rw[if_neg h6,if_neg h6]
    by_cases h7:fn=7
    · subst h7
      rw[if_pos rfl,if_pos rfl]
      exact ac_cross (abs_1 dx)
    rw[if_neg h7,if_neg h7]
    exact at_cross
theorem br_meet {fn:Int} {x:Rat} {p q:Int} (h:brE fn x p=0) (h':brE fn x q=0):max (brL fn x p) (brL fn x q)≤min (brH fn x p) (brH fn x q):=by
  obtain⟨_,p0,_⟩:=br_p h
  obtain⟨_,q0,_⟩:=br_p h'
  obtain⟨a,rfl⟩:∃a:Nat,p=(a:Int):=⟨p.toNat,by omega⟩
  obtain⟨b,rfl⟩:∃b:Nat,q=(b:Int):=⟨q.toNat,by omega⟩
  have k1:=br_two h h
  have k2:=br_two h h'
  have k3:=br_two h' h
  have k4:=br_two h' h'
  grind
def Pc (h:PH) (v:Value) (fn p q:Int) (neg:Bool) (n d:Nat):Prop:=∃b a l c a' l' c',v=.agg #[.int .i64 fn,.bool b,.slice a l c,.slice a' l' c',.int .i64 p,.int .i64 q]∧Rw h (.agg #[.bool b,.slice a l c,.slice a' l' c']) neg n d
theorem Apply_raw {h0:PH} {v:Value} {neg:Bool} {n d:Nat} {fn:Int} (hv:Rw h0 v neg n d):∃(E:Int→Int) (L H:Int→Rat),(∀p,sz (L p)≤2048∧sz (H p)≤2048)∧(∀p q,E p=0→E q=0→max (L p) (L q)≤min (H p) (H q))∧∀(p:Int) {h:PH} [Le h0 h],Spec mach 7 #[.int .i64 fn,v,.int .i64 p] h (fun r h'=>Ber h' r (E p) (L p) (H p)) NP:=by
  by_cases hl:lg neg n d
  · exact⟨fun _=>1,fun _=>0,fun _=>0,fun _=>⟨show sz (0:Rat)≤2048 by decide,show sz (0:Rat)≤2048 by decide⟩,(fun _ _ h _=>by cases h),fun p {h} _=>Apply_no hv hl⟩
  · have hs:¬2048 < sz (qof neg n d):=fun c=>hl (.inr (.inr c))
    refine⟨fun p=>elE fn (qof neg n d) p,fun p=>elL fn (qof neg n d) p,fun p=>elH fn (qof neg n d) p,fun p=>el_sz,fun p q e f=>?_,fun p {h} _=>Apply_ok ⟨neg,n,d,hv,hl,rfl⟩⟩
    have k:=br_meet (fn:=fn) (x:=qof neg n d) (p:=p) (q:=q) (by unfold brE;rw[if_neg hs];exact e) (by unfold brE;rw[if_neg hs];exact f)
    unfold brL brH at k
    rw[if_neg hs,if_neg hs,if_neg hs,if_neg hs] at k
    exact k
theorem RMost_spec {h0 h:PH} [Le h0 h] {v w:Value} {x y:Rat} (hx:Qr h0 v x) (hy:Qr h0 w y) (bx:sz x≤2^34) (by_:sz y≤2^34):Spec mach 15 #[v,w] h (fun v h'=>Qr h' v (max x y)) NP:=by
  obtain⟨_,_,_,_,_,_,_,rfl,hx⟩:=hx.sa
  obtain⟨_,_,_,_,_,_,_,rfl,hy⟩:=hy.sa
  by_cases hc:x < y
  · have e1:decide (cmpQ y x > 0)=true:=by unfold cmpQ;grind
    have e2:max x y=y:=by grind
    rw[e2]
    refine Spec.go [] Tryz.func15 rfl rfl (by kernel_rfl) fun C _=>?_
    try simp(maxSteps:=999999) (disch:=omega) only[go_sem,Nat.reduceBEq,Nat.reduceAdd]
    refine caN (by exact QCmp_spec hy hx by_ bx) ?_;rintro v1 h1 s1 rfl
    try simp(maxSteps:=999999) (disch:=omega) only[go_sem,Nat.reduceBEq,Nat.reduceAdd,e1]
    exact hy.to
  · have e1:decide (cmpQ y x > 0)=false:=by unfold cmpQ;grind
    have e2:max x y=x:=by grind
    rw[e2]
    refine Spec.go [] Tryz.func15 rfl rfl (by kernel_rfl) fun C _=>?_
    try simp(maxSteps:=999999) (disch:=omega) only[go_sem,Nat.reduceBEq,Nat.reduceAdd]
    refine caN (by exact QCmp_spec hy hx by_ bx) ?_;rintro v1 h1 s1 rfl
    try simp(maxSteps:=999999) (disch:=omega) only[go_sem,Nat.reduceBEq,Nat.reduceAdd,e1]
    exact hx.to
theorem Precisions_law {h0 h:PH} [Le h0 h] {v:Value} {neg:Bool} {n d:Nat} {fn p q:Int} (hv:Pc h0 v fn p q neg n d):Spec mach 4 #[v] h (fun r _=>r=.bool true) NP:=by
  obtain⟨xb,xa,xl,xc,ya,yl,yc,rfl,hr⟩:=hv
  obtain⟨E,L,H,Z,M,kA⟩:=Apply_raw (fn:=fn) hr
  have kP:=fun {h} [Le h0 h]=>kA p (h:=h)
  have kQ:=fun {h} [Le h0 h]=>kA q (h:=h)
  obtain⟨z1,z2⟩:=Z p
  obtain⟨z3,z4⟩:=Z q
  have N:=M p q
  clear Z kA M
  generalize E p=ep at*
  generalize E q=eq at*
  generalize L p=lp at*
  generalize L q=lq at*
  generalize H p=hp at*
  generalize H q=hq at*
  clear E L H
  by_cases e1:ep=0
  · subst e1
    by_cases e2:eq=0
    · subst e2
      have M:=N rfl rfl
      have m1:decide (cmpQ (max lp lq) (min hp hq)≤0)=true:=by unfold cmpQ;grind
      have s1:sz (max lp lq)≤2^34:=by
        have:max lp lq=lp∨max lp lq=lq:=by grind
        rcases this with e |e<;>rw[e]<;>exact Nat.le_trans (by assumption) (by decide)
      have s2:sz (min hp hq)≤2^34:=by
        have:min hp hq=hp∨min hp hq=hq:=by grind
        rcases this with e |e<;>rw[e]<;>exact Nat.le_trans (by assumption) (by decide)
      clear M N
      have s1:=Hid.mk s1
      have s2:=Hid.mk s2
      refine Spec.go [(5,.h [] [] [7] [7,0,1,3,4,2,5,6,8]),(6,.h [] [] [7] [7,0,1,3,4,2,5,6,8])] Tryz.func4 rfl rfl (by kernel_rfl) fun C _=>?_
      try simp(maxSteps:=999999) (disch:=omega) only[go_sem,Nat.reduceBEq,Nat.reduceAdd]
      refine caN (by exact kP) ?_;rintro v1 h1 t1 ⟨_,_,_,_,_,_,_,_,_,_,_,_,_,_,rfl,c1,c2⟩
      try simp(maxSteps:=999999) (disch:=omega) only[go_sem,Nat.reduceBEq,Nat.reduceAdd]
      refine caN (by exact kQ) ?_;rintro v2 h2 t2 ⟨_,_,_,_,_,_,_,_,_,_,_,_,_,_,rfl,c3,c4⟩
      try simp(maxSteps:=999999) (disch:=omega) only[go_sem,Nat.reduceBEq,Nat.reduceAdd]
      refine caN (by exact QOf_can (c1.to (h':=h2)) (Nat.le_trans z1 (by decide))) ?_;rintro v3 h3 t3 q3;obtain⟨_,_,_,_,_,_,_,rfl,q3⟩:=q3.sa
      try simp(maxSteps:=999999) (disch:=omega) only[go_sem,Nat.reduceBEq,Nat.reduceAdd]
      refine caN (by exact QOf_can (c3.to (h':=h3)) (Nat.le_trans z3 (by decide))) ?_;rintro v4 h4 t4 q4;obtain⟨_,_,_,_,_,_,_,rfl,q4⟩:=q4.sa
      try simp(maxSteps:=999999) (disch:=omega) only[go_sem,Nat.reduceBEq,Nat.reduceAdd]
      refine caN (by exact RMost_spec (q3.to (h':=h4)) q4 (Nat.le_trans z1 (by decide)) (Nat.le_trans z3 (by decide))) ?_;rintro v5 h5 t5 q5;obtain⟨_,_,_,_,_,_,_,rfl,q5⟩:=q5.sa
      try simp(maxSteps:=999999) (disch:=omega) only[go_sem,Nat.reduceBEq,Nat.reduceAdd]
      refine caN (by exact QOf_can (c2.to (h':=h5)) (Nat.le_trans z2 (by decide))) ?_;rintro v6 h6 t6 q6;obtain⟨_,_,_,_,_,_,_,rfl,q6⟩:=q6.sa
      try simp(maxSteps:=999999) (disch:=omega) only[go_sem,Nat.reduceBEq,Nat.reduceAdd]
      refine caN (by exact QOf_can (c4.to (h':=h6)) (Nat.le_trans z4 (by decide))) ?_;rintro v7 h7 t7 q7;obtain⟨_,_,_,_,_,_,_,rfl,q7⟩:=q7.sa
      try simp(maxSteps:=999999) (disch:=omega) only[go_sem,Nat.reduceBEq,Nat.reduceAdd]
      refine caN (by exact Least_spec (q6.to (h':=h7)) q7 (Nat.le_trans z2 (by decide)) (Nat.le_trans z4 (by decide))) ?_;rintro v8 h8 t8 q8;obtain⟨_,_,_,_,_,_,_,rfl,q8⟩:=q8.sa
      try simp(maxSteps:=999999) (disch:=omega) only[go_sem,Nat.reduceBEq,Nat.reduceAdd]
      refine caN (by exact sane_spec) ?_;rintro v9 h9 t9 rfl
      try simp(maxSteps:=999999) (disch:=omega) only[go_sem,Nat.reduceBEq,Nat.reduceAdd]
      refine caN (by exact QCmp_spec (q5.to (h':=h9)) (q8.to (h':=h9)) s1.out s2.out) ?_;rintro v10 h10 t10 rfl
      try simp(maxSteps:=999999) (disch:=omega) only[go_sem,Nat.reduceBEq,Nat.reduceAdd,m1]
    · have ee:(eq == 0)=false:=by simpa using e2
      refine Spec.go [(5,.h [] [] [7] [7,0,1,3,4,2,5,6,8]),(6,.h [] [] [7] [7,0,1,3,4,2,5,6,8])] Tryz.func4 rfl rfl (by kernel_rfl) fun C _=>?_
      try simp(maxSteps:=999999) (disch:=omega) only[go_sem,Nat.reduceBEq,Nat.reduceAdd]
      refine caN (by exact kP) ?_;rintro v1 h1 t1 ⟨_,_,_,_,_,_,_,_,_,_,_,_,_,_,rfl,c1,c2⟩
      try simp(maxSteps:=999999) (disch:=omega) only[go_sem,Nat.reduceBEq,Nat.reduceAdd]
      refine caN (by exact kQ) ?_;rintro v2 h2 t2 ⟨_,_,_,_,_,_,_,_,_,_,_,_,_,_,rfl,c3,c4⟩
      try simp(maxSteps:=999999) (disch:=omega) only[go_sem,Nat.reduceBEq,Nat.reduceAdd,ee]
      refine caN (by exact sane_spec) ?_;rintro v9 h9 t9 rfl
      try simp(maxSteps:=999999) (disch:=omega) only[go_sem,Nat.reduceBEq,Nat.reduceAdd]
  · have ee:(ep == 0)=false:=by simpa using e1
    refine Spec.go [(5,.h [] [] [7] [7,0,1,3,4,2,5,6,8]),(6,.h [] [] [7] [7,0,1,3,4,2,5,6,8])] Tryz.func4 rfl rfl (by kernel_rfl) fun C _=>?_
    try simp(maxSteps:=999999) (disch:=omega) only[go_sem,Nat.reduceBEq,Nat.reduceAdd]
    refine caN (by exact kP) ?_;rintro v1 h1 t1 ⟨_,_,_,_,_,_,_,_,_,_,_,_,_,_,rfl,c1,c2⟩
    try simp(maxSteps:=999999) (disch:=omega) only[go_sem,Nat.reduceBEq,Nat.reduceAdd]
    refine caN (by exact kQ) ?_;rintro v2 h2 t2 ⟨_,_,_,_,_,_,_,_,_,_,_,_,_,_,rfl,c3,c4⟩
    try simp(maxSteps:=999999) (disch:=omega) only[go_sem,Nat.reduceBEq,Nat.reduceAdd,ee]
    refine caN (by exact sane_spec) ?_;rintro v9 h9 t9 rfl
    try simp(maxSteps:=999999) (disch:=omega) only[go_sem,Nat.reduceBEq,Nat.reduceAdd]
end Go.Q
namespace Go.Q
open Go.Proofs Go.Proofs.YtacebncjhpdacaaGreatDoor
set_option maxRecDepth 100000
open Go.ChangeShapes Go.WideShapes Go.ChangeAt Go.RowKit
theorem flPr:flds Tryz.prog 42=some [(3,0),(24,1),(3,4),(3,5)]:=by kernel_rfl
theorem cePr:Tryz.prog.cellsOf 42=6:=by kernel_rfl
theorem ce3:Tryz.prog.cellsOf 3=1:=by kernel_rfl
variable {H:Type} {enc:TypeId×Value→H} {W:World} {sp:Nat→Bool} {held:Bool}
theorem open_pr {fuel:Nat} {cs:List Value} {x:DataW H×List MemPlace} (h:DataW.trod enc Tryz.prog W 0 sp held fuel 42 cs=some x) {B:Nat} (hB:B≤1048576) (hk:Rows.uptoBulk x.1≤B):
    ∃fn p q neg n d,Pc (pub W) (.agg cs.toArray) fn p q neg n d:=by
  obtain⟨fs,hu,hf⟩:=flds_some flPr
  obtain⟨xs,n,rfl,rfl,hl,hsz,hg⟩:=DataW.trod_struct hu h
  rw[cePr] at hl
  have hfs:fs.size=4:=by
    have:=congrArg List.length hf
    simpa using this
  match cs,hl with
  |[c0,c1,c2,c3,c4,c5],_=>
  have get:∀(i t o:Nat),(fs.toList.map fun f=>(f.type,f.offset))[i]?=some (t,o)→∃f:Field,fs[i]?=some f∧f.type=t∧f.offset=o:=by
    intro i t o hi
    rw[List.getElem?_map,Option.map_eq_some_iff] at hi
    obtain⟨f,h1,h2⟩:=hi
    cases h2
    exact⟨f,by simpa using h1,rfl,rfl⟩
  obtain⟨f0,k0,e0,o0⟩:=get 0 3 0 (by rw[hf];rfl)
  obtain⟨f1,k1,e1,o1⟩:=get 1 24 1 (by rw[hf];rfl)
  obtain⟨f2,k2,e2,o2⟩:=get 2 3 4 (by rw[hf];rfl)
  obtain⟨f3,k3,e3,o3⟩:=get 3 3 5 (by rw[hf];rfl)
  have g0:=hg 0 f0 k0
  have g1:=hg 1 f1 k1
  have g2:=hg 2 f2 k2
  have g3:=hg 3 f3 k3
  rw[e0,o0,ce3] at g0
  rw[e1,o1,ce24] at g1
  rw[e2,o2,ce3] at g2
  rw[e3,o3,ce3] at g3
  rw[hfs] at hsz
  match xs,hsz with
  |[y0,y1,y2,y3],_=>
  simp only[List.drop_zero,List.take_succ_cons,List.take_zero,List.drop_succ_cons,List.getElem?_cons_zero,List.getElem?_cons_succ] at g0 g1 g2 g3
  simp only[Rows.uptoBulk,List.map_cons,List.map_nil,Rows.uptoBulkAll] at hk
  obtain⟨fn,e0,_⟩:=DataW.trod_int un3 g0
  obtain⟨p,e2,_⟩:=DataW.trod_int un3 g2
  obtain⟨q,e3,_⟩:=DataW.trod_int un3 g3
  obtain⟨n1,a1,d1,r1,_⟩:=open_rat g1 hB (by omega)
  cases e0
  cases e2
  cases e3
  have q1:=r1
  obtain⟨_,_,_,_,_,_,e1,_⟩:=q1
  simp only[Value.agg.injEq,Array.mk.injEq,List.cons.injEq,and_true] at e1
  obtain⟨rfl,rfl,rfl⟩:=e1
  exact⟨fn,p,q,n1,a1,d1,_,_,_,_,_,_,_,rfl,r1⟩
end Go.Q
