/-
  Roots of numbers on a grid, plain: their signs, when they are exact, their order. Conditions: the index is not 0.
  The series of the arctangent on a grid lies on both sides of its exact sum, which rises: no program. Conditions: the numbers are at most 1.
  The brackets of the arctangent and of halved angles keep the order: no program. Conditions: the numbers are at most 1 of the grid.
  Sixteen times the lower arctangent of a sixteenth of a turn at most pi's upper bound (by computation): no program. Conditions: the working precision is from 32 to 160.
  The brackets of arctangent, arcsine and arccosine keep the order: no program. Conditions: the functions' domains; precisions up to 128.
  The brackets of logarithm and exponential keep the order: no program. Conditions: the functions' domains.
  The brackets of the functions that rise, and of the arccosine, keep the order: no program. Conditions: both numbers have a bracket.
  The series of sine and cosine on a grid and their exact sums: no program. Conditions: the numbers are at most 1.
  How far apart the bounds of the series are: no program. Conditions: the numbers are at most 1 of the grid (of the exponential: 64).
  The brackets' ends are whole multiples of a unit, in order, at most two units apart: no program. Conditions: the functions' domains; precisions up to 128.
  Sums of 161 terms of the exponential's parts: the addition theorem, but for very little: no program. Conditions: the numbers are at most 2.
  The sums of sine and cosine lie between their bounds: no program. Conditions: the numbers are at most 1.
-/
import Derived.Test.YtacebncjhpdacaaGreatDoorKe595c9PkO
import Derived.Test.YtacebncjhpdacaaGreatDoorK43338aPkR
set_option linter.unusedVariables false
set_option linter.unusedSimpArgs false
namespace Go.Q
theorem sgn_negs (m d:Nat):sgn true m d= -(sgn false m d):=by
  show mkRat (-(m:Int)) d= -(mkRat (m:Int) d)
  rw[Rat.neg_mkRat]
theorem dec_pos {q:Rat} (h:0≤q):decide (q.num < 0)=false:=by
  rw[decide_eq_false_iff_not,num_neg]
  grind
theorem dec_neg {q:Rat} (h:q < 0):decide (q.num < 0)=true:=by
  rw[decide_eq_true_iff,num_neg]
  exact h
theorem rtw_neg (q:Rat) (n p:Nat):rtw (-q) n p=rtw q n p:=by
  unfold rtw
  rw[Rat.neg_num,Int.natAbs_neg,Rat.neg_den]
theorem rtx_neg (q:Rat) (n p:Nat):rtx (-q) n p=rtx q n p:=by
  unfold rtx
  rw[rtw_neg,Rat.neg_num,Int.natAbs_neg,Rat.neg_den]
theorem rootg_neg {q:Rat} (h:q < 0) (up:Bool) (n p:Nat):rootg up q n p= -(rootg (!up) (-q) n p):=by
  unfold rootg rtm
  rw[dec_neg h,dec_pos (show 0≤ -q by grind),rtw_neg,rtx_neg,sgn_negs]
  cases up<;>rfl
theorem rootg_dn {q:Rat} (h:0≤q) (n p:Nat):rootg false q n p=sgn false (irt n (rtw q n p)) (2^p):=by
  unfold rootg rtm
  rw[dec_pos h]
  rfl
theorem rootg_up {q:Rat} (h:0≤q) (n p:Nat):rootg true q n p=sgn false (if rtx q n p=true then irt n (rtw q n p) else irt n (rtw q n p)+1) (2^p):=by
  unfold rootg rtm
  rw[dec_pos h]
  cases rtx q n p<;>rfl
theorem rmul_pow (a b:Rat) (n:Nat):(a*b)^n=a^n*b^n:=by
  induction n with
  |zero=>simp
  |succ n ih=>rw[Rat.pow_succ,Rat.pow_succ,Rat.pow_succ,ih];grind
theorem sgn_mden (m:Nat) {d:Nat} (hd:d≠0):sgn false m d*(d:Rat)=(m:Rat):=by
  show mkRat (m:Int) d*(d:Rat)=_
  have h1:(d:Rat)≠0:=by exact_mod_cast hd
  rw[Rat.mkRat_eq_div]
  exact Rat.div_mul_cancel h1
theorem num_den {q:Rat} (h:0≤q):q*(q.den:Rat)=(q.num.natAbs:Rat):=by
  have h1:=sgn_self q
  rw[dec_pos h] at h1
  have h2:=sgn_mden q.num.natAbs (d:=q.den) q.den_nz
  rwa[h1] at h2
theorem grid_pow (m n p:Nat) (q:Rat):sgn false m (2^p)^n*((2^(p*n):Nat):Rat)*(q.den:Rat)=((m^n*q.den:Nat):Rat):=by
  have h1:=sgn_mden m (d:=2^p) (Nat.ne_of_gt (Nat.pow_pos (by decide)))
  have h2:(sgn false m (2^p)*((2^p:Nat):Rat))^n=(m:Rat)^n:=by rw[h1]
  rw[rmul_pow] at h2
  have h3:(((2^p:Nat):Rat))^n=((2^(p*n):Nat):Rat):=by rw[Nat.pow_mul];push_cast;rfl
  rw[h3] at h2
  rw[h2]
  push_cast
  rfl
theorem num_pow' {q:Rat} (h:0≤q) (n p:Nat):q*((2^(p*n):Nat):Rat)*(q.den:Rat)=((q.num.natAbs*2^(p*n):Nat):Rat):=by
  have h1:=num_den h
  have:q*((2^(p*n):Nat):Rat)*(q.den:Rat)=(q*(q.den:Rat))*((2^(p*n):Nat):Rat):=by grind
  rw[this,h1]
  push_cast
  rfl
theorem scale_pos (q:Rat) (n p:Nat):(0:Rat) < ((2^(p*n):Nat):Rat)∧(0:Rat) < (q.den:Rat):=by
  have h1:0 < 2^(p*n):=Nat.pow_pos (by decide)
  have h2:0 < q.den:=Nat.pos_of_ne_zero q.den_nz
  exact⟨by exact_mod_cast h1,by exact_mod_cast h2⟩
theorem mul_mono2 {a b c d:Rat} (hc:0 < c) (hd:0 < d):a*c*d≤b*c*d↔a≤b:=by
  constructor
  · intro h
    refine Decidable.byContradiction fun k=>?_
    have h1:b < a:=by grind
    have h2:=Rat.mul_lt_mul_of_pos_right h1 hc
    have h3:=Rat.mul_lt_mul_of_pos_right h2 hd
    grind
  · intro h
    have h2:=Rat.mul_le_mul_of_nonneg_right h (show 0≤c by grind)
    exact Rat.mul_le_mul_of_nonneg_right h2 (show 0≤d by grind)
theorem grid_le {q:Rat} (h:0≤q) (m n p:Nat):sgn false m (2^p)^n≤q↔m^n*q.den≤q.num.natAbs*2^(p*n):=by
  obtain⟨h1,h2⟩:=scale_pos q n p
  rw[←mul_mono2 h1 h2,grid_pow,num_pow' h]
  exact_mod_cast Iff.rfl
theorem grid_ge {q:Rat} (h:0≤q) (m n p:Nat):q≤sgn false m (2^p)^n↔q.num.natAbs*2^(p*n)≤m^n*q.den:=by
  obtain⟨h1,h2⟩:=scale_pos q n p
  rw[←mul_mono2 h1 h2,grid_pow,num_pow' h]
  exact_mod_cast Iff.rfl
theorem rtx_iff (q:Rat) (n p:Nat):rtx q n p=true↔irt n (rtw q n p)^n*q.den=q.num.natAbs*2^(p*n):=by
  have hd:0 < q.den:=Nat.pos_of_ne_zero q.den_nz
  unfold rtx
  rw[Bool.and_eq_true,decide_eq_true_iff,decide_eq_true_iff]
  have hw:rtw q n p=q.num.natAbs*2^(p*n) / q.den:=rfl
  generalize irt n (rtw q n p)^n=r at*
  rw[hw]
  generalize q.num.natAbs*2^(p*n)=N at*
  have:=Nat.div_add_mod N q.den
  constructor
  · rintro⟨h1,h2⟩
    rw[h1,Nat.mul_comm];omega
  · intro h
    rw[←h]
    exact⟨(Nat.mul_div_cancel _ hd).symm,Nat.mul_mod_left ..⟩
theorem root_low {q:Rat} (h:0≤q) {n:Nat} (hn:n≠0) (p:Nat):rootg false q n p^n≤q:=by
  rw[rootg_dn h,grid_le h]
  have h1:=irt_le (n:=n) (a:=rtw q n p) hn
  have h2:rtw q n p*q.den≤q.num.natAbs*2^(p*n):=Nat.div_mul_le_self _ _
  exact Nat.le_trans (Nat.mul_le_mul_right _ h1) h2
theorem root_high {q:Rat} (h:0≤q) {n:Nat} (hn:n≠0) (p:Nat):q≤rootg true q n p^n:=by
  rw[rootg_up h,grid_ge h]
  cases hx:rtx q n p with
  | true=>
    have:=(rtx_iff q n p).1 hx
    simp only[if_true]
    omega
  | false=>
    simp only[Bool.false_eq_true,if_false]
    have h1:rtw q n p < (irt n (rtw q n p)+1)^n:=Decidable.byContradiction fun k=>by
      have:=irt_max (n:=n) (a:=rtw q n p) (j:=irt n (rtw q n p)+1) hn (by omega)
      omega
    have hd:0 < q.den:=Nat.pos_of_ne_zero q.den_nz
    have h2:q.num.natAbs*2^(p*n) < (irt n (rtw q n p)+1)^n*q.den:=by
      have hw:rtw q n p=q.num.natAbs*2^(p*n) / q.den:=rfl
      rw[hw,Nat.div_lt_iff_lt_mul hd] at h1
      exact h1
    omega
theorem rootg_nonneg {q:Rat} (h:0≤q) (up:Bool) (n p:Nat):0≤rootg up q n p:=by
  unfold rootg
  rw[dec_pos h]
  have h1:=sgn_mden (rtm up q n p) (d:=2^p) (Nat.ne_of_gt (Nat.pow_pos (by decide)))
  have h2:(0:Rat) < ((2^p:Nat):Rat):=by
    have:0 < 2^p:=Nat.pow_pos (by decide)
    exact_mod_cast this
  have h3:(0:Rat)≤((rtm up q n p:Nat):Rat):=by exact_mod_cast Nat.zero_le _
  refine Decidable.byContradiction fun k=>?_
  have h4:=Rat.mul_lt_mul_of_pos_right (show sgn false (rtm up q n p) (2^p) < 0 by grind) h2
  rw[h1,Rat.zero_mul] at h4
  grind
theorem rpow_lt {a b:Rat} {n:Nat} (hn:n≠0) (h0:0≤a) (h:a < b):a^n < b^n:=by
  obtain⟨m,rfl⟩:∃m,n=m+1:=⟨n - 1,by omega⟩
  rw[Rat.pow_succ,Rat.pow_succ]
  have h1:=rpow_mono m h0 (show a≤b by grind)
  have h2:=Rat.mul_le_mul_of_nonneg_right h1 h0
  have h3:=Rat.mul_lt_mul_of_pos_left h (Rat.pow_pos (n:=m) (show 0 < b by grind))
  grind
theorem root_mono0 {a b:Rat} (ha:0≤a) (h:a≤b) {n:Nat} (hn:n≠0) (p:Nat):rootg false a n p≤rootg true b n p:=by
  refine Decidable.byContradiction fun k=>?_
  have hb:0≤b:=Rat.le_trans ha h
  have h1:=rpow_lt hn (rootg_nonneg hb true n p) (show rootg true b n p < rootg false a n p by grind)
  have h2:=root_low ha hn p
  have h3:=root_high hb hn p
  grind
theorem root_mono {a b:Rat} (h:a≤b) {n:Nat} (hn:n≠0) (p:Nat):rootg false a n p≤rootg true b n p:=by
  by_cases ha:0≤a
  · exact root_mono0 ha h hn p
  · have e1:=rootg_neg (show a < 0 by grind) false n p
    have n1:=rootg_nonneg (show 0≤ -a by grind) true n p
    have e1:rootg false a n p= -(rootg true (-a) n p):=e1
    by_cases hb:0≤b
    · have:=rootg_nonneg hb true n p
      rw[e1];grind
    · have e2:rootg true b n p= -(rootg false (-b) n p):=rootg_neg (show b < 0 by grind) true n p
      have:=root_mono0 (show 0≤ -b by grind) (show -b≤ -a by grind) hn p
      rw[e1,e2];grind
end Go.Q
namespace Go.Q
set_option maxRecDepth 100000
set_option maxHeartbeats 4000000
theorem pow_plus2 (z:Rat) (m:Nat):z^(m+2)=z^m*z^2:=by
  have e:z^2=z*z:=by rw[show(2:Nat)=1+1 from rfl,Rat.pow_succ,Rat.pow_one]
  rw[Rat.pow_succ,Rat.pow_succ,e,Rat.mul_assoc]
theorem pow_dif {x y:Rat} (hx:0≤x) (h:x≤y):∀m:Nat,(m:Rat)*x^m*(y - x)≤(y^m - x^m)*x
  |0=>by rw[Rat.pow_zero,Rat.pow_zero];grind
  | m +1=>by
    have ih:=pow_dif hx h m
    have e:((m+1:Nat):Rat)=(m:Rat)+1:=by push_cast;rfl
    have hy:0≤y:=Rat.le_trans hx h
    have p1:=Rat.mul_le_mul_of_nonneg_right ih hy
    have p2:0≤x^m*(y - x)*(y - x)*(m:Rat):=by
      have a1:0≤x^m:=Rat.pow_nonneg hx
      have a2:0≤y - x:=by grind
      have a3:(0:Rat)≤(m:Rat):=by exact_mod_cast Nat.zero_le m
      exact Rat.mul_nonneg (Rat.mul_nonneg (Rat.mul_nonneg a1 a2) a2) a3
    rw[e,Rat.pow_succ,Rat.pow_succ]
    generalize x^m=X at*
    generalize y^m=Y at*
    generalize(m:Rat)=M at*
    grind
theorem pow_step {x y:Rat} (hx:0≤x) (h:x≤y) (hy:y≤1) (m:Nat):(m:Rat)*(y^(m+1) - x^(m+1))≤((m:Rat)+1)*(y^m - x^m):=by
  have k:=pow_dif hx h m
  have d:0≤y^m - x^m:=by
    have:=rpow_mono m hx h
    grind
  have a3:(0:Rat)≤(m:Rat):=by exact_mod_cast Nat.zero_le m
  have p1:(m:Rat)*(y^m - x^m)*y≤(m:Rat)*(y^m - x^m)*1:=Rat.mul_le_mul_of_nonneg_left hy (Rat.mul_nonneg a3 d)
  have p2:(y^m - x^m)*x≤(y^m - x^m)*1:=Rat.mul_le_mul_of_nonneg_left (Rat.le_trans h hy) d
  rw[Rat.pow_succ,Rat.pow_succ]
  generalize x^m=X at*
  generalize y^m=Y at*
  generalize(m:Rat)=M at*
  grind
theorem pow_two_steps {x y:Rat} (hx:0≤x) (h:x≤y) (hy:y≤1) {m:Nat} (hm:m≠0):(y^(m+2) - x^(m+2))*((m+2:Nat):Rat)⁻¹≤(y^m - x^m)*(m:Rat)⁻¹:=by
  have k1:=pow_step hx h hy m
  have k2:=pow_step hx h hy (m+1)
  have e1:((m+1:Nat):Rat)=(m:Rat)+1:=by push_cast;rfl
  have e2:((m+2:Nat):Rat)=(m:Rat)+2:=by push_cast;rfl
  have m0:(0:Rat) < (m:Rat):=by exact_mod_cast Nat.pos_of_ne_zero hm
  rw[e1] at k2
  rw[e2]
  rw[show m+1+1=m+2 from rfl] at k2
  generalize(m:Rat)=M at*
  generalize y^m - x^m=A at*
  generalize y^(m+1) - x^(m+1)=B at*
  generalize y^(m+2) - x^(m+2)=C at*
  have i1:M*M⁻¹=1:=Rat.mul_inv_cancel _ (by grind)
  have i2:(M+2)*(M+2)⁻¹=1:=Rat.mul_inv_cancel _ (by grind)
  have q:M*C≤(M+2)*A:=by
    have t:=Rat.mul_le_mul_of_nonneg_left k2 (Rat.le_of_lt m0)
    have t2:=Rat.mul_le_mul_of_nonneg_left k1 (show 0≤M+2 by grind)
    have h0:(M+1)*(M*C)≤(M+1)*((M+2)*A):=by grind
    exact Rat.le_of_mul_le_mul_left h0 (by grind)
  have n1:0≤M⁻¹:=Rat.le_of_lt (Rat.inv_pos.2 m0)
  have n2:0≤(M+2)⁻¹:=Rat.le_of_lt (Rat.inv_pos.2 (by grind))
  have r:=Rat.mul_le_mul_of_nonneg_right q (Rat.mul_nonneg n1 n2)
  have z1:M*C*(M⁻¹*(M+2)⁻¹)=C*(M+2)⁻¹:=by grind
  have z2:(M+2)*A*(M⁻¹*(M+2)⁻¹)=A*M⁻¹:=by grind
  rw[z1,z2] at r
  exact r
def arcQ (t:Rat):Bool→Nat→Rat
  |false,0=>(79:Rat)⁻¹ - t*(81:Rat)⁻¹
  |true,0=>(79:Rat)⁻¹
  |false,j+1=>((77 - 2*j:Nat):Rat)⁻¹ - t*arcQ t true j
  |true,j+1=>((77 - 2*j:Nat):Rat)⁻¹ - t*arcQ t false j
theorem arcQ_s (t:Rat) (c:Bool) (j:Nat):arcQ t c (j+1)=((77 - 2*j:Nat):Rat)⁻¹ - t*arcQ t (!c) j:=by cases c<;>rfl
theorem arcQ_le {t:Rat} (ht:0≤t):∀j,arcQ t false j≤arcQ t true j
  | 0=>by
    show(79:Rat)⁻¹ - t*(81:Rat)⁻¹≤(79:Rat)⁻¹
    have:0≤t*(81:Rat)⁻¹:=Rat.mul_nonneg ht (by decide+kernel)
    grind
  | j+1=>by
    rw[arcQ_s,arcQ_s]
    have:=Rat.mul_le_mul_of_nonneg_left (arcQ_le ht j) ht
    show _ - t*arcQ t true j≤_ - t*arcQ t false j
    grind
theorem arcP_mono {x y:Rat} (hx:0≤x) (h:x≤y) (hy:y≤1):∀(j:Nat) (c:Bool),j≤39→x^(79 - 2*j)*arcQ (x^2) c j≤y^(79 - 2*j)*arcQ (y^2) c j∧y^(79 - 2*j)*arcQ (y^2) c j - x^(79 - 2*j)*arcQ (x^2) c j≤(y^(79 - 2*j) - x^(79 - 2*j))*((79 - 2*j:Nat):Rat)⁻¹
  | 0,c,_=>by
    have k:=pow_two_steps hx h hy (m:=79) (by decide)
    have d:=rpow_mono 81 hx h
    have d':=rpow_mono 79 hx h
    have e79:((79 - 2*0:Nat):Rat)=79:=rfl
    have e81:((79+2:Nat):Rat)=81:=rfl
    have e79':((79:Nat):Rat)=79:=rfl
    rw[e81,e79'] at k
    rw[e79]
    have p:∀z:Rat,z^(79+2)=z^79*z^2:=fun z=>pow_plus2 z 79
    have i0:(0:Rat)≤(79:Rat)⁻¹:=by decide+kernel
    have i1:(0:Rat)≤(81:Rat)⁻¹:=by decide+kernel
    have d81:x^79*x^2≤y^79*y^2:=by rw[←p,←p];exact d
    rw[p,p] at k
    have n1:=Rat.mul_le_mul_of_nonneg_right d' i0
    have n2:=Rat.mul_le_mul_of_nonneg_right d81 i1
    simp only[Nat.mul_zero,Nat.sub_zero]
    cases c
    · show x^79*((79:Rat)⁻¹ - x^2*(81:Rat)⁻¹)≤y^79*((79:Rat)⁻¹ - y^2*(81:Rat)⁻¹)∧y^79*((79:Rat)⁻¹ - y^2*(81:Rat)⁻¹) - x^79*((79:Rat)⁻¹ - x^2*(81:Rat)⁻¹)≤(y^79 - x^79)*(79:Rat)⁻¹
      clear p d d' d81 e79 e81 e79' hx h hy i0 i1
      generalize x^79=X at*
      generalize y^79=Y at*
      generalize x^2=X2 at*
      generalize y^2=Y2 at*
      generalize(79:Rat)⁻¹=A at*
      generalize(81:Rat)⁻¹=B at*
      constructor<;>grind
    · show x^79*(79:Rat)⁻¹≤y^79*(79:Rat)⁻¹∧y^79*(79:Rat)⁻¹ - x^79*(79:Rat)⁻¹≤(y^79 - x^79)*(79:Rat)⁻¹
      clear p d d' d81 e79 e81 e79' hx h hy i0 i1
      generalize x^79=X at*
      generalize y^79=Y at*
      generalize(79:Rat)⁻¹=A at*
      constructor<;>grind
  | j+1,c,hj=>by
    obtain⟨a1,a2⟩:=arcP_mono hx h hy j (!c) (by omega)
    have k:=pow_two_steps hx h hy (m:=77 - 2*j) (by omega)
    rw[show 77 - 2*j+2=79 - 2*j by omega] at k
    have p:∀z:Rat,z^(79 - 2*j)=z^(77 - 2*j)*z^2:=fun z=>by rw[←pow_plus2];congr 1;omega
    rw[show 79 - 2*(j+1)=77 - 2*j by omega,arcQ_s,arcQ_s]
    rw[p,p] at a1 a2 k
    clear p
    generalize x^(77 - 2*j)=X at*
    generalize y^(77 - 2*j)=Y at*
    generalize arcQ (x^2) (!c) j=Q at*
    generalize arcQ (y^2) (!c) j=R at*
    generalize x^2=X2 at*
    generalize y^2=Y2 at*
    generalize((77 - 2*j:Nat):Rat)⁻¹=A at*
    generalize((79 - 2*j:Nat):Rat)⁻¹=B at*
    clear hx h hy
    constructor<;>grind
theorem arcQ_mono {x y:Rat} (hx:0≤x) (h:x≤y) (hy:y≤1):x*arcQ (x^2) false 39≤y*arcQ (y^2) true 39:=by
  have h1:=(arcP_mono hx h hy 39 false (Nat.le_refl _)).1
  rw[show 79 - 2*39=1 from rfl,Rat.pow_one,Rat.pow_one] at h1
  refine Rat.le_trans h1 ?_
  exact Rat.mul_le_mul_of_nonneg_left (arcQ_le (Rat.pow_nonneg (Rat.le_trans hx h)) 39) (Rat.le_trans hx h)
end Go.Q
namespace Go.Q
set_option maxRecDepth 100000
set_option maxHeartbeats 4000000
theorem div_rat {a d:Nat} (_:d≠0):((a / d:Nat):Rat)*(d:Rat)≤(a:Rat):=by exact_mod_cast Nat.div_mul_le_self a d
theorem cdiv_rat {a d:Nat} (hd:d≠0):(a:Rat)≤((cdiv a d:Nat):Rat)*(d:Rat):=by
  have:a≤cdiv a d*d:=by rw[Nat.mul_comm];exact(cdiv_le_iff hd).1 (Nat.le_refl _)
  exact_mod_cast this
theorem arcV_Q {w s t:Nat} {x:Rat} (hw:20≤w) (hx:0≤x) (hs:(s:Rat)≤x*((2^w:Nat):Rat)) (ht:x*((2^w:Nat):Rat)≤(t:Rat)) (ls:s≤2^w) (lt:t≤2^w):
    ∀j,j≤39→((arcV w s t false j:Nat):Rat)≤((2^w:Nat):Rat)*arcQ x false j∧((2^w:Nat):Rat)*arcQ x true j≤((arcV w s t true j:Nat):Rat)
  | 0,_=>by
    have u0:=u_pos w
    rw[arcV_0,arcV_0']
    constructor
    · have h1:=div_rat (a:=2^w*81 - t*79) (d:=79*81) (by decide)
      have e:((2^w*81 - t*79:Nat):Rat)=((2^w:Nat):Rat)*81 - (t:Rat)*79:=by
        have:((2^w*81 - t*79:Nat):Rat)+((t*79:Nat):Rat)=((2^w*81:Nat):Rat):=by
          rw[←Rat.natCast_add];congr 1;omega
        rw[Rat.natCast_mul,Rat.natCast_mul] at this
        have c1:((79:Nat):Rat)=79:=rfl
        have c2:((81:Nat):Rat)=81:=rfl
        rw[c1,c2] at this
        generalize((2^w*81 - t*79:Nat):Rat)=z at*
        grind
      rw[e] at h1
      generalize((2^w:Nat):Rat)=u at*
      generalize(((2^w*81 - t*79) / (79*81):Nat):Rat)=V at*
      have c3:((79*81:Nat):Rat)=6399:=rfl
      rw[c3] at h1
      show V≤u*((79:Rat)⁻¹ - x*(81:Rat)⁻¹)
      have i1:(79:Rat)⁻¹=81 / 6399:=by decide+kernel
      have i2:(81:Rat)⁻¹=79 / 6399:=by decide+kernel
      rw[i1,i2]
      grind
    · have h1:=cdiv_rat (a:=2^w) (d:=79) (by decide)
      show((2^w:Nat):Rat)*(79:Rat)⁻¹≤_
      have c1:((79:Nat):Rat)=79:=rfl
      rw[c1] at h1
      have i1:(79:Rat)*(79:Rat)⁻¹=1:=by decide+kernel
      have i0:(0:Rat)≤(79:Rat)⁻¹:=by decide+kernel
      have:=Rat.mul_le_mul_of_nonneg_right h1 i0
      rw[Rat.mul_assoc,i1,Rat.mul_one] at this
      exact this
  | j + 1,hj=>by
    obtain⟨h1,h2⟩:=arcV_Q hw hx hs ht ls lt j (by omega)
    obtain⟨b1,b2⟩:=arcV_sub (w:=w) (s:=s) (t:=t) (j:=j) hw ls lt (by omega)
    have u0:=u_pos w
    have hk:(77 - 2*j)*2^w≠0:=Nat.mul_ne_zero (by omega) (pow2_ne w)
    have k0:(0:Rat) < ((77 - 2*j:Nat):Rat):=by exact_mod_cast (show 0 < 77 - 2*j by omega)
    have i1:((77 - 2*j:Nat):Rat)*((77 - 2*j:Nat):Rat)⁻¹=1:=Rat.mul_inv_cancel _ (by grind)
    have v1:(0:Rat)≤((arcV w s t true j:Nat):Rat):=by exact_mod_cast Nat.zero_le _
    have v2:(0:Rat)≤((arcV w s t false j:Nat):Rat):=by exact_mod_cast Nat.zero_le _
    have xu:0≤x*((2^w:Nat):Rat):=Rat.mul_nonneg hx (Rat.le_of_lt u0)
    have m1:=Rat.mul_le_mul_of_nonneg_right ht v1
    have m2:=Rat.mul_le_mul_of_nonneg_left h2 xu
    have m3:=Rat.mul_le_mul_of_nonneg_right hs v2
    have m4:=Rat.mul_le_mul_of_nonneg_left h1 xu
    rw[arcV_s,arcV_s',arcQ_s,arcQ_s]
    have c1:=div_rat (a:=2^w*2^w - t*arcV w s t true j*(77 - 2*j)) hk
    have c2:=cdiv_rat (a:=2^w*2^w - s*arcV w s t false j*(77 - 2*j)) hk
    have e1:((2^w*2^w - t*arcV w s t true j*(77 - 2*j):Nat):Rat)=((2^w:Nat):Rat)*((2^w:Nat):Rat) - (t:Rat)*((arcV w s t true j:Nat):Rat)*((77 - 2*j:Nat):Rat):=by
      have:((2^w*2^w - t*arcV w s t true j*(77 - 2*j):Nat):Rat)+((t*arcV w s t true j*(77 - 2*j):Nat):Rat)=((2^w*2^w:Nat):Rat):=by
        rw[←Rat.natCast_add,Nat.sub_add_cancel b1]
      rw[Rat.natCast_mul,Rat.natCast_mul,Rat.natCast_mul] at this
      generalize((2^w*2^w - t*arcV w s t true j*(77 - 2*j):Nat):Rat)=z at*
      grind
    have e2:((2^w*2^w - s*arcV w s t false j*(77 - 2*j):Nat):Rat)=((2^w:Nat):Rat)*((2^w:Nat):Rat) - (s:Rat)*((arcV w s t false j:Nat):Rat)*((77 - 2*j:Nat):Rat):=by
      have:((2^w*2^w - s*arcV w s t false j*(77 - 2*j):Nat):Rat)+((s*arcV w s t false j*(77 - 2*j):Nat):Rat)=((2^w*2^w:Nat):Rat):=by
        rw[←Rat.natCast_add,Nat.sub_add_cancel b2]
      rw[Rat.natCast_mul,Rat.natCast_mul,Rat.natCast_mul] at this
      generalize((2^w*2^w - s*arcV w s t false j*(77 - 2*j):Nat):Rat)=z at*
      grind
    rw[e1,Rat.natCast_mul (77 - 2*j)] at c1
    rw[e2,Rat.natCast_mul (77 - 2*j)] at c2
    clear e1 e2 b1 b2 hk
    generalize(((2^w*2^w - t*arcV w s t true j*(77 - 2*j)) / ((77 - 2*j)*2^w):Nat):Rat)=Z1 at*
    generalize((cdiv (2^w*2^w - s*arcV w s t false j*(77 - 2*j)) ((77 - 2*j)*2^w):Nat):Rat)=Z2 at*
    generalize((arcV w s t true j:Nat):Rat)=V at*
    generalize((arcV w s t false j:Nat):Rat)=W at*
    generalize hK:((77 - 2*j:Nat):Rat)=K at*
    generalize((2^w:Nat):Rat)=u at*
    simp only[Bool.not_false,Bool.not_true]
    generalize arcQ x true j=Q at*
    generalize arcQ x false j=R at*
    have ku:0 < K*u:=Rat.mul_pos k0 u0
    have n1:x*u*(u*Q)≤(t:Rat)*V:=Rat.le_trans m2 m1
    have n2:(s:Rat)*W≤x*u*(u*R):=Rat.le_trans m3 m4
    have n3:=Rat.mul_le_mul_of_nonneg_right n1 (Rat.le_of_lt k0)
    have n4:=Rat.mul_le_mul_of_nonneg_right n2 (Rat.le_of_lt k0)
    constructor
    · refine Rat.le_of_mul_le_mul_right (c:=K*u) ?_ ku
      have:u*(K⁻¹ - x*Q)*(K*u)=u*u*(K*K⁻¹) - x*u*(u*Q)*K:=by grind
      rw[this,i1]
      grind
    · refine Rat.le_of_mul_le_mul_right (c:=K*u) ?_ ku
      have:u*(K⁻¹ - x*R)*(K*u)=u*u*(K*K⁻¹) - x*u*(u*R)*K:=by grind
      rw[this,i1]
      grind
theorem grid_sq {a w:Nat}:((a:Rat) / ((2^w:Nat):Rat))^2*((2^w:Nat):Rat)*((2^w:Nat):Rat)=(a:Rat)*(a:Rat):=by
  have u0:=u_pos w
  have e:(a:Rat) / ((2^w:Nat):Rat)*((2^w:Nat):Rat)=(a:Rat):=Rat.div_mul_cancel (by grind)
  have e2:((a:Rat) / ((2^w:Nat):Rat))^2=(a:Rat) / ((2^w:Nat):Rat)*((a:Rat) / ((2^w:Nat):Rat)):=by rw[show(2:Nat)=1+1 from rfl,Rat.pow_succ,Rat.pow_one]
  rw[e2]
  generalize(a:Rat) / ((2^w:Nat):Rat)=q at*
  rw[←e]
  grind
theorem sq_in {a b c w:Nat} (h1:a≤c) (h2:c≤b):((sqL a w:Nat):Rat)≤((c:Rat) / ((2^w:Nat):Rat))^2*((2^w:Nat):Rat)∧((c:Rat) / ((2^w:Nat):Rat))^2*((2^w:Nat):Rat)≤((sqH b w:Nat):Rat):=by
  have u0:=u_pos w
  have g:=grid_sq (a:=c) (w:=w)
  have d1:=div_rat (a:=a*a) (d:=2^w) (pow2_ne w)
  have d2:=cdiv_rat (a:=b*b) (d:=2^w) (pow2_ne w)
  have l1:((a*a:Nat):Rat)≤((c*c:Nat):Rat):=by exact_mod_cast Nat.mul_le_mul h1 h1
  have l2:((c*c:Nat):Rat)≤((b*b:Nat):Rat):=by exact_mod_cast Nat.mul_le_mul h2 h2
  have ec:((c*c:Nat):Rat)=(c:Rat)*(c:Rat):=Rat.natCast_mul c c
  rw[ec,←g] at l1 l2
  unfold sqL sqH
  generalize((c:Rat) / ((2^w:Nat):Rat))^2*((2^w:Nat):Rat)=q at*
  exact⟨Rat.le_of_mul_le_mul_right (Rat.le_trans d1 l1) u0,Rat.le_of_mul_le_mul_right (Rat.le_trans l2 d2) u0⟩
theorem arcL_Q {a b c w:Nat} (hw:20≤w) (h1:a≤c) (h2:c≤b) (lb:b≤2^w):((arcL a b w:Nat):Rat)≤(c:Rat) / ((2^w:Nat):Rat)*arcQ (((c:Rat) / ((2^w:Nat):Rat))^2) false 39*((2^w:Nat):Rat)∧(c:Rat) / ((2^w:Nat):Rat)*arcQ (((c:Rat) / ((2^w:Nat):Rat))^2) true 39*((2^w:Nat):Rat)≤((arcH a b w:Nat):Rat):=by
  have u0:=u_pos w
  obtain⟨q1,q2⟩:=sq_in (w:=w) h1 h2
  have x0:0≤(c:Rat) / ((2^w:Nat):Rat):=by
    rw[Rat.div_def]
    exact Rat.mul_nonneg (by exact_mod_cast Nat.zero_le c) (Rat.le_of_lt (Rat.inv_pos.2 u0))
  obtain⟨v1,v2⟩:=arcV_Q hw (Rat.pow_nonneg (n:=2) x0) q1 q2 (sqL_le (Nat.le_trans h1 (Nat.le_trans h2 lb))) (sqH_le lb) 39 (Nat.le_refl _)
  have e:(c:Rat) / ((2^w:Nat):Rat)*((2^w:Nat):Rat)=(c:Rat):=Rat.div_mul_cancel (by grind)
  have d1:=div_rat (a:=a*arcV w (sqL a w) (sqH b w) false 39) (d:=2^w) (pow2_ne w)
  have d2:=cdiv_rat (a:=b*arcV w (sqL a w) (sqH b w) true 39) (d:=2^w) (pow2_ne w)
  have l1:((a*arcV w (sqL a w) (sqH b w) false 39:Nat):Rat)≤((c*arcV w (sqL a w) (sqH b w) false 39:Nat):Rat):=by exact_mod_cast Nat.mul_le_mul_right _ h1
  have l2:((c*arcV w (sqL a w) (sqH b w) true 39:Nat):Rat)≤((b*arcV w (sqL a w) (sqH b w) true 39:Nat):Rat):=by exact_mod_cast Nat.mul_le_mul_right _ h2
  rw[Rat.natCast_mul c] at l1 l2
  unfold arcL arcH
  have c0:(0:Rat)≤(c:Rat):=by exact_mod_cast Nat.zero_le c
  have m1:=Rat.mul_le_mul_of_nonneg_left v1 c0
  have m2:=Rat.mul_le_mul_of_nonneg_left v2 c0
  generalize arcQ (((c:Rat) / ((2^w:Nat):Rat))^2) false 39=P at*
  generalize arcQ (((c:Rat) / ((2^w:Nat):Rat))^2) true 39=Q at*
  generalize(c:Rat) / ((2^w:Nat):Rat)=x at*
  refine⟨Rat.le_of_mul_le_mul_right (c:=((2^w:Nat):Rat)) ?_ u0,Rat.le_of_mul_le_mul_right (c:=((2^w:Nat):Rat)) ?_ u0⟩
  · refine Rat.le_trans (Rat.le_trans d1 l1) ?_
    generalize((2^w:Nat):Rat)=u at*
    rw[←e] at m1 ⊢
    grind
  · refine Rat.le_trans ?_ (Rat.le_trans l2 d2)
    generalize((2^w:Nat):Rat)=u at*
    rw[←e] at m2 ⊢
    grind
theorem grid_div {a b w:Nat} (h:a≤b):(a:Rat) / ((2^w:Nat):Rat)≤(b:Rat) / ((2^w:Nat):Rat):=by
  rw[Rat.div_def,Rat.div_def]
  exact Rat.mul_le_mul_of_nonneg_right (by exact_mod_cast h) (Rat.le_of_lt (Rat.inv_pos.2 (u_pos w)))
theorem irt_le_up (n:Nat):irt 2 n≤rtUp n:=by unfold rtUp;split<;>omega
theorem rtUp_sq (n:Nat):n≤rtUp n*rtUp n:=by
  unfold rtUp
  split
  · rename_i h;rw[Nat.pow_two] at h;omega
  · refine Nat.le_of_lt (Nat.lt_of_not_le fun c=>?_)
    have:=irt_max (n:=2) (a:=n) (j:=irt 2 n+1) (by decide) (by rw[Nat.pow_two];exact c)
    omega
theorem rtUp_le {n r:Nat} (h:n≤r*r):rtUp n≤r:=by
  have h1:=irt_le (n:=2) (a:=n) (by decide)
  have h2:irt 2 n≤r:=by
    refine Nat.le_of_not_lt fun c=>?_
    have:=Nat.mul_le_mul (Nat.succ_le_of_lt c) (Nat.succ_le_of_lt c)
    rw[Nat.pow_two] at h1
    have e:(r+1)*(r+1)=r*r+2*r+1:=by rw[Nat.add_mul,Nat.mul_add];omega
    have:(r+1)*(r+1)≤irt 2 n*irt 2 n:=this
    omega
  unfold rtUp
  split
  · exact h2
  · rename_i hne
    rcases Nat.lt_or_eq_of_le h2 with c |c
    · omega
    · rw[c,Nat.pow_two] at hne h1;omega
theorem hvL_mono {a b w:Nat} (h:a≤b):hvL a w≤hvL b w:=by
  obtain⟨d,rfl⟩:=Nat.exists_eq_add_of_le h
  unfold hvL
  have hU:=Nat.pos_of_ne_zero (pow2_ne w)
  have h1:=rtUp_sq (2^(2*w)+a*a)
  have hp:=Nat.pos_of_ne_zero (pow2_ne (2*w))
  have ra:a≤rtUp (2^(2*w)+a*a):=by
    refine Nat.le_of_not_lt fun c=>?_
    have:=Nat.mul_lt_mul'' c c
    omega
  have h2:rtUp (2^(2*w)+(a+d)*(a+d))≤rtUp (2^(2*w)+a*a)+d:=by
    refine rtUp_le ?_
    generalize rtUp (2^(2*w)+a*a)=r at*
    have e1:(r+d)*(r+d)=r*r+2*(r*d)+d*d:=by rw[Nat.add_mul,Nat.mul_add,Nat.mul_add,Nat.mul_comm d r];omega
    have e2:(a+d)*(a+d)=a*a+2*(a*d)+d*d:=by rw[Nat.add_mul,Nat.mul_add,Nat.mul_add,Nat.mul_comm d a];omega
    have:=Nat.mul_le_mul_right d ra
    omega
  generalize rtUp (2^(2*w)+a*a)=r at*
  generalize rtUp (2^(2*w)+(a+d)*(a+d))=q at*
  generalize 2^w=U at*
  refine(Nat.le_div_iff_mul_le (by omega)).2 ?_
  have c1:=Nat.div_mul_le_self (a*U) (U+r)
  have c2:a*U / (U+r)≤a*U / (U+r):=Nat.le_refl _
  have c3:a*U / (U+r)≤U:=Nat.div_le_of_le_mul (by rw[Nat.add_mul,Nat.mul_comm a U];have:=Nat.mul_le_mul_right U ra;rw[Nat.mul_comm U a];omega)
  generalize a*U / (U+r)=m at*
  have c4:m*(U+q)≤m*(U+r+d):=Nat.mul_le_mul_left _ (by omega)
  have c5:m*d≤U*d:=Nat.mul_le_mul_right _ c3
  rw[Nat.mul_add m (U+r) d] at c4
  rw[Nat.add_mul,Nat.mul_comm d U]
  omega
theorem hv_le (b w:Nat):hvL b w≤hvH b w:=by
  unfold hvL hvH
  have hU:=Nat.pos_of_ne_zero (pow2_ne w)
  have h:=irt_le_up (2^(2*w)+b*b)
  refine Nat.le_trans (Nat.div_le_div_left (Nat.add_le_add_left h _) (by omega)) (le_cdiv _ (by omega))
theorem hv_ord {a b w:Nat} (h:a≤b):hvL a w≤hvH b w:=Nat.le_trans (hvL_mono h) (hv_le b w)
end Go.Q
namespace Go.Q
set_option maxRecDepth 100000
set_option maxHeartbeats 4000000
end Go.Q
namespace Go.Q
set_option maxRecDepth 100000
set_option maxHeartbeats 4000000
theorem rat_cross {x y:Rat} (hx:0≤x) (h:x≤y):x.num.natAbs*y.den≤y.num.natAbs*x.den:=by
  have h1:=(Rat.le_iff x y).1 h
  have a1:=Rat.num_nonneg.2 hx
  have a2:=Rat.num_nonneg.2 (Rat.le_trans hx h)
  have e1:((x.num.natAbs*y.den:Nat):Int)=x.num*y.den:=by rw[Int.natCast_mul,Int.natAbs_of_nonneg a1]
  have e2:((y.num.natAbs*x.den:Nat):Int)=y.num*x.den:=by rw[Int.natCast_mul,Int.natAbs_of_nonneg a2]
  omega
theorem glo_ghi_le {x y:Rat} {w:Nat} (h:x.num.natAbs*y.den≤y.num.natAbs*x.den):glo x w≤ghi y w:=by
  unfold glo ghi
  refine cdiv_ge y.den_nz ?_
  have h1:=Nat.div_mul_le_self (x.num.natAbs*2^w) x.den
  generalize x.num.natAbs*2^w / x.den=q at*
  refine Nat.le_of_mul_le_mul_right (c:=x.den) ?_ (Nat.pos_of_ne_zero x.den_nz)
  have h2:=Nat.mul_le_mul_right y.den h1
  have h3:=Nat.mul_le_mul_right (2^w) h
  rw[show y.den*q*x.den=q*x.den*y.den by rw[Nat.mul_comm y.den,Nat.mul_right_comm]]
  rw[show x.num.natAbs*2^w*y.den=x.num.natAbs*y.den*2^w by rw[Nat.mul_right_comm]] at h2
  rw[show y.num.natAbs*2^w*x.den=y.num.natAbs*x.den*2^w by rw[Nat.mul_right_comm]]
  exact Nat.le_trans h2 h3
theorem sgn_nonneg (n w:Nat):0≤sgn false n (2^w):=by
  have h1:=sgn_u n w
  have u0:=u_pos w
  have h2:(0:Rat)≤(n:Rat):=by exact_mod_cast Nat.zero_le n
  rw[←h1] at h2
  refine Rat.le_of_mul_le_mul_right (c:=((2^w:Nat):Rat)) ?_ u0
  grind
theorem num_pos0 {x:Rat} (h:0 < x):¬x.num < 0∧x.num.natAbs≠0:=by
  have h1:=Rat.num_nonneg.2 (Rat.le_of_lt h)
  have h2:x.num≠0:=fun c=>by have:=Rat.num_eq_zero.1 c;grind
  omega
theorem num_lt0 {x:Rat}:x.num < 0↔x < 0:=by
  have:=Rat.num_nonneg (q:=x)
  constructor
  · intro h
    refine Decidable.byContradiction fun c=>?_
    have:=this.2 (by grind)
    omega
  · intro h
    refine Int.not_le.1 fun c=>?_
    have:=this.1 c
    grind
theorem rinv_le {a b:Rat} (ha:0 < a) (h:a≤b):b⁻¹≤a⁻¹:=by
  have hb:0 < b:=by grind
  have i1:a*a⁻¹=1:=Rat.mul_inv_cancel _ (by grind)
  have i2:b*b⁻¹=1:=Rat.mul_inv_cancel _ (by grind)
  refine Rat.le_of_mul_le_mul_left (c:=a*b) ?_ (Rat.mul_pos ha hb)
  have e1:a*b*b⁻¹=a:=by rw[Rat.mul_assoc,i2,Rat.mul_one]
  have e2:a*b*a⁻¹=b:=by rw[Rat.mul_comm a b,Rat.mul_assoc,i1,Rat.mul_one]
  rw[e1,e2]
  exact h
theorem asH_ord {x y:Rat} {w:Nat} (dx:x.num.natAbs≤x.den) (dy:y.num.natAbs≤y.den) (h:abQ x≤abQ y):asH true x w≤asH false y w:=by
  obtain⟨a0,a1⟩:=abQ_bd dx
  obtain⟨b0,b1⟩:=abQ_bd dy
  have g1:=(asG_bd (u:=true) (w:=w) dx).1
  have g2:=(asG_bd (u:=false) (w:=w) dy).1
  have hr:asR y≤asR x:=by
    unfold asR
    have m1:=Rat.mul_le_mul_of_nonneg_left h a0
    have m2:=Rat.mul_le_mul_of_nonneg_right h b0
    grind
  have hg:asG false y w≤asG true x w:=root_mono hr (by decide) w
  have hi:=rinv_le (a:=1+asG false y w) (b:=1+asG true x w) (by grind) (by grind)
  have i0:0≤(1+asG true x w)⁻¹:=Rat.le_of_lt (Rat.inv_pos.2 (by grind))
  unfold asH
  exact Rat.le_trans (Rat.mul_le_mul_of_nonneg_right h i0) (Rat.mul_le_mul_of_nonneg_left hi b0)
end Go.Q
namespace Go.Q
set_option maxRecDepth 100000
set_option maxHeartbeats 4000000
theorem out_32 (a p:Nat):sgn false (a / 2^32) (2^p)≤sgn false a (2^(p+32))∧sgn false a (2^(p+32))≤sgn false (cdiv a (2^32)) (2^p):=by
  have e1:=sgn_u (a / 2^32) p
  have e2:=sgn_u a (p+32)
  have e3:=sgn_u (cdiv a (2^32)) p
  have eu:((2^(p+32):Nat):Rat)=((2^p:Nat):Rat)*((2^32:Nat):Rat):=by rw[←Rat.natCast_mul,←Nat.pow_add]
  have d1:((a / 2^32:Nat):Rat)*((2^32:Nat):Rat)≤(a:Rat):=div_rat (by decide)
  have d2:(a:Rat)≤((cdiv a (2^32):Nat):Rat)*((2^32:Nat):Rat):=cdiv_rat (by decide)
  have u0:=u_pos p
  have v0:(0:Rat) < ((2^32:Nat):Rat):=u_pos 32
  rw[←e1,←e2,eu] at d1
  rw[←e2,←e3,eu] at d2
  generalize((2^32:Nat):Rat)=v at*
  generalize((2^p:Nat):Rat)=u at*
  have uv:=Rat.mul_pos u0 v0
  exact⟨Rat.le_of_mul_le_mul_right (c:=u*v) (by grind) uv,Rat.le_of_mul_le_mul_right (c:=u*v) (by grind) uv⟩
def lnA (n d w:Nat):Rat:=if 0≤lge n d then sgn false (lg2L w*(lge n d).toNat+lgmL n d w) (2^w) else sgn false (lgmL n d w) (2^w)+ -sgn false (lg2H w*(0 - lge n d).toNat) (2^w)
def lnB (n d w:Nat):Rat:=if 0≤lge n d then sgn false (lg2H w*(lge n d).toNat+lgmH n d w) (2^w) else sgn false (lgmH n d w) (2^w)+ -sgn false (lg2L w*(0 - lge n d).toNat) (2^w)
theorem ln_out (n d p:Nat):lnLo n d p≤lnA n d (p+32)∧lnB n d (p+32)≤lnHi n d p:=by
  unfold lnLo lnHi lnA lnB
  by_cases h:0≤lge n d
  · simp only[if_pos h]
    exact⟨(out_32 _ p).1,(out_32 _ p).2⟩
  · simp only[if_neg h]
    exact⟨gdown_le _ _,le_gup _ _⟩
theorem exp_ge (x:Rat) (p:Nat):2^(p+112)≤expL x p∧2^(p+112)≤expH x p:=⟨qLo_ge (eLo_ge _ _ 40) 8,qHi_ge (eHi_ge _ _ 40) 8⟩
end Go.Q
namespace Go.Q
set_option maxRecDepth 100000
set_option maxHeartbeats 4000000
theorem br_e {fn:Int} {x:Rat} {p:Int} (h:brE fn x p=0):eErr fn x p=0:=by
  unfold brE at h
  split at h
  · cases h
  · unfold elE at h
    refine Decidable.byContradiction fun he=>?_
    rw[if_pos he] at h
    exact he h
end Go.Q
namespace Go.Q
set_option maxRecDepth 100000
set_option maxHeartbeats 4000000
def waQ (f:Nat) (x:Rat):Bool→Nat→Rat
  |false,0=>0
  |true,0=>1
  |false,j+1=>1 - x*waQ f x true j*((wav f (23 - j):Nat):Rat)⁻¹
  |true,j+1=>1 - x*waQ f x false j*((wav f (23 - j):Nat):Rat)⁻¹
theorem waQ_s (f:Nat) (x:Rat) (c:Bool) (j:Nat):waQ f x c (j+1)=1 - x*waQ f x (!c) j*((wav f (23 - j):Nat):Rat)⁻¹:=by cases c<;>rfl
theorem wav_inv {f:Nat} (hf:1≤f) (i:Nat):0≤((wav f i:Nat):Rat)⁻¹∧((wav f i:Nat):Rat)*((wav f i:Nat):Rat)⁻¹=1:=by
  have h:(0:Rat) < ((wav f i:Nat):Rat):=by exact_mod_cast Nat.pos_of_ne_zero (wav_pos hf)
  exact⟨Rat.le_of_lt (Rat.inv_pos.2 h),Rat.mul_inv_cancel _ (by grind)⟩
theorem wav_r1 (i:Nat):((wav 1 i:Nat):Rat)⁻¹≤1 / 2:=by
  have h:(2:Rat)≤((wav 1 i:Nat):Rat):=by
    have:1*2≤wav 1 i:=Nat.mul_le_mul (by omega) (by omega)
    exact_mod_cast this
  have:=rinv_le (by decide) h
  rw[show(1 / 2:Rat)=(2:Rat)⁻¹ by decide+kernel]
  exact this
theorem wav_r2 (i:Nat):((wav 2 i:Nat):Rat)⁻¹≤1 / 6:=by
  have h:(6:Rat)≤((wav 2 i:Nat):Rat):=by
    have:2*3≤wav 2 i:=Nat.mul_le_mul (by omega) (by omega)
    exact_mod_cast this
  have:=rinv_le (by decide) h
  rw[show(1 / 6:Rat)=(6:Rat)⁻¹ by decide+kernel]
  exact this
theorem wa_step {x y Q R e r:Rat} (hx:0≤x) (h:x≤y) (hy:y≤1) (r0:0≤r) (r1:r*2≤1) (e0:0≤e) (e1:e≤r) (q1:1 - r≤R) (q2:R≤Q) (q3:Q≤1) (q4:Q - R≤(y - x)*r):
    1 - r≤1 - y*R*e∧1 - y*R*e≤1 - x*Q*e∧1 - x*Q*e≤1∧(1 - x*Q*e) - (1 - y*R*e)≤(y - x)*r:=by
  have d0:0≤y - x:=by grind
  have R0:0≤R:=by grind
  have t1:0≤(y - x)*(R - (1 - r)):=Rat.mul_nonneg d0 (by grind)
  have t2:0≤x*((y - x)*r - (Q - R)):=Rat.mul_nonneg hx (by grind)
  have t3:0≤(1 - x)*((y - x)*r):=Rat.mul_nonneg (by grind) (Rat.mul_nonneg d0 r0)
  have t4:0≤(y - x)*(1 - r*2):=Rat.mul_nonneg d0 (by grind)
  have a1:x*Q≤y*R:=by grind
  have t5:0≤(1 - y)*R:=Rat.mul_nonneg (by grind) R0
  have a2:y*R≤1:=by grind
  have t6:0≤(y - x)*(1 - R):=Rat.mul_nonneg d0 (by grind)
  have t7:0≤x*(Q - R):=Rat.mul_nonneg hx (by grind)
  have a3:y*R - x*Q≤y - x:=by grind
  have a0:0≤x*Q:=Rat.mul_nonneg hx (by grind)
  have m1:=Rat.mul_le_mul_of_nonneg_right a1 e0
  have m2:=Rat.mul_le_mul_of_nonneg_right a2 e0
  have m3:=Rat.mul_le_mul_of_nonneg_right a3 e0
  have m4:=Rat.mul_le_mul_of_nonneg_left e1 d0
  have m5:=Rat.mul_nonneg a0 e0
  clear t1 t2 t3 t4 t5 t6 t7
  refine⟨?_,?_,?_,?_⟩<;>grind
theorem waQ_mono {f:Nat} {x y r:Rat} (hf:1≤f) (r0:0≤r) (r1:r*2≤1) (hr:∀i,((wav f i:Nat):Rat)⁻¹≤r) (hx:0≤x) (h:x≤y) (hy:y≤1):
    ∀(j:Nat) (c:Bool),c=true∨1≤j→1 - r≤waQ f y c j∧waQ f y c j≤waQ f x c j∧waQ f x c j≤1∧waQ f x c j - waQ f y c j≤(y - x)*r
  | 0,c,hc=>by
    have:c=true:=hc.elim id fun k=>absurd k (by decide)
    subst this
    have:=Rat.mul_nonneg (show 0≤y - x by grind) r0
    show 1 - r≤1∧(1:Rat)≤1∧(1:Rat)≤1∧1 - 1≤(y - x)*r
    grind
  | j +1,c,_=>by
    rw[waQ_s,waQ_s]
    obtain⟨e0,_⟩:=wav_inv hf (23 - j)
    have e1:=hr (23 - j)
    by_cases hc:(!c)=true∨1≤j
    · obtain⟨q1,q2,q3,q4⟩:=waQ_mono hf r0 r1 hr hx h hy j (!c) hc
      exact wa_step hx h hy r0 r1 e0 e1 q1 q2 q3 q4
    · have j0:j=0:=by omega
      have c1:(!c)=false:=by simpa using fun k=>hc (.inl k)
      subst j0
      rw[c1,show waQ f x false 0=0 from rfl,show waQ f y false 0=0 from rfl]
      have:=Rat.mul_nonneg (show 0≤y - x by grind) r0
      refine⟨?_,?_,?_,?_⟩<;>grind
theorem waQ_c {x y:Rat} (hx:0≤x) (h:x≤y) (hy:y≤1) (c:Bool):1 / 2≤waQ 1 y c 24∧waQ 1 y c 24≤waQ 1 x c 24∧waQ 1 x c 24≤1:=by
  obtain⟨h1,h2,h3,_⟩:=waQ_mono (r:=1 / 2) (Nat.le_refl 1) (by decide+kernel) (by decide+kernel) wav_r1 hx h hy 24 c (.inr (by decide))
  exact⟨by grind,h2,h3⟩
theorem waQ_sn {x y:Rat} (hx:0≤x) (h:x≤y) (hy:y≤1) (c:Bool):5 / 6≤waQ 2 (y^2) c 24∧x*waQ 2 (x^2) c 24≤y*waQ 2 (y^2) c 24∧y*waQ 2 (y^2) c 24 - x*waQ 2 (x^2) c 24≤y - x∧waQ 2 (x^2) c 24≤1:=by
  have sq:∀z:Rat,z^2=z*z:=fun z=>by rw[show(2:Nat)=1+1 from rfl,Rat.pow_succ,Rat.pow_one]
  have y0:0≤y:=Rat.le_trans hx h
  have t0:x*x≤x*y:=Rat.mul_le_mul_of_nonneg_left h hx
  have t1:x*y≤y*y:=Rat.mul_le_mul_of_nonneg_right h y0
  have t2:y*y≤y*1:=Rat.mul_le_mul_of_nonneg_left hy y0
  obtain⟨h1,h2,h3,h4⟩:=waQ_mono (f:=2) (x:=x^2) (y:=y^2) (r:=1 / 6) (by decide) (by decide+kernel) (by decide+kernel) wav_r2 (by rw[sq];exact Rat.mul_nonneg hx hx) (by rw[sq,sq];grind) (by rw[sq];grind) 24 c (.inr (by decide))
  generalize waQ 2 (x^2) c 24=Q at*
  generalize waQ 2 (y^2) c 24=R at*
  rw[sq,sq] at h4
  have d0:0≤y - x:=by grind
  have u1:0≤(y - x)*(R - 5 / 6):=Rat.mul_nonneg d0 (by grind)
  have u2:0≤x*((y*y - x*x)*(1 / 6) - (Q - R)):=Rat.mul_nonneg hx (by grind)
  have u3:0≤(1 - x)*((y - x)*(y+x)):=Rat.mul_nonneg (by grind) (Rat.mul_nonneg d0 (by grind))
  have u4:0≤(y - x)*(2 - (y+x)):=Rat.mul_nonneg d0 (by grind)
  have u5:0≤(y - x)*(1 - R):=Rat.mul_nonneg d0 (by grind)
  have u6:0≤x*(Q - R):=Rat.mul_nonneg hx (by grind)
  refine⟨by grind,by grind,by grind,h3⟩
theorem waV_Q {w f s t:Nat} {x:Rat} (hf:1≤f) (hx:0≤x) (hs:(s:Rat)≤x*((2^w:Nat):Rat)) (ht:x*((2^w:Nat):Rat)≤(t:Rat)) (ls:s≤2^w) (lt:t≤2^w):
    ∀j,((waV w f s t false j:Nat):Rat)≤((2^w:Nat):Rat)*waQ f x false j∧((2^w:Nat):Rat)*waQ f x true j≤((waV w f s t true j:Nat):Rat)
  | 0=>by
    rw[waV_0,waV_0',show waQ f x false 0=0 from rfl,show waQ f x true 0=1 from rfl,Rat.mul_zero,Rat.mul_one]
    exact⟨Rat.le_refl,Rat.le_refl⟩
  | j + 1=>by
    obtain⟨h1,h2⟩:=waV_Q hf hx hs ht ls lt j
    obtain⟨b1,b2⟩:=waV_sub (j:=j) hf ls lt
    have u0:=u_pos w
    have hk:wav f (23 - j)*2^w≠0:=Nat.mul_ne_zero (wav_pos hf) (pow2_ne w)
    obtain⟨_,i1⟩:=wav_inv hf (23 - j)
    have k0:(0:Rat) < ((wav f (23 - j):Nat):Rat):=by exact_mod_cast Nat.pos_of_ne_zero (wav_pos hf)
    have v1:(0:Rat)≤((waV w f s t true j:Nat):Rat):=by exact_mod_cast Nat.zero_le _
    have v2:(0:Rat)≤((waV w f s t false j:Nat):Rat):=by exact_mod_cast Nat.zero_le _
    have xu:0≤x*((2^w:Nat):Rat):=Rat.mul_nonneg hx (Rat.le_of_lt u0)
    have m1:=Rat.mul_le_mul_of_nonneg_right ht v1
    have m2:=Rat.mul_le_mul_of_nonneg_left h2 xu
    have m3:=Rat.mul_le_mul_of_nonneg_right hs v2
    have m4:=Rat.mul_le_mul_of_nonneg_left h1 xu
    rw[waV_s,waV_s',waQ_s,waQ_s]
    have c1:=div_rat (a:=2^w*2^w*wav f (23 - j) - t*waV w f s t true j) hk
    have c2:=cdiv_rat (a:=2^w*2^w*wav f (23 - j) - s*waV w f s t false j) hk
    have e1:((2^w*2^w*wav f (23 - j) - t*waV w f s t true j:Nat):Rat)=((2^w:Nat):Rat)*((2^w:Nat):Rat)*((wav f (23 - j):Nat):Rat) - (t:Rat)*((waV w f s t true j:Nat):Rat):=by
      have:((2^w*2^w*wav f (23 - j) - t*waV w f s t true j:Nat):Rat)+((t*waV w f s t true j:Nat):Rat)=((2^w*2^w*wav f (23 - j):Nat):Rat):=by
        rw[←Rat.natCast_add,Nat.sub_add_cancel b1]
      rw[Rat.natCast_mul,Rat.natCast_mul,Rat.natCast_mul] at this
      generalize((2^w*2^w*wav f (23 - j) - t*waV w f s t true j:Nat):Rat)=z at*
      grind
    have e2:((2^w*2^w*wav f (23 - j) - s*waV w f s t false j:Nat):Rat)=((2^w:Nat):Rat)*((2^w:Nat):Rat)*((wav f (23 - j):Nat):Rat) - (s:Rat)*((waV w f s t false j:Nat):Rat):=by
      have:((2^w*2^w*wav f (23 - j) - s*waV w f s t false j:Nat):Rat)+((s*waV w f s t false j:Nat):Rat)=((2^w*2^w*wav f (23 - j):Nat):Rat):=by
        rw[←Rat.natCast_add,Nat.sub_add_cancel b2]
      rw[Rat.natCast_mul,Rat.natCast_mul,Rat.natCast_mul] at this
      generalize((2^w*2^w*wav f (23 - j) - s*waV w f s t false j:Nat):Rat)=z at*
      grind
    rw[e1,Rat.natCast_mul (wav f (23 - j))] at c1
    rw[e2,Rat.natCast_mul (wav f (23 - j))] at c2
    clear e1 e2 b1 b2 hk
    generalize(((2^w*2^w*wav f (23 - j) - t*waV w f s t true j) / (wav f (23 - j)*2^w):Nat):Rat)=Z1 at*
    generalize((cdiv (2^w*2^w*wav f (23 - j) - s*waV w f s t false j) (wav f (23 - j)*2^w):Nat):Rat)=Z2 at*
    generalize((waV w f s t true j:Nat):Rat)=V at*
    generalize((waV w f s t false j:Nat):Rat)=W at*
    generalize((wav f (23 - j):Nat):Rat)=K at*
    generalize((2^w:Nat):Rat)=u at*
    simp only[Bool.not_false,Bool.not_true]
    generalize waQ f x true j=Q at*
    generalize waQ f x false j=R at*
    have ku:0 < K*u:=Rat.mul_pos k0 u0
    constructor
    · refine Rat.le_of_mul_le_mul_right (c:=K*u) ?_ ku
      have:u*(1 - x*Q*K⁻¹)*(K*u)=u*u*K - x*u*(u*Q)*(K*K⁻¹):=by grind
      rw[this,i1]
      grind
    · refine Rat.le_of_mul_le_mul_right (c:=K*u) ?_ ku
      have:u*(1 - x*R*K⁻¹)*(K*u)=u*u*K - x*u*(u*R)*(K*K⁻¹):=by grind
      rw[this,i1]
      grind
theorem grid_01 {y w:Nat} (h:y≤2^w):0≤(y:Rat) / ((2^w:Nat):Rat)∧(y:Rat) / ((2^w:Nat):Rat)≤1:=by
  have u0:=u_pos w
  have e:((2^w:Nat):Rat) / ((2^w:Nat):Rat)=1:=by rw[Rat.div_def];exact Rat.mul_inv_cancel _ (by grind)
  have h1:=grid_div (w:=w) h
  have h0:=grid_div (w:=w) (Nat.zero_le y)
  rw[e] at h1
  have z:((0:Nat):Rat) / ((2^w:Nat):Rat)=0:=by rw[Rat.div_def,show((0:Nat):Rat)=0 from rfl,Rat.zero_mul]
  rw[z] at h0
  exact⟨h0,h1⟩
theorem wv_Q {y w f:Nat} (hf:1≤f) (hy:y≤2^w):((wvL y w f:Nat):Rat)≤((2^w:Nat):Rat)*waQ f (((y:Rat) / ((2^w:Nat):Rat))^2) false 24∧((2^w:Nat):Rat)*waQ f (((y:Rat) / ((2^w:Nat):Rat))^2) true 24≤((wvH y w f:Nat):Rat):=by
  obtain⟨q1,q2⟩:=sq_in (w:=w) (Nat.le_refl y) (Nat.le_refl y)
  exact waV_Q hf (Rat.pow_nonneg (grid_01 hy).1) q1 q2 (sqL_le hy) (sqH_le hy) 24
theorem cs_Q {y w:Nat} (hy:y≤2^w):sgn false (wvL y w 1) (2^w)≤waQ 1 (((y:Rat) / ((2^w:Nat):Rat))^2) false 24∧waQ 1 (((y:Rat) / ((2^w:Nat):Rat))^2) true 24≤sgn false (wvH y w 1) (2^w):=by
  obtain⟨h1,h2⟩:=wv_Q (f:=1) (by decide) hy
  have e1:=sgn_u (wvL y w 1) w
  have e2:=sgn_u (wvH y w 1) w
  have u0:=u_pos w
  rw[←e1,Rat.mul_comm] at h1
  rw[←e2,Rat.mul_comm _ ((2^w:Nat):Rat)] at h2
  exact⟨Rat.le_of_mul_le_mul_left h1 u0,Rat.le_of_mul_le_mul_left h2 u0⟩
def snX (a:Rat) (low:Bool):Rat:=a*waQ 2 (a^2) (low == decide (a < 0)) 24
theorem sn_Q {y w:Nat} (hy:y≤2^w):sgn false (y*wvL y w 2 / 2^w) (2^w)≤(y:Rat) / ((2^w:Nat):Rat)*waQ 2 (((y:Rat) / ((2^w:Nat):Rat))^2) false 24∧(y:Rat) / ((2^w:Nat):Rat)*waQ 2 (((y:Rat) / ((2^w:Nat):Rat))^2) true 24≤sgn false (cdiv (y*wvH y w 2) (2^w)) (2^w):=by
  obtain⟨h1,h2⟩:=wv_Q (f:=2) (by decide) hy
  have e1:=sgn_u (y*wvL y w 2 / 2^w) w
  have e2:=sgn_u (cdiv (y*wvH y w 2) (2^w)) w
  have u0:=u_pos w
  have d1:=div_rat (a:=y*wvL y w 2) (pow2_ne w)
  have d2:=cdiv_rat (a:=y*wvH y w 2) (pow2_ne w)
  have ey:(y:Rat) / ((2^w:Nat):Rat)*((2^w:Nat):Rat)=(y:Rat):=Rat.div_mul_cancel (by grind)
  have y0:=(grid_01 hy).1
  rw[Rat.natCast_mul,←e1] at d1
  rw[Rat.natCast_mul,←e2] at d2
  generalize sgn false (y*wvL y w 2 / 2^w) (2^w)=A at*
  generalize sgn false (cdiv (y*wvH y w 2) (2^w)) (2^w)=B at*
  generalize((wvL y w 2:Nat):Rat)=L at*
  generalize((wvH y w 2:Nat):Rat)=H at*
  generalize waQ 2 (((y:Rat) / ((2^w:Nat):Rat))^2) false 24=Q at*
  generalize waQ 2 (((y:Rat) / ((2^w:Nat):Rat))^2) true 24=R at*
  rw[←ey] at d1 d2
  clear e1 e2 ey
  generalize(y:Rat) / ((2^w:Nat):Rat)=z at*
  generalize((2^w:Nat):Rat)=u at*
  have zu:=Rat.mul_nonneg y0 (Rat.le_of_lt u0)
  have m1:=Rat.mul_le_mul_of_nonneg_left h1 zu
  have m2:=Rat.mul_le_mul_of_nonneg_left h2 zu
  have uu:=Rat.mul_pos u0 u0
  constructor
  · refine Rat.le_of_mul_le_mul_right (c:=u*u) ?_ uu
    grind
  · refine Rat.le_of_mul_le_mul_right (c:=u*u) ?_ uu
    grind
theorem grid_abs {q:Rat} {w:Nat} (hq:∃z:Int,q=(z:Rat) / 2^w):(0≤q→((glo q w:Nat):Rat) / ((2^w:Nat):Rat)=q)∧(q < 0→((glo q w:Nat):Rat) / ((2^w:Nat):Rat)= -q):=by
  obtain⟨z,rfl⟩:=hq
  rw[glo_grid]
  have u0:=u_pos w
  have eu:((2^w:Nat):Rat)=(2:Rat)^w:=by push_cast;rfl
  rw[eu] at u0 ⊢
  generalize(2:Rat)^w=u at*
  have i0:=Rat.inv_pos.2 u0
  have iz:u*u⁻¹=1:=Rat.mul_inv_cancel _ (by grind)
  have ez:(z:Rat)*u⁻¹*u=(z:Rat):=by grind
  rw[Rat.div_def,Rat.div_def]
  have en:((z.natAbs:Nat):Rat)=((z.natAbs:Int):Rat):=rfl
  constructor
  · intro h
    have:(0:Rat)≤(z:Rat):=by
      have:=Rat.mul_nonneg h (Rat.le_of_lt u0)
      rw[ez] at this
      exact this
    have:0≤z:=by exact_mod_cast this
    rw[en,Int.natAbs_of_nonneg this]
  · intro h
    have:(z:Rat) < (0:Rat):=by
      have:=Rat.mul_lt_mul_of_pos_right h u0
      rw[ez,Rat.zero_mul] at this
      exact this
    have:z < 0:=by exact_mod_cast this
    rw[en,show((z.natAbs:Nat):Int)= -z by omega,Rat.intCast_neg,Rat.neg_mul]
theorem snAt_Q {q:Rat} {w:Nat} (hq:∃z:Int,q=(z:Rat) / 2^w) (hy:glo q w≤2^w):snAt q w true≤snX q true∧snX q false≤snAt q w false:=by
  obtain⟨g1,g2⟩:=grid_abs hq
  obtain⟨s1,s2⟩:=sn_Q hy
  unfold snAt snX
  have sq:∀z:Rat,(-z)^2=z^2:=fun z=>by rw[show(2:Nat)=1+1 from rfl,Rat.pow_succ,Rat.pow_one,Rat.pow_succ,Rat.pow_one];grind
  by_cases h:q < 0
  · have hn:=num_lt0.2 h
    rw[g2 h,sq] at s1 s2
    rw[decide_eq_true h,decide_eq_true hn,if_neg (by decide),if_pos (by decide),sgn_negs,sgn_negs,show((true:Bool) == true)=true from rfl,show(false == true)=false from rfl]
    constructor<;>grind
  · have hn:¬q.num < 0:=fun c=>h (num_lt0.1 c)
    rw[g1 (by grind)] at s1 s2
    rw[decide_eq_false h,decide_eq_false hn,if_pos (by decide),if_neg (by decide),show(true == false)=false from rfl,show(false == false)=true from rfl]
    exact⟨s1,s2⟩
end Go.Q
namespace Go.Q
set_option maxRecDepth 100000
set_option maxHeartbeats 4000000
end Go.Q
namespace Go.Q
set_option maxRecDepth 100000
set_option maxHeartbeats 4000000
theorem sgn_int (neg:Bool) (n p:Nat):sgn neg n (2^p)*2^p=((if neg then -(n:Int) else n:Int):Rat):=by
  have h:=sgn_u n p
  push_cast at h
  rw[sgn_sg]
  cases neg
  · rw[if_neg (by decide),if_neg (by decide),h];rfl
  · rw[if_pos rfl,if_pos rfl,Rat.neg_mul,h];push_cast;rfl
end Go.Q
namespace Go.Q
set_option maxRecDepth 100000
set_option maxHeartbeats 4000000
def Ab (x a:Rat):Prop:=-a≤x∧x≤a
theorem Ab.mul {x y a b:Rat} (h:Ab x a) (k:Ab y b):Ab (x*y) (a*b):=by
  obtain⟨h1,h2⟩:=h
  obtain⟨k1,k2⟩:=k
  have p1:0≤(a - x)*(b - y):=Rat.mul_nonneg (by grind) (by grind)
  have p2:0≤(a+x)*(b+y):=Rat.mul_nonneg (by grind) (by grind)
  have p3:0≤(a - x)*(b+y):=Rat.mul_nonneg (by grind) (by grind)
  have p4:0≤(a+x)*(b - y):=Rat.mul_nonneg (by grind) (by grind)
  exact⟨by grind,by grind⟩
theorem Ab.add {x y a b:Rat} (h:Ab x a) (k:Ab y b):Ab (x+y) (a+b):=by
  obtain⟨h1,h2⟩:=h
  obtain⟨k1,k2⟩:=k
  exact⟨by grind,by grind⟩
theorem Ab.neg {x a:Rat} (h:Ab x a):Ab (-x) a:=by
  obtain⟨h1,h2⟩:=h
  exact⟨by grind,by grind⟩
theorem Ab.pos {x a:Rat} (h:Ab x a):0≤a:=by
  obtain⟨h1,h2⟩:=h
  grind
theorem Ab.le {x a b:Rat} (h:Ab x a) (k:a≤b):Ab x b:=by
  obtain⟨h1,h2⟩:=h
  exact⟨by grind,by grind⟩
theorem Ab.zero {a:Rat} (h:0≤a):Ab 0 a:=⟨by grind,h⟩
theorem Ab.self {a:Rat} (h:0≤a):Ab a a:=⟨by grind,Rat.le_refl⟩
theorem k_inv (k:Nat):0 < ((k+1:Nat):Rat)⁻¹∧((k+1:Nat):Rat)*((k+1:Nat):Rat)⁻¹=1∧((k+1:Nat):Rat)⁻¹≤1∧((k+1:Nat):Rat)=(k:Rat)+1∧(0:Rat)≤(k:Rat):=by
  have h:(0:Rat) < ((k+1:Nat):Rat):=by exact_mod_cast Nat.succ_pos k
  have e:((k+1:Nat):Rat)=(k:Rat)+1:=by push_cast;rfl
  have n:(0:Rat)≤(k:Rat):=by exact_mod_cast Nat.zero_le k
  have i:=Rat.mul_inv_cancel ((k+1:Nat):Rat) (by grind)
  have p:=Rat.inv_pos.2 h
  refine⟨p,i,?_,e,n⟩
  have:=Rat.mul_le_mul_of_nonneg_right (show(1:Rat)≤((k+1:Nat):Rat) by grind) (Rat.le_of_lt p)
  rw[i,Rat.one_mul] at this
  exact this
def trm (t:Rat):Nat→Rat
  |0=>1
  |k+1=>trm t k*t*((k+1:Nat):Rat)⁻¹
theorem trm_s (t:Rat) (k:Nat):trm t (k+1)=trm t k*t*((k+1:Nat):Rat)⁻¹:=rfl
theorem trm_m (t:Rat) (k:Nat):trm t k*t=((k:Rat)+1)*trm t (k+1):=by
  obtain⟨_,i,_,e,_⟩:=k_inv k
  rw[trm_s]
  generalize((k+1:Nat):Rat)⁻¹=z at*
  rw[e] at i
  grind
theorem trm_ab {t M:Rat} (h:Ab t M):∀k,Ab (trm t k) (trm M k)
  |0=>⟨by show(-1:Rat)≤1;decide,Rat.le_refl⟩
  | k+1=>by
    rw[trm_s,trm_s]
    exact((trm_ab h k).mul h).mul (Ab.self (Rat.le_of_lt (k_inv k).1))
def sTp (t h:Rat) (k:Nat):Rat:=trm (t+h) (k+1) - trm t (k+1) - h*trm t k
theorem sTp_s (t h:Rat) (k:Nat):sTp t h (k+1)=(h*h*trm t k+sTp t h k*(t+h))*((k+1+1:Nat):Rat)⁻¹:=by
  obtain⟨_,i,_,e,_⟩:=k_inv (k+1)
  have e1:((k+1:Nat):Rat)=(k:Rat)+1:=by push_cast;rfl
  have m:=trm_m t k
  unfold sTp
  rw[trm_s (t+h) (k+1),trm_s t (k+1)]
  rw[e1] at e
  generalize((k+1+1:Nat):Rat)=c at*
  generalize c⁻¹=z at*
  generalize trm (t+h) (k+1)=A at*
  generalize trm t (k+1)=B at*
  generalize trm t k=D at*
  generalize(k:Rat)=n at*
  subst e
  grind
theorem sTp_0 (t h:Rat):sTp t h 0=0:=by
  have e:∀z,trm z 1=z:=fun z=>by rw[trm_s];show 1*z*(1:Rat)⁻¹=z;rw[show(1:Rat)⁻¹=1 by decide+kernel];grind
  unfold sTp
  rw[e,e,show trm t 0=1 from rfl]
  grind
def dB (M:Rat):Nat→Rat
  |0=>0
  |k+1=>trm M k
theorem trm_pos {M:Rat} (h:0≤M) (k:Nat):0≤trm M k:=(trm_ab (Ab.self h) k).pos
theorem hh_pos (h:Rat):0≤h*h:=by
  by_cases k:0≤h
  · exact Rat.mul_nonneg k k
  · have:=Rat.mul_nonneg (show 0≤ -h by grind) (show 0≤ -h by grind)
    grind
theorem sTp_ab {t h M:Rat} (h1:Ab t M) (h2:Ab (t+h) M):∀k,Ab (sTp t h k) (h*h*dB M k)
  |0=>by rw[sTp_0];exact Ab.zero (by rw[show dB M 0=0 from rfl];grind)
  | k + 1=>by
    have ih:=sTp_ab h1 h2 k
    have M0:=h1.pos
    have hh:=hh_pos h
    obtain⟨p,i,l,e,n⟩:=k_inv (k+1)
    have k1:=((Ab.self hh).mul (trm_ab h1 k)).add (ih.mul h2)
    have k2:=k1.mul (Ab.self (Rat.le_of_lt p))
    rw[sTp_s]
    refine k2.le ?_
    show(h*h*trm M k+h*h*dB M k*M)*((k+1+1:Nat):Rat)⁻¹≤h*h*trm M k
    have q:dB M k*M≤(k:Rat)*trm M k:=by
      cases k with
      |zero=>show 0*M≤((0:Nat):Rat)*trm M 0;rw[show((0:Nat):Rat)=0 from rfl];grind
      | succ k=>
        show trm M k*M≤_
        rw[trm_m,(k_inv k).2.2.2.1]
        exact Rat.le_refl
    have e1:((k+1:Nat):Rat)=(k:Rat)+1:=by push_cast;rfl
    rw[e1] at e
    have T0:=trm_pos M0 k
    generalize((k+1+1:Nat):Rat)=c at*
    generalize c⁻¹=z at*
    generalize trm M k=T at*
    generalize dB M k=D at*
    have n0:(0:Rat)≤(k:Rat):=by exact_mod_cast Nat.zero_le k
    generalize(k:Rat)=m at*
    have q1:=Rat.mul_le_mul_of_nonneg_left q hh
    clear k1 k2 ih h1 h2
    have q2:h*h*T+h*h*D*M≤h*h*T*c:=by
      have:=Rat.mul_nonneg hh T0
      rw[e]
      have e2:h*h*T*(m+1+1)=h*h*(m*T)+2*(h*h*T):=by grind
      rw[e2,Rat.mul_assoc (h*h) D M]
      grind
    have q3:=Rat.mul_le_mul_of_nonneg_right q2 (Rat.le_of_lt p)
    rw[Rat.mul_assoc (h*h*T),i,Rat.mul_one] at q3
    exact q3
def icq (q:Rat):Nat→Rat×Rat
  |0=>(1,0)
  |k+1=>(q*(icq q k).2,(icq q k).1)
theorem icq_ab {q:Rat} (hq:Ab q 1):∀k,Ab (icq q k).1 1∧Ab (icq q k).2 1
  |0=>⟨Ab.self (show(0:Rat)≤1 by decide),Ab.zero (show(0:Rat)≤1 by decide)⟩
  | k+1=>by
    obtain⟨h1,h2⟩:=icq_ab hq k
    refine⟨?_,h1⟩
    have:=hq.mul h2
    rw[Rat.one_mul] at this
    exact this
def cS (q:Rat):Nat→Rat→Rat
  |0,_=>0
  |k+1,t=>cS q k t+(icq q k).1*trm t k
def sS (q:Rat):Nat→Rat→Rat
  |0,_=>0
  |k+1,t=>sS q k t+(icq q k).2*trm t k
def eB (M:Rat):Nat→Rat
  |0=>0
  |k+1=>eB M k+dB M k
def eS (M:Rat):Nat→Rat
  |0=>0
  |k+1=>eS M k+trm M k
theorem cS_ab {q t M:Rat} (hq:Ab q 1) (h:Ab t M):∀n,Ab (cS q n t) (eS M n)∧Ab (sS q n t) (eS M n)
  |0=>⟨Ab.zero Rat.le_refl,Ab.zero Rat.le_refl⟩
  | n+1=>by
    obtain⟨h1,h2⟩:=cS_ab hq h n
    obtain⟨i1,i2⟩:=icq_ab hq n
    have k1:=h1.add (i1.mul (trm_ab h n))
    have k2:=h2.add (i2.mul (trm_ab h n))
    rw[Rat.one_mul] at k1 k2
    exact⟨k1,k2⟩
theorem cS_loc {q t h M:Rat} (hq:Ab q 1) (h1:Ab t M) (h2:Ab (t+h) M):∀n,Ab (cS q (n+1) (t+h) - cS q (n+1) t - h*(q*sS q n t)) (h*h*eB M n)∧Ab (sS q (n+1) (t+h) - sS q (n+1) t - h*cS q n t) (h*h*eB M n)
  | 0=>by
    show Ab (0+1*1 - (0+1*1) - h*(q*0)) (h*h*0)∧Ab (0+0*1 - (0+0*1) - h*0) (h*h*0)
    have e:(0:Rat)+1*1 - (0+1*1) - h*(q*0)=0:=by grind
    have e2:(0:Rat)+0*1 - (0+0*1) - h*0=0:=by grind
    rw[e,e2]
    exact⟨Ab.zero (by grind),Ab.zero (by grind)⟩
  | n +1=>by
    obtain⟨a1,a2⟩:=cS_loc hq h1 h2 n
    obtain⟨i1,i2⟩:=icq_ab hq (n+1)
    have d:=sTp_ab h1 h2 n
    have k1:=a1.add (i1.mul d)
    have k2:=a2.add (i2.mul d)
    rw[Rat.one_mul] at k1 k2
    have eb:h*h*eB M (n+1)=h*h*eB M n+h*h*dB M n:=by show h*h*(eB M n+dB M n)=_;grind
    have c1:∀z,cS q (n+1+1) z=cS q (n+1) z+(icq q (n+1)).1*trm z (n+1):=fun z=>rfl
    have s1:∀z,sS q (n+1+1) z=sS q (n+1) z+(icq q (n+1)).2*trm z (n+1):=fun z=>rfl
    have c2:cS q (n+1) t=cS q n t+(icq q n).1*trm t n:=rfl
    have s2:sS q (n+1) t=sS q n t+(icq q n).2*trm t n:=rfl
    have j1:(icq q (n+1)).1=q*(icq q n).2:=rfl
    have j2:(icq q (n+1)).2=(icq q n).1:=rfl
    rw[eb,c1,c1,s1,s1]
    unfold sTp at k1 k2
    generalize cS q (n+1) (t+h)=A at*
    generalize sS q (n+1) (t+h)=B at*
    generalize trm (t+h) (n+1)=T1 at*
    generalize trm t (n+1)=T2 at*
    generalize trm t n=T3 at*
    rw[j1] at k1 ⊢
    rw[j2] at k2 ⊢
    generalize(icq q n).1=I at*
    generalize(icq q n).2=J at*
    generalize cS q n t=C at*
    generalize sS q n t=S at*
    rw[c2] at k1 ⊢
    rw[s2] at k2 ⊢
    constructor
    · have:A+q*J*T1 - (C+I*T3+q*J*T2) - h*(q*(S+J*T3))=A - (C+I*T3) - h*(q*S)+q*J*(T1 - T2 - h*T3):=by grind
      rw[this];exact k1
    · have:B+I*T1 - (S+J*T3+I*T2) - h*(C+I*T3)=B - (S+J*T3) - h*C+I*(T1 - T2 - h*T3):=by grind
      rw[this];exact k2
theorem rot_step {q S C s c S1 C1 s1 c1 h L e:Rat} (hq:Ab q 1) (hS:Ab S L) (hC:Ab C L) (hs:Ab s L) (hc:Ab c L) (bs:Ab s1 L) (bc:Ab c1 L) (hh:Ab h 2)
    (a1:Ab (S1 - S - h*C) e) (a2:Ab (C1 - C - h*(q*S)) e) (a3:Ab (c1 - c+h*(q*s)) e) (a4:Ab (s1 - s+h*c) e):
    Ab (S1*c1+C1*s1 - (S*c+C*s)) (2*(L*L)*(h*h)+8*(L*e))∧Ab (C1*c1+q*(S1*s1) - (C*c+q*(S*s))) (2*(L*L)*(h*h)+8*(L*e)):=by
  have L0:=hS.pos
  have h2:=hh_pos h
  have q1:∀{x a:Rat},Ab x a→Ab (q*x) a:=fun k=>by have:=hq.mul k;rwa[Rat.one_mul] at this
  have u1:Ab (S+h*C) (L+2*L):=hS.add (hh.mul hC)
  have u2:Ab (C+h*(q*S)) (L+2*L):=hC.add (hh.mul (q1 hS))
  constructor
  · have m:=((((Ab.self h2).mul (q1 ((hC.mul hs).add (hS.mul hc)))).neg.add (a1.mul bc)).add (u1.mul a3)).add ((a2.mul bs).add (u2.mul a4))
    have i: -(h*h*(q*(C*s+S*c)))+(S1 - S - h*C)*c1+(S+h*C)*(c1 - c+h*(q*s))+((C1 - C - h*(q*S))*s1+(C+h*(q*S))*(s1 - s+h*c))=S1*c1+C1*s1 - (S*c+C*s):=by grind
    rw[i] at m
    exact m.le (by grind)
  · have m:=((((Ab.self h2).mul (q1 ((q1 (hS.mul hs)).add (hC.mul hc)))).neg.add (a2.mul bc)).add (u2.mul a3)).add ((q1 (a1.mul bs)).add (q1 (u1.mul a4)))
    have i: -(h*h*(q*(q*(S*s)+C*c)))+(C1 - C - h*(q*S))*c1+(C+h*(q*S))*(c1 - c+h*(q*s))+(q*((S1 - S - h*C)*s1)+q*((S+h*C)*(s1 - s+h*c)))=C1*c1+q*(S1*s1) - (C*c+q*(S*s)):=by grind
    rw[i] at m
    exact m.le (by grind)
theorem lim_le {x y z:Rat} (h:∀m:Nat,x≤y*((m+1:Nat):Rat)⁻¹+z):x≤z:=by
  refine Rat.not_lt.1 fun hd=>?_
  have d0:0 < x - z:=by grind
  have l:=Rat.lt_floor_add_one (y*(x - z)⁻¹)
  obtain⟨m,hm⟩:∃m:Nat,(y*(x - z)⁻¹).floor.natAbs=m:=⟨_,rfl⟩
  have k:=h m
  obtain⟨p,i,_,e,_⟩:=k_inv m
  have f:((y*(x - z)⁻¹).floor:Rat)≤(m:Rat):=by
    have:(y*(x - z)⁻¹).floor≤(m:Int):=by omega
    exact Rat.intCast_le_intCast.2 this
  have j:(x - z)*(x - z)⁻¹=1:=Rat.mul_inv_cancel _ (by grind)
  have l2:y*(x - z)⁻¹ < (m:Rat)+1:=by grind
  have l3:=Rat.mul_lt_mul_of_pos_right l2 d0
  have e3:y*(x - z)⁻¹*(x - z)=y:=by grind
  rw[e3,←e] at l3
  have l4:=Rat.mul_le_mul_of_nonneg_right (show x - z≤y*((m+1:Nat):Rat)⁻¹ by grind) (Rat.le_of_lt (show(0:Rat) < ((m+1:Nat):Rat) by exact_mod_cast Nat.succ_pos m))
  have e4:y*((m+1:Nat):Rat)⁻¹*((m+1:Nat):Rat)=y:=by grind
  rw[e4] at l4
  grind
theorem tele {G:Rat→Rat} {h d:Rat} {m:Nat} (st:∀i,i < m→Ab (G (h*(i:Rat)+h) - G (h*(i:Rat))) d):∀i:Nat,i≤m→Ab (G (h*(i:Rat)) - G 0) ((i:Rat)*d)
  | 0,_=>by
    rw[show((0:Nat):Rat)=0 from rfl,Rat.mul_zero,Rat.zero_mul]
    have:G 0 - G 0=0:=by grind
    rw[this]
    exact Ab.zero Rat.le_refl
  | i+1,hi=>by
    have ih:=(tele st i (by omega)).add (st i (by omega))
    have e:((i+1:Nat):Rat)=(i:Rat)+1:=by push_cast;rfl
    have e2:h*((i:Rat)+1)=h*(i:Rat)+h:=by grind
    rw[e,e2]
    have e3:G (h*(i:Rat)) - G 0+(G (h*(i:Rat)+h) - G (h*(i:Rat)))=G (h*(i:Rat)+h) - G 0:=by grind
    have e4:((i:Rat)+1)*d=(i:Rat)*d+d:=by grind
    rw[e3] at ih
    rw[e4]
    exact ih
def cNN (q t:Rat):Rat:=cS q 161 t
def sNN (q t:Rat):Rat:=sS q 161 t
def eps:Rat:=((2^600:Nat):Rat)⁻¹
theorem c_num:eS 4 161≤60∧eB 4 160≤60∧960*trm 4 160≤eps:=by decide+kernel
theorem N_ab {q t:Rat} (hq:Ab q 1) (h:Ab t 4):Ab (cNN q t) 60∧Ab (sNN q t) 60:=by
  obtain⟨h1,h2⟩:=cS_ab hq h 161
  exact⟨h1.le c_num.1,h2.le c_num.1⟩
theorem N_loc {q t h H:Rat} (hq:Ab q 1) (h1:Ab t 4) (h2:Ab (t+h) 4) (hH:Ab h H):Ab (cNN q (t+h) - cNN q t - h*(q*sNN q t)) (h*h*60+H*trm 4 160)∧Ab (sNN q (t+h) - sNN q t - h*cNN q t) (h*h*60+H*trm 4 160):=by
  obtain⟨a1,a2⟩:=cS_loc hq h1 h2 160
  have k:=Rat.mul_le_mul_of_nonneg_left c_num.2.1 (hh_pos h)
  have a1:=a1.le k
  have a2:=a2.le k
  obtain⟨i1,i2⟩:=icq_ab hq 160
  have t1:=trm_ab h1 160
  have T0:=trm_pos (show(0:Rat)≤4 by decide) 160
  have b1:=hH.mul (i1.mul t1)
  have b2:=hH.mul (hq.mul (i2.mul t1))
  rw[Rat.one_mul] at b1
  rw[Rat.one_mul,Rat.one_mul] at b2
  have c1:=a1.add b2.neg
  have c2:=a2.add b1.neg
  have e1:cNN q t=cS q 160 t+(icq q 160).1*trm t 160:=rfl
  have e2:sNN q t=sS q 160 t+(icq q 160).2*trm t 160:=rfl
  unfold cNN sNN at*
  generalize trm 4 160=T at*
  generalize cS q 161 (t+h)=A at*
  generalize sS q 161 (t+h)=B at*
  constructor
  · have:A - cS q 161 t - h*(q*sS q 161 t)=A - cS q 161 t - h*(q*sS q 160 t)+ -(h*(q*((icq q 160).2*trm t 160))):=by rw[e2];grind
    rw[this]
    exact c1
  · have:B - sS q 161 t - h*cS q 161 t=B - sS q 161 t - h*cS q 160 t+ -(h*((icq q 160).1*trm t 160)):=by rw[e1];grind
    rw[this]
    exact c2
theorem N_zero (q:Rat):cNN q 0=1∧sNN q 0=0:=by
  have z:∀k,trm 0 (k+1)=0:=fun k=>by rw[trm_s];grind
  have s:∀n,cS q (n+1) 0=1∧sS q (n+1) 0=0:=by
    intro n
    induction n with
    |zero=>exact⟨by show(0:Rat)+1*1=1;grind,by show(0:Rat)+0*1=0;grind⟩
    | succ n ih=>
      obtain⟨i1,i2⟩:=ih
      constructor
      · show cS q (n+1) 0+(icq q (n+1)).1*trm 0 (n+1)=1
        rw[i1,z];grind
      · show sS q (n+1) 0+(icq q (n+1)).2*trm 0 (n+1)=0
        rw[i2,z];grind
  exact s 160
theorem N_add {q a b:Rat} (hq:Ab q 1) (ha:Ab a 2) (hb:Ab b 2):Ab (sNN q a*cNN q b+cNN q a*sNN q b - sNN q (a+b)) eps∧Ab (cNN q a*cNN q b+q*(sNN q a*sNN q b) - cNN q (a+b)) eps:=by
  obtain⟨z1,z2⟩:=N_zero q
  have T0:=trm_pos (show(0:Rat)≤4 by decide) 160
  have ce:=c_num.2.2
  have main:∀m:Nat,Ab (sNN q a*cNN q b+cNN q a*sNN q b - sNN q (a+b)) (144000*((m+1:Nat):Rat)⁻¹+960*trm 4 160)∧Ab (cNN q a*cNN q b+q*(sNN q a*sNN q b) - cNN q (a+b)) (144000*((m+1:Nat):Rat)⁻¹+960*trm 4 160):=by
    intro m
    obtain⟨c0,ci,cl,_,_⟩:=k_inv m
    have m0:(0:Rat)≤((m+1:Nat):Rat):=by exact_mod_cast Nat.zero_le _
    have st:∀i,i < m+1→
        Ab ((fun t=>sNN q t*cNN q (a+b - t)+cNN q t*sNN q (a+b - t)) (a*((m+1:Nat):Rat)⁻¹*(i:Rat)+a*((m+1:Nat):Rat)⁻¹) - (fun t=>sNN q t*cNN q (a+b - t)+cNN q t*sNN q (a+b - t)) (a*((m+1:Nat):Rat)⁻¹*(i:Rat))) (144000*(((m+1:Nat):Rat)⁻¹*((m+1:Nat):Rat)⁻¹)+960*trm 4 160*((m+1:Nat):Rat)⁻¹)∧
        Ab ((fun t=>cNN q t*cNN q (a+b - t)+q*(sNN q t*sNN q (a+b - t))) (a*((m+1:Nat):Rat)⁻¹*(i:Rat)+a*((m+1:Nat):Rat)⁻¹) - (fun t=>cNN q t*cNN q (a+b - t)+q*(sNN q t*sNN q (a+b - t))) (a*((m+1:Nat):Rat)⁻¹*(i:Rat))) (144000*(((m+1:Nat):Rat)⁻¹*((m+1:Nat):Rat)⁻¹)+960*trm 4 160*((m+1:Nat):Rat)⁻¹):=by
      intro i hi
      have j0:0≤((m+1:Nat):Rat)⁻¹*(i:Rat):=Rat.mul_nonneg (Rat.le_of_lt c0) (by exact_mod_cast Nat.zero_le i)
      have j1:((m+1:Nat):Rat)⁻¹*(i:Rat)+((m+1:Nat):Rat)⁻¹≤1:=by
        have:(i:Rat)+1≤((m+1:Nat):Rat):=by exact_mod_cast hi
        have:=Rat.mul_le_mul_of_nonneg_left this (Rat.le_of_lt c0)
        grind
      generalize hcc:((m+1:Nat):Rat)⁻¹=c at*
      generalize(i:Rat)=x at*
      have p1:Ab (a*c*x) 2:=by
        have:=ha.mul (⟨by grind,by grind⟩:Ab (c*x) 1)
        rw[Rat.mul_one,←Rat.mul_assoc] at this
        exact this
      have p2:Ab (a*c*x+a*c) 2:=by
        have:=ha.mul (⟨by grind,by grind⟩:Ab (c*x+c) 1)
        rw[Rat.mul_one] at this
        have e:a*(c*x+c)=a*c*x+a*c:=by grind
        rwa[e] at this
      have p3:Ab (a - a*c*x) 2:=by
        have:=ha.mul (⟨by grind,by grind⟩:Ab (1 - c*x) 1)
        rw[Rat.mul_one] at this
        have e:a*(1 - c*x)=a - a*c*x:=by grind
        rwa[e] at this
      have p4:Ab (a - (a*c*x+a*c)) 2:=by
        have:=ha.mul (⟨by grind,by grind⟩:Ab (1 - (c*x+c)) 1)
        rw[Rat.mul_one] at this
        have e:a*(1 - (c*x+c))=a - (a*c*x+a*c):=by grind
        rwa[e] at this
      have hH:Ab (a*c) (2*c):=ha.mul (Ab.self (Rat.le_of_lt c0))
      have hh:Ab (a*c) 2:=hH.le (by grind)
      have f4:(4:Rat)=2+2:=by decide+kernel
      have t1:Ab (a*c*x) 4:=p1.le (by decide)
      have t2:Ab (a*c*x+a*c) 4:=p2.le (by decide)
      have t3:Ab (a+b - a*c*x) 4:=by
        have:=p3.add hb
        have e:a - a*c*x+b=a+b - a*c*x:=by grind
        rw[←f4,e] at this
        exact this
      have t4:Ab (a+b - (a*c*x+a*c)) 4:=by
        have:=p4.add hb
        have e:a - (a*c*x+a*c)+b=a+b - (a*c*x+a*c):=by grind
        rw[←f4,e] at this
        exact this
      obtain⟨l1,l2⟩:=N_loc hq t1 t2 hH
      have e5:a+b - (a*c*x+a*c)=a+b - a*c*x+ -(a*c):=by grind
      obtain⟨l3,l4⟩:=N_loc (h:=-(a*c)) hq t3 (by rw[←e5];exact t4) hH.neg
      obtain⟨b1,b2⟩:=N_ab hq t1
      obtain⟨b3,b4⟩:=N_ab hq t3
      obtain⟨b5,b6⟩:=N_ab hq t4
      rw[←e5] at l3 l4
      have nn: -(a*c)* -(a*c)=a*c*(a*c):=by grind
      rw[nn] at l3 l4
      have e6:∀z w y:Rat,z - w - -(a*c)*y=z - w+a*c*y:=fun z w y=>by grind
      rw[e6] at l3 l4
      have r:=rot_step hq b2 b1 b4 b3 b6 b5 hh l2 l1 l3 l4
      have aa:a*a≤4:=by have:=(ha.mul ha).2;grind
      have cc:=hh_pos c
      have acc:a*c*(a*c)≤4*(c*c):=by
        have:=Rat.mul_le_mul_of_nonneg_right aa cc
        grind
      exact⟨r.1.le (by grind),r.2.le (by grind)⟩
    have s1:=tele (G:=fun t=>sNN q t*cNN q (a+b - t)+cNN q t*sNN q (a+b - t)) (h:=a*((m+1:Nat):Rat)⁻¹) (fun i hi=>(st i hi).1) (m+1) (Nat.le_refl _)
    have s2:=tele (G:=fun t=>cNN q t*cNN q (a+b - t)+q*(sNN q t*sNN q (a+b - t))) (h:=a*((m+1:Nat):Rat)⁻¹) (fun i hi=>(st i hi).2) (m+1) (Nat.le_refl _)
    have ea:a*((m+1:Nat):Rat)⁻¹*((m+1:Nat):Rat)=a:=by grind
    rw[ea] at s1 s2
    have e1:a+b - a=b:=by grind
    have e2:a+b - 0=a+b:=by grind
    simp only[e1,e2,z1,z2] at s1 s2
    have ed:((m+1:Nat):Rat)*(144000*(((m+1:Nat):Rat)⁻¹*((m+1:Nat):Rat)⁻¹)+960*trm 4 160*((m+1:Nat):Rat)⁻¹)=144000*((m+1:Nat):Rat)⁻¹+960*trm 4 160:=by
      generalize((m+1:Nat):Rat)⁻¹=c at*
      grind
    rw[ed] at s1 s2
    constructor
    · have:sNN q a*cNN q b+cNN q a*sNN q b - (0*cNN q (a+b)+1*sNN q (a+b))=sNN q a*cNN q b+cNN q a*sNN q b - sNN q (a+b):=by grind
      rwa[this] at s1
    · have:cNN q a*cNN q b+q*(sNN q a*sNN q b) - (1*cNN q (a+b)+q*(0*sNN q (a+b)))=cNN q a*cNN q b+q*(sNN q a*sNN q b) - cNN q (a+b):=by grind
      rwa[this] at s2
  have fin:∀{x:Rat},(∀m:Nat,Ab x (144000*((m+1:Nat):Rat)⁻¹+960*trm 4 160))→Ab x eps:=fun {x} h=>by
    have h1:x≤960*trm 4 160:=lim_le (y:=144000) fun m=>(h m).2
    have h2: -x≤960*trm 4 160:=lim_le (y:=144000) fun m=>by have:=(h m).1;grind
    exact⟨by grind,by grind⟩
  exact⟨fin fun m=>(main m).1,fin fun m=>(main m).2⟩
end Go.Q
namespace Go.Q
set_option maxRecDepth 100000
set_option maxHeartbeats 4000000
def al (f:Nat) (x:Rat):Nat→Nat→Rat
  |_,0=>0
  |i,n+1=>1 - x*al f x (i+1) n*((wav f i:Nat):Rat)⁻¹
theorem al_01 {f:Nat} {x:Rat} (hf:1≤f) (hx:0≤x) (h1:x≤1):∀n i,0≤al f x i n∧al f x i n≤1
  |0,i=>by show(0:Rat)≤0∧(0:Rat)≤1;exact⟨Rat.le_refl,by decide⟩
  | n +1,i=>by
    obtain⟨a1,a2⟩:=al_01 hf hx h1 n (i+1)
    obtain⟨e0,ei⟩:=wav_inv hf i
    have e1:((wav f i:Nat):Rat)⁻¹≤1:=by
      have h:(1:Rat)≤((wav f i:Nat):Rat):=by exact_mod_cast Nat.pos_of_ne_zero (wav_pos hf)
      have:=Rat.mul_le_mul_of_nonneg_right h e0
      rw[ei,Rat.one_mul] at this
      exact this
    show 0≤1 - x*al f x (i+1) n*((wav f i:Nat):Rat)⁻¹∧1 - x*al f x (i+1) n*((wav f i:Nat):Rat)⁻¹≤1
    generalize((wav f i:Nat):Rat)⁻¹=e at*
    generalize al f x (i+1) n=a at*
    have m1:x*a≤1*a:=Rat.mul_le_mul_of_nonneg_right h1 a1
    have m0:0≤x*a:=Rat.mul_nonneg hx a1
    have m2:x*a*e≤1*e:=Rat.mul_le_mul_of_nonneg_right (by grind) e0
    have m3:=Rat.mul_nonneg m0 e0
    exact⟨by grind,by grind⟩
theorem al_wa {f:Nat} {x:Rat} (hf:1≤f) (hx:0≤x) (h1:x≤1) (m:Nat):∀j,j≤24→waQ f x false j≤al f x (24 - j) (j+m)∧al f x (24 - j) (j+m)≤waQ f x true j
  |0,_=>by rw[Nat.zero_add];exact al_01 hf hx h1 m 24
  | j+1,hj=>by
    obtain⟨a1,a2⟩:=al_wa hf hx h1 m j (by omega)
    obtain⟨e0,_⟩:=wav_inv hf (23 - j)
    rw[waQ_s,waQ_s,show 24 - (j+1)=23 - j by omega,show j+1+m=(j+m)+1 by omega]
    show _≤1 - x*al f x (23 - j+1) (j+m)*((wav f (23 - j):Nat):Rat)⁻¹∧1 - x*al f x (23 - j+1) (j+m)*((wav f (23 - j):Nat):Rat)⁻¹≤_
    rw[show 23 - j+1=24 - j by omega]
    have m1:=Rat.mul_le_mul_of_nonneg_right (Rat.mul_le_mul_of_nonneg_left a1 hx) e0
    have m2:=Rat.mul_le_mul_of_nonneg_right (Rat.mul_le_mul_of_nonneg_left a2 hx) e0
    simp only[Bool.not_false,Bool.not_true]
    exact⟨by grind,by grind⟩
def uT (f:Nat) (x:Rat):Nat→Rat
  |0=>1
  |m+1=>-(uT f x m*x*((wav f m:Nat):Rat)⁻¹)
def uS (f:Nat) (x:Rat):Nat→Rat
  |0=>0
  |m+1=>uS f x m+uT f x m
theorem al_sum (f:Nat) (x:Rat):∀n k,al f x 0 (n+k)=uS f x n+uT f x n*al f x n k
  |0,k=>by rw[Nat.zero_add];show _=0+1*_;grind
  | n+1,k=>by
    have h:=al_sum f x n (k+1)
    rw[show n+1+k=n+(k+1) by omega,h]
    show uS f x n+uT f x n*(1 - x*al f x (n+1) k*((wav f n:Nat):Rat)⁻¹)=uS f x n+uT f x n+ -(uT f x n*x*((wav f n:Nat):Rat)⁻¹)*al f x (n+1) k
    grind
theorem al_end (f:Nat) (x:Rat) (n:Nat):al f x 0 n=uS f x n:=by
  have h:=al_sum f x n 0
  rw[Nat.add_zero,show al f x n 0=0 from rfl,Rat.mul_zero,Rat.add_zero] at h
  exact h
theorem icq_p (m:Nat):(icq (-1) (2*m)).2=0∧(icq (-1) (2*(m+1))).1= -(icq (-1) (2*m)).1∧(icq (-1) (2*m+1)).1=0∧(icq (-1) (2*m+1)).2=(icq (-1) (2*m)).1:=by
  have z:∀m:Nat,(icq (-1) (2*m)).2=0:=by
    intro m
    induction m with
    |zero=>rfl
    | succ m ih=>
      show(-1:Rat)*(icq (-1) (2*m)).2=0
      rw[ih];decide+kernel
  refine⟨z m,?_,?_,rfl⟩
  · show(-1:Rat)*(icq (-1) (2*m)).1=_;grind
  · show(-1:Rat)*(icq (-1) (2*m)).2=0
    rw[z m];decide+kernel
theorem trm2 (t:Rat) (k:Nat):trm t (k+2)=trm t k*(t*t)*(((k+1)*(k+2):Nat):Rat)⁻¹:=by
  rw[trm_s,trm_s]
  have h1:(0:Rat) < ((k+1:Nat):Rat):=by exact_mod_cast Nat.succ_pos _
  have h2:(0:Rat) < ((k+1+1:Nat):Rat):=by exact_mod_cast Nat.succ_pos _
  have e:((((k+1)*(k+2):Nat):Rat))⁻¹=((k+1:Nat):Rat)⁻¹*((k+1+1:Nat):Rat)⁻¹:=by
    rw[Rat.natCast_mul,Rat.inv_mul_rev,Rat.mul_comm]
  rw[e]
  grind
theorem cos_t (t:Rat) (m:Nat):(icq (-1) (2*m)).1*trm t (2*m)=uT 1 (t*t) m:=by
  induction m with
  |zero=>show(1:Rat)*1=1;grind
  | succ m ih=>
    rw[(icq_p m).2.1,show 2*(m+1)=2*m+2 by omega,trm2]
    show _= -(uT 1 (t*t) m*(t*t)*((((2*m+1)*(2*m+1+1)):Nat):Rat)⁻¹)
    rw[←ih,show 2*m+1+1=2*m+2 by omega]
    grind
theorem sin_t (t:Rat) (m:Nat):(icq (-1) (2*m)).1*trm t (2*m+1)=t*uT 2 (t*t) m:=by
  induction m with
  | zero=>
    show(1:Rat)*(1*t*(1:Rat)⁻¹)=t*1
    rw[show(1:Rat)⁻¹=1 by decide+kernel];grind
  | succ m ih=>
    rw[(icq_p m).2.1,show 2*(m+1)+1=(2*m+1)+2 by omega,trm2]
    show _=t* -(uT 2 (t*t) m*(t*t)*((((2*m+2)*(2*m+2+1)):Nat):Rat)⁻¹)
    rw[show 2*m+1+1=2*m+2 by omega,show 2*m+1+2=2*m+2+1 by omega]
    generalize((((2*m+2)*(2*m+2+1)):Nat):Rat)⁻¹=z at*
    have:t* -(uT 2 (t*t) m*(t*t)*z)= -((t*uT 2 (t*t) m)*(t*t)*z):=by grind
    rw[this,←ih]
    grind
theorem cs_sum (t:Rat) (n:Nat):cS (-1) (2*n+1) t=uS 1 (t*t) (n+1)∧sS (-1) (2*n+1) t=t*uS 2 (t*t) n:=by
  induction n with
  | zero=>
    constructor
    · show(0:Rat)+1*1=0+1;grind
    · show(0:Rat)+0*1=t*0;grind
  | succ n ih=>
    obtain⟨i1,i2⟩:=ih
    obtain⟨p1,p2,p3,p4⟩:=icq_p n
    constructor
    · show cS (-1) (2*n+1) t+(icq (-1) (2*n+1)).1*trm t (2*n+1)+(icq (-1) (2*(n+1))).1*trm t (2*(n+1))=uS 1 (t*t) (n+1)+uT 1 (t*t) (n+1)
      rw[i1,p3,cos_t]
      grind
    · show sS (-1) (2*n+1) t+(icq (-1) (2*n+1)).2*trm t (2*n+1)+(icq (-1) (2*(n+1))).2*trm t (2*(n+1))=t*(uS 2 (t*t) n+uT 2 (t*t) n)
      rw[i2,p4,sin_t,(icq_p (n+1)).1]
      grind
theorem N_al (t:Rat):cNN (-1) t=al 1 (t*t) 0 81∧sNN (-1) t=t*al 2 (t*t) 0 80:=by
  obtain⟨h1,h2⟩:=cs_sum t 80
  rw[al_end,al_end]
  exact⟨h1,h2⟩
theorem sqE (z:Rat):z^2=z*z:=by rw[show(2:Nat)=1+1 from rfl,Rat.pow_succ,Rat.pow_one]
theorem sq_le1 {t:Rat} (h:Ab t 1):t*t≤1:=by have:=(h.mul h).2;grind
theorem cNN_bd {t:Rat} (h:Ab t 1):waQ 1 (t^2) false 24≤cNN (-1) t∧cNN (-1) t≤waQ 1 (t^2) true 24:=by
  rw[(N_al t).1,sqE]
  exact al_wa (Nat.le_refl 1) (hh_pos t) (sq_le1 h) 57 24 (Nat.le_refl _)
theorem sNN_bd {t:Rat} (h:Ab t 1):snX t true≤sNN (-1) t∧sNN (-1) t≤snX t false:=by
  rw[(N_al t).2]
  unfold snX
  rw[sqE]
  obtain⟨a1,a2⟩:=al_wa (f:=2) (x:=t*t) (by decide) (hh_pos t) (sq_le1 h) 56 24 (Nat.le_refl _)
  have a1:waQ 2 (t*t) false 24≤al 2 (t*t) 0 80:=a1
  have a2:al 2 (t*t) 0 80≤waQ 2 (t*t) true 24:=a2
  by_cases hn:t < 0
  · rw[decide_eq_true hn,show(true == true)=true from rfl,show(false == true)=false from rfl]
    have m1:=Rat.mul_le_mul_of_nonneg_left a1 (show 0≤ -t by grind)
    have m2:=Rat.mul_le_mul_of_nonneg_left a2 (show 0≤ -t by grind)
    exact⟨by grind,by grind⟩
  · rw[decide_eq_false hn,show(true == false)=false from rfl,show(false == false)=true from rfl]
    exact⟨Rat.mul_le_mul_of_nonneg_left a1 (by grind),Rat.mul_le_mul_of_nonneg_left a2 (by grind)⟩
theorem snX_mono {a b:Rat} (c:Bool) (h:a≤b) (ha: -1≤a) (hb:b≤1):snX a c≤snX b c:=by
  have n0:∀{z:Rat} (c:Bool),0≤z→z≤1→0≤z*waQ 2 (z^2) c 24:=fun {z} c hz h1=>Rat.mul_nonneg hz (by have:=(waQ_sn hz Rat.le_refl h1 c).1;grind)
  have sq:∀z:Rat,(-z)^2=z^2:=fun z=>by rw[sqE,sqE];grind
  unfold snX
  by_cases h1:a < 0
  · have a1:=n0 (z:=-a) (c == true) (by grind) (by grind)
    rw[sq] at a1
    by_cases h2:b < 0
    · rw[decide_eq_true h1,decide_eq_true h2]
      have k1:=(waQ_sn (x:=-b) (y:=-a) (by grind) (by grind) (by grind) (c == true)).2.1
      rw[sq,sq] at k1
      grind
    · have b1:=n0 (z:=b) (c == false) (by grind) hb
      rw[decide_eq_true h1,decide_eq_false h2]
      grind
  · have h2:¬b < 0:=by grind
    rw[decide_eq_false h1,decide_eq_false h2]
    exact(waQ_sn (x:=a) (y:=b) (by grind) h hb (c == false)).2.1
end Go.Q
