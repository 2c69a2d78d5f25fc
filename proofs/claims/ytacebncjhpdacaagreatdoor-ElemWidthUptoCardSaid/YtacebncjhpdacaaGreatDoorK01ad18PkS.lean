/-
  Roots of numbers on a grid, plain: their signs, when they are exact, their order. Conditions: the index is not 0.
  The series of the arctangent on a grid lies on both sides of its exact sum, which rises: no program. Conditions: the numbers are at most 1.
  The brackets of the arctangent and of halved angles keep the order: no program. Conditions: the numbers are at most 1 of the grid.
  Sixteen times the lower arctangent of a sixteenth of a turn at most pi's upper bound (by computation): no program. Conditions: the working precision is from 32 to 160.
  The brackets of arctangent, arcsine and arccosine keep the order: no program. Conditions: the functions' domains; precisions up to 128.
  The brackets of logarithm and exponential keep the order: no program. Conditions: the functions' domains.
  The brackets of the functions that rise, and of the arccosine, keep the order: no program. Conditions: both numbers have a bracket.
  The series of sine and cosine on a grid and their exact sums: no program. Conditions: the numbers are at most 1.
  How far apart the bounds of the series are: no program. Conditions: the numbers are at most 1 of the grid (of the exponential: 64).
-/
import Derived.Test.YtacebncjhpdacaaGreatDoorK01be2ePkO
import Derived.Test.YtacebncjhpdacaaGreatDoorKb47986PkR
set_option linter.unusedVariables false
set_option linter.unusedSimpArgs false
namespace Go.Q
theorem sgn_negs (m d:Nat):sgn true m d= -(sgn false m d):=by
  show mkRat (-(m:Int)) d= -(mkRat (m:Int) d)
  rw[Rat.neg_mkRat]
theorem dec_pos {q:Rat} (h:0≤q):decide (q.num < 0)=false:=by
  rw[decide_eq_false_iff_not,num_neg]
  grind
theorem dec_neg {q:Rat} (h:q < 0):decide (q.num < 0)=true:=by
  rw[decide_eq_true_iff,num_neg]
  exact h
theorem rtw_neg (q:Rat) (n p:Nat):rtw (-q) n p=rtw q n p:=by
  unfold rtw
  rw[Rat.neg_num,Int.natAbs_neg,Rat.neg_den]
theorem rtx_neg (q:Rat) (n p:Nat):rtx (-q) n p=rtx q n p:=by
  unfold rtx
  rw[rtw_neg,Rat.neg_num,Int.natAbs_neg,Rat.neg_den]
theorem rootg_neg {q:Rat} (h:q < 0) (up:Bool) (n p:Nat):rootg up q n p= -(rootg (!up) (-q) n p):=by
  unfold rootg rtm
  rw[dec_neg h,dec_pos (show 0≤ -q by grind),rtw_neg,rtx_neg,sgn_negs]
  cases up<;>rfl
theorem rootg_dn {q:Rat} (h:0≤q) (n p:Nat):rootg false q n p=sgn false (irt n (rtw q n p)) (2^p):=by
  unfold rootg rtm
  rw[dec_pos h]
  rfl
theorem rootg_up {q:Rat} (h:0≤q) (n p:Nat):rootg true q n p=sgn false (if rtx q n p=true then irt n (rtw q n p) else irt n (rtw q n p)+1) (2^p):=by
  unfold rootg rtm
  rw[dec_pos h]
  cases rtx q n p<;>rfl
theorem rmul_pow (a b:Rat) (n:Nat):(a*b)^n=a^n*b^n:=by
  induction n with
  |zero=>simp
  |succ n ih=>rw[Rat.pow_succ,Rat.pow_succ,Rat.pow_succ,ih];grind
theorem sgn_mden (m:Nat) {d:Nat} (hd:d≠0):sgn false m d*(d:Rat)=(m:Rat):=by
  show mkRat (m:Int) d*(d:Rat)=_
  have h1:(d:Rat)≠0:=by exact_mod_cast hd
  rw[Rat.mkRat_eq_div]
  exact Rat.div_mul_cancel h1
theorem num_den {q:Rat} (h:0≤q):q*(q.den:Rat)=(q.num.natAbs:Rat):=by
  have h1:=sgn_self q
  rw[dec_pos h] at h1
  have h2:=sgn_mden q.num.natAbs (d:=q.den) q.den_nz
  rwa[h1] at h2
theorem grid_pow (m n p:Nat) (q:Rat):sgn false m (2^p)^n*((2^(p*n):Nat):Rat)*(q.den:Rat)=((m^n*q.den:Nat):Rat):=by
  have h1:=sgn_mden m (d:=2^p) (Nat.ne_of_gt (Nat.pow_pos (by decide)))
  have h2:(sgn false m (2^p)*((2^p:Nat):Rat))^n=(m:Rat)^n:=by rw[h1]
  rw[rmul_pow] at h2
  have h3:(((2^p:Nat):Rat))^n=((2^(p*n):Nat):Rat):=by rw[Nat.pow_mul];push_cast;rfl
  rw[h3] at h2
  rw[h2]
  push_cast
  rfl
theorem num_pow' {q:Rat} (h:0≤q) (n p:Nat):q*((2^(p*n):Nat):Rat)*(q.den:Rat)=((q.num.natAbs*2^(p*n):Nat):Rat):=by
  have h1:=num_den h
  have:q*((2^(p*n):Nat):Rat)*(q.den:Rat)=(q*(q.den:Rat))*((2^(p*n):Nat):Rat):=by grind
  rw[this,h1]
  push_cast
  rfl
theorem scale_pos (q:Rat) (n p:Nat):(0:Rat) < ((2^(p*n):Nat):Rat)∧(0:Rat) < (q.den:Rat):=by
  have h1:0 < 2^(p*n):=Nat.pow_pos (by decide)
  have h2:0 < q.den:=Nat.pos_of_ne_zero q.den_nz
  exact⟨by exact_mod_cast h1,by exact_mod_cast h2⟩
theorem mul_mono2 {a b c d:Rat} (hc:0 < c) (hd:0 < d):a*c*d≤b*c*d↔a≤b:=by
  constructor
  · intro h
    refine Decidable.byContradiction fun k=>?_
    have h1:b < a:=by grind
    have h2:=Rat.mul_lt_mul_of_pos_right h1 hc
    have h3:=Rat.mul_lt_mul_of_pos_right h2 hd
    grind
  · intro h
    have h2:=Rat.mul_le_mul_of_nonneg_right h (show 0≤c by grind)
    exact Rat.mul_le_mul_of_nonneg_right h2 (show 0≤d by grind)
theorem grid_le {q:Rat} (h:0≤q) (m n p:Nat):sgn false m (2^p)^n≤q↔m^n*q.den≤q.num.natAbs*2^(p*n):=by
  obtain⟨h1,h2⟩:=scale_pos q n p
  rw[←mul_mono2 h1 h2,grid_pow,num_pow' h]
  exact_mod_cast Iff.rfl
theorem grid_ge {q:Rat} (h:0≤q) (m n p:Nat):q≤sgn false m (2^p)^n↔q.num.natAbs*2^(p*n)≤m^n*q.den:=by
  obtain⟨h1,h2⟩:=scale_pos q n p
  rw[←mul_mono2 h1 h2,grid_pow,num_pow' h]
  exact_mod_cast Iff.rfl
theorem rtx_iff (q:Rat) (n p:Nat):rtx q n p=true↔irt n (rtw q n p)^n*q.den=q.num.natAbs*2^(p*n):=by
  have hd:0 < q.den:=Nat.pos_of_ne_zero q.den_nz
  unfold rtx
  rw[Bool.and_eq_true,decide_eq_true_iff,decide_eq_true_iff]
  have hw:rtw q n p=q.num.natAbs*2^(p*n) / q.den:=rfl
  generalize irt n (rtw q n p)^n=r at*
  rw[hw]
  generalize q.num.natAbs*2^(p*n)=N at*
  have:=Nat.div_add_mod N q.den
  constructor
  · rintro⟨h1,h2⟩
    rw[h1,Nat.mul_comm];omega
  · intro h
    rw[←h]
    exact⟨(Nat.mul_div_cancel _ hd).symm,Nat.mul_mod_left ..⟩
theorem root_low {q:Rat} (h:0≤q) {n:Nat} (hn:n≠0) (p:Nat):rootg false q n p^n≤q:=by
  rw[rootg_dn h,grid_le h]
  have h1:=irt_le (n:=n) (a:=rtw q n p) hn
  have h2:rtw q n p*q.den≤q.num.natAbs*2^(p*n):=Nat.div_mul_le_self _ _
  exact Nat.le_trans (Nat.mul_le_mul_right _ h1) h2
theorem root_high {q:Rat} (h:0≤q) {n:Nat} (hn:n≠0) (p:Nat):q≤rootg true q n p^n:=by
  rw[rootg_up h,grid_ge h]
  cases hx:rtx q n p with
  | true=>
    have:=(rtx_iff q n p).1 hx
    simp only[if_true]
    omega
  | false=>
    simp only[Bool.false_eq_true,if_false]
    have h1:rtw q n p < (irt n (rtw q n p)+1)^n:=Decidable.byContradiction fun k=>by
      have:=irt_max (n:=n) (a:=rtw q n p) (j:=irt n (rtw q n p)+1) hn (by omega)
      omega
    have hd:0 < q.den:=Nat.pos_of_ne_zero q.den_nz
    have h2:q.num.natAbs*2^(p*n) < (irt n (rtw q n p)+1)^n*q.den:=by
      have hw:rtw q n p=q.num.natAbs*2^(p*n) / q.den:=rfl
      rw[hw,Nat.div_lt_iff_lt_mul hd] at h1
      exact h1
    omega
theorem rootg_nonneg {q:Rat} (h:0≤q) (up:Bool) (n p:Nat):0≤rootg up q n p:=by
  unfold rootg
  rw[dec_pos h]
  have h1:=sgn_mden (rtm up q n p) (d:=2^p) (Nat.ne_of_gt (Nat.pow_pos (by decide)))
  have h2:(0:Rat) < ((2^p:Nat):Rat):=by
    have:0 < 2^p:=Nat.pow_pos (by decide)
    exact_mod_cast this
  have h3:(0:Rat)≤((rtm up q n p:Nat):Rat):=by exact_mod_cast Nat.zero_le _
  refine Decidable.byContradiction fun k=>?_
  have h4:=Rat.mul_lt_mul_of_pos_right (show sgn false (rtm up q n p) (2^p) < 0 by grind) h2
  rw[h1,Rat.zero_mul] at h4
  grind
theorem rpow_lt {a b:Rat} {n:Nat} (hn:n≠0) (h0:0≤a) (h:a < b):a^n < b^n:=by
  obtain⟨m,rfl⟩:∃m,n=m+1:=⟨n - 1,by omega⟩
  rw[Rat.pow_succ,Rat.pow_succ]
  have h1:=rpow_mono m h0 (show a≤b by grind)
  have h2:=Rat.mul_le_mul_of_nonneg_right h1 h0
  have h3:=Rat.mul_lt_mul_of_pos_left h (Rat.pow_pos (n:=m) (show 0 < b by grind))
  grind
theorem root_mono0 {a b:Rat} (ha:0≤a) (h:a≤b) {n:Nat} (hn:n≠0) (p:Nat):rootg false a n p≤rootg true b n p:=by
  refine Decidable.byContradiction fun k=>?_
  have hb:0≤b:=Rat.le_trans ha h
  have h1:=rpow_lt hn (rootg_nonneg hb true n p) (show rootg true b n p < rootg false a n p by grind)
  have h2:=root_low ha hn p
  have h3:=root_high hb hn p
  grind
theorem root_mono {a b:Rat} (h:a≤b) {n:Nat} (hn:n≠0) (p:Nat):rootg false a n p≤rootg true b n p:=by
  by_cases ha:0≤a
  · exact root_mono0 ha h hn p
  · have e1:=rootg_neg (show a < 0 by grind) false n p
    have n1:=rootg_nonneg (show 0≤ -a by grind) true n p
    have e1:rootg false a n p= -(rootg true (-a) n p):=e1
    by_cases hb:0≤b
    · have:=rootg_nonneg hb true n p
      rw[e1];grind
    · have e2:rootg true b n p= -(rootg false (-b) n p):=rootg_neg (show b < 0 by grind) true n p
      have:=root_mono0 (show 0≤ -b by grind) (show -b≤ -a by grind) hn p
      rw[e1,e2];grind
end Go.Q
namespace Go.Q
set_option maxRecDepth 100000
set_option maxHeartbeats 4000000
theorem pow_plus2 (z:Rat) (m:Nat):z^(m+2)=z^m*z^2:=by
  have e:z^2=z*z:=by rw[show(2:Nat)=1+1 from rfl,Rat.pow_succ,Rat.pow_one]
  rw[Rat.pow_succ,Rat.pow_succ,e,Rat.mul_assoc]
theorem pow_dif {x y:Rat} (hx:0≤x) (h:x≤y):∀m:Nat,(m:Rat)*x^m*(y - x)≤(y^m - x^m)*x
  |0=>by rw[Rat.pow_zero,Rat.pow_zero];grind
  | m +1=>by
    have ih:=pow_dif hx h m
    have e:((m+1:Nat):Rat)=(m:Rat)+1:=by push_cast;rfl
    have hy:0≤y:=Rat.le_trans hx h
    have p1:=Rat.mul_le_mul_of_nonneg_right ih hy
    have p2:0≤x^m*(y - x)*(y - x)*(m:Rat):=by
      have a1:0≤x^m:=Rat.pow_nonneg hx
      have a2:0≤y - x:=by grind
      have a3:(0:Rat)≤(m:Rat):=by exact_mod_cast Nat.zero_le m
      exact Rat.mul_nonneg (Rat.mul_nonneg (Rat.mul_nonneg a1 a2) a2) a3
    rw[e,Rat.pow_succ,Rat.pow_succ]
    generalize x^m=X at*
    generalize y^m=Y at*
    generalize(m:Rat)=M at*
    grind
theorem pow_step {x y:Rat} (hx:0≤x) (h:x≤y) (hy:y≤1) (m:Nat):(m:Rat)*(y^(m+1) - x^(m+1))≤((m:Rat)+1)*(y^m - x^m):=by
  have k:=pow_dif hx h m
  have d:0≤y^m - x^m:=by
    have:=rpow_mono m hx h
    grind
  have a3:(0:Rat)≤(m:Rat):=by exact_mod_cast Nat.zero_le m
  have p1:(m:Rat)*(y^m - x^m)*y≤(m:Rat)*(y^m - x^m)*1:=Rat.mul_le_mul_of_nonneg_left hy (Rat.mul_nonneg a3 d)
  have p2:(y^m - x^m)*x≤(y^m - x^m)*1:=Rat.mul_le_mul_of_nonneg_left (Rat.le_trans h hy) d
  rw[Rat.pow_succ,Rat.pow_succ]
  generalize x^m=X at*
  generalize y^m=Y at*
  generalize(m:Rat)=M at*
  grind
theorem pow_two_steps {x y:Rat} (hx:0≤x) (h:x≤y) (hy:y≤1) {m:Nat} (hm:m≠0):(y^(m+2) - x^(m+2))*((m+2:Nat):Rat)⁻¹≤(y^m - x^m)*(m:Rat)⁻¹:=by
  have k1:=pow_step hx h hy m
  have k2:=pow_step hx h hy (m+1)
  have e1:((m+1:Nat):Rat)=(m:Rat)+1:=by push_cast;rfl
  have e2:((m+2:Nat):Rat)=(m:Rat)+2:=by push_cast;rfl
  have m0:(0:Rat) < (m:Rat):=by exact_mod_cast Nat.pos_of_ne_zero hm
  rw[e1] at k2
  rw[e2]
  rw[show m+1+1=m+2 from rfl] at k2
  generalize(m:Rat)=M at*
  generalize y^m - x^m=A at*
  generalize y^(m+1) - x^(m+1)=B at*
  generalize y^(m+2) - x^(m+2)=C at*
  have i1:M*M⁻¹=1:=Rat.mul_inv_cancel _ (by grind)
  have i2:(M+2)*(M+2)⁻¹=1:=Rat.mul_inv_cancel _ (by grind)
  have q:M*C≤(M+2)*A:=by
    have t:=Rat.mul_le_mul_of_nonneg_left k2 (Rat.le_of_lt m0)
    have t2:=Rat.mul_le_mul_of_nonneg_left k1 (show 0≤M+2 by grind)
    have h0:(M+1)*(M*C)≤(M+1)*((M+2)*A):=by grind
    exact Rat.le_of_mul_le_mul_left h0 (by grind)
  have n1:0≤M⁻¹:=Rat.le_of_lt (Rat.inv_pos.2 m0)
  have n2:0≤(M+2)⁻¹:=Rat.le_of_lt (Rat.inv_pos.2 (by grind))
  have r:=Rat.mul_le_mul_of_nonneg_right q (Rat.mul_nonneg n1 n2)
  have z1:M*C*(M⁻¹*(M+2)⁻¹)=C*(M+2)⁻¹:=by grind
  have z2:(M+2)*A*(M⁻¹*(M+2)⁻¹)=A*M⁻¹:=by grind
  rw[z1,z2] at r
  exact r
def arcQ (t:Rat):Bool→Nat→Rat
  |false,0=>(79:Rat)⁻¹ - t*(81:Rat)⁻¹
  |true,0=>(79:Rat)⁻¹
  |false,j+1=>((77 - 2*j:Nat):Rat)⁻¹ - t*arcQ t true j
  |true,j+1=>((77 - 2*j:Nat):Rat)⁻¹ - t*arcQ t false j
theorem arcQ_s (t:Rat) (c:Bool) (j:Nat):arcQ t c (j+1)=((77 - 2*j:Nat):Rat)⁻¹ - t*arcQ t (!c) j:=by cases c<;>rfl
theorem arcQ_le {t:Rat} (ht:0≤t):∀j,arcQ t false j≤arcQ t true j
  | 0=>by
    show(79:Rat)⁻¹ - t*(81:Rat)⁻¹≤(79:Rat)⁻¹
    have:0≤t*(81:Rat)⁻¹:=Rat.mul_nonneg ht (by decide+kernel)
    grind
  | j+1=>by
    rw[arcQ_s,arcQ_s]
    have:=Rat.mul_le_mul_of_nonneg_left (arcQ_le ht j) ht
    show _ - t*arcQ t true j≤_ - t*arcQ t false j
    grind
theorem arcP_mono {x y:Rat} (hx:0≤x) (h:x≤y) (hy:y≤1):∀(j:Nat) (c:Bool),j≤39→x^(79 - 2*j)*arcQ (x^2) c j≤y^(79 - 2*j)*arcQ (y^2) c j∧y^(79 - 2*j)*arcQ (y^2) c j - x^(79 - 2*j)*arcQ (x^2) c j≤(y^(79 - 2*j) - x^(79 - 2*j))*((79 - 2*j:Nat):Rat)⁻¹
  | 0,c,_=>by
    have k:=pow_two_steps hx h hy (m:=79) (by decide)
    have d:=rpow_mono 81 hx h
    have d':=rpow_mono 79 hx h
    have e79:((79 - 2*0:Nat):Rat)=79:=rfl
    have e81:((79+2:Nat):Rat)=81:=rfl
    have e79':((79:Nat):Rat)=79:=rfl
    rw[e81,e79'] at k
    rw[e79]
    have p:∀z:Rat,z^(79+2)=z^79*z^2:=fun z=>pow_plus2 z 79
    have i0:(0:Rat)≤(79:Rat)⁻¹:=by decide+kernel
    have i1:(0:Rat)≤(81:Rat)⁻¹:=by decide+kernel
    have d81:x^79*x^2≤y^79*y^2:=by rw[←p,←p];exact d
    rw[p,p] at k
    have n1:=Rat.mul_le_mul_of_nonneg_right d' i0
    have n2:=Rat.mul_le_mul_of_nonneg_right d81 i1
    simp only[Nat.mul_zero,Nat.sub_zero]
    cases c
    · show x^79*((79:Rat)⁻¹ - x^2*(81:Rat)⁻¹)≤y^79*((79:Rat)⁻¹ - y^2*(81:Rat)⁻¹)∧y^79*((79:Rat)⁻¹ - y^2*(81:Rat)⁻¹) - x^79*((79:Rat)⁻¹ - x^2*(81:Rat)⁻¹)≤(y^79 - x^79)*(79:Rat)⁻¹
      clear p d d' d81 e79 e81 e79' hx h hy i0 i1
      generalize x^79=X at*
      generalize y^79=Y at*
      generalize x^2=X2 at*
      generalize y^2=Y2 at*
      generalize(79:Rat)⁻¹=A at*
      generalize(81:Rat)⁻¹=B at*
      constructor<;>grind
    · show x^79*(79:Rat)⁻¹≤y^79*(79:Rat)⁻¹∧y^79*(79:Rat)⁻¹ - x^79*(79:Rat)⁻¹≤(y^79 - x^79)*(79:Rat)⁻¹
      clear p d d' d81 e79 e81 e79' hx h hy i0 i1
      generalize x^79=X at*
      generalize y^79=Y at*
      generalize(79:Rat)⁻¹=A at*
      constructor<;>grind
  | j+1,c,hj=>by
    obtain⟨a1,a2⟩:=arcP_mono hx h hy j (!c) (by omega)
    have k:=pow_two_steps hx h hy (m:=77 - 2*j) (by omega)
    rw[show 77 - 2*j+2=79 - 2*j by omega] at k
    have p:∀z:Rat,z^(79 - 2*j)=z^(77 - 2*j)*z^2:=fun z=>by rw[←pow_plus2];congr 1;omega
    rw[show 79 - 2*(j+1)=77 - 2*j by omega,arcQ_s,arcQ_s]
    rw[p,p] at a1 a2 k
    clear p
    generalize x^(77 - 2*j)=X at*
    generalize y^(77 - 2*j)=Y at*
    generalize arcQ (x^2) (!c) j=Q at*
    generalize arcQ (y^2) (!c) j=R at*
    generalize x^2=X2 at*
    generalize y^2=Y2 at*
    generalize((77 - 2*j:Nat):Rat)⁻¹=A at*
    generalize((79 - 2*j:Nat):Rat)⁻¹=B at*
    clear hx h hy
    constructor<;>grind
theorem arcQ_mono {x y:Rat} (hx:0≤x) (h:x≤y) (hy:y≤1):x*arcQ (x^2) false 39≤y*arcQ (y^2) true 39:=by
  have h1:=(arcP_mono hx h hy 39 false (Nat.le_refl _)).1
  rw[show 79 - 2*39=1 from rfl,Rat.pow_one,Rat.pow_one] at h1
  refine Rat.le_trans h1 ?_
  exact Rat.mul_le_mul_of_nonneg_left (arcQ_le (Rat.pow_nonneg (Rat.le_trans hx h)) 39) (Rat.le_trans hx h)
end Go.Q
namespace Go.Q
set_option maxRecDepth 100000
set_option maxHeartbeats 4000000
theorem div_rat {a d:Nat} (_:d≠0):((a / d:Nat):Rat)*(d:Rat)≤(a:Rat):=by exact_mod_cast Nat.div_mul_le_self a d
theorem cdiv_rat {a d:Nat} (hd:d≠0):(a:Rat)≤((cdiv a d:Nat):Rat)*(d:Rat):=by
  have:a≤cdiv a d*d:=by rw[Nat.mul_comm];exact(cdiv_le_iff hd).1 (Nat.le_refl _)
  exact_mod_cast this
theorem arcV_Q {w s t:Nat} {x:Rat} (hw:20≤w) (hx:0≤x) (hs:(s:Rat)≤x*((2^w:Nat):Rat)) (ht:x*((2^w:Nat):Rat)≤(t:Rat)) (ls:s≤2^w) (lt:t≤2^w):
    ∀j,j≤39→((arcV w s t false j:Nat):Rat)≤((2^w:Nat):Rat)*arcQ x false j∧((2^w:Nat):Rat)*arcQ x true j≤((arcV w s t true j:Nat):Rat)
  | 0,_=>by
    have u0:=u_pos w
    rw[arcV_0,arcV_0']
    constructor
    · have h1:=div_rat (a:=2^w*81 - t*79) (d:=79*81) (by decide)
      have e:((2^w*81 - t*79:Nat):Rat)=((2^w:Nat):Rat)*81 - (t:Rat)*79:=by
        have:((2^w*81 - t*79:Nat):Rat)+((t*79:Nat):Rat)=((2^w*81:Nat):Rat):=by
          rw[←Rat.natCast_add];congr 1;omega
        rw[Rat.natCast_mul,Rat.natCast_mul] at this
        have c1:((79:Nat):Rat)=79:=rfl
        have c2:((81:Nat):Rat)=81:=rfl
        rw[c1,c2] at this
        generalize((2^w*81 - t*79:Nat):Rat)=z at*
        grind
      rw[e] at h1
      generalize((2^w:Nat):Rat)=u at*
      generalize(((2^w*81 - t*79) / (79*81):Nat):Rat)=V at*
      have c3:((79*81:Nat):Rat)=6399:=rfl
      rw[c3] at h1
      show V≤u*((79:Rat)⁻¹ - x*(81:Rat)⁻¹)
      have i1:(79:Rat)⁻¹=81 / 6399:=by decide+kernel
      have i2:(81:Rat)⁻¹=79 / 6399:=by decide+kernel
      rw[i1,i2]
      grind
    · have h1:=cdiv_rat (a:=2^w) (d:=79) (by decide)
      show((2^w:Nat):Rat)*(79:Rat)⁻¹≤_
      have c1:((79:Nat):Rat)=79:=rfl
      rw[c1] at h1
      have i1:(79:Rat)*(79:Rat)⁻¹=1:=by decide+kernel
      have i0:(0:Rat)≤(79:Rat)⁻¹:=by decide+kernel
      have:=Rat.mul_le_mul_of_nonneg_right h1 i0
      rw[Rat.mul_assoc,i1,Rat.mul_one] at this
      exact this
  | j + 1,hj=>by
    obtain⟨h1,h2⟩:=arcV_Q hw hx hs ht ls lt j (by omega)
    obtain⟨b1,b2⟩:=arcV_sub (w:=w) (s:=s) (t:=t) (j:=j) hw ls lt (by omega)
    have u0:=u_pos w
    have hk:(77 - 2*j)*2^w≠0:=Nat.mul_ne_zero (by omega) (pow2_ne w)
    have k0:(0:Rat) < ((77 - 2*j:Nat):Rat):=by exact_mod_cast (show 0 < 77 - 2*j by omega)
    have i1:((77 - 2*j:Nat):Rat)*((77 - 2*j:Nat):Rat)⁻¹=1:=Rat.mul_inv_cancel _ (by grind)
    have v1:(0:Rat)≤((arcV w s t true j:Nat):Rat):=by exact_mod_cast Nat.zero_le _
    have v2:(0:Rat)≤((arcV w s t false j:Nat):Rat):=by exact_mod_cast Nat.zero_le _
    have xu:0≤x*((2^w:Nat):Rat):=Rat.mul_nonneg hx (Rat.le_of_lt u0)
    have m1:=Rat.mul_le_mul_of_nonneg_right ht v1
    have m2:=Rat.mul_le_mul_of_nonneg_left h2 xu
    have m3:=Rat.mul_le_mul_of_nonneg_right hs v2
    have m4:=Rat.mul_le_mul_of_nonneg_left h1 xu
    rw[arcV_s,arcV_s',arcQ_s,arcQ_s]
    have c1:=div_rat (a:=2^w*2^w - t*arcV w s t true j*(77 - 2*j)) hk
    have c2:=cdiv_rat (a:=2^w*2^w - s*arcV w s t false j*(77 - 2*j)) hk
    have e1:((2^w*2^w - t*arcV w s t true j*(77 - 2*j):Nat):Rat)=((2^w:Nat):Rat)*((2^w:Nat):Rat) - (t:Rat)*((arcV w s t true j:Nat):Rat)*((77 - 2*j:Nat):Rat):=by
      have:((2^w*2^w - t*arcV w s t true j*(77 - 2*j):Nat):Rat)+((t*arcV w s t true j*(77 - 2*j):Nat):Rat)=((2^w*2^w:Nat):Rat):=by
        rw[←Rat.natCast_add,Nat.sub_add_cancel b1]
      rw[Rat.natCast_mul,Rat.natCast_mul,Rat.natCast_mul] at this
      generalize((2^w*2^w - t*arcV w s t true j*(77 - 2*j):Nat):Rat)=z at*
      grind
    have e2:((2^w*2^w - s*arcV w s t false j*(77 - 2*j):Nat):Rat)=((2^w:Nat):Rat)*((2^w:Nat):Rat) - (s:Rat)*((arcV w s t false j:Nat):Rat)*((77 - 2*j:Nat):Rat):=by
      have:((2^w*2^w - s*arcV w s t false j*(77 - 2*j):Nat):Rat)+((s*arcV w s t false j*(77 - 2*j):Nat):Rat)=((2^w*2^w:Nat):Rat):=by
        rw[←Rat.natCast_add,Nat.sub_add_cancel b2]
      rw[Rat.natCast_mul,Rat.natCast_mul,Rat.natCast_mul] at this
      generalize((2^w*2^w - s*arcV w s t false j*(77 - 2*j):Nat):Rat)=z at*
      grind
    rw[e1,Rat.natCast_mul (77 - 2*j)] at c1
    rw[e2,Rat.natCast_mul (77 - 2*j)] at c2
    clear e1 e2 b1 b2 hk
    generalize(((2^w*2^w - t*arcV w s t true j*(77 - 2*j)) / ((77 - 2*j)*2^w):Nat):Rat)=Z1 at*
    generalize((cdiv (2^w*2^w - s*arcV w s t false j*(77 - 2*j)) ((77 - 2*j)*2^w):Nat):Rat)=Z2 at*
    generalize((arcV w s t true j:Nat):Rat)=V at*
    generalize((arcV w s t false j:Nat):Rat)=W at*
    generalize hK:((77 - 2*j:Nat):Rat)=K at*
    generalize((2^w:Nat):Rat)=u at*
    simp only[Bool.not_false,Bool.not_true]
    generalize arcQ x true j=Q at*
    generalize arcQ x false j=R at*
    have ku:0 < K*u:=Rat.mul_pos k0 u0
    have n1:x*u*(u*Q)≤(t:Rat)*V:=Rat.le_trans m2 m1
    have n2:(s:Rat)*W≤x*u*(u*R):=Rat.le_trans m3 m4
    have n3:=Rat.mul_le_mul_of_nonneg_right n1 (Rat.le_of_lt k0)
    have n4:=Rat.mul_le_mul_of_nonneg_right n2 (Rat.le_of_lt k0)
    constructor
    · refine Rat.le_of_mul_le_mul_right (c:=K*u) ?_ ku
      have:u*(K⁻¹ - x*Q)*(K*u)=u*u*(K*K⁻¹) - x*u*(u*Q)*K:=by grind
      rw[this,i1]
      grind
    · refine Rat.le_of_mul_le_mul_right (c:=K*u) ?_ ku
      have:u*(K⁻¹ - x*R)*(K*u)=u*u*(K*K⁻¹) - x*u*(u*R)*K:=by grind
      rw[this,i1]
      grind
theorem grid_sq {a w:Nat}:((a:Rat) / ((2^w:Nat):Rat))^2*((2^w:Nat):Rat)*((2^w:Nat):Rat)=(a:Rat)*(a:Rat):=by
  have u0:=u_pos w
  have e:(a:Rat) / ((2^w:Nat):Rat)*((2^w:Nat):Rat)=(a:Rat):=Rat.div_mul_cancel (by grind)
  have e2:((a:Rat) / ((2^w:Nat):Rat))^2=(a:Rat) / ((2^w:Nat):Rat)*((a:Rat) / ((2^w:Nat):Rat)):=by rw[show(2:Nat)=1+1 from rfl,Rat.pow_succ,Rat.pow_one]
  rw[e2]
  generalize(a:Rat) / ((2^w:Nat):Rat)=q at*
  rw[←e]
  grind
theorem sq_in {a b c w:Nat} (h1:a≤c) (h2:c≤b):((sqL a w:Nat):Rat)≤((c:Rat) / ((2^w:Nat):Rat))^2*((2^w:Nat):Rat)∧((c:Rat) / ((2^w:Nat):Rat))^2*((2^w:Nat):Rat)≤((sqH b w:Nat):Rat):=by
  have u0:=u_pos w
  have g:=grid_sq (a:=c) (w:=w)
  have d1:=div_rat (a:=a*a) (d:=2^w) (pow2_ne w)
  have d2:=cdiv_rat (a:=b*b) (d:=2^w) (pow2_ne w)
  have l1:((a*a:Nat):Rat)≤((c*c:Nat):Rat):=by exact_mod_cast Nat.mul_le_mul h1 h1
  have l2:((c*c:Nat):Rat)≤((b*b:Nat):Rat):=by exact_mod_cast Nat.mul_le_mul h2 h2
  have ec:((c*c:Nat):Rat)=(c:Rat)*(c:Rat):=Rat.natCast_mul c c
  rw[ec,←g] at l1 l2
  unfold sqL sqH
  generalize((c:Rat) / ((2^w:Nat):Rat))^2*((2^w:Nat):Rat)=q at*
  exact⟨Rat.le_of_mul_le_mul_right (Rat.le_trans d1 l1) u0,Rat.le_of_mul_le_mul_right (Rat.le_trans l2 d2) u0⟩
theorem arcL_Q {a b c w:Nat} (hw:20≤w) (h1:a≤c) (h2:c≤b) (lb:b≤2^w):((arcL a b w:Nat):Rat)≤(c:Rat) / ((2^w:Nat):Rat)*arcQ (((c:Rat) / ((2^w:Nat):Rat))^2) false 39*((2^w:Nat):Rat)∧(c:Rat) / ((2^w:Nat):Rat)*arcQ (((c:Rat) / ((2^w:Nat):Rat))^2) true 39*((2^w:Nat):Rat)≤((arcH a b w:Nat):Rat):=by
  have u0:=u_pos w
  obtain⟨q1,q2⟩:=sq_in (w:=w) h1 h2
  have x0:0≤(c:Rat) / ((2^w:Nat):Rat):=by
    rw[Rat.div_def]
    exact Rat.mul_nonneg (by exact_mod_cast Nat.zero_le c) (Rat.le_of_lt (Rat.inv_pos.2 u0))
  obtain⟨v1,v2⟩:=arcV_Q hw (Rat.pow_nonneg (n:=2) x0) q1 q2 (sqL_le (Nat.le_trans h1 (Nat.le_trans h2 lb))) (sqH_le lb) 39 (Nat.le_refl _)
  have e:(c:Rat) / ((2^w:Nat):Rat)*((2^w:Nat):Rat)=(c:Rat):=Rat.div_mul_cancel (by grind)
  have d1:=div_rat (a:=a*arcV w (sqL a w) (sqH b w) false 39) (d:=2^w) (pow2_ne w)
  have d2:=cdiv_rat (a:=b*arcV w (sqL a w) (sqH b w) true 39) (d:=2^w) (pow2_ne w)
  have l1:((a*arcV w (sqL a w) (sqH b w) false 39:Nat):Rat)≤((c*arcV w (sqL a w) (sqH b w) false 39:Nat):Rat):=by exact_mod_cast Nat.mul_le_mul_right _ h1
  have l2:((c*arcV w (sqL a w) (sqH b w) true 39:Nat):Rat)≤((b*arcV w (sqL a w) (sqH b w) true 39:Nat):Rat):=by exact_mod_cast Nat.mul_le_mul_right _ h2
  rw[Rat.natCast_mul c] at l1 l2
  unfold arcL arcH
  have c0:(0:Rat)≤(c:Rat):=by exact_mod_cast Nat.zero_le c
  have m1:=Rat.mul_le_mul_of_nonneg_left v1 c0
  have m2:=Rat.mul_le_mul_of_nonneg_left v2 c0
  generalize arcQ (((c:Rat) / ((2^w:Nat):Rat))^2) false 39=P at*
  generalize arcQ (((c:Rat) / ((2^w:Nat):Rat))^2) true 39=Q at*
  generalize(c:Rat) / ((2^w:Nat):Rat)=x at*
  refine⟨Rat.le_of_mul_le_mul_right (c:=((2^w:Nat):Rat)) ?_ u0,Rat.le_of_mul_le_mul_right (c:=((2^w:Nat):Rat)) ?_ u0⟩
  · refine Rat.le_trans (Rat.le_trans d1 l1) ?_
    generalize((2^w:Nat):Rat)=u at*
    rw[←e] at m1 ⊢
    grind
  · refine Rat.le_trans ?_ (Rat.le_trans l2 d2)
    generalize((2^w:Nat):Rat)=u at*
    rw[←e] at m2 ⊢
    grind
theorem grid_div {a b w:Nat} (h:a≤b):(a:Rat) / ((2^w:Nat):Rat)≤(b:Rat) / ((2^w:Nat):Rat):=by
  rw[Rat.div_def,Rat.div_def]
  exact Rat.mul_le_mul_of_nonneg_right (by exact_mod_cast h) (Rat.le_of_lt (Rat.inv_pos.2 (u_pos w)))
theorem arc_ord {a1 b1 a2 b2 w:Nat} (hw:20≤w) (h1:a1≤b1) (h2:a2≤b2) (h:a1≤b2) (l1:b1≤2^w) (l2:b2≤2^w):arcL a1 b1 w≤arcH a2 b2 w:=by
  have u0:=u_pos w
  have k1:=(arcL_Q hw (Nat.le_refl a1) h1 l1).1
  have k2:=(arcL_Q hw (Nat.le_max_right a1 a2) (Nat.max_le.2 ⟨h,h2⟩) l2).2
  have x0:0≤(a1:Rat) / ((2^w:Nat):Rat):=by
    rw[Rat.div_def]
    exact Rat.mul_nonneg (by exact_mod_cast Nat.zero_le a1) (Rat.le_of_lt (Rat.inv_pos.2 u0))
  have y1:((max a1 a2:Nat):Rat) / ((2^w:Nat):Rat)≤1:=by
    have:=grid_div (w:=w) (Nat.le_trans (Nat.max_le.2 ⟨h,h2⟩) l2)
    have e:((2^w:Nat):Rat) / ((2^w:Nat):Rat)=1:=by rw[Rat.div_def];exact Rat.mul_inv_cancel _ (by grind)
    rw[e] at this
    exact this
  have k3:=arcQ_mono x0 (grid_div (w:=w) (Nat.le_max_left a1 a2)) y1
  have k4:=Rat.mul_le_mul_of_nonneg_right k3 (Rat.le_of_lt u0)
  exact_mod_cast Rat.le_trans k1 (Rat.le_trans k4 k2)
theorem irt_le_up (n:Nat):irt 2 n≤rtUp n:=by unfold rtUp;split<;>omega
theorem rtUp_sq (n:Nat):n≤rtUp n*rtUp n:=by
  unfold rtUp
  split
  · rename_i h;rw[Nat.pow_two] at h;omega
  · refine Nat.le_of_lt (Nat.lt_of_not_le fun c=>?_)
    have:=irt_max (n:=2) (a:=n) (j:=irt 2 n+1) (by decide) (by rw[Nat.pow_two];exact c)
    omega
theorem rtUp_le {n r:Nat} (h:n≤r*r):rtUp n≤r:=by
  have h1:=irt_le (n:=2) (a:=n) (by decide)
  have h2:irt 2 n≤r:=by
    refine Nat.le_of_not_lt fun c=>?_
    have:=Nat.mul_le_mul (Nat.succ_le_of_lt c) (Nat.succ_le_of_lt c)
    rw[Nat.pow_two] at h1
    have e:(r+1)*(r+1)=r*r+2*r+1:=by rw[Nat.add_mul,Nat.mul_add];omega
    have:(r+1)*(r+1)≤irt 2 n*irt 2 n:=this
    omega
  unfold rtUp
  split
  · exact h2
  · rename_i hne
    rcases Nat.lt_or_eq_of_le h2 with c |c
    · omega
    · rw[c,Nat.pow_two] at hne h1;omega
theorem hvL_mono {a b w:Nat} (h:a≤b):hvL a w≤hvL b w:=by
  obtain⟨d,rfl⟩:=Nat.exists_eq_add_of_le h
  unfold hvL
  have hU:=Nat.pos_of_ne_zero (pow2_ne w)
  have h1:=rtUp_sq (2^(2*w)+a*a)
  have hp:=Nat.pos_of_ne_zero (pow2_ne (2*w))
  have ra:a≤rtUp (2^(2*w)+a*a):=by
    refine Nat.le_of_not_lt fun c=>?_
    have:=Nat.mul_lt_mul'' c c
    omega
  have h2:rtUp (2^(2*w)+(a+d)*(a+d))≤rtUp (2^(2*w)+a*a)+d:=by
    refine rtUp_le ?_
    generalize rtUp (2^(2*w)+a*a)=r at*
    have e1:(r+d)*(r+d)=r*r+2*(r*d)+d*d:=by rw[Nat.add_mul,Nat.mul_add,Nat.mul_add,Nat.mul_comm d r];omega
    have e2:(a+d)*(a+d)=a*a+2*(a*d)+d*d:=by rw[Nat.add_mul,Nat.mul_add,Nat.mul_add,Nat.mul_comm d a];omega
    have:=Nat.mul_le_mul_right d ra
    omega
  generalize rtUp (2^(2*w)+a*a)=r at*
  generalize rtUp (2^(2*w)+(a+d)*(a+d))=q at*
  generalize 2^w=U at*
  refine(Nat.le_div_iff_mul_le (by omega)).2 ?_
  have c1:=Nat.div_mul_le_self (a*U) (U+r)
  have c2:a*U / (U+r)≤a*U / (U+r):=Nat.le_refl _
  have c3:a*U / (U+r)≤U:=Nat.div_le_of_le_mul (by rw[Nat.add_mul,Nat.mul_comm a U];have:=Nat.mul_le_mul_right U ra;rw[Nat.mul_comm U a];omega)
  generalize a*U / (U+r)=m at*
  have c4:m*(U+q)≤m*(U+r+d):=Nat.mul_le_mul_left _ (by omega)
  have c5:m*d≤U*d:=Nat.mul_le_mul_right _ c3
  rw[Nat.mul_add m (U+r) d] at c4
  rw[Nat.add_mul,Nat.mul_comm d U]
  omega
theorem hv_le (b w:Nat):hvL b w≤hvH b w:=by
  unfold hvL hvH
  have hU:=Nat.pos_of_ne_zero (pow2_ne w)
  have h:=irt_le_up (2^(2*w)+b*b)
  refine Nat.le_trans (Nat.div_le_div_left (Nat.add_le_add_left h _) (by omega)) (le_cdiv _ (by omega))
theorem hv_ord {a b w:Nat} (h:a≤b):hvL a w≤hvH b w:=Nat.le_trans (hvL_mono h) (hv_le b w)
theorem an_ord {a1 b1 a2 b2 w:Nat} (hw:20≤w) (h1:a1≤b1) (h2:a2≤b2) (h:a1≤b2) (l1:b1≤2^w) (l2:b2≤2^w):anL a1 b1 w≤anH a2 b2 w:=by
  unfold anL anH
  refine Nat.mul_le_mul_right _ (arc_ord hw (hv_ord (hv_ord h1)) (hv_ord (hv_ord h2)) (hv_ord (hv_ord h)) ?_ ?_)
  · exact Nat.le_trans (hvH_le _ _) (Nat.le_trans (hvH_le _ _) l1)
  · exact Nat.le_trans (hvH_le _ _) (Nat.le_trans (hvH_le _ _) l2)
end Go.Q
namespace Go.Q
set_option maxRecDepth 100000
set_option maxHeartbeats 4000000
end Go.Q
namespace Go.Q
set_option maxRecDepth 100000
set_option maxHeartbeats 4000000
theorem rat_cross {x y:Rat} (hx:0≤x) (h:x≤y):x.num.natAbs*y.den≤y.num.natAbs*x.den:=by
  have h1:=(Rat.le_iff x y).1 h
  have a1:=Rat.num_nonneg.2 hx
  have a2:=Rat.num_nonneg.2 (Rat.le_trans hx h)
  have e1:((x.num.natAbs*y.den:Nat):Int)=x.num*y.den:=by rw[Int.natCast_mul,Int.natAbs_of_nonneg a1]
  have e2:((y.num.natAbs*x.den:Nat):Int)=y.num*x.den:=by rw[Int.natCast_mul,Int.natAbs_of_nonneg a2]
  omega
theorem glo_ghi_le {x y:Rat} {w:Nat} (h:x.num.natAbs*y.den≤y.num.natAbs*x.den):glo x w≤ghi y w:=by
  unfold glo ghi
  refine cdiv_ge y.den_nz ?_
  have h1:=Nat.div_mul_le_self (x.num.natAbs*2^w) x.den
  generalize x.num.natAbs*2^w / x.den=q at*
  refine Nat.le_of_mul_le_mul_right (c:=x.den) ?_ (Nat.pos_of_ne_zero x.den_nz)
  have h2:=Nat.mul_le_mul_right y.den h1
  have h3:=Nat.mul_le_mul_right (2^w) h
  rw[show y.den*q*x.den=q*x.den*y.den by rw[Nat.mul_comm y.den,Nat.mul_right_comm]]
  rw[show x.num.natAbs*2^w*y.den=x.num.natAbs*y.den*2^w by rw[Nat.mul_right_comm]] at h2
  rw[show y.num.natAbs*2^w*x.den=y.num.natAbs*x.den*2^w by rw[Nat.mul_right_comm]]
  exact Nat.le_trans h2 h3
theorem num_pos0 {x:Rat} (h:0 < x):¬x.num < 0∧x.num.natAbs≠0:=by
  have h1:=Rat.num_nonneg.2 (Rat.le_of_lt h)
  have h2:x.num≠0:=fun c=>by have:=Rat.num_eq_zero.1 c;grind
  omega
theorem num_lt0 {x:Rat}:x.num < 0↔x < 0:=by
  have:=Rat.num_nonneg (q:=x)
  constructor
  · intro h
    refine Decidable.byContradiction fun c=>?_
    have:=this.2 (by grind)
    omega
  · intro h
    refine Int.not_le.1 fun c=>?_
    have:=this.1 c
    grind
theorem rinv_le {a b:Rat} (ha:0 < a) (h:a≤b):b⁻¹≤a⁻¹:=by
  have hb:0 < b:=by grind
  have i1:a*a⁻¹=1:=Rat.mul_inv_cancel _ (by grind)
  have i2:b*b⁻¹=1:=Rat.mul_inv_cancel _ (by grind)
  refine Rat.le_of_mul_le_mul_left (c:=a*b) ?_ (Rat.mul_pos ha hb)
  have e1:a*b*b⁻¹=a:=by rw[Rat.mul_assoc,i2,Rat.mul_one]
  have e2:a*b*a⁻¹=b:=by rw[Rat.mul_comm a b,Rat.mul_assoc,i1,Rat.mul_one]
  rw[e1,e2]
  exact h
theorem asH_ord {x y:Rat} {w:Nat} (dx:x.num.natAbs≤x.den) (dy:y.num.natAbs≤y.den) (h:abQ x≤abQ y):asH true x w≤asH false y w:=by
  obtain⟨a0,a1⟩:=abQ_bd dx
  obtain⟨b0,b1⟩:=abQ_bd dy
  have g1:=(asG_bd (u:=true) (w:=w) dx).1
  have g2:=(asG_bd (u:=false) (w:=w) dy).1
  have hr:asR y≤asR x:=by
    unfold asR
    have m1:=Rat.mul_le_mul_of_nonneg_left h a0
    have m2:=Rat.mul_le_mul_of_nonneg_right h b0
    grind
  have hg:asG false y w≤asG true x w:=root_mono hr (by decide) w
  have hi:=rinv_le (a:=1+asG false y w) (b:=1+asG true x w) (by grind) (by grind)
  have i0:0≤(1+asG true x w)⁻¹:=Rat.le_of_lt (Rat.inv_pos.2 (by grind))
  unfold asH
  exact Rat.le_trans (Rat.mul_le_mul_of_nonneg_right h i0) (Rat.mul_le_mul_of_nonneg_left hi b0)
theorem sgn_sum (a b w:Nat):sgn false (a+b) (2^w)=sgn false a (2^w)+sgn false b (2^w):=by
  have e1:=sgn_u a w
  have e2:=sgn_u b w
  have e3:=sgn_u (a+b) w
  have u0:=u_pos w
  rw[Rat.natCast_add,←e1,←e2] at e3
  generalize sgn false (a+b) (2^w)=s at*
  generalize sgn false a (2^w)=t at*
  generalize sgn false b (2^w)=r at*
  generalize((2^w:Nat):Rat)=u at*
  have:(s - (t+r))*u=0:=by grind
  rcases Rat.mul_eq_zero.1 this with c |c<;>grind
end Go.Q
namespace Go.Q
set_option maxRecDepth 100000
set_option maxHeartbeats 4000000
theorem lg_above {n d:Nat} (hd:d≠0):lgn n (lge n d) < 2*lgd d (lge n d):=by
  obtain⟨d1,d2⟩:=bl_pos hd
  have n2:n < 2^bl n:=bl_le.1 (Nat.le_refl _)
  have e2:2^bl d=2*2^(bl d - 1):=by rw[←Nat.pow_succ'];congr 1;omega
  unfold lge
  split
  · rename_i h
    unfold lgn lgd at h ⊢
    by_cases c:1≤lge0 n d
    · obtain⟨k,hk⟩:∃k:Nat,lge0 n d=k+1:=⟨(lge0 n d - 1).toNat,by omega⟩
      rw[hk] at h ⊢
      rw[show(max 0 (-((k:Int)+1))).toNat=0 by omega,show(max 0 ((k:Int)+1)).toNat=k+1 by omega,Nat.pow_zero,Nat.mul_one,Nat.pow_succ] at h
      rw[show(max 0 (-((k:Int)+1 - 1))).toNat=0 by omega,show(max 0 ((k:Int)+1 - 1)).toNat=k by omega,Nat.pow_zero,Nat.mul_one]
      rw[←Nat.mul_assoc] at h
      omega
    · obtain⟨k,hk⟩:∃k:Nat,lge0 n d= -(k:Int):=⟨(-lge0 n d).toNat,by omega⟩
      rw[hk] at h ⊢
      rw[show(max 0 (- -(k:Int))).toNat=k by omega,show(max 0 (-(k:Int))).toNat=0 by omega,Nat.pow_zero,Nat.mul_one] at h
      rw[show(max 0 (-(-(k:Int) - 1))).toNat=k+1 by omega,show(max 0 (-(k:Int) - 1)).toNat=0 by omega,Nat.pow_zero,Nat.mul_one,Nat.pow_succ,←Nat.mul_assoc]
      omega
  · unfold lgn lgd lge0
    by_cases c:bl d≤bl n
    · obtain⟨k,hk⟩:=Nat.exists_eq_add_of_le c
      rw[show(max 0 (-((bl n:Int) - bl d))).toNat=0 by omega,show(max 0 ((bl n:Int) - bl d)).toNat=k by omega,Nat.pow_zero,Nat.mul_one]
      rw[hk,Nat.pow_add,e2] at n2
      have:=Nat.mul_le_mul_right (2^k) (Nat.mul_le_mul_left 2 d2)
      rw[Nat.mul_assoc 2 d] at this
      omega
    · obtain⟨k,hk⟩:=Nat.exists_eq_add_of_le (show bl n≤bl d by omega)
      rw[show(max 0 (-((bl n:Int) - bl d))).toNat=k by omega,show(max 0 ((bl n:Int) - bl d)).toNat=0 by omega,Nat.pow_zero,Nat.mul_one]
      rw[hk,Nat.pow_add] at e2
      have:=Nat.mul_lt_mul_of_pos_right n2 (Nat.pow_pos (n:=k) (show 0 < 2 by decide))
      rw[hk] at d2
      rw[e2] at this
      omega
theorem frac_le {a b c d:Nat} (hb:b≠0) (hd:d≠0) (h:a*d≤c*b):a / b≤cdiv c d:=by
  refine cdiv_ge hd (Nat.le_of_mul_le_mul_right (c:=b) ?_ (Nat.pos_of_ne_zero hb))
  have h1:=Nat.mul_le_mul_right d (Nat.div_mul_le_self a b)
  rw[show d*(a / b)*b=a / b*b*d by rw[Nat.mul_comm d,Nat.mul_right_comm]]
  exact Nat.le_trans h1 h
theorem logV_ord {w s t s' t':Nat} (h:s≤t'):∀j,j≤54→logV w s t false j≤logV w s' t' true j
  | 0,_=>by
    rw[logV_0,logV_0']
    exact frac_le (by decide) (by decide) (by omega)
  | j+1,hj=>by
    rw[logV_s,logV_s']
    have hk:(109 - 2*j)*2^w≠0:=Nat.mul_ne_zero (by omega) (pow2_ne w)
    exact div_cdiv hk (Nat.add_le_add_left (Nat.mul_le_mul_right _ (Nat.mul_le_mul h (logV_ord h j (by omega)))) _)
theorem logV_top {w s t s' t':Nat} (h:s≤t'):logV w s t false 55≤logV w s' t' true 55:=by
  rw[logV_s,logV_s']
  have hk:(109 - 2*54)*2^w≠0:=Nat.mul_ne_zero (by decide) (pow2_ne w)
  exact div_cdiv hk (Nat.add_le_add_left (Nat.mul_le_mul_right _ (Nat.mul_le_mul h (logV_ord h 54 (Nat.le_refl _)))) _)
theorem log_ord {a b a' b' w:Nat} (h:a≤b'):logL a b w≤logH a' b' w:=by
  have hs:sqL a w≤sqH b' w:=div_cdiv (pow2_ne w) (Nat.mul_le_mul h h)
  unfold logL logH
  exact div_cdiv (pow2_ne w) (Nat.mul_le_mul_right _ (Nat.mul_le_mul h (logV_top hs)))
theorem lg2_le (w:Nat):lg2L w≤lg2H w:=log_ord (div_cdiv (by decide) (Nat.le_refl _))
theorem sgn_dif {a b c d w:Nat} (h:a+d≤c+b):sgn false a (2^w)+ -sgn false b (2^w)≤sgn false c (2^w)+ -sgn false d (2^w):=by
  have:=sgn_le (p:=w) h
  rw[sgn_sum,sgn_sum] at this
  grind
theorem exp_ge (x:Rat) (p:Nat):2^(p+112)≤expL x p∧2^(p+112)≤expH x p:=⟨qLo_ge (eLo_ge _ _ 40) 8,qHi_ge (eHi_ge _ _ 40) 8⟩
end Go.Q
namespace Go.Q
set_option maxRecDepth 100000
set_option maxHeartbeats 4000000
theorem br_e {fn:Int} {x:Rat} {p:Int} (h:brE fn x p=0):eErr fn x p=0:=by
  unfold brE at h
  split at h
  · cases h
  · unfold elE at h
    refine Decidable.byContradiction fun he=>?_
    rw[if_pos he] at h
    exact he h
end Go.Q
namespace Go.Q
set_option maxRecDepth 100000
set_option maxHeartbeats 4000000
def waQ (f:Nat) (x:Rat):Bool→Nat→Rat
  |false,0=>0
  |true,0=>1
  |false,j+1=>1 - x*waQ f x true j*((wav f (23 - j):Nat):Rat)⁻¹
  |true,j+1=>1 - x*waQ f x false j*((wav f (23 - j):Nat):Rat)⁻¹
theorem waQ_s (f:Nat) (x:Rat) (c:Bool) (j:Nat):waQ f x c (j+1)=1 - x*waQ f x (!c) j*((wav f (23 - j):Nat):Rat)⁻¹:=by cases c<;>rfl
theorem wav_inv {f:Nat} (hf:1≤f) (i:Nat):0≤((wav f i:Nat):Rat)⁻¹∧((wav f i:Nat):Rat)*((wav f i:Nat):Rat)⁻¹=1:=by
  have h:(0:Rat) < ((wav f i:Nat):Rat):=by exact_mod_cast Nat.pos_of_ne_zero (wav_pos hf)
  exact⟨Rat.le_of_lt (Rat.inv_pos.2 h),Rat.mul_inv_cancel _ (by grind)⟩
theorem wav_r1 (i:Nat):((wav 1 i:Nat):Rat)⁻¹≤1 / 2:=by
  have h:(2:Rat)≤((wav 1 i:Nat):Rat):=by
    have:1*2≤wav 1 i:=Nat.mul_le_mul (by omega) (by omega)
    exact_mod_cast this
  have:=rinv_le (by decide) h
  rw[show(1 / 2:Rat)=(2:Rat)⁻¹ by decide+kernel]
  exact this
theorem wav_r2 (i:Nat):((wav 2 i:Nat):Rat)⁻¹≤1 / 6:=by
  have h:(6:Rat)≤((wav 2 i:Nat):Rat):=by
    have:2*3≤wav 2 i:=Nat.mul_le_mul (by omega) (by omega)
    exact_mod_cast this
  have:=rinv_le (by decide) h
  rw[show(1 / 6:Rat)=(6:Rat)⁻¹ by decide+kernel]
  exact this
theorem waQ_le {f:Nat} {x:Rat} (hf:1≤f) (hx:0≤x):∀j,waQ f x false j≤waQ f x true j
  |0=>by show(0:Rat)≤1;decide
  | j+1=>by
    rw[waQ_s,waQ_s]
    have h1:=Rat.mul_le_mul_of_nonneg_left (waQ_le hf hx j) hx
    have h2:=Rat.mul_le_mul_of_nonneg_right h1 (wav_inv hf (23 - j)).1
    simp only[Bool.not_false,Bool.not_true]
    grind
theorem wa_step {x y Q R e r:Rat} (hx:0≤x) (h:x≤y) (hy:y≤1) (r0:0≤r) (r1:r*2≤1) (e0:0≤e) (e1:e≤r) (q1:1 - r≤R) (q2:R≤Q) (q3:Q≤1) (q4:Q - R≤(y - x)*r):
    1 - r≤1 - y*R*e∧1 - y*R*e≤1 - x*Q*e∧1 - x*Q*e≤1∧(1 - x*Q*e) - (1 - y*R*e)≤(y - x)*r:=by
  have d0:0≤y - x:=by grind
  have R0:0≤R:=by grind
  have t1:0≤(y - x)*(R - (1 - r)):=Rat.mul_nonneg d0 (by grind)
  have t2:0≤x*((y - x)*r - (Q - R)):=Rat.mul_nonneg hx (by grind)
  have t3:0≤(1 - x)*((y - x)*r):=Rat.mul_nonneg (by grind) (Rat.mul_nonneg d0 r0)
  have t4:0≤(y - x)*(1 - r*2):=Rat.mul_nonneg d0 (by grind)
  have a1:x*Q≤y*R:=by grind
  have t5:0≤(1 - y)*R:=Rat.mul_nonneg (by grind) R0
  have a2:y*R≤1:=by grind
  have t6:0≤(y - x)*(1 - R):=Rat.mul_nonneg d0 (by grind)
  have t7:0≤x*(Q - R):=Rat.mul_nonneg hx (by grind)
  have a3:y*R - x*Q≤y - x:=by grind
  have a0:0≤x*Q:=Rat.mul_nonneg hx (by grind)
  have m1:=Rat.mul_le_mul_of_nonneg_right a1 e0
  have m2:=Rat.mul_le_mul_of_nonneg_right a2 e0
  have m3:=Rat.mul_le_mul_of_nonneg_right a3 e0
  have m4:=Rat.mul_le_mul_of_nonneg_left e1 d0
  have m5:=Rat.mul_nonneg a0 e0
  clear t1 t2 t3 t4 t5 t6 t7
  refine⟨?_,?_,?_,?_⟩<;>grind
theorem waQ_mono {f:Nat} {x y r:Rat} (hf:1≤f) (r0:0≤r) (r1:r*2≤1) (hr:∀i,((wav f i:Nat):Rat)⁻¹≤r) (hx:0≤x) (h:x≤y) (hy:y≤1):
    ∀(j:Nat) (c:Bool),c=true∨1≤j→1 - r≤waQ f y c j∧waQ f y c j≤waQ f x c j∧waQ f x c j≤1∧waQ f x c j - waQ f y c j≤(y - x)*r
  | 0,c,hc=>by
    have:c=true:=hc.elim id fun k=>absurd k (by decide)
    subst this
    have:=Rat.mul_nonneg (show 0≤y - x by grind) r0
    show 1 - r≤1∧(1:Rat)≤1∧(1:Rat)≤1∧1 - 1≤(y - x)*r
    grind
  | j +1,c,_=>by
    rw[waQ_s,waQ_s]
    obtain⟨e0,_⟩:=wav_inv hf (23 - j)
    have e1:=hr (23 - j)
    by_cases hc:(!c)=true∨1≤j
    · obtain⟨q1,q2,q3,q4⟩:=waQ_mono hf r0 r1 hr hx h hy j (!c) hc
      exact wa_step hx h hy r0 r1 e0 e1 q1 q2 q3 q4
    · have j0:j=0:=by omega
      have c1:(!c)=false:=by simpa using fun k=>hc (.inl k)
      subst j0
      rw[c1,show waQ f x false 0=0 from rfl,show waQ f y false 0=0 from rfl]
      have:=Rat.mul_nonneg (show 0≤y - x by grind) r0
      refine⟨?_,?_,?_,?_⟩<;>grind
theorem waQ_c {x y:Rat} (hx:0≤x) (h:x≤y) (hy:y≤1) (c:Bool):1 / 2≤waQ 1 y c 24∧waQ 1 y c 24≤waQ 1 x c 24∧waQ 1 x c 24≤1:=by
  obtain⟨h1,h2,h3,_⟩:=waQ_mono (r:=1 / 2) (Nat.le_refl 1) (by decide+kernel) (by decide+kernel) wav_r1 hx h hy 24 c (.inr (by decide))
  exact⟨by grind,h2,h3⟩
theorem waQ_sn {x y:Rat} (hx:0≤x) (h:x≤y) (hy:y≤1) (c:Bool):5 / 6≤waQ 2 (y^2) c 24∧x*waQ 2 (x^2) c 24≤y*waQ 2 (y^2) c 24∧y*waQ 2 (y^2) c 24 - x*waQ 2 (x^2) c 24≤y - x∧waQ 2 (x^2) c 24≤1:=by
  have sq:∀z:Rat,z^2=z*z:=fun z=>by rw[show(2:Nat)=1+1 from rfl,Rat.pow_succ,Rat.pow_one]
  have y0:0≤y:=Rat.le_trans hx h
  have t0:x*x≤x*y:=Rat.mul_le_mul_of_nonneg_left h hx
  have t1:x*y≤y*y:=Rat.mul_le_mul_of_nonneg_right h y0
  have t2:y*y≤y*1:=Rat.mul_le_mul_of_nonneg_left hy y0
  obtain⟨h1,h2,h3,h4⟩:=waQ_mono (f:=2) (x:=x^2) (y:=y^2) (r:=1 / 6) (by decide) (by decide+kernel) (by decide+kernel) wav_r2 (by rw[sq];exact Rat.mul_nonneg hx hx) (by rw[sq,sq];grind) (by rw[sq];grind) 24 c (.inr (by decide))
  generalize waQ 2 (x^2) c 24=Q at*
  generalize waQ 2 (y^2) c 24=R at*
  rw[sq,sq] at h4
  have d0:0≤y - x:=by grind
  have u1:0≤(y - x)*(R - 5 / 6):=Rat.mul_nonneg d0 (by grind)
  have u2:0≤x*((y*y - x*x)*(1 / 6) - (Q - R)):=Rat.mul_nonneg hx (by grind)
  have u3:0≤(1 - x)*((y - x)*(y+x)):=Rat.mul_nonneg (by grind) (Rat.mul_nonneg d0 (by grind))
  have u4:0≤(y - x)*(2 - (y+x)):=Rat.mul_nonneg d0 (by grind)
  have u5:0≤(y - x)*(1 - R):=Rat.mul_nonneg d0 (by grind)
  have u6:0≤x*(Q - R):=Rat.mul_nonneg hx (by grind)
  refine⟨by grind,by grind,by grind,h3⟩
theorem waV_Q {w f s t:Nat} {x:Rat} (hf:1≤f) (hx:0≤x) (hs:(s:Rat)≤x*((2^w:Nat):Rat)) (ht:x*((2^w:Nat):Rat)≤(t:Rat)) (ls:s≤2^w) (lt:t≤2^w):
    ∀j,((waV w f s t false j:Nat):Rat)≤((2^w:Nat):Rat)*waQ f x false j∧((2^w:Nat):Rat)*waQ f x true j≤((waV w f s t true j:Nat):Rat)
  | 0=>by
    rw[waV_0,waV_0',show waQ f x false 0=0 from rfl,show waQ f x true 0=1 from rfl,Rat.mul_zero,Rat.mul_one]
    exact⟨Rat.le_refl,Rat.le_refl⟩
  | j + 1=>by
    obtain⟨h1,h2⟩:=waV_Q hf hx hs ht ls lt j
    obtain⟨b1,b2⟩:=waV_sub (j:=j) hf ls lt
    have u0:=u_pos w
    have hk:wav f (23 - j)*2^w≠0:=Nat.mul_ne_zero (wav_pos hf) (pow2_ne w)
    obtain⟨_,i1⟩:=wav_inv hf (23 - j)
    have k0:(0:Rat) < ((wav f (23 - j):Nat):Rat):=by exact_mod_cast Nat.pos_of_ne_zero (wav_pos hf)
    have v1:(0:Rat)≤((waV w f s t true j:Nat):Rat):=by exact_mod_cast Nat.zero_le _
    have v2:(0:Rat)≤((waV w f s t false j:Nat):Rat):=by exact_mod_cast Nat.zero_le _
    have xu:0≤x*((2^w:Nat):Rat):=Rat.mul_nonneg hx (Rat.le_of_lt u0)
    have m1:=Rat.mul_le_mul_of_nonneg_right ht v1
    have m2:=Rat.mul_le_mul_of_nonneg_left h2 xu
    have m3:=Rat.mul_le_mul_of_nonneg_right hs v2
    have m4:=Rat.mul_le_mul_of_nonneg_left h1 xu
    rw[waV_s,waV_s',waQ_s,waQ_s]
    have c1:=div_rat (a:=2^w*2^w*wav f (23 - j) - t*waV w f s t true j) hk
    have c2:=cdiv_rat (a:=2^w*2^w*wav f (23 - j) - s*waV w f s t false j) hk
    have e1:((2^w*2^w*wav f (23 - j) - t*waV w f s t true j:Nat):Rat)=((2^w:Nat):Rat)*((2^w:Nat):Rat)*((wav f (23 - j):Nat):Rat) - (t:Rat)*((waV w f s t true j:Nat):Rat):=by
      have:((2^w*2^w*wav f (23 - j) - t*waV w f s t true j:Nat):Rat)+((t*waV w f s t true j:Nat):Rat)=((2^w*2^w*wav f (23 - j):Nat):Rat):=by
        rw[←Rat.natCast_add,Nat.sub_add_cancel b1]
      rw[Rat.natCast_mul,Rat.natCast_mul,Rat.natCast_mul] at this
      generalize((2^w*2^w*wav f (23 - j) - t*waV w f s t true j:Nat):Rat)=z at*
      grind
    have e2:((2^w*2^w*wav f (23 - j) - s*waV w f s t false j:Nat):Rat)=((2^w:Nat):Rat)*((2^w:Nat):Rat)*((wav f (23 - j):Nat):Rat) - (s:Rat)*((waV w f s t false j:Nat):Rat):=by
      have:((2^w*2^w*wav f (23 - j) - s*waV w f s t false j:Nat):Rat)+((s*waV w f s t false j:Nat):Rat)=((2^w*2^w*wav f (23 - j):Nat):Rat):=by
        rw[←Rat.natCast_add,Nat.sub_add_cancel b2]
      rw[Rat.natCast_mul,Rat.natCast_mul,Rat.natCast_mul] at this
      generalize((2^w*2^w*wav f (23 - j) - s*waV w f s t false j:Nat):Rat)=z at*
      grind
    rw[e1,Rat.natCast_mul (wav f (23 - j))] at c1
    rw[e2,Rat.natCast_mul (wav f (23 - j))] at c2
    clear e1 e2 b1 b2 hk
    generalize(((2^w*2^w*wav f (23 - j) - t*waV w f s t true j) / (wav f (23 - j)*2^w):Nat):Rat)=Z1 at*
    generalize((cdiv (2^w*2^w*wav f (23 - j) - s*waV w f s t false j) (wav f (23 - j)*2^w):Nat):Rat)=Z2 at*
    generalize((waV w f s t true j:Nat):Rat)=V at*
    generalize((waV w f s t false j:Nat):Rat)=W at*
    generalize((wav f (23 - j):Nat):Rat)=K at*
    generalize((2^w:Nat):Rat)=u at*
    simp only[Bool.not_false,Bool.not_true]
    generalize waQ f x true j=Q at*
    generalize waQ f x false j=R at*
    have ku:0 < K*u:=Rat.mul_pos k0 u0
    constructor
    · refine Rat.le_of_mul_le_mul_right (c:=K*u) ?_ ku
      have:u*(1 - x*Q*K⁻¹)*(K*u)=u*u*K - x*u*(u*Q)*(K*K⁻¹):=by grind
      rw[this,i1]
      grind
    · refine Rat.le_of_mul_le_mul_right (c:=K*u) ?_ ku
      have:u*(1 - x*R*K⁻¹)*(K*u)=u*u*K - x*u*(u*R)*(K*K⁻¹):=by grind
      rw[this,i1]
      grind
theorem grid_01 {y w:Nat} (h:y≤2^w):0≤(y:Rat) / ((2^w:Nat):Rat)∧(y:Rat) / ((2^w:Nat):Rat)≤1:=by
  have u0:=u_pos w
  have e:((2^w:Nat):Rat) / ((2^w:Nat):Rat)=1:=by rw[Rat.div_def];exact Rat.mul_inv_cancel _ (by grind)
  have h1:=grid_div (w:=w) h
  have h0:=grid_div (w:=w) (Nat.zero_le y)
  rw[e] at h1
  have z:((0:Nat):Rat) / ((2^w:Nat):Rat)=0:=by rw[Rat.div_def,show((0:Nat):Rat)=0 from rfl,Rat.zero_mul]
  rw[z] at h0
  exact⟨h0,h1⟩
theorem wv_Q {y w f:Nat} (hf:1≤f) (hy:y≤2^w):((wvL y w f:Nat):Rat)≤((2^w:Nat):Rat)*waQ f (((y:Rat) / ((2^w:Nat):Rat))^2) false 24∧((2^w:Nat):Rat)*waQ f (((y:Rat) / ((2^w:Nat):Rat))^2) true 24≤((wvH y w f:Nat):Rat):=by
  obtain⟨q1,q2⟩:=sq_in (w:=w) (Nat.le_refl y) (Nat.le_refl y)
  exact waV_Q hf (Rat.pow_nonneg (grid_01 hy).1) q1 q2 (sqL_le hy) (sqH_le hy) 24
theorem cs_Q {y w:Nat} (hy:y≤2^w):sgn false (wvL y w 1) (2^w)≤waQ 1 (((y:Rat) / ((2^w:Nat):Rat))^2) false 24∧waQ 1 (((y:Rat) / ((2^w:Nat):Rat))^2) true 24≤sgn false (wvH y w 1) (2^w):=by
  obtain⟨h1,h2⟩:=wv_Q (f:=1) (by decide) hy
  have e1:=sgn_u (wvL y w 1) w
  have e2:=sgn_u (wvH y w 1) w
  have u0:=u_pos w
  rw[←e1,Rat.mul_comm] at h1
  rw[←e2,Rat.mul_comm _ ((2^w:Nat):Rat)] at h2
  exact⟨Rat.le_of_mul_le_mul_left h1 u0,Rat.le_of_mul_le_mul_left h2 u0⟩
def snX (a:Rat) (low:Bool):Rat:=a*waQ 2 (a^2) (low == decide (a < 0)) 24
theorem sn_Q {y w:Nat} (hy:y≤2^w):sgn false (y*wvL y w 2 / 2^w) (2^w)≤(y:Rat) / ((2^w:Nat):Rat)*waQ 2 (((y:Rat) / ((2^w:Nat):Rat))^2) false 24∧(y:Rat) / ((2^w:Nat):Rat)*waQ 2 (((y:Rat) / ((2^w:Nat):Rat))^2) true 24≤sgn false (cdiv (y*wvH y w 2) (2^w)) (2^w):=by
  obtain⟨h1,h2⟩:=wv_Q (f:=2) (by decide) hy
  have e1:=sgn_u (y*wvL y w 2 / 2^w) w
  have e2:=sgn_u (cdiv (y*wvH y w 2) (2^w)) w
  have u0:=u_pos w
  have d1:=div_rat (a:=y*wvL y w 2) (pow2_ne w)
  have d2:=cdiv_rat (a:=y*wvH y w 2) (pow2_ne w)
  have ey:(y:Rat) / ((2^w:Nat):Rat)*((2^w:Nat):Rat)=(y:Rat):=Rat.div_mul_cancel (by grind)
  have y0:=(grid_01 hy).1
  rw[Rat.natCast_mul,←e1] at d1
  rw[Rat.natCast_mul,←e2] at d2
  generalize sgn false (y*wvL y w 2 / 2^w) (2^w)=A at*
  generalize sgn false (cdiv (y*wvH y w 2) (2^w)) (2^w)=B at*
  generalize((wvL y w 2:Nat):Rat)=L at*
  generalize((wvH y w 2:Nat):Rat)=H at*
  generalize waQ 2 (((y:Rat) / ((2^w:Nat):Rat))^2) false 24=Q at*
  generalize waQ 2 (((y:Rat) / ((2^w:Nat):Rat))^2) true 24=R at*
  rw[←ey] at d1 d2
  clear e1 e2 ey
  generalize(y:Rat) / ((2^w:Nat):Rat)=z at*
  generalize((2^w:Nat):Rat)=u at*
  have zu:=Rat.mul_nonneg y0 (Rat.le_of_lt u0)
  have m1:=Rat.mul_le_mul_of_nonneg_left h1 zu
  have m2:=Rat.mul_le_mul_of_nonneg_left h2 zu
  have uu:=Rat.mul_pos u0 u0
  constructor
  · refine Rat.le_of_mul_le_mul_right (c:=u*u) ?_ uu
    grind
  · refine Rat.le_of_mul_le_mul_right (c:=u*u) ?_ uu
    grind
theorem grid_abs {q:Rat} {w:Nat} (hq:∃z:Int,q=(z:Rat) / 2^w):(0≤q→((glo q w:Nat):Rat) / ((2^w:Nat):Rat)=q)∧(q < 0→((glo q w:Nat):Rat) / ((2^w:Nat):Rat)= -q):=by
  obtain⟨z,rfl⟩:=hq
  rw[glo_grid]
  have u0:=u_pos w
  have eu:((2^w:Nat):Rat)=(2:Rat)^w:=by push_cast;rfl
  rw[eu] at u0 ⊢
  generalize(2:Rat)^w=u at*
  have i0:=Rat.inv_pos.2 u0
  have iz:u*u⁻¹=1:=Rat.mul_inv_cancel _ (by grind)
  have ez:(z:Rat)*u⁻¹*u=(z:Rat):=by grind
  rw[Rat.div_def,Rat.div_def]
  have en:((z.natAbs:Nat):Rat)=((z.natAbs:Int):Rat):=rfl
  constructor
  · intro h
    have:(0:Rat)≤(z:Rat):=by
      have:=Rat.mul_nonneg h (Rat.le_of_lt u0)
      rw[ez] at this
      exact this
    have:0≤z:=by exact_mod_cast this
    rw[en,Int.natAbs_of_nonneg this]
  · intro h
    have:(z:Rat) < (0:Rat):=by
      have:=Rat.mul_lt_mul_of_pos_right h u0
      rw[ez,Rat.zero_mul] at this
      exact this
    have:z < 0:=by exact_mod_cast this
    rw[en,show((z.natAbs:Nat):Int)= -z by omega,Rat.intCast_neg,Rat.neg_mul]
theorem snAt_Q {q:Rat} {w:Nat} (hq:∃z:Int,q=(z:Rat) / 2^w) (hy:glo q w≤2^w):snAt q w true≤snX q true∧snX q false≤snAt q w false:=by
  obtain⟨g1,g2⟩:=grid_abs hq
  obtain⟨s1,s2⟩:=sn_Q hy
  unfold snAt snX
  have sq:∀z:Rat,(-z)^2=z^2:=fun z=>by rw[show(2:Nat)=1+1 from rfl,Rat.pow_succ,Rat.pow_one,Rat.pow_succ,Rat.pow_one];grind
  by_cases h:q < 0
  · have hn:=num_lt0.2 h
    rw[g2 h,sq] at s1 s2
    rw[decide_eq_true h,decide_eq_true hn,if_neg (by decide),if_pos (by decide),sgn_negs,sgn_negs,show((true:Bool) == true)=true from rfl,show(false == true)=false from rfl]
    constructor<;>grind
  · have hn:¬q.num < 0:=fun c=>h (num_lt0.1 c)
    rw[g1 (by grind)] at s1 s2
    rw[decide_eq_false h,decide_eq_false hn,if_pos (by decide),if_neg (by decide),show(true == false)=false from rfl,show(false == false)=true from rfl]
    exact⟨s1,s2⟩
theorem snX_ord {a b:Rat} (h:a≤b) (ha: -1≤a) (hb:b≤1):snX a true≤snX b false:=by
  have sq:∀z:Rat,(-z)^2=z^2:=fun z=>by rw[show(2:Nat)=1+1 from rfl,Rat.pow_succ,Rat.pow_one,Rat.pow_succ,Rat.pow_one];grind
  have lo:∀{z:Rat},0≤z→z*waQ 2 (z^2) false 24≤z*waQ 2 (z^2) true 24:=fun {z} hz=>Rat.mul_le_mul_of_nonneg_left (waQ_le (by decide) (Rat.pow_nonneg hz) 24) hz
  have n0:∀{z:Rat} (c:Bool),0≤z→z≤1→0≤z*waQ 2 (z^2) c 24:=fun {z} c hz h1=>Rat.mul_nonneg hz (by have:=(waQ_sn hz Rat.le_refl h1 c).1;grind)
  unfold snX
  by_cases h1:a < 0
  · rw[decide_eq_true h1,show((true:Bool) == true)=true from rfl]
    have a1:=n0 (z:=-a) true (by grind) (by grind)
    rw[sq] at a1
    by_cases h2:b < 0
    · rw[decide_eq_true h2,show(false == true)=false from rfl]
      have k1:=(waQ_sn (x:=-b) (y:=-a) (by grind) (by grind) (by grind) true).2.1
      have k2:=lo (z:=-b) (by grind)
      rw[sq] at k1 k2
      rw[sq] at k1
      grind
    · rw[decide_eq_false h2,show(false == false)=true from rfl]
      have b1:=n0 (z:=b) true (by grind) hb
      grind
  · have h2:¬b < 0:=by grind
    rw[decide_eq_false h1,decide_eq_false h2,show(true == false)=false from rfl,show(false == false)=true from rfl]
    have k1:=(waQ_sn (x:=a) (y:=b) (by grind) h hb false).2.1
    exact Rat.le_trans k1 (lo (by grind))
end Go.Q
namespace Go.Q
set_option maxRecDepth 100000
set_option maxHeartbeats 4000000
theorem cdiv_up {a d:Nat} (_:d≠0):cdiv a d*d≤a+d:=by
  have h:=Nat.div_mul_le_self (a+(d - 1)) d
  unfold cdiv
  omega
theorem div_up {a d:Nat} (hd:d≠0):a≤a / d*d+d:=by
  have h1:=Nat.div_add_mod a d
  have h2:=Nat.mod_lt a (Nat.pos_of_ne_zero hd)
  rw[Nat.mul_comm] at h1
  omega
theorem wav_step {U D P s t F T d A B:Nat} (hU:0 < U) (hD:2≤D) (hs:s≤U) (hF:F≤T) (hT:T≤U) (e:t=s+d) (h1:A*(D*U)+s*F≤U*U*D+D*U) (h2:U*U*D≤B*(D*U)+D*U+t*T) (ih:T*P≤F*P+U+P*(d+4)):A*(P*D)≤B*(P*D)+U+(P*D)*(d+4):=by
  obtain⟨g,rfl⟩:=Nat.exists_eq_add_of_le hF
  subst e
  have k1:s*g≤U*g:=Nat.mul_le_mul_right _ hs
  have k2:d*(F+g)≤d*U:=Nat.mul_le_mul_left _ hT
  have k3:(A*D)*U≤(B*D+2*D+g+d)*U:=by grind
  have k4:=Nat.le_of_mul_le_mul_right k3 hU
  have k5:=Nat.mul_le_mul_right P k4
  have k6:P*(2*(d+2))≤P*(D*(d+2)):=Nat.mul_le_mul_left _ (Nat.mul_le_mul_right _ hD)
  grind
def waP (f:Nat):Nat→Nat
  |0=>1
  |j+1=>waP f j*wav f (23 - j)
theorem waV_wid {w f s t d:Nat} (hf:1≤f) (hD:∀i,2≤wav f i) (hs:s≤2^w) (ht:t≤2^w) (e:t=s+d):
    ∀j,waV w f s t false j≤waV w f s t true j∧waV w f s t true j*waP f j≤waV w f s t false j*waP f j+2^w+waP f j*(d+4)
  | 0=>by
    rw[waV_0,waV_0',show waP f 0=1 from rfl]
    exact⟨Nat.zero_le _,by omega⟩
  | j +1=>by
    obtain⟨i1,i2⟩:=waV_wid hf hD hs ht e j
    obtain⟨b1,b2⟩:=waV_sub (j:=j) hf hs ht
    have l1:=(waV_le (w:=w) (f:=f) (s:=s) (t:=t) hf j).1
    have hk:wav f (23 - j)*2^w≠0:=Nat.mul_ne_zero (wav_pos hf) (pow2_ne w)
    have m1:s*waV w f s t false j≤t*waV w f s t true j:=Nat.mul_le_mul (by omega) i1
    rw[waV_s,waV_s',show waP f (j+1)=waP f j*wav f (23 - j) from rfl]
    constructor
    · exact div_cdiv hk (by omega)
    · have c1:=cdiv_up (a:=2^w*2^w*wav f (23 - j) - s*waV w f s t false j) hk
      have c2:=div_up (a:=2^w*2^w*wav f (23 - j) - t*waV w f s t true j) hk
      exact wav_step (Nat.pos_of_ne_zero (pow2_ne w)) (hD _) hs i1 l1 e (by omega) (by omega) i2
theorem wav_two {f:Nat} (hf:1≤f) (i:Nat):2≤wav f i:=by
  have:1*2≤wav f i:=Nat.mul_le_mul (by omega) (by omega)
  omega
theorem mulOut {a b c d P U:Nat} (hP:0 < P) (hU:U≤c*P) (h:a*P≤b*P+U+P*d):a≤b+c+d:=by
  refine Nat.le_of_mul_le_mul_right (c:=P) ?_ hP
  rw[Nat.add_mul,Nat.add_mul,Nat.mul_comm d P]
  omega
theorem waV_end {w f s t d:Nat} (hf:f=1∨f=2) (hw:w≤192) (hs:s≤2^w) (ht:t≤2^w) (e:t=s+d):waV w f s t true 24≤waV w f s t false 24+d+5:=by
  have h:=(waV_wid (f:=f) (by omega) (wav_two (by omega)) hs ht e 24).2
  have hP:2^192≤waP f 24:=by rcases hf with rfl |rfl<;>decide+kernel
  have hU:2^w≤2^192:=Nat.pow_le_pow_right (by decide) hw
  have:=mulOut (c:=1) (by omega) (by omega) h
  omega
theorem waV_mono {w f s t s' t':Nat} (hf:1≤f) (h1:s≤s') (h2:t'≤t):∀j,waV w f s t false j≤waV w f s' t' false j∧waV w f s' t' true j≤waV w f s t true j
  |0=>⟨Nat.le_refl _,Nat.le_refl _⟩
  | j+1=>by
    obtain⟨i1,i2⟩:=waV_mono hf h1 h2 j
    rw[waV_s,waV_s,waV_s',waV_s']
    exact⟨Nat.div_le_div_right (Nat.sub_le_sub_left (Nat.mul_le_mul h2 i2) _),cdiv_mono _ (Nat.sub_le_sub_left (Nat.mul_le_mul h1 i1) _)⟩
theorem sq_wid {a b w:Nat} (h:a≤b) (hb:b≤2^w):sqL a w≤sqH b w∧sqH b w≤sqL a w+2*(b - a)+2:=by
  have hU:=Nat.pos_of_ne_zero (pow2_ne w)
  have h1:=cdiv_up (a:=b*b) (pow2_ne w)
  have h2:=div_up (a:=a*a) (pow2_ne w)
  refine⟨div_cdiv (pow2_ne w) (Nat.mul_le_mul h h),?_⟩
  unfold sqL sqH
  generalize a*a / 2^w=m at*
  generalize cdiv (b*b) (2^w)=n at*
  generalize 2^w=U at*
  obtain⟨d,rfl⟩:=Nat.exists_eq_add_of_le h
  rw[show a+d - a=d by omega]
  have k:d*(a+(a+d))≤d*(2*U):=Nat.mul_le_mul_left _ (by omega)
  refine Nat.le_of_mul_le_mul_right (c:=U) ?_ hU
  grind
theorem wv_wid {y z w f:Nat} (hf:f=1∨f=2) (hw:w≤192) (hy:y≤2^w) (hz:z≤2^w):wvH y w f≤wvL z w f+2*(max y z - min y z)+7:=by
  have ha:min y z≤max y z:=by omega
  obtain⟨q1,q2⟩:=sq_wid ha (show max y z≤2^w by omega)
  obtain⟨d,hd⟩:=Nat.exists_eq_add_of_le q1
  have e:=waV_end hf hw (sqL_le (a:=min y z) (by omega)) (sqH_le (a:=max y z) (by omega)) hd
  have sL:∀{a b:Nat},a≤b→sqL a w≤sqL b w:=fun h=>Nat.div_le_div_right (Nat.mul_le_mul h h)
  have sH:∀{a b:Nat},a≤b→sqH a w≤sqH b w:=fun h=>cdiv_mono _ (Nat.mul_le_mul h h)
  have m1:=(waV_mono (w:=w) (f:=f) (s:=sqL (min y z) w) (t:=sqH (max y z) w) (s':=sqL y w) (t':=sqH y w) (by omega) (sL (by omega)) (sH (by omega)) 24).2
  have m2:=(waV_mono (w:=w) (f:=f) (s:=sqL (min y z) w) (t:=sqH (max y z) w) (s':=sqL z w) (t':=sqH z w) (by omega) (sL (by omega)) (sH (by omega)) 24).1
  unfold wvH wvL
  omega
theorem arc_step {U K P s t F T d A B:Nat} (hU:0 < U) (hK:0 < K) (hs:s*16≤U) (hF:F≤T) (hT:T≤2*U) (e:t=s+d) (h1:A*(K*U)+s*F*K≤U*U+K*U) (h2:U*U≤B*(K*U)+K*U+t*T*K) (ih:T*P≤F*P+U+P*(3*d+3)):A*(P*16)≤B*(P*16)+U+(P*16)*(3*d+3):=by
  obtain⟨g,rfl⟩:=Nat.exists_eq_add_of_le hF
  subst e
  have k0:(A*U)*K≤(B*U+2*U+s*g+d*(F+g))*K:=by grind
  have k0:=Nat.le_of_mul_le_mul_right k0 hK
  have k1:(s*16)*g≤U*g:=Nat.mul_le_mul_right _ hs
  have k2:d*(F+g)≤d*(2*U):=Nat.mul_le_mul_left _ hT
  have k3:(A*16)*U≤(B*16+32+g+32*d)*U:=by grind
  have k4:=Nat.le_of_mul_le_mul_right k3 hU
  have k5:=Nat.mul_le_mul_right P k4
  grind
theorem arcV_wid {w s t d:Nat} (hw:20≤w) (hs:s*16≤2^w) (ht:t≤2^w) (e:t=s+d):
    ∀j,j≤39→arcV w s t false j≤arcV w s t true j∧arcV w s t true j*16^j≤arcV w s t false j*16^j+2^w+16^j*(3*d+3)
  | 0,_=>by
    obtain⟨l1,l2⟩:=arcV_le (w:=w) (s:=s) (t:=t) (j:=0) (by decide)
    have hU:=Nat.pow_le_pow_right (n:=2) (by decide) hw
    rw[Nat.pow_zero]
    refine⟨?_,?_⟩
    · refine Nat.le_trans l2 ?_
      rw[arcV_0']
      exact le_cdiv _ (by decide)
    · have:=Nat.div_le_self (2^w) (79 - 2*0)
      omega
  | j +1,hj=>by
    obtain⟨i1,i2⟩:=arcV_wid hw hs ht e j (by omega)
    obtain⟨b1,b2⟩:=arcV_sub (w:=w) (s:=s) (t:=t) (j:=j) hw (by omega) ht (by omega)
    have l1:=arcV_top (w:=w) (s:=s) (t:=t) (j:=j) (c:=true) (by omega)
    have hk:(77 - 2*j)*2^w≠0:=Nat.mul_ne_zero (by omega) (pow2_ne w)
    have m1:s*arcV w s t false j*(77 - 2*j)≤t*arcV w s t true j*(77 - 2*j):=Nat.mul_le_mul_right _ (Nat.mul_le_mul (by omega) i1)
    have hU:=Nat.pow_le_pow_right (n:=2) (by decide) hw
    rw[arcV_s,arcV_s',Nat.pow_succ]
    constructor
    · exact div_cdiv hk (by omega)
    · have c1:=cdiv_up (a:=2^w*2^w - s*arcV w s t false j*(77 - 2*j)) hk
      have c2:=div_up (a:=2^w*2^w - t*arcV w s t true j*(77 - 2*j)) hk
      exact arc_step (K:=77 - 2*j) (Nat.pos_of_ne_zero (pow2_ne w)) (by omega) hs i1 (by omega) e (by omega) (by omega) i2
theorem arc_wid {a b w:Nat} (h1:20≤w) (h2:w≤160) (h:a≤b) (hb:b≤2^w) (ha:a*4≤2^w):arcH a b w≤arcL a b w+8*(b - a)+27:=by
  obtain⟨q1,q2⟩:=sq_wid h hb
  obtain⟨d,hd⟩:=Nat.exists_eq_add_of_le q1
  have hU:=Nat.pos_of_ne_zero (pow2_ne w)
  have hs:sqL a w*16≤2^w:=by
    have k:=Nat.div_mul_le_self (a*a) (2^w)
    have k2:=Nat.mul_le_mul ha ha
    unfold sqL
    generalize a*a / 2^w=m at*
    generalize 2^w=U at*
    refine Nat.le_of_mul_le_mul_right (c:=U) ?_ hU
    grind
  obtain⟨i1,i2⟩:=arcV_wid h1 hs (sqH_le hb) hd 39 (Nat.le_refl _)
  have i3:=mulOut (c:=16) (by decide) (Nat.le_trans (Nat.pow_le_pow_right (by decide) h2) (by decide+kernel)) i2
  have l1:=arcV_top (w:=w) (s:=sqL a w) (t:=sqH b w) (j:=39) (c:=true) (by omega)
  have c1:=cdiv_up (a:=b*arcV w (sqL a w) (sqH b w) true 39) (pow2_ne w)
  have c2:=div_up (a:=a*arcV w (sqL a w) (sqH b w) false 39) (pow2_ne w)
  have h20:=Nat.pow_le_pow_right (n:=2) (by decide) h1
  unfold arcH arcL
  generalize arcV w (sqL a w) (sqH b w) true 39=T at*
  generalize arcV w (sqL a w) (sqH b w) false 39=F at*
  generalize cdiv (b*T) (2^w)=A at*
  generalize a*F / 2^w=B at*
  generalize 2^w=U at*
  obtain⟨c,rfl⟩:=Nat.exists_eq_add_of_le h
  rw[show a+c - a=c by omega] at*
  have k1:a*T≤a*(F+(3*d+19)):=Nat.mul_le_mul_left _ (by omega)
  have k2:c*T≤c*(2*U):=Nat.mul_le_mul_left _ (by omega)
  have k3:a*(3*d+19)≤U*(3*d+19):=Nat.mul_le_mul_right _ (by omega)
  have k4:A*U≤(B+(3*d+19)+2*c+2)*U:=by grind
  have k5:=Nat.le_of_mul_le_mul_right k4 hU
  omega
theorem log_step {U K P s t F T d A B:Nat} (hU:0 < U) (hK:0 < K) (hs:s*8≤U) (hF:F≤T) (hT:T≤64*U) (e:t=s+d) (h1:A*(K*U)≤U*U+t*T*K+K*U) (h2:U*U+s*F*K≤B*(K*U)+K*U) (ih:T*P≤F*P+U+P*(74*d+3)):A*(P*8)≤B*(P*8)+U+(P*8)*(74*d+3):=by
  obtain⟨g,rfl⟩:=Nat.exists_eq_add_of_le hF
  subst e
  have k0:(A*U)*K≤(B*U+2*U+s*g+d*(F+g))*K:=by grind
  have k0:=Nat.le_of_mul_le_mul_right k0 hK
  have k1:(s*8)*g≤U*g:=Nat.mul_le_mul_right _ hs
  have k2:d*(F+g)≤d*(64*U):=Nat.mul_le_mul_left _ hT
  have k3:(A*8)*U≤(B*8+16+g+512*d)*U:=by grind
  have k4:=Nat.le_of_mul_le_mul_right k3 hU
  have k5:=Nat.mul_le_mul_right P k4
  grind
theorem logV_wid {w s t d:Nat} (hw:20≤w) (hs:s*8≤2^w) (ht:t≤2^w) (e:t=s+d):
    ∀j,j≤55→logV w s t false j≤logV w s t true j∧logV w s t true j*8^j≤logV w s t false j*8^j+2^w+8^j*(74*d+3)
  | 0,_=>by
    have hU:=Nat.pow_le_pow_right (n:=2) (by decide) hw
    obtain⟨l1,l2⟩:=logV_le (w:=w) (s:=s) (t:=t) (by omega) ht (j:=0) (by decide)
    rw[Nat.pow_zero]
    refine⟨?_,by omega⟩
    rw[logV_0,logV_0']
    refine(Nat.le_trans ?_ (cdiv_mono 11100 (Nat.le_add_right _ _)))
    refine Nat.le_trans (Nat.le_of_eq ?_) (le_cdiv _ (by decide))
    rw[show 11100=111*100 from rfl,Nat.mul_div_mul_right _ _ (by decide)]
  | j +1,hj=>by
    obtain⟨i1,i2⟩:=logV_wid hw hs ht e j (by omega)
    have l1:=(logV_le (w:=w) (s:=s) (t:=t) (by omega) ht (j:=j) (by omega)).1
    have hk:(109 - 2*j)*2^w≠0:=Nat.mul_ne_zero (by omega) (pow2_ne w)
    have m1:s*logV w s t false j*(109 - 2*j)≤t*logV w s t true j*(109 - 2*j):=Nat.mul_le_mul_right _ (Nat.mul_le_mul (by omega) i1)
    have l2:logV w s t true j≤64*2^w:=Nat.le_trans l1 (Nat.mul_le_mul_right _ (by omega))
    rw[logV_s,logV_s',Nat.pow_succ]
    constructor
    · exact div_cdiv hk (by omega)
    · have c1:=cdiv_up (a:=2^w*2^w+t*logV w s t true j*(109 - 2*j)) hk
      have c2:=div_up (a:=2^w*2^w+s*logV w s t false j*(109 - 2*j)) hk
      exact log_step (K:=109 - 2*j) (Nat.pos_of_ne_zero (pow2_ne w)) (by omega) hs i1 l2 e c1 c2 i2
theorem log_wid {a b w:Nat} (h1:20≤w) (h2:w≤160) (h:a≤b) (hb:b≤2^w) (ha:a*3≤2^w):logH a b w≤logL a b w+500*(b - a)+500:=by
  obtain⟨q1,q2⟩:=sq_wid h hb
  obtain⟨d,hd⟩:=Nat.exists_eq_add_of_le q1
  have hU:=Nat.pos_of_ne_zero (pow2_ne w)
  have hs:sqL a w*8≤2^w:=by
    have k:=Nat.div_mul_le_self (a*a) (2^w)
    have k2:=Nat.mul_le_mul ha ha
    unfold sqL
    generalize a*a / 2^w=m at*
    generalize 2^w=U at*
    refine Nat.le_of_mul_le_mul_right (c:=U) ?_ hU
    grind
  obtain⟨i1,i2⟩:=logV_wid h1 hs (sqH_le hb) hd 55 (Nat.le_refl _)
  have i3:=mulOut (c:=1) (by decide) (Nat.le_trans (Nat.pow_le_pow_right (by decide) h2) (by decide+kernel)) i2
  have l1:=(logV_le (w:=w) (s:=sqL a w) (t:=sqH b w) (sqL_le (Nat.le_trans h hb)) (sqH_le hb) (j:=55) (by omega)).1
  have c1:=cdiv_up (a:=b*logV w (sqL a w) (sqH b w) true 55*2^1) (pow2_ne w)
  have c2:=div_up (a:=a*logV w (sqL a w) (sqH b w) false 55*2^1) (pow2_ne w)
  unfold logH logL
  generalize logV w (sqL a w) (sqH b w) true 55=T at*
  generalize logV w (sqL a w) (sqH b w) false 55=F at*
  generalize cdiv (b*T*2^1) (2^w)=A at*
  generalize a*F*2^1 / 2^w=B at*
  generalize 2^w=U at*
  obtain⟨c,rfl⟩:=Nat.exists_eq_add_of_le h
  rw[show a+c - a=c by omega] at*
  have k1:a*T≤a*(F+(74*d+4)):=Nat.mul_le_mul_left _ (by omega)
  have k2:c*T≤c*(56*U):=Nat.mul_le_mul_left _ (by omega)
  have k3:a*(74*d+4)≤U*(74*d+4):=Nat.mul_le_mul_right _ (by omega)
  have k4:A*U≤(B+2*(74*d+4)+112*c+2)*U:=by grind
  have k5:=Nat.le_of_mul_le_mul_right k4 hU
  omega
theorem hv_wid {a b w:Nat} (h:a≤b) (hb:b≤2^w):hvL a w≤hvH b w∧hvH b w≤hvL a w+(b - a)+3∧hvL a w*2≤a:=by
  have hU:=Nat.pos_of_ne_zero (pow2_ne w)
  refine⟨hv_ord h,?_,?_⟩
  · have r1:rtUp (2^(2*w)+a*a)≤irt 2 (2^(2*w)+b*b)+1:=by
      have h1:irt 2 (2^(2*w)+a*a)≤irt 2 (2^(2*w)+b*b):=by
        refine irt_max (by decide) (Nat.le_trans (irt_le (by decide)) ?_)
        have:=Nat.mul_le_mul h h
        omega
      unfold rtUp
      split<;>omega
    unfold hvL hvH
    generalize rtUp (2^(2*w)+a*a)=R at*
    generalize irt 2 (2^(2*w)+b*b)=r at*
    have c2:=div_up (a:=a*2^w) (d:=2^w+R) (by omega)
    have ma:a*2^w / (2^w+R)≤a:=Nat.div_le_of_le_mul (by rw[Nat.add_mul,Nat.mul_comm (2^w) a];omega)
    refine(cdiv_le_iff (by omega)).2 ?_
    generalize a*2^w / (2^w+R)=m at*
    generalize 2^w=U at*
    obtain⟨c,rfl⟩:=Nat.exists_eq_add_of_le h
    rw[show a+c - a=c by omega] at*
    have k1:m*(U+R)≤m*(U+(r+1)):=Nat.mul_le_mul_left _ (by omega)
    have k2:m≤U:=by omega
    have k3:=Nat.zero_le (c*r)
    grind
  · have r1:=rtUp_unit w a
    unfold hvL
    generalize rtUp (2^(2*w)+a*a)=R at*
    have c:=Nat.div_mul_le_self (a*2^w) (2^w+R)
    generalize a*2^w / (2^w+R)=m at*
    generalize 2^w=U at*
    have k:m*(U+U)≤m*(U+R):=Nat.mul_le_mul_left _ (by omega)
    exact Nat.le_of_mul_le_mul_right (c:=U) (by grind) hU
theorem an_wid {a b w:Nat} (h1:20≤w) (h2:w≤160) (h:a≤b) (hb:b≤2^w):anH a b w≤anL a b w+32*(b - a)+300:=by
  obtain⟨a1,a2,a3⟩:=hv_wid h hb
  have b1:hvH b w≤2^w:=Nat.le_trans (hvH_le b w) hb
  obtain⟨a4,a5,a6⟩:=hv_wid a1 b1
  have b2:hvH (hvH b w) w≤2^w:=Nat.le_trans (hvH_le _ w) b1
  have:=arc_wid h1 h2 a4 b2 (by omega)
  unfold anH anL
  omega
def eP:Nat→Nat
  |0=>1
  |k+1=>eP k*(4*(40 - k))
theorem eW_step {U P i yl yh L H A B a b:Nat} (hU:0 < U) (hi:0 < i) (hy:yh≤yl+1) (ly:yl≤64*U) (hLH:L≤H) (hH:H≤2*U)
    (h1:a*(256*U)≤yh*H+256*U) (h2:A*i≤a+i) (h3:yl*L≤b*(256*U)+256*U) (h4:b≤B*i+i) (ih:H*P≤L*P+U+P*6):(U+A)*(P*(4*i))≤(U+B)*(P*(4*i))+U+P*(4*i)*6:=by
  obtain⟨g,rfl⟩:=Nat.exists_eq_add_of_le hLH
  have k1:yl*g≤64*U*g:=Nat.mul_le_mul_right _ ly
  have k2:yh*(L+g)≤(yl+1)*(L+g):=Nat.mul_le_mul_right _ hy
  have k3:(A*i)*(256*U)≤(a+i)*(256*U):=Nat.mul_le_mul_right _ h2
  have k4:b*(256*U)≤(B*i+i)*(256*U):=Nat.mul_le_mul_right _ h4
  have k5:(4*(A*i))*(64*U)≤(4*(B*i)+8*i+8+g+1)*(64*U):=by grind
  have k6:=Nat.le_of_mul_le_mul_right k5 (by omega)
  have k7:=Nat.mul_le_mul_right P k6
  have k8:P*1≤P*i:=Nat.mul_le_mul_left _ hi
  grind
theorem e_wid {w yl yh:Nat} (hy:yh≤yl+1) (h01:yl≤yh) (ly:yl≤64*2^w) (lh:yh≤64*2^w):
    ∀k,k≤40→eHi w yh k*eP k≤eLo w yl k*eP k+2^w+eP k*6
  | 0,_=>by
    rw[eLo_0,eHi_0,show eP 0=1 from rfl]
    omega
  | k+1,hk=>by
    have ih:=e_wid hy h01 ly lh k (by omega)
    have l1:=eHi_le (w:=w) (y:=yh) lh (k:=k) (by omega)
    have l2:=eLo_hi (w:=w) h01 k (by omega)
    rw[eLo_s,eHi_s,show eP (k+1)=eP k*(4*(40 - k)) from rfl]
    have eu:2^(w+8)=256*2^w:=by rw[Nat.pow_add];omega
    have c1:=cdiv_up (a:=yh*eHi w yh k) (d:=2^(w+8)) (pow2_ne _)
    have c2:=cdiv_up (a:=cdiv (yh*eHi w yh k) (2^(w+8))) (d:=40 - k) (by omega)
    have c3:=div_up (a:=yl*eLo w yl k) (d:=2^(w+8)) (pow2_ne _)
    have c4:=div_up (a:=yl*eLo w yl k / 2^(w+8)) (d:=40 - k) (by omega)
    rw[two_pow_dbl] at l1
    generalize cdiv (cdiv (yh*eHi w yh k) (2^(w+8))) (40 - k)=A at*
    generalize cdiv (yh*eHi w yh k) (2^(w+8))=a at*
    generalize yl*eLo w yl k / 2^(w+8) / (40 - k)=B at*
    generalize yl*eLo w yl k / 2^(w+8)=b at*
    rw[eu] at c1 c3
    exact eW_step (Nat.pos_of_ne_zero (pow2_ne w)) (by omega) hy ly l2 l1 c1 c2 c3 c4 ih
theorem e_end {w yl yh:Nat} (hw:w≤240) (hy:yh≤yl+1) (h01:yl≤yh) (ly:yl≤64*2^w) (lh:yh≤64*2^w):eHi w yh 40≤eLo w yl 40+8:=by
  have h:=e_wid hy h01 ly lh 40 (Nat.le_refl _)
  have hP:2^239≤eP 40:=by decide+kernel
  have hU:2^w≤2^240:=Nat.pow_le_pow_right (by decide) hw
  have:=mulOut (c:=2) (by omega) (by omega) h
  omega
theorem e_top {w y:Nat} (hw:20≤w) (ly:y≤64*2^w):eHi w y 40*10≤13*2^w:=by
  have hU:=Nat.pow_le_pow_right (n:=2) (by decide) hw
  have st:∀{k H:Nat},k < 40→eHi w y k≤H→(eHi w y (k+1) - 2^w)*(4*(40 - k))≤H+4*(40 - k)+4:=fun {k H} hk h=>by
    have c1:=cdiv_up (a:=y*eHi w y k) (d:=2^(w+8)) (pow2_ne _)
    have c2:=cdiv_up (a:=cdiv (y*eHi w y k) (2^(w+8))) (d:=40 - k) (by omega)
    have eu:2^(w+8)=256*2^w:=by rw[Nat.pow_add];omega
    rw[eHi_s,Nat.add_sub_cancel_left]
    have m:=Nat.mul_le_mul ly h
    generalize cdiv (cdiv (y*eHi w y k) (2^(w+8))) (40 - k)=A at*
    generalize cdiv (y*eHi w y k) (2^(w+8))=a at*
    rw[eu] at c1
    have k1:(4*a)*(64*2^w)≤(H+4)*(64*2^w):=by grind
    have k2:=Nat.le_of_mul_le_mul_right k1 (by omega)
    grind
  have inv:∀k,k < 39→eHi w y (k+1)*100≤116*2^w:=by
    intro k
    induction k with
    | zero=>
      intro _
      have:=st (k:=0) (H:=2*2^w) (by decide) (by rw[eHi_0];omega)
      omega
    | succ k ih=>
      intro hk
      have h1:=ih (by omega)
      have h2:=st (k:=k+1) (by omega) (Nat.le_refl _)
      have h3:(eHi w y (k+1+1) - 2^w)*(4*2)≤(eHi w y (k+1+1) - 2^w)*(4*(40 - (k+1))):=Nat.mul_le_mul_left _ (by omega)
      have h4:(eHi w y (k+1+1) - 2^w)*(4*(40 - (k+1)))≤eHi w y (k+1)+4*(40 - (k+1))+4:=h2
      generalize eHi w y (k+1+1)=X at*
      generalize eHi w y (k+1)=Y at*
      by_cases hX:(X - 2^w)≤3
      · omega
      · have h5:(X - 2^w - 1)*(4*2)≤(X - 2^w - 1)*(4*(40 - (k+1))):=Nat.mul_le_mul_left _ (by omega)
        have h6:(X - 2^w)*(4*(40 - (k+1)))=(X - 2^w - 1)*(4*(40 - (k+1)))+4*(40 - (k+1)):=by
          conv=>lhs;rw[show X - 2^w=X - 2^w - 1+1 by omega]
          rw[Nat.add_mul,Nat.one_mul]
        omega
  have h1:eHi w y 39*100≤116*2^w:=inv 38 (by decide)
  have h2:(eHi w y 40 - 2^w)*(4*1)≤eHi w y 39+4*1+4:=st (k:=39) (by decide) (Nat.le_refl _)
  omega
theorem q_step {U L H g c m L' H':Nat} (hU:0 < U) (hg:H≤L+g) (hL:L≤H) (hc:H*m≤c*U) (h1:H'*U≤H*H+U) (h2:L*L≤L'*U+U):H'*m≤L'*m+2*c*g+2*m:=by
  obtain⟨e,rfl⟩:=Nat.exists_eq_add_of_le hL
  have k1:e*((L+(L+e))*m)≤g*(2*(c*U)):=Nat.mul_le_mul (by omega) (by grind)
  have k2:=Nat.mul_le_mul_right m h1
  have k3:=Nat.mul_le_mul_right m h2
  exact Nat.le_of_mul_le_mul_right (c:=U) (by grind) hU
theorem q_top {U H c m H':Nat} (hU:0 < U) (hc:H*m≤c*U) (h1:H'*U≤H*H+U):H'*(m*m)≤c*c*U+m*m:=by
  have k:=Nat.mul_le_mul hc hc
  have k2:=Nat.mul_le_mul_right (m*m) h1
  exact Nat.le_of_mul_le_mul_right (c:=U) (by grind) hU
theorem q_wid {w a b:Nat} (hw:112≤w) (hab:a≤b) (h:b≤a+8) (hb:b*10≤13*2^w):qHi w b 8≤qLo w a 8+2^111:=by
  have hU:2^112≤2^w:=Nat.pow_le_pow_right (by decide) hw
  have hU0:0 < 2^w:=by omega
  have o:=fun k=>qLo_hi (w:=w) hab k
  have s1:∀k,qHi w b (k+1)*2^w≤qHi w b k*qHi w b k+2^w:=fun k=>by rw[qHi_s];exact cdiv_up (pow2_ne w)
  have s2:∀k,qLo w a k*qLo w a k≤qLo w a (k+1)*2^w+2^w:=fun k=>by rw[qLo_s];exact div_up (pow2_ne w)
  have c0:qHi w b 0*10≤13*2^w:=by rw[qHi_0];exact hb
  have g0:qHi w b 0≤qLo w a 0+8:=by rw[qHi_0,qLo_0];exact h
  have g1:qHi w b 1≤qLo w a 1+22:=by have:=q_step (H':=qHi w b 1) (L':=qLo w a 1) hU0 g0 (o 0) c0 (s1 0) (s2 0);omega
  have c1:qHi w b 1*10≤17*2^w:=by have:=q_top (H':=qHi w b 1) hU0 c0 (s1 0);omega
  have g2:qHi w b 2≤qLo w a 2+77:=by have:=q_step (H':=qHi w b 2) (L':=qLo w a 2) hU0 g1 (o 1) c1 (s1 1) (s2 1);omega
  have c2:qHi w b 2*10≤29*2^w:=by have:=q_top (H':=qHi w b 2) hU0 c1 (s1 1);omega
  have g3:qHi w b 3≤qLo w a 3+450:=by have:=q_step (H':=qHi w b 3) (L':=qLo w a 3) hU0 g2 (o 2) c2 (s1 2) (s2 2);omega
  have c3:qHi w b 3*10≤85*2^w:=by have:=q_top (H':=qHi w b 3) hU0 c2 (s1 2);omega
  have g4:qHi w b 4≤qLo w a 4+7660:=by have:=q_step (H':=qHi w b 4) (L':=qLo w a 4) hU0 g3 (o 3) c3 (s1 3) (s2 3);omega
  have c4:qHi w b 4*1≤73*2^w:=by have:=q_top (H':=qHi w b 4) hU0 c3 (s1 3);omega
  have g5:qHi w b 5≤qLo w a 5+1118400:=by have:=q_step (H':=qHi w b 5) (L':=qLo w a 5) hU0 g4 (o 4) c4 (s1 4) (s2 4);omega
  have c5:qHi w b 5*1≤5330*2^w:=by have:=q_top (H':=qHi w b 5) hU0 c4 (s1 4);omega
  have g6:qHi w b 6≤qLo w a 6+11930000000:=by have:=q_step (H':=qHi w b 6) (L':=qLo w a 6) hU0 g5 (o 5) c5 (s1 5) (s2 5);omega
  have c6:qHi w b 6*1≤28408901*2^w:=by have:=q_top (H':=qHi w b 6) hU0 c5 (s1 5);omega
  have g7:qHi w b 7≤qLo w a 7+677836400000000000:=by have:=q_step (H':=qHi w b 7) (L':=qLo w a 7) hU0 g6 (o 6) c6 (s1 6) (s2 6);omega
  have c7:qHi w b 7*1≤807065656028000*2^w:=by have:=q_top (H':=qHi w b 7) hU0 c6 (s1 6);omega
  have:=q_step (H':=qHi w b 8) (L':=qLo w a 8) hU0 g7 (o 7) c7 (s1 7) (s2 7)
  omega
theorem ghi_le (x:Rat) (w:Nat):ghi x w≤glo x w+1:=by
  have h:=div_up (a:=x.num.natAbs*2^w) x.den_nz
  unfold ghi glo
  exact(cdiv_le_iff x.den_nz).2 (by rw[Nat.mul_add,Nat.mul_one,Nat.mul_comm x.den];exact h)
theorem exp_wid {x:Rat} {p:Nat} (hb:¬x.den*64 < x.num.natAbs) (hp:p≤128):expL x p≤expH x p∧expH x p≤expL x p+2^111:=by
  obtain⟨l1,l2⟩:=glo_le (w:=p+112) hb
  have h1:=glo_ghi x (p+112)
  have h2:=ghi_le x (p+112)
  exact⟨exp_le h1,q_wid (by omega) (eLo_hi h1 40 (Nat.le_refl _)) (e_end (by omega) h2 h1 l1 l2) (e_top (by omega) l2)⟩
end Go.Q
