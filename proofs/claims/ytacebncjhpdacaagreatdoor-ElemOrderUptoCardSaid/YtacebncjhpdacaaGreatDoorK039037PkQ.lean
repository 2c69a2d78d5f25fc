/-
  The series of the arctangent on a grid lies on both sides of its exact sum, which rises: no program. Conditions: the numbers are at most 1.
  The brackets of the arctangent and of halved angles keep the order: no program. Conditions: the numbers are at most 1 of the grid.
  Sixteen times the lower arctangent of a sixteenth of a turn at most pi's upper bound (by computation): no program. Conditions: the working precision is from 32 to 160.
  The brackets of arctangent, arcsine and arccosine keep the order: no program. Conditions: the functions' domains; precisions up to 128.
  The brackets of logarithm and exponential keep the order: no program. Conditions: the functions' domains.
  The brackets of the functions that rise, and of the arccosine, keep the order: no program. Conditions: both numbers have a bracket.
  What Turns returns. Conditions: the ends are numbers as they come in.
  Quarter turns in a range: a wide range has them; a wider one has what a narrower one has. Plain. Conditions: none.
  The reference's helpers of layer 2: natural numbers, quotients rounded, numbers of a grid; its domains and exact values. Conditions: the values are natural numbers (N16) and numbers (Qr).
  The reference of layer 2: its grid, the series of the arctangent, pi. Conditions: the values are natural numbers (N16) and numbers (Qr).
  Contracts of package elem: the argument of exp made ready; what Exp returns. Conditions: the argument is small enough, the value is not exact.
  The statements' check of one bracket (sane); the statement ElemPi. Conditions: none.
  The reference of layer 2: quarter turns. Conditions: the values are numbers (Qr).
  The statement ElemInverse. Conditions: the argument is a number as it comes in (Rw).
  The statement ElemOrder. Conditions: the arguments are numbers as they come in (Rw).
-/
import Derived.Test.YtacebncjhpdacaaGreatDoorK0cbe4ePkP
import Derived.Test.YtacebncjhpdacaaGreatDoorK92a170PkF
import Derived.Test.YtacebncjhpdacaaGreatDoorKff8a12PkO
import Derived.Test.YtacebncjhpdacaaGreatDoorK997fc3PkL
import Derived.Test.YtacebncjhpdacaaGreatDoorK6b73b4PkM
import Derived.Test.YtacebncjhpdacaaGreatDoorKee0e55PkN
set_option linter.unusedVariables false
set_option linter.unusedSimpArgs false
namespace Go.Q
set_option maxRecDepth 100000
set_option maxHeartbeats 4000000
theorem pow_plus2 (z:Rat) (m:Nat):z^(m+2)=z^m*z^2:=by
  have e:z^2=z*z:=by rw[show(2:Nat)=1+1 from rfl,Rat.pow_succ,Rat.pow_one]
  rw[Rat.pow_succ,Rat.pow_succ,e,Rat.mul_assoc]
theorem pow_dif {x y:Rat} (hx:0≤x) (h:x≤y):∀m:Nat,(m:Rat)*x^m*(y - x)≤(y^m - x^m)*x
  |0=>by rw[Rat.pow_zero,Rat.pow_zero];grind
  | m +1=>by
    have ih:=pow_dif hx h m
    have e:((m+1:Nat):Rat)=(m:Rat)+1:=by push_cast;rfl
    have hy:0≤y:=Rat.le_trans hx h
    have p1:=Rat.mul_le_mul_of_nonneg_right ih hy
    have p2:0≤x^m*(y - x)*(y - x)*(m:Rat):=by
      have a1:0≤x^m:=Rat.pow_nonneg hx
      have a2:0≤y - x:=by grind
      have a3:(0:Rat)≤(m:Rat):=by exact_mod_cast Nat.zero_le m
      exact Rat.mul_nonneg (Rat.mul_nonneg (Rat.mul_nonneg a1 a2) a2) a3
    rw[e,Rat.pow_succ,Rat.pow_succ]
    generalize x^m=X at*
    generalize y^m=Y at*
    generalize(m:Rat)=M at*
    grind
theorem pow_step {x y:Rat} (hx:0≤x) (h:x≤y) (hy:y≤1) (m:Nat):(m:Rat)*(y^(m+1) - x^(m+1))≤((m:Rat)+1)*(y^m - x^m):=by
  have k:=pow_dif hx h m
  have d:0≤y^m - x^m:=by
    have:=rpow_mono m hx h
    grind
  have a3:(0:Rat)≤(m:Rat):=by exact_mod_cast Nat.zero_le m
  have p1:(m:Rat)*(y^m - x^m)*y≤(m:Rat)*(y^m - x^m)*1:=Rat.mul_le_mul_of_nonneg_left hy (Rat.mul_nonneg a3 d)
  have p2:(y^m - x^m)*x≤(y^m - x^m)*1:=Rat.mul_le_mul_of_nonneg_left (Rat.le_trans h hy) d
  rw[Rat.pow_succ,Rat.pow_succ]
  generalize x^m=X at*
  generalize y^m=Y at*
  generalize(m:Rat)=M at*
  grind
theorem pow_two_steps {x y:Rat} (hx:0≤x) (h:x≤y) (hy:y≤1) {m:Nat} (hm:m≠0):(y^(m+2) - x^(m+2))*((m+2:Nat):Rat)⁻¹≤(y^m - x^m)*(m:Rat)⁻¹:=by
  have k1:=pow_step hx h hy m
  have k2:=pow_step hx h hy (m+1)
  have e1:((m+1:Nat):Rat)=(m:Rat)+1:=by push_cast;rfl
  have e2:((m+2:Nat):Rat)=(m:Rat)+2:=by push_cast;rfl
  have m0:(0:Rat) < (m:Rat):=by exact_mod_cast Nat.pos_of_ne_zero hm
  rw[e1] at k2
  rw[e2]
  rw[show m+1+1=m+2 from rfl] at k2
  generalize(m:Rat)=M at*
  generalize y^m - x^m=A at*
  generalize y^(m+1) - x^(m+1)=B at*
  generalize y^(m+2) - x^(m+2)=C at*
  have i1:M*M⁻¹=1:=Rat.mul_inv_cancel _ (by grind)
  have i2:(M+2)*(M+2)⁻¹=1:=Rat.mul_inv_cancel _ (by grind)
  have q:M*C≤(M+2)*A:=by
    have t:=Rat.mul_le_mul_of_nonneg_left k2 (Rat.le_of_lt m0)
    have t2:=Rat.mul_le_mul_of_nonneg_left k1 (show 0≤M+2 by grind)
    have h0:(M+1)*(M*C)≤(M+1)*((M+2)*A):=by grind
    exact Rat.le_of_mul_le_mul_left h0 (by grind)
  have n1:0≤M⁻¹:=Rat.le_of_lt (Rat.inv_pos.2 m0)
  have n2:0≤(M+2)⁻¹:=Rat.le_of_lt (Rat.inv_pos.2 (by grind))
  have r:=Rat.mul_le_mul_of_nonneg_right q (Rat.mul_nonneg n1 n2)
  have z1:M*C*(M⁻¹*(M+2)⁻¹)=C*(M+2)⁻¹:=by grind
  have z2:(M+2)*A*(M⁻¹*(M+2)⁻¹)=A*M⁻¹:=by grind
  rw[z1,z2] at r
  exact r
def arcQ (t:Rat):Bool→Nat→Rat
  |false,0=>(79:Rat)⁻¹ - t*(81:Rat)⁻¹
  |true,0=>(79:Rat)⁻¹
  |false,j+1=>((77 - 2*j:Nat):Rat)⁻¹ - t*arcQ t true j
  |true,j+1=>((77 - 2*j:Nat):Rat)⁻¹ - t*arcQ t false j
theorem arcQ_s (t:Rat) (c:Bool) (j:Nat):arcQ t c (j+1)=((77 - 2*j:Nat):Rat)⁻¹ - t*arcQ t (!c) j:=by cases c<;>rfl
theorem arcQ_le {t:Rat} (ht:0≤t):∀j,arcQ t false j≤arcQ t true j
  | 0=>by
    show(79:Rat)⁻¹ - t*(81:Rat)⁻¹≤(79:Rat)⁻¹
    have:0≤t*(81:Rat)⁻¹:=Rat.mul_nonneg ht (by decide+kernel)
    grind
  | j+1=>by
    rw[arcQ_s,arcQ_s]
    have:=Rat.mul_le_mul_of_nonneg_left (arcQ_le ht j) ht
    show _ - t*arcQ t true j≤_ - t*arcQ t false j
    grind
theorem arcP_mono {x y:Rat} (hx:0≤x) (h:x≤y) (hy:y≤1):∀(j:Nat) (c:Bool),j≤39→x^(79 - 2*j)*arcQ (x^2) c j≤y^(79 - 2*j)*arcQ (y^2) c j∧y^(79 - 2*j)*arcQ (y^2) c j - x^(79 - 2*j)*arcQ (x^2) c j≤(y^(79 - 2*j) - x^(79 - 2*j))*((79 - 2*j:Nat):Rat)⁻¹
  | 0,c,_=>by
    have k:=pow_two_steps hx h hy (m:=79) (by decide)
    have d:=rpow_mono 81 hx h
    have d':=rpow_mono 79 hx h
    have e79:((79 - 2*0:Nat):Rat)=79:=rfl
    have e81:((79+2:Nat):Rat)=81:=rfl
    have e79':((79:Nat):Rat)=79:=rfl
    rw[e81,e79'] at k
    rw[e79]
    have p:∀z:Rat,z^(79+2)=z^79*z^2:=fun z=>pow_plus2 z 79
    have i0:(0:Rat)≤(79:Rat)⁻¹:=by decide+kernel
    have i1:(0:Rat)≤(81:Rat)⁻¹:=by decide+kernel
    have d81:x^79*x^2≤y^79*y^2:=by rw[←p,←p];exact d
    rw[p,p] at k
    have n1:=Rat.mul_le_mul_of_nonneg_right d' i0
    have n2:=Rat.mul_le_mul_of_nonneg_right d81 i1
    simp only[Nat.mul_zero,Nat.sub_zero]
    cases c
    · show x^79*((79:Rat)⁻¹ - x^2*(81:Rat)⁻¹)≤y^79*((79:Rat)⁻¹ - y^2*(81:Rat)⁻¹)∧y^79*((79:Rat)⁻¹ - y^2*(81:Rat)⁻¹) - x^79*((79:Rat)⁻¹ - x^2*(81:Rat)⁻¹)≤(y^79 - x^79)*(79:Rat)⁻¹
      clear p d d' d81 e79 e81 e79' hx h hy i0 i1
      generalize x^79=X at*
      generalize y^79=Y at*
      generalize x^2=X2 at*
      generalize y^2=Y2 at*
      generalize(79:Rat)⁻¹=A at*
      generalize(81:Rat)⁻¹=B at*
      constructor<;>grind
    · show x^79*(79:Rat)⁻¹≤y^79*(79:Rat)⁻¹∧y^79*(79:Rat)⁻¹ - x^79*(79:Rat)⁻¹≤(y^79 - x^79)*(79:Rat)⁻¹
      clear p d d' d81 e79 e81 e79' hx h hy i0 i1
      generalize x^79=X at*
      generalize y^79=Y at*
      generalize(79:Rat)⁻¹=A at*
      constructor<;>grind
  | j+1,c,hj=>by
    obtain⟨a1,a2⟩:=arcP_mono hx h hy j (!c) (by omega)
    have k:=pow_two_steps hx h hy (m:=77 - 2*j) (by omega)
    rw[show 77 - 2*j+2=79 - 2*j by omega] at k
    have p:∀z:Rat,z^(79 - 2*j)=z^(77 - 2*j)*z^2:=fun z=>by rw[←pow_plus2];congr 1;omega
    rw[show 79 - 2*(j+1)=77 - 2*j by omega,arcQ_s,arcQ_s]
    rw[p,p] at a1 a2 k
    clear p
    generalize x^(77 - 2*j)=X at*
    generalize y^(77 - 2*j)=Y at*
    generalize arcQ (x^2) (!c) j=Q at*
    generalize arcQ (y^2) (!c) j=R at*
    generalize x^2=X2 at*
    generalize y^2=Y2 at*
    generalize((77 - 2*j:Nat):Rat)⁻¹=A at*
    generalize((79 - 2*j:Nat):Rat)⁻¹=B at*
    clear hx h hy
    constructor<;>grind
theorem arcQ_mono {x y:Rat} (hx:0≤x) (h:x≤y) (hy:y≤1):x*arcQ (x^2) false 39≤y*arcQ (y^2) true 39:=by
  have h1:=(arcP_mono hx h hy 39 false (Nat.le_refl _)).1
  rw[show 79 - 2*39=1 from rfl,Rat.pow_one,Rat.pow_one] at h1
  refine Rat.le_trans h1 ?_
  exact Rat.mul_le_mul_of_nonneg_left (arcQ_le (Rat.pow_nonneg (Rat.le_trans hx h)) 39) (Rat.le_trans hx h)
end Go.Q
namespace Go.Q
set_option maxRecDepth 100000
set_option maxHeartbeats 4000000
theorem div_rat {a d:Nat} (_:d≠0):((a / d:Nat):Rat)*(d:Rat)≤(a:Rat):=by exact_mod_cast Nat.div_mul_le_self a d
theorem cdiv_rat {a d:Nat} (hd:d≠0):(a:Rat)≤((cdiv a d:Nat):Rat)*(d:Rat):=by
  have:a≤cdiv a d*d:=by rw[Nat.mul_comm];exact(cdiv_le_iff hd).1 (Nat.le_refl _)
  exact_mod_cast this
theorem arcV_Q {w s t:Nat} {x:Rat} (hw:20≤w) (hx:0≤x) (hs:(s:Rat)≤x*((2^w:Nat):Rat)) (ht:x*((2^w:Nat):Rat)≤(t:Rat)) (ls:s≤2^w) (lt:t≤2^w):
    ∀j,j≤39→((arcV w s t false j:Nat):Rat)≤((2^w:Nat):Rat)*arcQ x false j∧((2^w:Nat):Rat)*arcQ x true j≤((arcV w s t true j:Nat):Rat)
  | 0,_=>by
    have u0:=u_pos w
    rw[arcV_0,arcV_0']
    constructor
    · have h1:=div_rat (a:=2^w*81 - t*79) (d:=79*81) (by decide)
      have e:((2^w*81 - t*79:Nat):Rat)=((2^w:Nat):Rat)*81 - (t:Rat)*79:=by
        have:((2^w*81 - t*79:Nat):Rat)+((t*79:Nat):Rat)=((2^w*81:Nat):Rat):=by
          rw[←Rat.natCast_add];congr 1;omega
        rw[Rat.natCast_mul,Rat.natCast_mul] at this
        have c1:((79:Nat):Rat)=79:=rfl
        have c2:((81:Nat):Rat)=81:=rfl
        rw[c1,c2] at this
        generalize((2^w*81 - t*79:Nat):Rat)=z at*
        grind
      rw[e] at h1
      generalize((2^w:Nat):Rat)=u at*
      generalize(((2^w*81 - t*79) / (79*81):Nat):Rat)=V at*
      have c3:((79*81:Nat):Rat)=6399:=rfl
      rw[c3] at h1
      show V≤u*((79:Rat)⁻¹ - x*(81:Rat)⁻¹)
      have i1:(79:Rat)⁻¹=81 / 6399:=by decide+kernel
      have i2:(81:Rat)⁻¹=79 / 6399:=by decide+kernel
      rw[i1,i2]
      grind
    · have h1:=cdiv_rat (a:=2^w) (d:=79) (by decide)
      show((2^w:Nat):Rat)*(79:Rat)⁻¹≤_
      have c1:((79:Nat):Rat)=79:=rfl
      rw[c1] at h1
      have i1:(79:Rat)*(79:Rat)⁻¹=1:=by decide+kernel
      have i0:(0:Rat)≤(79:Rat)⁻¹:=by decide+kernel
      have:=Rat.mul_le_mul_of_nonneg_right h1 i0
      rw[Rat.mul_assoc,i1,Rat.mul_one] at this
      exact this
  | j + 1,hj=>by
    obtain⟨h1,h2⟩:=arcV_Q hw hx hs ht ls lt j (by omega)
    obtain⟨b1,b2⟩:=arcV_sub (w:=w) (s:=s) (t:=t) (j:=j) hw ls lt (by omega)
    have u0:=u_pos w
    have hk:(77 - 2*j)*2^w≠0:=Nat.mul_ne_zero (by omega) (pow2_ne w)
    have k0:(0:Rat) < ((77 - 2*j:Nat):Rat):=by exact_mod_cast (show 0 < 77 - 2*j by omega)
    have i1:((77 - 2*j:Nat):Rat)*((77 - 2*j:Nat):Rat)⁻¹=1:=Rat.mul_inv_cancel _ (by grind)
    have v1:(0:Rat)≤((arcV w s t true j:Nat):Rat):=by exact_mod_cast Nat.zero_le _
    have v2:(0:Rat)≤((arcV w s t false j:Nat):Rat):=by exact_mod_cast Nat.zero_le _
    have xu:0≤x*((2^w:Nat):Rat):=Rat.mul_nonneg hx (Rat.le_of_lt u0)
    have m1:=Rat.mul_le_mul_of_nonneg_right ht v1
    have m2:=Rat.mul_le_mul_of_nonneg_left h2 xu
    have m3:=Rat.mul_le_mul_of_nonneg_right hs v2
    have m4:=Rat.mul_le_mul_of_nonneg_left h1 xu
    rw[arcV_s,arcV_s',arcQ_s,arcQ_s]
    have c1:=div_rat (a:=2^w*2^w - t*arcV w s t true j*(77 - 2*j)) hk
    have c2:=cdiv_rat (a:=2^w*2^w - s*arcV w s t false j*(77 - 2*j)) hk
    have e1:((2^w*2^w - t*arcV w s t true j*(77 - 2*j):Nat):Rat)=((2^w:Nat):Rat)*((2^w:Nat):Rat) - (t:Rat)*((arcV w s t true j:Nat):Rat)*((77 - 2*j:Nat):Rat):=by
      have:((2^w*2^w - t*arcV w s t true j*(77 - 2*j):Nat):Rat)+((t*arcV w s t true j*(77 - 2*j):Nat):Rat)=((2^w*2^w:Nat):Rat):=by
        rw[←Rat.natCast_add,Nat.sub_add_cancel b1]
      rw[Rat.natCast_mul,Rat.natCast_mul,Rat.natCast_mul] at this
      generalize((2^w*2^w - t*arcV w s t true j*(77 - 2*j):Nat):Rat)=z at*
      grind
    have e2:((2^w*2^w - s*arcV w s t false j*(77 - 2*j):Nat):Rat)=((2^w:Nat):Rat)*((2^w:Nat):Rat) - (s:Rat)*((arcV w s t false j:Nat):Rat)*((77 - 2*j:Nat):Rat):=by
      have:((2^w*2^w - s*arcV w s t false j*(77 - 2*j):Nat):Rat)+((s*arcV w s t false j*(77 - 2*j):Nat):Rat)=((2^w*2^w:Nat):Rat):=by
        rw[←Rat.natCast_add,Nat.sub_add_cancel b2]
      rw[Rat.natCast_mul,Rat.natCast_mul,Rat.natCast_mul] at this
      generalize((2^w*2^w - s*arcV w s t false j*(77 - 2*j):Nat):Rat)=z at*
      grind
    rw[e1,Rat.natCast_mul (77 - 2*j)] at c1
    rw[e2,Rat.natCast_mul (77 - 2*j)] at c2
    clear e1 e2 b1 b2 hk
    generalize(((2^w*2^w - t*arcV w s t true j*(77 - 2*j)) / ((77 - 2*j)*2^w):Nat):Rat)=Z1 at*
    generalize((cdiv (2^w*2^w - s*arcV w s t false j*(77 - 2*j)) ((77 - 2*j)*2^w):Nat):Rat)=Z2 at*
    generalize((arcV w s t true j:Nat):Rat)=V at*
    generalize((arcV w s t false j:Nat):Rat)=W at*
    generalize hK:((77 - 2*j:Nat):Rat)=K at*
    generalize((2^w:Nat):Rat)=u at*
    simp only[Bool.not_false,Bool.not_true]
    generalize arcQ x true j=Q at*
    generalize arcQ x false j=R at*
    have ku:0 < K*u:=Rat.mul_pos k0 u0
    have n1:x*u*(u*Q)≤(t:Rat)*V:=Rat.le_trans m2 m1
    have n2:(s:Rat)*W≤x*u*(u*R):=Rat.le_trans m3 m4
    have n3:=Rat.mul_le_mul_of_nonneg_right n1 (Rat.le_of_lt k0)
    have n4:=Rat.mul_le_mul_of_nonneg_right n2 (Rat.le_of_lt k0)
    constructor
    · refine Rat.le_of_mul_le_mul_right (c:=K*u) ?_ ku
      have:u*(K⁻¹ - x*Q)*(K*u)=u*u*(K*K⁻¹) - x*u*(u*Q)*K:=by grind
      rw[this,i1]
      grind
    · refine Rat.le_of_mul_le_mul_right (c:=K*u) ?_ ku
      have:u*(K⁻¹ - x*R)*(K*u)=u*u*(K*K⁻¹) - x*u*(u*R)*K:=by grind
      rw[this,i1]
      grind
theorem grid_sq {a w:Nat}:((a:Rat) / ((2^w:Nat):Rat))^2*((2^w:Nat):Rat)*((2^w:Nat):Rat)=(a:Rat)*(a:Rat):=by
  have u0:=u_pos w
  have e:(a:Rat) / ((2^w:Nat):Rat)*((2^w:Nat):Rat)=(a:Rat):=Rat.div_mul_cancel (by grind)
  have e2:((a:Rat) / ((2^w:Nat):Rat))^2=(a:Rat) / ((2^w:Nat):Rat)*((a:Rat) / ((2^w:Nat):Rat)):=by rw[show(2:Nat)=1+1 from rfl,Rat.pow_succ,Rat.pow_one]
  rw[e2]
  generalize(a:Rat) / ((2^w:Nat):Rat)=q at*
  rw[←e]
  grind
theorem sq_in {a b c w:Nat} (h1:a≤c) (h2:c≤b):((sqL a w:Nat):Rat)≤((c:Rat) / ((2^w:Nat):Rat))^2*((2^w:Nat):Rat)∧((c:Rat) / ((2^w:Nat):Rat))^2*((2^w:Nat):Rat)≤((sqH b w:Nat):Rat):=by
  have u0:=u_pos w
  have g:=grid_sq (a:=c) (w:=w)
  have d1:=div_rat (a:=a*a) (d:=2^w) (pow2_ne w)
  have d2:=cdiv_rat (a:=b*b) (d:=2^w) (pow2_ne w)
  have l1:((a*a:Nat):Rat)≤((c*c:Nat):Rat):=by exact_mod_cast Nat.mul_le_mul h1 h1
  have l2:((c*c:Nat):Rat)≤((b*b:Nat):Rat):=by exact_mod_cast Nat.mul_le_mul h2 h2
  have ec:((c*c:Nat):Rat)=(c:Rat)*(c:Rat):=Rat.natCast_mul c c
  rw[ec,←g] at l1 l2
  unfold sqL sqH
  generalize((c:Rat) / ((2^w:Nat):Rat))^2*((2^w:Nat):Rat)=q at*
  exact⟨Rat.le_of_mul_le_mul_right (Rat.le_trans d1 l1) u0,Rat.le_of_mul_le_mul_right (Rat.le_trans l2 d2) u0⟩
theorem arcL_Q {a b c w:Nat} (hw:20≤w) (h1:a≤c) (h2:c≤b) (lb:b≤2^w):((arcL a b w:Nat):Rat)≤(c:Rat) / ((2^w:Nat):Rat)*arcQ (((c:Rat) / ((2^w:Nat):Rat))^2) false 39*((2^w:Nat):Rat)∧(c:Rat) / ((2^w:Nat):Rat)*arcQ (((c:Rat) / ((2^w:Nat):Rat))^2) true 39*((2^w:Nat):Rat)≤((arcH a b w:Nat):Rat):=by
  have u0:=u_pos w
  obtain⟨q1,q2⟩:=sq_in (w:=w) h1 h2
  have x0:0≤(c:Rat) / ((2^w:Nat):Rat):=by
    rw[Rat.div_def]
    exact Rat.mul_nonneg (by exact_mod_cast Nat.zero_le c) (Rat.le_of_lt (Rat.inv_pos.2 u0))
  obtain⟨v1,v2⟩:=arcV_Q hw (Rat.pow_nonneg (n:=2) x0) q1 q2 (sqL_le (Nat.le_trans h1 (Nat.le_trans h2 lb))) (sqH_le lb) 39 (Nat.le_refl _)
  have e:(c:Rat) / ((2^w:Nat):Rat)*((2^w:Nat):Rat)=(c:Rat):=Rat.div_mul_cancel (by grind)
  have d1:=div_rat (a:=a*arcV w (sqL a w) (sqH b w) false 39) (d:=2^w) (pow2_ne w)
  have d2:=cdiv_rat (a:=b*arcV w (sqL a w) (sqH b w) true 39) (d:=2^w) (pow2_ne w)
  have l1:((a*arcV w (sqL a w) (sqH b w) false 39:Nat):Rat)≤((c*arcV w (sqL a w) (sqH b w) false 39:Nat):Rat):=by exact_mod_cast Nat.mul_le_mul_right _ h1
  have l2:((c*arcV w (sqL a w) (sqH b w) true 39:Nat):Rat)≤((b*arcV w (sqL a w) (sqH b w) true 39:Nat):Rat):=by exact_mod_cast Nat.mul_le_mul_right _ h2
  rw[Rat.natCast_mul c] at l1 l2
  unfold arcL arcH
  have c0:(0:Rat)≤(c:Rat):=by exact_mod_cast Nat.zero_le c
  have m1:=Rat.mul_le_mul_of_nonneg_left v1 c0
  have m2:=Rat.mul_le_mul_of_nonneg_left v2 c0
  generalize arcQ (((c:Rat) / ((2^w:Nat):Rat))^2) false 39=P at*
  generalize arcQ (((c:Rat) / ((2^w:Nat):Rat))^2) true 39=Q at*
  generalize(c:Rat) / ((2^w:Nat):Rat)=x at*
  refine⟨Rat.le_of_mul_le_mul_right (c:=((2^w:Nat):Rat)) ?_ u0,Rat.le_of_mul_le_mul_right (c:=((2^w:Nat):Rat)) ?_ u0⟩
  · refine Rat.le_trans (Rat.le_trans d1 l1) ?_
    generalize((2^w:Nat):Rat)=u at*
    rw[←e] at m1 ⊢
    grind
  · refine Rat.le_trans ?_ (Rat.le_trans l2 d2)
    generalize((2^w:Nat):Rat)=u at*
    rw[←e] at m2 ⊢
    grind
theorem grid_div {a b w:Nat} (h:a≤b):(a:Rat) / ((2^w:Nat):Rat)≤(b:Rat) / ((2^w:Nat):Rat):=by
  rw[Rat.div_def,Rat.div_def]
  exact Rat.mul_le_mul_of_nonneg_right (by exact_mod_cast h) (Rat.le_of_lt (Rat.inv_pos.2 (u_pos w)))
theorem arc_ord {a1 b1 a2 b2 w:Nat} (hw:20≤w) (h1:a1≤b1) (h2:a2≤b2) (h:a1≤b2) (l1:b1≤2^w) (l2:b2≤2^w):arcL a1 b1 w≤arcH a2 b2 w:=by
  have u0:=u_pos w
  have k1:=(arcL_Q hw (Nat.le_refl a1) h1 l1).1
  have k2:=(arcL_Q hw (Nat.le_max_right a1 a2) (Nat.max_le.2 ⟨h,h2⟩) l2).2
  have x0:0≤(a1:Rat) / ((2^w:Nat):Rat):=by
    rw[Rat.div_def]
    exact Rat.mul_nonneg (by exact_mod_cast Nat.zero_le a1) (Rat.le_of_lt (Rat.inv_pos.2 u0))
  have y1:((max a1 a2:Nat):Rat) / ((2^w:Nat):Rat)≤1:=by
    have:=grid_div (w:=w) (Nat.le_trans (Nat.max_le.2 ⟨h,h2⟩) l2)
    have e:((2^w:Nat):Rat) / ((2^w:Nat):Rat)=1:=by rw[Rat.div_def];exact Rat.mul_inv_cancel _ (by grind)
    rw[e] at this
    exact this
  have k3:=arcQ_mono x0 (grid_div (w:=w) (Nat.le_max_left a1 a2)) y1
  have k4:=Rat.mul_le_mul_of_nonneg_right k3 (Rat.le_of_lt u0)
  exact_mod_cast Rat.le_trans k1 (Rat.le_trans k4 k2)
theorem irt_le_up (n:Nat):irt 2 n≤rtUp n:=by unfold rtUp;split<;>omega
theorem rtUp_sq (n:Nat):n≤rtUp n*rtUp n:=by
  unfold rtUp
  split
  · rename_i h;rw[Nat.pow_two] at h;omega
  · refine Nat.le_of_lt (Nat.lt_of_not_le fun c=>?_)
    have:=irt_max (n:=2) (a:=n) (j:=irt 2 n+1) (by decide) (by rw[Nat.pow_two];exact c)
    omega
theorem rtUp_le {n r:Nat} (h:n≤r*r):rtUp n≤r:=by
  have h1:=irt_le (n:=2) (a:=n) (by decide)
  have h2:irt 2 n≤r:=by
    refine Nat.le_of_not_lt fun c=>?_
    have:=Nat.mul_le_mul (Nat.succ_le_of_lt c) (Nat.succ_le_of_lt c)
    rw[Nat.pow_two] at h1
    have e:(r+1)*(r+1)=r*r+2*r+1:=by rw[Nat.add_mul,Nat.mul_add];omega
    have:(r+1)*(r+1)≤irt 2 n*irt 2 n:=this
    omega
  unfold rtUp
  split
  · exact h2
  · rename_i hne
    rcases Nat.lt_or_eq_of_le h2 with c |c
    · omega
    · rw[c,Nat.pow_two] at hne h1;omega
theorem hvL_mono {a b w:Nat} (h:a≤b):hvL a w≤hvL b w:=by
  obtain⟨d,rfl⟩:=Nat.exists_eq_add_of_le h
  unfold hvL
  have hU:=Nat.pos_of_ne_zero (pow2_ne w)
  have h1:=rtUp_sq (2^(2*w)+a*a)
  have hp:=Nat.pos_of_ne_zero (pow2_ne (2*w))
  have ra:a≤rtUp (2^(2*w)+a*a):=by
    refine Nat.le_of_not_lt fun c=>?_
    have:=Nat.mul_lt_mul'' c c
    omega
  have h2:rtUp (2^(2*w)+(a+d)*(a+d))≤rtUp (2^(2*w)+a*a)+d:=by
    refine rtUp_le ?_
    generalize rtUp (2^(2*w)+a*a)=r at*
    have e1:(r+d)*(r+d)=r*r+2*(r*d)+d*d:=by rw[Nat.add_mul,Nat.mul_add,Nat.mul_add,Nat.mul_comm d r];omega
    have e2:(a+d)*(a+d)=a*a+2*(a*d)+d*d:=by rw[Nat.add_mul,Nat.mul_add,Nat.mul_add,Nat.mul_comm d a];omega
    have:=Nat.mul_le_mul_right d ra
    omega
  generalize rtUp (2^(2*w)+a*a)=r at*
  generalize rtUp (2^(2*w)+(a+d)*(a+d))=q at*
  generalize 2^w=U at*
  refine(Nat.le_div_iff_mul_le (by omega)).2 ?_
  have c1:=Nat.div_mul_le_self (a*U) (U+r)
  have c2:a*U / (U+r)≤a*U / (U+r):=Nat.le_refl _
  have c3:a*U / (U+r)≤U:=Nat.div_le_of_le_mul (by rw[Nat.add_mul,Nat.mul_comm a U];have:=Nat.mul_le_mul_right U ra;rw[Nat.mul_comm U a];omega)
  generalize a*U / (U+r)=m at*
  have c4:m*(U+q)≤m*(U+r+d):=Nat.mul_le_mul_left _ (by omega)
  have c5:m*d≤U*d:=Nat.mul_le_mul_right _ c3
  rw[Nat.mul_add m (U+r) d] at c4
  rw[Nat.add_mul,Nat.mul_comm d U]
  omega
theorem hv_le (b w:Nat):hvL b w≤hvH b w:=by
  unfold hvL hvH
  have hU:=Nat.pos_of_ne_zero (pow2_ne w)
  have h:=irt_le_up (2^(2*w)+b*b)
  refine Nat.le_trans (Nat.div_le_div_left (Nat.add_le_add_left h _) (by omega)) (le_cdiv _ (by omega))
theorem hv_ord {a b w:Nat} (h:a≤b):hvL a w≤hvH b w:=Nat.le_trans (hvL_mono h) (hv_le b w)
theorem an_ord {a1 b1 a2 b2 w:Nat} (hw:20≤w) (h1:a1≤b1) (h2:a2≤b2) (h:a1≤b2) (l1:b1≤2^w) (l2:b2≤2^w):anL a1 b1 w≤anH a2 b2 w:=by
  unfold anL anH
  refine Nat.mul_le_mul_right _ (arc_ord hw (hv_ord (hv_ord h1)) (hv_ord (hv_ord h2)) (hv_ord (hv_ord h)) ?_ ?_)
  · exact Nat.le_trans (hvH_le _ _) (Nat.le_trans (hvH_le _ _) l1)
  · exact Nat.le_trans (hvH_le _ _) (Nat.le_trans (hvH_le _ _) l2)
end Go.Q
namespace Go.Q
set_option maxRecDepth 100000
set_option maxHeartbeats 4000000
def sqA (n:Nat):Nat→Nat→Nat
  |0,r=>r
  |k+1,r=>if Nat.ble ((r+2^k)*(r+2^k)) n then sqA n k (r+2^k) else sqA n k r
def topC (w a r:Nat):Nat:=a*2^w / (2^w+r)
def topR (w a:Nat):Nat:=sqA (2^(2*w)+a*a) (w+1) 0+1
def topA (w:Nat):Nat:=topC w (2^w) (topR w (2^w))
def topB (w:Nat):Nat:=topC w (topA w) (topR w (topA w))
def topL (w a:Nat):Bool:=Nat.blt ((topR w a - 1)*(topR w a - 1)) (2^(2*w)+a*a)
def topOk (w:Nat):Bool:=topL w (2^w) && topL w (topA w) && Nat.ble (16*arcH (topB w*2^64) (topB w*2^64) (w+64)) (piH w*2^64)
theorem topOk_all:((List.range 129).all fun i=>topOk (i+32))=true:=by decide+kernel
theorem top_ok {w:Nat} (h1:32≤w) (h2:w≤160):topL w (2^w)=true∧topL w (topA w)=true∧16*arcH (topB w*2^64) (topB w*2^64) (w+64)≤piH w*2^64:=by
  have h:=List.all_eq_true.1 topOk_all (w - 32) (List.mem_range.2 (by omega))
  rw[show w - 32+32=w by omega] at h
  unfold topOk at h
  simp only[Bool.and_eq_true,Nat.ble_eq] at h
  exact⟨h.1.1,h.1.2,h.2⟩
theorem hvL_top {w a:Nat} (h:topL w a=true):hvL a w≤topC w a (topR w a):=by
  unfold topL at h
  have h:(topR w a - 1)*(topR w a - 1)+1≤2^(2*w)+a*a:=by simpa[Nat.blt,Nat.ble_eq] using h
  have k:topR w a≤rtUp (2^(2*w)+a*a):=by
    refine Nat.le_of_not_lt fun c=>?_
    have h1:=rtUp_sq (2^(2*w)+a*a)
    have:=Nat.mul_le_mul (show rtUp (2^(2*w)+a*a)≤topR w a - 1 by omega) (show rtUp (2^(2*w)+a*a)≤topR w a - 1 by omega)
    omega
  unfold hvL topC
  have hU:=Nat.pos_of_ne_zero (pow2_ne w)
  exact Nat.div_le_div_left (Nat.add_le_add_left k _) (by omega)
theorem arcL_top {a b w:Nat} (h1:32≤w) (h2:w≤160) (ha:a≤2^w) (hab:hvL (hvL a w) w≤b) (lb:b≤2^w):16*arcL (hvL (hvL a w) w) b w≤piH w:=by
  obtain⟨t1,t2,t3⟩:=top_ok h1 h2
  have ht:hvL (hvL a w) w≤topB w:=by
    have k1:=Nat.le_trans (hvL_mono ha) (hvL_top t1)
    exact Nat.le_trans (hvL_mono k1) (hvL_top t2)
  have tA:topA w≤2^w:=by
    unfold topA topC
    have hU:=Nat.pos_of_ne_zero (pow2_ne w)
    exact Nat.div_le_of_le_mul (by rw[Nat.add_mul];omega)
  have tB:topB w≤2^w:=by
    refine Nat.le_trans ?_ tA
    unfold topB topC
    have hU:=Nat.pos_of_ne_zero (pow2_ne w)
    exact Nat.div_le_of_le_mul (by rw[Nat.add_mul,Nat.mul_comm (topA w)];exact Nat.le_add_right _ _)
  have u0:=u_pos w
  have v0:=u_pos (w+64)
  have ew:((2^(w+64):Nat):Rat)=((2^w:Nat):Rat)*((2^64:Nat):Rat):=by rw[Nat.pow_add,Rat.natCast_mul]
  have k1:=(arcL_Q (by omega) (Nat.le_refl (hvL (hvL a w) w)) hab lb).1
  have lb':topB w*2^64≤2^(w+64):=by rw[Nat.pow_add];exact Nat.mul_le_mul_right _ tB
  have k2:=(arcL_Q (w:=w+64) (by omega) (Nat.le_refl (topB w*2^64)) (Nat.le_refl _) lb').2
  have p0:(0:Rat) < ((2^64:Nat):Rat):=by decide+kernel
  have ey:((topB w*2^64:Nat):Rat) / ((2^(w+64):Nat):Rat)=(topB w:Rat) / ((2^w:Nat):Rat):=by
    have a1:((topB w*2^64:Nat):Rat) / ((2^(w+64):Nat):Rat)*((2^(w+64):Nat):Rat)=((topB w*2^64:Nat):Rat):=Rat.div_mul_cancel (by grind)
    have a2:(topB w:Rat) / ((2^w:Nat):Rat)*((2^w:Nat):Rat)=(topB w:Rat):=Rat.div_mul_cancel (by grind)
    rw[Rat.natCast_mul] at a1 ⊢
    rw[ew] at a1 v0 ⊢
    generalize(topB w:Rat)*((2^64:Nat):Rat) / (((2^w:Nat):Rat)*((2^64:Nat):Rat))=z1 at*
    generalize(topB w:Rat) / ((2^w:Nat):Rat)=z2 at*
    rw[←a2] at a1
    have:(z1 - z2)*(((2^w:Nat):Rat)*((2^64:Nat):Rat))=0:=by grind
    rcases Rat.mul_eq_zero.1 this with c |c
    · grind
    · grind
  rw[ey] at k2
  have x0:0≤(hvL (hvL a w) w:Rat) / ((2^w:Nat):Rat):=by
    rw[Rat.div_def]
    exact Rat.mul_nonneg (by exact_mod_cast Nat.zero_le _) (Rat.le_of_lt (Rat.inv_pos.2 u0))
  have y1:(topB w:Rat) / ((2^w:Nat):Rat)≤1:=by
    have:=grid_div (w:=w) tB
    have e:((2^w:Nat):Rat) / ((2^w:Nat):Rat)=1:=by rw[Rat.div_def];exact Rat.mul_inv_cancel _ (by grind)
    rw[e] at this
    exact this
  have k3:=arcQ_mono x0 (grid_div (w:=w) ht) y1
  have k4:=Rat.mul_le_mul_of_nonneg_right k3 (Rat.le_of_lt u0)
  have k5:=Rat.mul_le_mul_of_nonneg_right (Rat.le_trans k1 k4) (Rat.le_of_lt p0)
  rw[ew] at k2
  have k6:((arcL (hvL (hvL a w) w) b w:Nat):Rat)*((2^64:Nat):Rat)≤((arcH (topB w*2^64) (topB w*2^64) (w+64):Nat):Rat):=by
    refine Rat.le_trans k5 (Rat.le_trans ?_ k2)
    rw[Rat.mul_assoc _ ((2^w:Nat):Rat)]
    exact Rat.le_refl
  have k7:arcL (hvL (hvL a w) w) b w*2^64≤arcH (topB w*2^64) (topB w*2^64) (w+64):=by exact_mod_cast k6
  have k8:16*arcL (hvL (hvL a w) w) b w*2^64≤piH w*2^64:=by
    rw[Nat.mul_assoc]
    exact Nat.le_trans (Nat.mul_le_mul_left 16 k7) t3
  exact Nat.le_of_mul_le_mul_right k8 (Nat.pow_pos (by decide))
end Go.Q
namespace Go.Q
set_option maxRecDepth 100000
set_option maxHeartbeats 4000000
theorem rat_cross {x y:Rat} (hx:0≤x) (h:x≤y):x.num.natAbs*y.den≤y.num.natAbs*x.den:=by
  have h1:=(Rat.le_iff x y).1 h
  have a1:=Rat.num_nonneg.2 hx
  have a2:=Rat.num_nonneg.2 (Rat.le_trans hx h)
  have e1:((x.num.natAbs*y.den:Nat):Int)=x.num*y.den:=by rw[Int.natCast_mul,Int.natAbs_of_nonneg a1]
  have e2:((y.num.natAbs*x.den:Nat):Int)=y.num*x.den:=by rw[Int.natCast_mul,Int.natAbs_of_nonneg a2]
  omega
theorem glo_ghi_le {x y:Rat} {w:Nat} (h:x.num.natAbs*y.den≤y.num.natAbs*x.den):glo x w≤ghi y w:=by
  unfold glo ghi
  refine cdiv_ge y.den_nz ?_
  have h1:=Nat.div_mul_le_self (x.num.natAbs*2^w) x.den
  generalize x.num.natAbs*2^w / x.den=q at*
  refine Nat.le_of_mul_le_mul_right (c:=x.den) ?_ (Nat.pos_of_ne_zero x.den_nz)
  have h2:=Nat.mul_le_mul_right y.den h1
  have h3:=Nat.mul_le_mul_right (2^w) h
  rw[show y.den*q*x.den=q*x.den*y.den by rw[Nat.mul_comm y.den,Nat.mul_right_comm]]
  rw[show x.num.natAbs*2^w*y.den=x.num.natAbs*y.den*2^w by rw[Nat.mul_right_comm]] at h2
  rw[show y.num.natAbs*2^w*x.den=y.num.natAbs*x.den*2^w by rw[Nat.mul_right_comm]]
  exact Nat.le_trans h2 h3
theorem num_le {x y:Rat} (hx:0≤x) (h:x≤y):x.den < x.num.natAbs→y.den < y.num.natAbs:=by
  intro k
  have h1:=rat_cross hx h
  have p1:=x.den_pos
  refine Nat.lt_of_not_le fun c=>?_
  have h2:=Nat.mul_le_mul_right x.den c
  have h3:=Nat.mul_lt_mul_of_pos_right k y.den_pos
  rw[Nat.mul_comm y.den] at h2
  omega
theorem sgn_nonneg (n w:Nat):0≤sgn false n (2^w):=by
  have h1:=sgn_u n w
  have u0:=u_pos w
  have h2:(0:Rat)≤(n:Rat):=by exact_mod_cast Nat.zero_le n
  rw[←h1] at h2
  refine Rat.le_of_mul_le_mul_right (c:=((2^w:Nat):Rat)) ?_ u0
  grind
theorem odd_ord {D:Rat→Prop} {lo hi:Rat→Rat} (hD:∀x,D x→D (-x)) (hp:∀x y,0 < x→x≤y→D x→D y→lo x≤hi y) (hn:∀x,0 < x→0≤hi x) (ho:∀x,x≠0→lo (-x)= -hi x∧hi (-x)= -lo x) {x y:Rat} (hx:x≠0) (hy:y≠0) (h:x≤y) (dx:D x) (dy:D y):lo x≤hi y:=by
  by_cases h1:0 < x
  · exact hp x y h1 h dx dy
  · have e1:=(ho (-x) (by grind)).1
    rw[Rat.neg_neg] at e1
    by_cases h2:0 < y
    · have:=hn (-x) (by grind)
      have:=hn y h2
      grind
    · have e2:=(ho (-y) (by grind)).2
      rw[Rat.neg_neg] at e2
      have:=hp (-y) (-x) (by grind) (by grind) (hD _ dy) (hD _ dx)
      grind
theorem num_pos0 {x:Rat} (h:0 < x):¬x.num < 0∧x.num.natAbs≠0:=by
  have h1:=Rat.num_nonneg.2 (Rat.le_of_lt h)
  have h2:x.num≠0:=fun c=>by have:=Rat.num_eq_zero.1 c;grind
  omega
theorem num_lt0 {x:Rat}:x.num < 0↔x < 0:=by
  have:=Rat.num_nonneg (q:=x)
  constructor
  · intro h
    refine Decidable.byContradiction fun c=>?_
    have:=this.2 (by grind)
    omega
  · intro h
    refine Int.not_le.1 fun c=>?_
    have:=this.1 c
    grind
theorem at_pos {x y:Rat} {p:Nat} (hp:p≤128) (hx:0 < x) (h:x≤y):atLo x p≤atHi y p:=by
  have hy:0 < y:=by grind
  obtain⟨n1,n2⟩:=num_pos0 hx
  obtain⟨n3,n4⟩:=num_pos0 hy
  unfold atLo atHi bkL bkH
  rw[decide_eq_false n1,decide_eq_false n3,if_neg (by decide),if_neg (by decide)]
  refine sgn_le ?_
  have c1:=rat_cross (Rat.le_of_lt hx) h
  unfold atA atB atK
  by_cases bx:x.den < x.num.natAbs
  · have by_:=num_le (Rat.le_of_lt hx) h bx
    rw[if_pos bx,if_pos bx,if_pos by_,if_pos by_]
    obtain⟨i1,i2⟩:=invQ_parts n2
    obtain⟨i3,i4⟩:=invQ_parts n4
    obtain⟨l1,l2⟩:=g_le (x:=invQ x) (w:=p+32) (by rw[i1,i2,Int.natAbs_natCast];omega)
    obtain⟨l3,l4⟩:=g_le (x:=invQ y) (w:=p+32) (by rw[i3,i4,Int.natAbs_natCast];omega)
    have o:=an_ord (w:=p+32) (by omega) (glo_ghi (invQ y) _) (glo_ghi (invQ x) _) (glo_ghi_le (by rw[i1,i2,i3,i4,Int.natAbs_natCast,Int.natAbs_natCast,Nat.mul_comm y.den,Nat.mul_comm x.den];exact c1)) l4 l2
    have:=piL_ge (w:=p+32) (by omega) (by omega)
    exact div_cdiv (pow2_ne 33) (by omega)
  · obtain⟨l1,l2⟩:=g_le (x:=x) (w:=p+32) bx
    rw[if_neg bx,if_neg bx]
    by_cases by_:y.den < y.num.natAbs
    · rw[if_pos by_,if_pos by_]
      obtain⟨i3,i4⟩:=invQ_parts n4
      obtain⟨l3,l4⟩:=g_le (x:=invQ y) (w:=p+32) (by rw[i3,i4,Int.natAbs_natCast];omega)
      have t1:=arcL_top (w:=p+32) (by omega) (by omega) l1 (hv_ord (hv_ord (glo_ghi x _))) (Nat.le_trans (hvH_le _ _) (Nat.le_trans (hvH_le _ _) l2))
      have t2:=arcL_top (w:=p+32) (by omega) (by omega) l3 (hv_ord (hv_ord (glo_ghi (invQ y) _))) (Nat.le_trans (hvH_le _ _) (Nat.le_trans (hvH_le _ _) l4))
      have e1:anL (glo x (p+32)) (ghi x (p+32)) (p+32) / 2^32=anL (glo x (p+32)) (ghi x (p+32)) (p+32)*2 / 2^33:=by rw[show 2^33=2^32*2 from rfl,Nat.mul_div_mul_right _ _ (by decide)]
      rw[e1]
      refine div_cdiv (pow2_ne 33) ?_
      unfold anL
      omega
    · obtain⟨l3,l4⟩:=g_le (x:=y) (w:=p+32) by_
      rw[if_neg by_,if_neg by_]
      exact div_cdiv (pow2_ne 32) (an_ord (by omega) (glo_ghi x _) (glo_ghi y _) (glo_ghi_le c1) l2 l4)
theorem at_ord {x y:Rat} {p:Nat} (hp:p≤128) (hx:x≠0) (hy:y≠0) (h:x≤y):atLo x p≤atHi y p:=by
  refine odd_ord (D:=fun _=>True) (lo:=fun x=>atLo x p) (hi:=fun x=>atHi x p) (fun _ _=>trivial) (fun x y h1 h2 _ _=>at_pos hp h1 h2) (fun x h0=>?_) (fun x h0=>at_opp h0) hx hy h trivial trivial
  show 0≤atHi x p
  unfold atHi bkH
  rw[decide_eq_false (num_pos0 h0).1,if_neg (by decide)]
  exact sgn_nonneg _ _
theorem at_sign {x:Rat} {p:Nat}:(0 < x→0≤atLo x p∧0≤atHi x p)∧(x < 0→atLo x p≤0∧atHi x p≤0):=by
  have k:∀{x:Rat},0 < x→0≤atLo x p∧0≤atHi x p:=fun {x} h0=>by
    unfold atLo atHi bkL bkH
    rw[decide_eq_false (num_pos0 h0).1,if_neg (by decide),if_neg (by decide)]
    exact⟨sgn_nonneg _ _,sgn_nonneg _ _⟩
  refine⟨k,fun h=>?_⟩
  obtain⟨a,b⟩:=k (x:=-x) (by grind)
  obtain⟨e1,e2⟩:=at_opp (x:=-x) (p:=p) (by grind)
  rw[Rat.neg_neg] at e1 e2
  grind
theorem rinv_le {a b:Rat} (ha:0 < a) (h:a≤b):b⁻¹≤a⁻¹:=by
  have hb:0 < b:=by grind
  have i1:a*a⁻¹=1:=Rat.mul_inv_cancel _ (by grind)
  have i2:b*b⁻¹=1:=Rat.mul_inv_cancel _ (by grind)
  refine Rat.le_of_mul_le_mul_left (c:=a*b) ?_ (Rat.mul_pos ha hb)
  have e1:a*b*b⁻¹=a:=by rw[Rat.mul_assoc,i2,Rat.mul_one]
  have e2:a*b*a⁻¹=b:=by rw[Rat.mul_comm a b,Rat.mul_assoc,i1,Rat.mul_one]
  rw[e1,e2]
  exact h
theorem asH_ord {x y:Rat} {w:Nat} (dx:x.num.natAbs≤x.den) (dy:y.num.natAbs≤y.den) (h:abQ x≤abQ y):asH true x w≤asH false y w:=by
  obtain⟨a0,a1⟩:=abQ_bd dx
  obtain⟨b0,b1⟩:=abQ_bd dy
  have g1:=(asG_bd (u:=true) (w:=w) dx).1
  have g2:=(asG_bd (u:=false) (w:=w) dy).1
  have hr:asR y≤asR x:=by
    unfold asR
    have m1:=Rat.mul_le_mul_of_nonneg_left h a0
    have m2:=Rat.mul_le_mul_of_nonneg_right h b0
    grind
  have hg:asG false y w≤asG true x w:=root_mono hr (by decide) w
  have hi:=rinv_le (a:=1+asG false y w) (b:=1+asG true x w) (by grind) (by grind)
  have i0:0≤(1+asG true x w)⁻¹:=Rat.le_of_lt (Rat.inv_pos.2 (by grind))
  unfold asH
  exact Rat.le_trans (Rat.mul_le_mul_of_nonneg_right h i0) (Rat.mul_le_mul_of_nonneg_left hi b0)
theorem as_ord {x y:Rat} {w:Nat} (hw:20≤w) (dx:x.num.natAbs≤x.den) (dy:y.num.natAbs≤y.den) (h:abQ x≤abQ y):asL x w≤asU y w:=by
  have g:∀{a b:Rat},0≤a→a≤b→glo a w≤ghi b w:=fun ha h=>glo_ghi_le (rat_cross ha h)
  unfold asL asU
  exact Nat.mul_le_mul_right _ (an_ord hw (g (asH_bd dx).1 (asH_ord dx dx Rat.le_refl)) (g (asH_bd dy).1 (asH_ord dy dy Rat.le_refl)) (g (asH_bd dx).1 (asH_ord dx dy h)) (as_arg dx).2 (as_arg dy).2)
theorem as_pi {x:Rat} {w:Nat} (h1:32≤w) (h2:w≤160) (dx:x.num.natAbs≤x.den):asL x w*2^1≤piH w:=by
  have g:glo (asH true x w) w≤ghi (asH false x w) w:=glo_ghi_le (rat_cross (asH_bd dx).1 (asH_ord dx dx Rat.le_refl))
  obtain⟨a1,a2⟩:=as_arg (w:=w) dx
  have:=arcL_top h1 h2 a1 (hv_ord (hv_ord g)) (Nat.le_trans (hvH_le _ _) (Nat.le_trans (hvH_le _ _) a2))
  unfold asL anL
  omega
theorem abQ_pos {x:Rat} (h:0≤x):abQ x=x:=by
  obtain⟨e1,e2⟩:=abQ_parts x
  refine Rat.ext ?_ e2
  rw[e1,Int.natAbs_of_nonneg (Rat.num_nonneg.2 h)]
theorem abQ_opp (x:Rat):abQ (-x)=abQ x:=by unfold abQ;rw[(opp_parts x).2.1,(opp_parts x).2.2]
theorem asin_ord {x y:Rat} {p:Nat} (hx:x≠0) (hy:y≠0) (h:x≤y) (dx:x.num.natAbs≤x.den) (dy:y.num.natAbs≤y.den):asinLo x p≤asinHi y p:=by
  refine odd_ord (D:=fun x=>x.num.natAbs≤x.den) (lo:=fun x=>asinLo x p) (hi:=fun x=>asinHi x p) (fun x k=>by rw[(opp_parts x).2.1,(opp_parts x).2.2];exact k) (fun x y h1 h2 dx dy=>?_) (fun x h0=>?_) (fun x h0=>as_opp h0) hx hy h dx dy
  · show asinLo x p≤asinHi y p
    unfold asinLo asinHi bkL bkH
    rw[decide_eq_false (num_pos0 h1).1,decide_eq_false (num_pos0 (show 0 < y by grind)).1,if_neg (by decide),if_neg (by decide)]
    refine sgn_le (div_cdiv (pow2_ne 32) (as_ord (by omega) dx dy ?_))
    rw[abQ_pos (Rat.le_of_lt h1),abQ_pos (show 0≤y by grind)]
    exact h2
  · show 0≤asinHi x p
    unfold asinHi bkH
    rw[decide_eq_false (num_pos0 h0).1,if_neg (by decide)]
    exact sgn_nonneg _ _
theorem asin_sign {x:Rat} {p:Nat}:(0 < x→0≤asinLo x p∧0≤asinHi x p)∧(x < 0→asinLo x p≤0∧asinHi x p≤0):=by
  have k:∀{x:Rat},0 < x→0≤asinLo x p∧0≤asinHi x p:=fun {x} h0=>by
    unfold asinLo asinHi bkL bkH
    rw[decide_eq_false (num_pos0 h0).1,if_neg (by decide),if_neg (by decide)]
    exact⟨sgn_nonneg _ _,sgn_nonneg _ _⟩
  refine⟨k,fun h=>?_⟩
  obtain⟨a,b⟩:=k (x:=-x) (by grind)
  obtain⟨e1,e2⟩:=as_opp (x:=-x) (p:=p) (by grind)
  rw[Rat.neg_neg] at e1 e2
  grind
theorem half_down (a p:Nat):sgn false (a / 2^33) (2^p)≤sgn false a (2^(p+32+1))∧sgn false a (2^(p+32+1))≤sgn false (cdiv a (2^33)) (2^p):=by
  have e1:=sgn_u (a / 2^33) p
  have e2:=sgn_u a (p+32+1)
  have e3:=sgn_u (cdiv a (2^33)) p
  have eu:((2^(p+32+1):Nat):Rat)=((2^p:Nat):Rat)*((2^33:Nat):Rat):=by rw[←Rat.natCast_mul,←Nat.pow_add]
  have d1:((a / 2^33:Nat):Rat)*((2^33:Nat):Rat)≤(a:Rat):=div_rat (by decide)
  have d2:(a:Rat)≤((cdiv a (2^33):Nat):Rat)*((2^33:Nat):Rat):=cdiv_rat (by decide)
  have u0:=u_pos p
  have v0:(0:Rat) < ((2^33:Nat):Rat):=u_pos 33
  rw[←e1,←e2,eu] at d1
  rw[←e2,←e3,eu] at d2
  generalize((2^33:Nat):Rat)=v at*
  generalize((2^p:Nat):Rat)=u at*
  have uv:=Rat.mul_pos u0 v0
  exact⟨Rat.le_of_mul_le_mul_right (c:=u*v) (by grind) uv,Rat.le_of_mul_le_mul_right (c:=u*v) (by grind) uv⟩
def acA (x:Rat) (w:Nat):Rat:=if x=0 then sgn false (piL w) (2^(w+1)) else if x.num < 0 then sgn false (piL w+asL x w*2^1) (2^(w+1)) else sgn false (piL w) (2^(w+1))+ -sgn false (asU x w*2^1) (2^(w+1))
def acB (x:Rat) (w:Nat):Rat:=if x=0 then sgn false (piH w) (2^(w+1)) else if x.num < 0 then sgn false (piH w+asU x w*2^1) (2^(w+1)) else sgn false (piH w) (2^(w+1))+ -sgn false (asL x w*2^1) (2^(w+1))
theorem ac_out (x:Rat) (p:Nat):acLo x p≤acA x (p+32)∧acB x (p+32)≤acHi x p:=by
  unfold acLo acHi acA acB bkL bkH
  by_cases h0:x=0
  · simp only[if_pos h0,Bool.false_eq_true,if_false]
    exact⟨(half_down _ p).1,(half_down _ p).2⟩
  · by_cases h1:x.num < 0
    · simp only[if_neg h0,if_pos h1,Bool.false_eq_true,if_false]
      exact⟨(half_down _ p).1,(half_down _ p).2⟩
    · simp only[if_neg h0,if_neg h1]
      exact⟨gdown_le _ _,le_gup _ _⟩
theorem sgn_sum (a b w:Nat):sgn false (a+b) (2^w)=sgn false a (2^w)+sgn false b (2^w):=by
  have e1:=sgn_u a w
  have e2:=sgn_u b w
  have e3:=sgn_u (a+b) w
  have u0:=u_pos w
  rw[Rat.natCast_add,←e1,←e2] at e3
  generalize sgn false (a+b) (2^w)=s at*
  generalize sgn false a (2^w)=t at*
  generalize sgn false b (2^w)=r at*
  generalize((2^w:Nat):Rat)=u at*
  have:(s - (t+r))*u=0:=by grind
  rcases Rat.mul_eq_zero.1 this with c |c<;>grind
theorem ac_ord {x y:Rat} {p:Nat} (hp:p≤128) (h:x≤y) (dx:x.num.natAbs≤x.den) (dy:y.num.natAbs≤y.den):acLo y p≤acHi x p:=by
  refine Rat.le_trans (ac_out y p).1 (Rat.le_trans ?_ (ac_out x p).2)
  have hw:32≤p+32:=by omega
  have pl:=piL_ge (w:=p+32) (by omega) (by omega)
  have s0:=sgn_le (p:=p+32+1) (show piL (p+32)≤piH (p+32) by omega)
  have n1:=sgn_nonneg (asL x (p+32)*2^1) (p+32+1)
  have n2:=sgn_nonneg (asU x (p+32)*2^1) (p+32+1)
  have n3:=sgn_nonneg (asL y (p+32)*2^1) (p+32+1)
  have n4:=sgn_nonneg (asU y (p+32)*2^1) (p+32+1)
  have O:∀{a b:Rat},a.num.natAbs≤a.den→b.num.natAbs≤b.den→abQ a≤abQ b→sgn false (asL a (p+32)*2^1) (2^(p+32+1))≤sgn false (asU b (p+32)*2^1) (2^(p+32+1)):=fun da db hab=>sgn_le (Nat.mul_le_mul_right _ (as_ord (by omega) da db hab))
  have nx:x.num < 0↔x < 0:=num_lt0
  have ny:y.num < 0↔y < 0:=num_lt0
  unfold acA acB
  rw[sgn_sum,sgn_sum]
  by_cases x0:x=0
  · rw[if_pos x0]
    by_cases y0:y=0
    · rw[if_pos y0];exact s0
    · rw[if_neg y0,if_neg (by grind)];grind
  · rw[if_neg x0]
    by_cases x1:x.num < 0
    · rw[if_pos x1]
      by_cases y0:y=0
      · rw[if_pos y0];grind
      · rw[if_neg y0]
        by_cases y1:y.num < 0
        · rw[if_pos y1]
          have hxn:=nx.1 x1
          have hyn:=ny.1 y1
          have:=O dy dx (by
            rw[←abQ_opp y,←abQ_opp x,abQ_pos (show 0≤ -y by grind),abQ_pos (show 0≤ -x by grind)]
            grind)
          grind
        · rw[if_neg y1];grind
    · have hx0:0 < x:=by
        have:¬x < 0:=fun c=>x1 (nx.2 c)
        grind
      rw[if_neg x1,if_neg (show y≠0 by grind),if_neg (show ¬y.num < 0 from fun c=>by have:=ny.1 c;grind)]
      have:=O dx dy (by rw[abQ_pos (Rat.le_of_lt hx0),abQ_pos (show 0≤y by grind)];exact h)
      grind
theorem acHi_0 {x:Rat} {p:Nat} (hp:p≤128) (dx:x.num.natAbs≤x.den):0≤acHi x p:=by
  refine Rat.le_trans ?_ (ac_out x p).2
  have n0:=sgn_nonneg (piH (p+32)) (p+32+1)
  have n1:=sgn_nonneg (asU x (p+32)*2^1) (p+32+1)
  have:=sgn_le (p:=p+32+1) (as_pi (x:=x) (w:=p+32) (by omega) (by omega) dx)
  unfold acB
  rw[sgn_sum]
  split
  · exact n0
  · split<;>grind
end Go.Q
namespace Go.Q
set_option maxRecDepth 100000
set_option maxHeartbeats 4000000
theorem lg_above {n d:Nat} (hd:d≠0):lgn n (lge n d) < 2*lgd d (lge n d):=by
  obtain⟨d1,d2⟩:=bl_pos hd
  have n2:n < 2^bl n:=bl_le.1 (Nat.le_refl _)
  have e2:2^bl d=2*2^(bl d - 1):=by rw[←Nat.pow_succ'];congr 1;omega
  unfold lge
  split
  · rename_i h
    unfold lgn lgd at h ⊢
    by_cases c:1≤lge0 n d
    · obtain⟨k,hk⟩:∃k:Nat,lge0 n d=k+1:=⟨(lge0 n d - 1).toNat,by omega⟩
      rw[hk] at h ⊢
      rw[show(max 0 (-((k:Int)+1))).toNat=0 by omega,show(max 0 ((k:Int)+1)).toNat=k+1 by omega,Nat.pow_zero,Nat.mul_one,Nat.pow_succ] at h
      rw[show(max 0 (-((k:Int)+1 - 1))).toNat=0 by omega,show(max 0 ((k:Int)+1 - 1)).toNat=k by omega,Nat.pow_zero,Nat.mul_one]
      rw[←Nat.mul_assoc] at h
      omega
    · obtain⟨k,hk⟩:∃k:Nat,lge0 n d= -(k:Int):=⟨(-lge0 n d).toNat,by omega⟩
      rw[hk] at h ⊢
      rw[show(max 0 (- -(k:Int))).toNat=k by omega,show(max 0 (-(k:Int))).toNat=0 by omega,Nat.pow_zero,Nat.mul_one] at h
      rw[show(max 0 (-(-(k:Int) - 1))).toNat=k+1 by omega,show(max 0 (-(k:Int) - 1)).toNat=0 by omega,Nat.pow_zero,Nat.mul_one,Nat.pow_succ,←Nat.mul_assoc]
      omega
  · unfold lgn lgd lge0
    by_cases c:bl d≤bl n
    · obtain⟨k,hk⟩:=Nat.exists_eq_add_of_le c
      rw[show(max 0 (-((bl n:Int) - bl d))).toNat=0 by omega,show(max 0 ((bl n:Int) - bl d)).toNat=k by omega,Nat.pow_zero,Nat.mul_one]
      rw[hk,Nat.pow_add,e2] at n2
      have:=Nat.mul_le_mul_right (2^k) (Nat.mul_le_mul_left 2 d2)
      rw[Nat.mul_assoc 2 d] at this
      omega
    · obtain⟨k,hk⟩:=Nat.exists_eq_add_of_le (show bl n≤bl d by omega)
      rw[show(max 0 (-((bl n:Int) - bl d))).toNat=k by omega,show(max 0 ((bl n:Int) - bl d)).toNat=0 by omega,Nat.pow_zero,Nat.mul_one]
      rw[hk,Nat.pow_add] at e2
      have:=Nat.mul_lt_mul_of_pos_right n2 (Nat.pow_pos (n:=k) (show 0 < 2 by decide))
      rw[hk] at d2
      rw[e2] at this
      omega
theorem lge_mono {n1 d1 n2 d2:Nat} (h1:n1≠0) (g1:d1≠0) (g2:d2≠0) (h:n1*d2≤n2*d1):lge n1 d1≤lge n2 d2:=by
  refine Int.not_lt.1 fun c=>?_
  have k1:=lg_below (d:=d1) h1
  have k2:=lg_above (n:=n2) g2
  unfold lgn lgd at k1 k2
  generalize lge n1 d1=e1 at*
  generalize lge n2 d2=e2 at*
  obtain⟨A,hA⟩:∃A,(max 0 e1).toNat=A:=⟨_,rfl⟩
  obtain⟨B,hB⟩:∃B,(max 0 (-e1)).toNat=B:=⟨_,rfl⟩
  obtain⟨C,hC⟩:∃C,(max 0 (-e2)).toNat=C:=⟨_,rfl⟩
  obtain⟨D,hD⟩:∃D,(max 0 e2).toNat=D:=⟨_,rfl⟩
  rw[hA,hB] at k1
  rw[hC,hD] at k2
  have hs:B+D+1≤A+C:=by omega
  have p1:0 < d1*2^A:=Nat.mul_pos (Nat.pos_of_ne_zero g1) (Nat.pow_pos (by decide))
  have m1:d1*2^A*(n2*2^C) < d1*2^A*(2*(d2*2^D)):=Nat.mul_lt_mul_of_pos_left k2 p1
  have m2:d1*2^A*(2*(d2*2^D))≤n1*2^B*(2*(d2*2^D)):=Nat.mul_le_mul_right _ k1
  have m3:n1*2^B*(2*(d2*2^D))=n1*d2*2^(B+D+1):=by
    rw[Nat.pow_succ,Nat.pow_add]
    generalize 2^B=b;generalize 2^D=d
    rw[Nat.mul_left_comm 2,Nat.mul_mul_mul_comm,Nat.mul_comm 2 d,Nat.mul_assoc b d 2]
  have m4:d1*2^A*(n2*2^C)=n2*d1*2^(A+C):=by
    rw[Nat.pow_add,Nat.mul_mul_mul_comm,Nat.mul_comm d1 n2]
  have m5:=Nat.mul_le_mul h (Nat.pow_le_pow_right (show 0 < 2 by decide) hs)
  omega
theorem frac_le {a b c d:Nat} (hb:b≠0) (hd:d≠0) (h:a*d≤c*b):a / b≤cdiv c d:=by
  refine cdiv_ge hd (Nat.le_of_mul_le_mul_right (c:=b) ?_ (Nat.pos_of_ne_zero hb))
  have h1:=Nat.mul_le_mul_right d (Nat.div_mul_le_self a b)
  rw[show d*(a / b)*b=a / b*b*d by rw[Nat.mul_comm d,Nat.mul_right_comm]]
  exact Nat.le_trans h1 h
theorem logV_ord {w s t s' t':Nat} (h:s≤t'):∀j,j≤54→logV w s t false j≤logV w s' t' true j
  | 0,_=>by
    rw[logV_0,logV_0']
    exact frac_le (by decide) (by decide) (by omega)
  | j+1,hj=>by
    rw[logV_s,logV_s']
    have hk:(109 - 2*j)*2^w≠0:=Nat.mul_ne_zero (by omega) (pow2_ne w)
    exact div_cdiv hk (Nat.add_le_add_left (Nat.mul_le_mul_right _ (Nat.mul_le_mul h (logV_ord h j (by omega)))) _)
theorem logV_top {w s t s' t':Nat} (h:s≤t'):logV w s t false 55≤logV w s' t' true 55:=by
  rw[logV_s,logV_s']
  have hk:(109 - 2*54)*2^w≠0:=Nat.mul_ne_zero (by decide) (pow2_ne w)
  exact div_cdiv hk (Nat.add_le_add_left (Nat.mul_le_mul_right _ (Nat.mul_le_mul h (logV_ord h 54 (Nat.le_refl _)))) _)
theorem log_ord {a b a' b' w:Nat} (h:a≤b'):logL a b w≤logH a' b' w:=by
  have hs:sqL a w≤sqH b' w:=div_cdiv (pow2_ne w) (Nat.mul_le_mul h h)
  unfold logL logH
  exact div_cdiv (pow2_ne w) (Nat.mul_le_mul_right _ (Nat.mul_le_mul h (logV_top hs)))
theorem lgm_two {n d w:Nat} (hn:n≠0) (hd:d≠0):lgmL n d w≤lg2H w:=by
  have k:=lg_above (n:=n) hd
  unfold lgmL lg2H
  refine log_ord (frac_le (lgB_ne hn) (by decide) ?_)
  unfold lgT lgB
  rw[Nat.mul_right_comm,Nat.mul_comm (2^w)]
  exact Nat.mul_le_mul_right _ (by omega)
theorem lgm_ord {n1 d1 n2 d2 w:Nat} (h1:n1≠0) (h2:n2≠0) (he:lge n1 d1=lge n2 d2) (h:n1*d2≤n2*d1):lgmL n1 d1 w≤lgmH n2 d2 w:=by
  have b1:=lg_below (d:=d1) h1
  have b2:=lg_below (d:=d2) h2
  unfold lgmL lgmH
  refine log_ord (frac_le (lgB_ne h1) (lgB_ne h2) ?_)
  unfold lgT lgB
  have hc:lgn n1 (lge n1 d1)*lgd d2 (lge n2 d2)≤lgn n2 (lge n2 d2)*lgd d1 (lge n1 d1):=by
    rw[he]
    unfold lgn lgd
    rw[Nat.mul_mul_mul_comm,Nat.mul_mul_mul_comm n2]
    exact Nat.mul_le_mul_right _ h
  generalize lgn n1 (lge n1 d1)=a at*
  generalize lgd d1 (lge n1 d1)=b at*
  generalize lgn n2 (lge n2 d2)=c at*
  generalize lgd d2 (lge n2 d2)=d at*
  rw[Nat.mul_right_comm,Nat.mul_right_comm (c - d)]
  refine Nat.mul_le_mul_right _ ?_
  obtain⟨i,rfl⟩:=Nat.exists_eq_add_of_le b1
  obtain⟨j,rfl⟩:=Nat.exists_eq_add_of_le b2
  rw[Nat.add_sub_cancel_left,Nat.add_sub_cancel_left]
  rw[Nat.add_mul,Nat.add_mul,Nat.mul_comm b d] at hc
  have e1:i*(d+j+d)=2*(i*d)+i*j:=by rw[Nat.mul_add,Nat.mul_add];omega
  have e2:j*(b+i+b)=2*(j*b)+i*j:=by rw[Nat.mul_add,Nat.mul_add,Nat.mul_comm j i];omega
  omega
theorem lg2_le (w:Nat):lg2L w≤lg2H w:=log_ord (div_cdiv (by decide) (Nat.le_refl _))
theorem out_32 (a p:Nat):sgn false (a / 2^32) (2^p)≤sgn false a (2^(p+32))∧sgn false a (2^(p+32))≤sgn false (cdiv a (2^32)) (2^p):=by
  have e1:=sgn_u (a / 2^32) p
  have e2:=sgn_u a (p+32)
  have e3:=sgn_u (cdiv a (2^32)) p
  have eu:((2^(p+32):Nat):Rat)=((2^p:Nat):Rat)*((2^32:Nat):Rat):=by rw[←Rat.natCast_mul,←Nat.pow_add]
  have d1:((a / 2^32:Nat):Rat)*((2^32:Nat):Rat)≤(a:Rat):=div_rat (by decide)
  have d2:(a:Rat)≤((cdiv a (2^32):Nat):Rat)*((2^32:Nat):Rat):=cdiv_rat (by decide)
  have u0:=u_pos p
  have v0:(0:Rat) < ((2^32:Nat):Rat):=u_pos 32
  rw[←e1,←e2,eu] at d1
  rw[←e2,←e3,eu] at d2
  generalize((2^32:Nat):Rat)=v at*
  generalize((2^p:Nat):Rat)=u at*
  have uv:=Rat.mul_pos u0 v0
  exact⟨Rat.le_of_mul_le_mul_right (c:=u*v) (by grind) uv,Rat.le_of_mul_le_mul_right (c:=u*v) (by grind) uv⟩
def lnA (n d w:Nat):Rat:=if 0≤lge n d then sgn false (lg2L w*(lge n d).toNat+lgmL n d w) (2^w) else sgn false (lgmL n d w) (2^w)+ -sgn false (lg2H w*(0 - lge n d).toNat) (2^w)
def lnB (n d w:Nat):Rat:=if 0≤lge n d then sgn false (lg2H w*(lge n d).toNat+lgmH n d w) (2^w) else sgn false (lgmH n d w) (2^w)+ -sgn false (lg2L w*(0 - lge n d).toNat) (2^w)
theorem ln_out (n d p:Nat):lnLo n d p≤lnA n d (p+32)∧lnB n d (p+32)≤lnHi n d p:=by
  unfold lnLo lnHi lnA lnB
  by_cases h:0≤lge n d
  · simp only[if_pos h]
    exact⟨(out_32 _ p).1,(out_32 _ p).2⟩
  · simp only[if_neg h]
    exact⟨gdown_le _ _,le_gup _ _⟩
theorem sgn_dif {a b c d w:Nat} (h:a+d≤c+b):sgn false a (2^w)+ -sgn false b (2^w)≤sgn false c (2^w)+ -sgn false d (2^w):=by
  have:=sgn_le (p:=w) h
  rw[sgn_sum,sgn_sum] at this
  grind
theorem ln_sign {n d w:Nat} (hn:n≠0) (hd:d≠0):(0≤lge n d→0≤lnA n d w∧0≤lnB n d w)∧(lge n d < 0→lnA n d w≤0):=by
  constructor
  · intro h
    unfold lnA lnB
    rw[if_pos h,if_pos h]
    exact⟨sgn_nonneg _ _,sgn_nonneg _ _⟩
  · intro h
    unfold lnA
    rw[if_neg (by omega)]
    have h1:=lgm_two (w:=w) hn hd
    have h2:lg2H w*1≤lg2H w*(0 - lge n d).toNat:=Nat.mul_le_mul_left _ (by omega)
    have:=sgn_le (p:=w) (show lgmL n d w≤lg2H w*(0 - lge n d).toNat by omega)
    grind
theorem ln_ord0 {n1 d1 n2 d2 w:Nat} (h1:n1≠0) (g1:d1≠0) (h2:n2≠0) (g2:d2≠0) (h:n1*d2≤n2*d1):lnA n1 d1 w≤lnB n2 d2 w:=by
  have he:=lge_mono h1 g1 g2 h
  have k1:=lgm_two (w:=w) h1 g1
  have k2:=lg2_le w
  by_cases c1:0≤lge n1 d1
  · unfold lnA lnB
    rw[if_pos c1,if_pos (by omega)]
    refine sgn_le ?_
    rcases Int.lt_or_eq_of_le he with c |c
    · have m1:=Nat.mul_le_mul_right (lge n1 d1).toNat k2
      have m2:lg2H w*((lge n1 d1).toNat+1)≤lg2H w*(lge n2 d2).toNat:=Nat.mul_le_mul_left _ (by omega)
      rw[Nat.mul_succ] at m2
      omega
    · have m1:=Nat.mul_le_mul_right (lge n1 d1).toNat k2
      have k3:=lgm_ord (w:=w) h1 h2 c h
      rw[←c]
      omega
  · by_cases c2:0≤lge n2 d2
    · exact Rat.le_trans ((ln_sign h1 g1).2 (by omega)) ((ln_sign h2 g2).1 c2).2
    · unfold lnA lnB
      rw[if_neg c1,if_neg c2]
      refine sgn_dif ?_
      rcases Int.lt_or_eq_of_le he with c |c
      · have m1:=Nat.mul_le_mul_right (0 - lge n2 d2).toNat k2
        have m2:lg2H w*((0 - lge n2 d2).toNat+1)≤lg2H w*(0 - lge n1 d1).toNat:=Nat.mul_le_mul_left _ (by omega)
        rw[Nat.mul_succ] at m2
        omega
      · have m1:=Nat.mul_le_mul_right (0 - lge n1 d1).toNat k2
        have k3:=lgm_ord (w:=w) h1 h2 c h
        rw[←c]
        omega
theorem lge_one {n d:Nat} (hn:n≠0) (hd:d≠0):(d≤n→0≤lge n d)∧(n < d→lge n d < 0):=by
  have a:=lg_above (n:=n) hd
  have b:=lg_below (d:=d) hn
  unfold lgn lgd at a b
  constructor
  · intro h
    refine Int.not_lt.1 fun c=>?_
    obtain⟨k,hk⟩:∃k:Nat,lge n d= -((k:Int)+1):=⟨(-lge n d - 1).toNat,by omega⟩
    rw[hk,show(max 0 (- -((k:Int)+1))).toNat=k+1 by omega,show(max 0 (-((k:Int)+1))).toNat=0 by omega,Nat.pow_zero,Nat.mul_one,Nat.pow_succ,←Nat.mul_assoc] at a
    have:=Nat.mul_le_mul_left n (Nat.pow_pos (n:=k) (show 0 < 2 by decide))
    omega
  · intro h
    refine Int.not_le.1 fun c=>?_
    obtain⟨k,hk⟩:∃k:Nat,lge n d=(k:Int):=⟨(lge n d).toNat,by omega⟩
    rw[hk,show(max 0 (-(k:Int))).toNat=0 by omega,show(max 0 (k:Int)).toNat=k by omega,Nat.pow_zero,Nat.mul_one] at b
    have:=Nat.mul_le_mul_left d (Nat.pow_pos (n:=k) (show 0 < 2 by decide))
    omega
theorem sgn_one (p:Nat):sgn false (2^p) (2^p)=1:=by
  have e:=sgn_u (2^p) p
  have u0:=u_pos p
  generalize sgn false (2^p) (2^p)=s at*
  generalize((2^p:Nat):Rat)=u at*
  have:(s - 1)*u=0:=by grind
  rcases Rat.mul_eq_zero.1 this with c |c<;>grind
theorem exp_ge (x:Rat) (p:Nat):2^(p+112)≤expL x p∧2^(p+112)≤expH x p:=⟨qLo_ge (eLo_ge _ _ 40) 8,qHi_ge (eHi_ge _ _ 40) 8⟩
theorem exp_one {x:Rat} {p:Nat}:(x < 0→expLo x p≤1)∧(0 < x→1≤expHi x p):=by
  constructor
  · intro h
    unfold expLo
    rw[if_pos (num_lt0.2 h),←sgn_one p]
    refine sgn_le (Nat.div_le_of_le_mul ?_)
    rw[Nat.pow_add]
    exact Nat.mul_le_mul_right _ (exp_ge x p).2
  · intro h
    unfold expHi
    rw[if_neg (num_pos0 h).1,←sgn_one p]
    refine sgn_le (cdiv_ge (pow2_ne 112) ?_)
    rw[←Nat.pow_add,Nat.add_comm 112]
    exact(exp_ge x p).2
theorem exp_ord {x y:Rat} {p:Nat} (h:x≤y) (hx:x≠0) (hy:y≠0):expLo x p≤expHi y p:=by
  by_cases h1:0 < x
  · unfold expLo expHi
    rw[if_neg (num_pos0 h1).1,if_neg (num_pos0 (show 0 < y by grind)).1]
    exact sgn_le (div_cdiv (pow2_ne 112) (exp_le (glo_ghi_le (rat_cross (Rat.le_of_lt h1) h))))
  · by_cases h2:0 < y
    · exact Rat.le_trans (exp_one.1 (by grind)) (exp_one.2 h2)
    · unfold expLo expHi
      rw[if_pos (num_lt0.2 (by grind)),if_pos (num_lt0.2 (by grind))]
      have c:=rat_cross (x:=-y) (y:=-x) (by grind) (by grind)
      rw[(opp_parts x).2.1,(opp_parts x).2.2,(opp_parts y).2.1,(opp_parts y).2.2] at c
      have k:expL y p≤expH x p:=exp_le (glo_ghi_le c)
      have l:=(exp_ge y p).1
      have l0:=Nat.pos_of_ne_zero (pow2_ne (p+112))
      exact sgn_le (Nat.le_trans (Nat.div_le_div_left k (by omega)) (le_cdiv _ (by omega)))
end Go.Q
namespace Go.Q
set_option maxRecDepth 100000
set_option maxHeartbeats 4000000
theorem br_e {fn:Int} {x:Rat} {p:Int} (h:brE fn x p=0):eErr fn x p=0:=by
  unfold brE at h
  split at h
  · cases h
  · unfold elE at h
    refine Decidable.byContradiction fun he=>?_
    rw[if_pos he] at h
    exact he h
theorem rat_one {x:Rat} (h:0 < x):(x≤1→x.num.natAbs≤x.den)∧(1≤x→x.den≤x.num.natAbs):=by
  constructor
  · intro k
    have:=rat_cross (Rat.le_of_lt h) k
    rw[show(1:Rat).num.natAbs=1 from rfl,show(1:Rat).den=1 from rfl] at this
    omega
  · intro k
    have:=rat_cross (x:=1) (y:=x) (by decide) k
    rw[show(1:Rat).num.natAbs=1 from rfl,show(1:Rat).den=1 from rfl] at this
    omega
theorem one_eq {x:Rat} (h:0≤x) (e:x.num.natAbs=x.den):x=1:=by
  have h1:=Rat.num_nonneg.2 h
  have hr:x.den=1:=by
    have k:=x.reduced
    unfold Nat.Coprime at k
    rw[e,Nat.gcd_self] at k
    exact k
  refine Rat.ext ?_ (by rw[hr];rfl)
  rw[show(1:Rat).num=1 from rfl]
  omega
theorem ln_ord {x y:Rat} {p:Nat} (hx:0 < x) (h:x≤y):lnLo x.num.natAbs x.den p≤lnHi y.num.natAbs y.den p:=
  Rat.le_trans (ln_out _ _ p).1 (Rat.le_trans (ln_ord0 (num_pos0 hx).2 x.den_nz (num_pos0 (show 0 < y by grind)).2 y.den_nz (rat_cross (Rat.le_of_lt hx) h)) (ln_out _ _ p).2)
theorem ln_zero {x:Rat} {p:Nat} (hx:0 < x) (h1:x≠1):(x≤1→lnLo x.num.natAbs x.den p≤0)∧(1≤x→0≤lnHi x.num.natAbs x.den p):=by
  have n0:=(num_pos0 hx).2
  constructor
  · intro h
    have a:=(rat_one hx).1 h
    have b:x.num.natAbs≠x.den:=fun c=>h1 (one_eq (Rat.le_of_lt hx) c)
    exact Rat.le_trans (ln_out _ _ p).1 ((ln_sign n0 x.den_nz).2 ((lge_one n0 x.den_nz).2 (by omega)))
  · intro h
    have a:=(rat_one hx).2 h
    exact Rat.le_trans ((ln_sign n0 x.den_nz).1 ((lge_one n0 x.den_nz).1 a)).2 (ln_out _ _ p).2
theorem asin_dom {x:Rat} (h:x.num.natAbs≤x.den):x≤1:=by
  have a:=(abQ_bd h).2
  by_cases c:0≤x
  · rw[abQ_pos c] at a;exact a
  · grind
theorem br_ord {fn:Int} {x y:Rat} {p:Int} (hf:fn=1∨fn=2∨fn=6∨fn=8) (h:x≤y) (hx:brE fn x p=0) (hy:brE fn y p=0):brL fn x p≤brH fn y p:=by
  obtain⟨_,p0,p1⟩:=br_p hx
  obtain⟨_,_,_,dx,_⟩:=eErr_p (br_e hx)
  obtain⟨_,_,_,dy,_⟩:=eErr_p (br_e hy)
  rw[(br_ser hx).1,(br_ser hy).2]
  have hq:p.toNat≤128:=by omega
  generalize p.toNat=q at*
  clear hx hy p0 p1
  rcases hf with rfl |rfl |rfl |rfl
  · have eB:∀z,exB 1 z=decide (z=0):=fun z=>rfl
    have eV:exV 1 0=1:=by decide+kernel
    show(if exB 1 x=true then exV 1 x else expLo x q)≤(if exB 1 y=true then exV 1 y else expHi y q)
    rw[eB,eB]
    by_cases x0:x=0<;>by_cases y0:y=0
    · rw[decide_eq_true x0,decide_eq_true y0,if_pos rfl,if_pos rfl,x0,y0];exact Rat.le_refl
    · rw[decide_eq_true x0,decide_eq_false y0,if_pos rfl,if_neg (by decide),x0,eV]
      exact exp_one.2 (by grind)
    · rw[decide_eq_true y0,decide_eq_false x0,if_pos rfl,if_neg (by decide),y0,eV]
      exact exp_one.1 (by grind)
    · rw[decide_eq_false y0,decide_eq_false x0,if_neg (by decide),if_neg (by decide)]
      exact exp_ord h x0 y0
  · have eB:∀z,exB 2 z=decide (z=1):=fun z=>rfl
    have eV:∀z,exV 2 z=0:=fun z=>by unfold exV;rw[if_neg (by omega)]
    have x0:0 < x:=of_decide_eq_true dx
    have y0:0 < y:=of_decide_eq_true dy
    show(if exB 2 x=true then exV 2 x else lnLo x.num.natAbs x.den q)≤(if exB 2 y=true then exV 2 y else lnHi y.num.natAbs y.den q)
    rw[eB,eB,eV,eV]
    by_cases x1:x=1<;>by_cases y1:y=1
    · rw[decide_eq_true x1,decide_eq_true y1,if_pos rfl,if_pos rfl];exact Rat.le_refl
    · rw[decide_eq_true x1,decide_eq_false y1,if_pos rfl,if_neg (by decide)]
      exact(ln_zero y0 y1).2 (by grind)
    · rw[decide_eq_true y1,decide_eq_false x1,if_pos rfl,if_neg (by decide)]
      exact(ln_zero x0 x1).1 (by grind)
    · rw[decide_eq_false y1,decide_eq_false x1,if_neg (by decide),if_neg (by decide)]
      exact ln_ord x0 h
  · have eB:∀z,exB 6 z=decide (z=0):=fun z=>rfl
    have eV:∀z,exV 6 z=0:=fun z=>by unfold exV;rw[if_neg (by omega)]
    have d1:x.num.natAbs≤x.den:=of_decide_eq_true dx
    have d2:y.num.natAbs≤y.den:=of_decide_eq_true dy
    show(if exB 6 x=true then exV 6 x else asinLo x q)≤(if exB 6 y=true then exV 6 y else asinHi y q)
    rw[eB,eB,eV,eV]
    by_cases x1:x=0<;>by_cases y1:y=0
    · rw[decide_eq_true x1,decide_eq_true y1,if_pos rfl,if_pos rfl];exact Rat.le_refl
    · rw[decide_eq_true x1,decide_eq_false y1,if_pos rfl,if_neg (by decide)]
      exact(asin_sign.1 (by grind)).2
    · rw[decide_eq_true y1,decide_eq_false x1,if_pos rfl,if_neg (by decide)]
      exact(asin_sign.2 (by grind)).1
    · rw[decide_eq_false y1,decide_eq_false x1,if_neg (by decide),if_neg (by decide)]
      exact asin_ord x1 y1 h d1 d2
  · have eB:∀z,exB 8 z=decide (z=0):=fun z=>rfl
    have eV:∀z,exV 8 z=0:=fun z=>by unfold exV;rw[if_neg (by omega)]
    show(if exB 8 x=true then exV 8 x else atLo x q)≤(if exB 8 y=true then exV 8 y else atHi y q)
    rw[eB,eB,eV,eV]
    by_cases x1:x=0<;>by_cases y1:y=0
    · rw[decide_eq_true x1,decide_eq_true y1,if_pos rfl,if_pos rfl];exact Rat.le_refl
    · rw[decide_eq_true x1,decide_eq_false y1,if_pos rfl,if_neg (by decide)]
      exact(at_sign.1 (by grind)).2
    · rw[decide_eq_true y1,decide_eq_false x1,if_pos rfl,if_neg (by decide)]
      exact(at_sign.2 (by grind)).1
    · rw[decide_eq_false y1,decide_eq_false x1,if_neg (by decide),if_neg (by decide)]
      exact at_ord hq x1 y1 h
theorem br_ord7 {x y:Rat} {p:Int} (h:x≤y) (hx:brE 7 x p=0) (hy:brE 7 y p=0):brL 7 y p≤brH 7 x p:=by
  obtain⟨_,p0,p1⟩:=br_p hx
  obtain⟨_,_,_,dx,_⟩:=eErr_p (br_e hx)
  obtain⟨_,_,_,dy,_⟩:=eErr_p (br_e hy)
  rw[(br_ser hx).2,(br_ser hy).1]
  have hq:p.toNat≤128:=by omega
  generalize p.toNat=q at*
  clear hx hy p0 p1
  have eB:∀z,exB 7 z=decide (z=1):=fun z=>rfl
  have eV:∀z,exV 7 z=0:=fun z=>by unfold exV;rw[if_neg (by omega)]
  have d1:x.num.natAbs≤x.den:=of_decide_eq_true dx
  have d2:y.num.natAbs≤y.den:=of_decide_eq_true dy
  show(if exB 7 y=true then exV 7 y else acLo y q)≤(if exB 7 x=true then exV 7 x else acHi x q)
  rw[eB,eB,eV,eV]
  by_cases x1:x=1<;>by_cases y1:y=1
  · rw[decide_eq_true x1,decide_eq_true y1,if_pos rfl,if_pos rfl];exact Rat.le_refl
  · have:=asin_dom d2
    exact absurd (Rat.le_antisymm (asin_dom d2) (by rw[←x1];exact h)) y1
  · rw[decide_eq_true y1,decide_eq_false x1,if_pos rfl,if_neg (by decide)]
    exact acHi_0 hq d1
  · rw[decide_eq_false y1,decide_eq_false x1,if_neg (by decide),if_neg (by decide)]
    exact ac_ord hq h d1 d2
end Go.Q
namespace Go.Q
open Go.Proofs
set_option maxRecDepth 100000
set_option maxHeartbeats 16000000
def wideB (x:Rat):Prop:=1024 < sz x∨x.den*4294967296 < x.num.natAbs
instance (x:Rat):Decidable (wideB x):=inferInstanceAs (Decidable (_∨_))
end Go.Q
namespace Go.Q
open Go.Proofs
set_option maxRecDepth 100000
end Go.Q
namespace Go.Q
open Go.Proofs
set_option maxRecDepth 100000
set_option maxHeartbeats 8000000
end Go.Q
namespace Go.Q
open Go.Proofs
set_option maxRecDepth 100000
set_option maxHeartbeats 8000000
end Go.Q
namespace Go.Q
open Go.Proofs
set_option maxRecDepth 100000
set_option maxHeartbeats 8000000
theorem EReady_exp {h0 h:PH} [Le h0 h] {v:Value} {x:Rat} {p:Int} (hx:Rv h0 v x) (hp:0≤p∧p≤128) (hl:¬1024 < sz x) (hb:¬x.den*64 < x.num.natAbs):Spec mach 79 #[.int .i64 1,v,.int .i64 p] h (fun r h'=>∃b na nl nc da dl dc,r=.tuple #[.agg #[.bool b,.slice na nl nc,.slice da dl dc],.int .i64 0]∧Cn h' (.agg #[.bool b,.slice na nl nc,.slice da dl dc]) x) NP:=by
  have kK:=fun {h} [Le h0 h]=>EKnown_ok (h:=h) (fn:=1) hx (by decide)
  have bx:=hx.sz
  obtain⟨_,_,_,_,_,_,_,rfl,_⟩:=hx.sa
  have d1:defB 1 x=true:=rfl
  refine Spec.go [] Tryz.func79 rfl rfl (by kernel_rfl) fun C _=>?_
  try simp(disch:=omega) only[go_sem,Nat.reduceBEq,Nat.reduceAdd]
  refine caN (by exact kK) ?_;rintro v1 h1 s1 ⟨_,_,_,_,_,_,_,rfl,c⟩
  try simp(disch:=omega) only[go_sem,Nat.reduceBEq,Nat.reduceAdd]
  refine caN (by exact EDefined_spec (fn:=1) c) ?_;rintro v2 h2 s2 rfl
  try simp(disch:=omega) only[go_sem,Nat.reduceBEq,Nat.reduceAdd]
  rw[d1]
  try simp(disch:=omega) only[go_sem,Nat.reduceBEq,Nat.reduceAdd]
  refine caN (by exact TooLong_spec (c.to (h':=h2))) ?_;rintro v3 h3 s3 rfl
  try simp(disch:=omega) only[go_sem,Nat.reduceBEq,Nat.reduceAdd]
  try rw[decide_eq_false hl]
  try simp(disch:=omega) only[go_sem,Nat.reduceBEq,Nat.reduceAdd]
  refine caN (by exact Beyond_spec (n:=64) (c.to (h':=h3)) (by omega) (by decide)) ?_;rintro v4 h4 s4 rfl
  try simp(disch:=omega) only[go_sem,Nat.reduceBEq,Nat.reduceAdd]
  try rw[decide_eq_false hb]
  try simp(disch:=omega) only[go_sem,Nat.reduceBEq,Nat.reduceAdd]
  exact⟨_,_,_,_,_,_,_,rfl,c.to⟩
theorem EApply_exp {h0 h:PH} [Le h0 h] {v:Value} {x y z:Rat} {p:Int} {g:FuncId} (hx:Rv h0 v x) (hp:0≤p∧p≤128) (hl:¬1024 < sz x) (hb:¬x.den*64 < x.num.natAbs) (hx0:x≠0) (hg:∀{h0 h:PH} {a:Value} [Le h0 h],Cn h0 a x→Spec mach g #[a,.int .i64 p] h (fun r h'=>Be h' r y z) NP):
    Spec mach 34 #[.int .i64 1,v,.int .i64 p,.func (.func g) #[] #[]] h (fun r h'=>Be h' r y z) NP:=by
  have kK:=fun {h} [Le h0 h]=>EReady_exp (h:=h) hx hp hl hb
  have e1:exB 1 x=false:=by unfold exB;rw[if_neg (by decide)];exact decide_eq_false hx0
  have kE:=fun {h1 h:PH} {a:Value} [Le h1 h] (c:Cn h1 a x)=>EExact_spec (h:=h) (fn:=1) c
  rw[e1] at kE
  obtain⟨_,_,_,_,_,_,_,rfl,_⟩:=hx.sa
  refine Spec.go [] Tryz.func34 rfl rfl (by kernel_rfl) fun C _=>?_
  try simp(disch:=omega) only[go_sem,Nat.reduceBEq,Nat.reduceAdd]
  refine caN (by exact kK) ?_;rintro v1 h1 s1 ⟨_,_,_,_,_,_,_,rfl,c⟩
  try simp(disch:=omega) only[go_sem,Nat.reduceBEq,Nat.reduceAdd]
  refine caN (by exact kE c) ?_;rintro v2 h2 s2 ⟨_,_,_,_,_,_,_,rfl,_⟩
  try simp(disch:=omega) only[go_sem,Nat.reduceBEq,Nat.reduceAdd]
  refine caN (by exact hg (c.to (h':=h2))) ?_;rintro v3 h3 s3 ⟨_,_,_,_,_,_,_,_,_,_,_,_,_,_,rfl,q3⟩
  try simp(disch:=omega) only[go_sem,Nat.reduceBEq,Nat.reduceAdd]
  exact⟨_,_,_,_,_,_,_,_,_,_,_,_,_,_,rfl,q3⟩
theorem FExp_ok {h0 h:PH} [Le h0 h] {v:Value} {x:Rat} {p:Nat} (hx:Rv h0 v x) (hp:p≤128) (hl:¬1024 < sz x) (hb:¬x.den*64 < x.num.natAbs) (hx0:x≠0):Spec mach 35 #[v,.int .i64 p] h (fun r h'=>Be h' r (expLo x p) (expHi x p)) NP:=by
  have kA:=fun {h} [Le h0 h]=>EApply_exp (h:=h) (p:=p) (g:=25) hx (by omega) hl hb hx0 (fun {h0 h a} _ c=>EExp_spec c (by omega) hb hp)
  obtain⟨_,_,_,_,_,_,_,rfl,_⟩:=hx.sa
  clear hl hb
  refine Spec.go [] Tryz.func35 rfl rfl (by kernel_rfl) fun C _=>?_
  try simp(disch:=omega) only[go_sem,Nat.reduceBEq,Nat.reduceAdd]
  refine caN (by exact kA) ?_;rintro v1 h1 s1 ⟨_,_,_,_,_,_,_,_,_,_,_,_,_,_,rfl,r1,r2⟩
  try simp(disch:=omega) only[go_sem,Nat.reduceBEq,Nat.reduceAdd]
  exact⟨_,_,_,_,_,_,_,_,_,_,_,_,_,_,rfl,r1,r2⟩
end Go.Q
namespace Go.Q
open Go.Proofs
set_option maxRecDepth 100000
set_option maxHeartbeats 8000000
theorem RFrac2_spec {h:PH} {a b:Nat} (ha:a < 2^20) (hb:b < 2^20):Spec mach 37 #[.int .i64 a,.int .i64 b] h (fun v h'=>Qr h' v ((a:Rat) / (b:Rat))) NP:=by
  have S:∀{n:Nat},n < 2^20→sz (((n:Int)):Rat)≤2^35:=by
    intro n hn
    unfold sz
    have e1:bl ((((n:Int)):Rat).num.natAbs)≤64:=bl_le.2 (by simp;omega)
    have e2:bl ((((n:Int)):Rat).den)≤64:=bl_le.2 (by simp)
    omega
  have b1:=S ha
  have b2:=S hb
  have e:((((a:Int)):Rat) / (((b:Int)):Rat))=(a:Rat) / (b:Rat):=rfl
  refine Spec.go [] Tryz.func37 rfl rfl (by kernel_rfl) fun C _=>?_
  try simp(disch:=omega) only[go_sem,Nat.reduceBEq,Nat.reduceAdd]
  refine caN (by exact QInt_spec (n:=a) (by omega) (by omega)) ?_;rintro v1 g1 s1 q1;obtain⟨_,_,_,_,_,_,_,rfl,q1⟩:=q1.sa
  try simp(disch:=omega) only[go_sem,Nat.reduceBEq,Nat.reduceAdd]
  refine caN (by exact QInt_spec (n:=b) (by omega) (by omega)) ?_;rintro v2 g2 s2 q2;obtain⟨_,_,_,_,_,_,_,rfl,q2⟩:=q2.sa
  try simp(disch:=omega) only[go_sem,Nat.reduceBEq,Nat.reduceAdd]
  refine caN (by exact QDiv_spec (q1.to (h':=g2)) q2 b1 b2) ?_;rintro v3 g3 s3 q3;rw[e] at q3;obtain⟨_,_,_,_,_,_,_,rfl,q3⟩:=q3.sa
  try simp(disch:=omega) only[go_sem,Nat.reduceBEq,Nat.reduceAdd]
  exact q3
theorem exp_sane1:expLo 1 3=((21:Nat):Rat) / ((8:Nat):Rat):=by
  unfold expLo
  rw[if_neg (by decide),show expL 1 3 / 2^112=21 by decide+kernel]
  decide+kernel
theorem exp_sane2:expHi 1 3=((11:Nat):Rat) / ((4:Nat):Rat):=by
  unfold expHi
  rw[if_neg (by decide),show cdiv (expH 1 3) (2^112)=22 by decide+kernel]
  decide+kernel
theorem one_rv {h:PH} {b:Nat} (hb:h b=some #[.int .u32 1]):Rv h (.agg #[.bool false,.slice (some ⟨b,0,none⟩) 1 1,.slice none 0 0]) 1:=by
  have e:qof false 1 0=1:=by decide+kernel
  refine⟨false,1,0,⟨some ⟨b,0,none⟩,1,[1],none,0,[],rfl,Arr.of_row (fun _=>hb) (by decide) (by decide) (by decide),Arr.nil _,rfl,rfl,by decide,by decide⟩,?_,e⟩
  unfold lg
  rw[e]
  decide+kernel
theorem sane_spec {h:PH}:Spec mach 8 #[] h (fun r _=>r=.bool true) NP:=by
  have z1:sz (((21:Nat):Rat) / ((8:Nat):Rat))≤2^30:=by decide+kernel
  have z2:sz (((11:Nat):Rat) / ((4:Nat):Rat))≤2^30:=by decide+kernel
  have e1:decide (((21:Nat):Rat) / ((8:Nat):Rat)=((21:Nat):Rat) / ((8:Nat):Rat))=true:=decide_eq_true rfl
  have e2:decide (((11:Nat):Rat) / ((4:Nat):Rat)=((11:Nat):Rat) / ((4:Nat):Rat))=true:=decide_eq_true rfl
  have z1:=Hid.mk z1
  have z2:=Hid.mk z2
  refine Spec.go [(1,.t (.s [0] (.p 0 (.s [1,2,3,4,5,6,7,8] .d))))] Tryz.func8 rfl rfl (by kernel_rfl) fun C _=>?_
  try simp(disch:=omega) only[go_sem,Nat.reduceBEq,Nat.reduceAdd]
  intro b h1 st1 hb
  try simp(disch:=omega) only[go_sem,Nat.reduceBEq,Nat.reduceAdd]
  have hb:=hb (by simp[uw])
  try simp(disch:=omega) only[go_sem,Nat.reduceBEq,Nat.reduceAdd]
  refine caN (by exact FExp_ok (x:=1) (p:=3) (one_rv hb) (by decide) (by decide) (by decide) (by decide)) ?_;rintro v2 h2 s2 ⟨_,_,_,_,_,_,_,_,_,_,_,_,_,_,rfl,r1,r2⟩
  try simp(disch:=omega) only[go_sem,Nat.reduceBEq,Nat.reduceAdd]
  rw[exp_sane1] at r1
  rw[exp_sane2] at r2
  try simp(disch:=omega) only[go_sem,Nat.reduceBEq,Nat.reduceAdd]
  refine caN (by exact RFrac2_spec (a:=21) (b:=8) (by decide) (by decide)) ?_;rintro v3 h3 s3 q3;obtain⟨_,_,_,_,_,_,_,rfl,q3⟩:=q3.sa
  try simp(disch:=omega) only[go_sem,Nat.reduceBEq,Nat.reduceAdd]
  refine caN (by exact Right_spec (r1.to (h':=h3)) q3 z1.out z1.out) ?_;rintro v4 h4 s4 rfl
  try simp(disch:=omega) only[go_sem,Nat.reduceBEq,Nat.reduceAdd,e1,decide_true]
  refine caN (by exact RFrac2_spec (a:=11) (b:=4) (by decide) (by decide)) ?_;rintro v5 h5 s5 q5;obtain⟨_,_,_,_,_,_,_,rfl,q5⟩:=q5.sa
  try simp(disch:=omega) only[go_sem,Nat.reduceBEq,Nat.reduceAdd]
  refine caN (by exact Right_spec (r2.to (h':=h5)) q5 z2.out z2.out) ?_;rintro v6 h6 s6 rfl
  try simp(disch:=omega) only[go_sem,Nat.reduceBEq,Nat.reduceAdd,e2,decide_true]
end Go.Q
namespace Go.Q
open Go.Proofs
set_option maxRecDepth 100000
set_option maxHeartbeats 16000000
end Go.Q
namespace Go.Q
open Go.Proofs
set_option maxRecDepth 100000
set_option maxHeartbeats 8000000
theorem Rw.sz35 {h:PH} {v:Value} {neg:Bool} {n d:Nat} (r:Rw h v neg n d):sz (qof neg n d)≤2^35:=by
  obtain⟨a,c,xs,a',c',ys,rfl,ha,ha',en,ed,lx,ly⟩:=r
  have bn:=val_bl ha.lt
  have bd:=val_bl ha'.lt
  rw[en] at bn
  rw[ed] at bd
  have b:=sz_sgn neg n (dz_ne d)
  have b':bl (dz d)≤max (bl d) 1:=by unfold dz;split;exact Nat.le_max_right _ _;exact Nat.le_max_left _ _
  unfold qof
  omega
theorem QCmp35 {h0 h:PH} [Le h0 h] {v w:Value} {x y:Rat} (hx:Qr h0 v x) (hy:Qr h0 w y) (bx:sz x≤2^35) (by_:sz y≤2^35):Spec mach 12 #[v,w] h (fun v _=>v=.int .i64 (cmpQ x y)) NP:=by
  obtain⟨_,_,_,_,_,_,_,rfl,hx⟩:=hx.sa
  obtain⟨_,_,_,_,_,_,_,rfl,hy⟩:=hy.sa
  refine Spec.go [] Tryz.func12 rfl rfl (by kernel_rfl) fun C _=>?_
  try simp(disch:=omega) only[go_sem,Nat.reduceBEq,Nat.reduceAdd]
  refine caN (by exact Diff_spec hx hy bx by_) ?_;rintro v1 h1 s1 q1;obtain⟨_,_,_,_,_,_,_,rfl,q1⟩:=q1.sa
  try simp(disch:=omega) only[go_sem,Nat.reduceBEq,Nat.reduceAdd]
  refine caN (by exact Sgn_spec q1) ?_;rintro v2 h2 s2 rfl
  try simp(disch:=omega) only[go_sem,Nat.reduceBEq,Nat.reduceAdd]
  rw[sgn3_sub]
end Go.Q
namespace Go.Q
open Go.Proofs
set_option maxRecDepth 100000
set_option maxHeartbeats 8000000
theorem cmpQ_gtO {x y:Rat}:decide (cmpQ x y > 0)=decide (y < x):=by unfold cmpQ;grind
theorem ord_law {fn:Int} {x y:Rat} {p:Int} (f3:fn≠3) (f4:fn≠4) (f5:fn≠5) (h:x≤y) (f7:fn≠7) (hx:brE fn x p=0) (hy:brE fn y p=0):brL fn x p≤brH fn y p:=by
  have:=(eErr_p (br_e hx)).1
  exact br_ord (by omega) h hx hy
theorem Order_law {h0 h:PH} [Le h0 h] {v w:Value} {ng mg:Bool} {nn nd mn md:Nat} {fn:Int} (hv:Rw h0 v ng nn nd) (hw:Rw h0 w mg mn md):Spec mach 5 #[.int .i64 fn,v,w] h (fun q _=>q=.bool true) NP:=by
  have kO:=fun {h} [Le h0 h]=>QOf_spec (h:=h) hv
  have kP:=fun {h} [Le h0 h]=>QOf_spec (h:=h) hw
  have bx:=hv.sz35
  have by_:=hw.sz35
  generalize qof ng nn nd=x at*
  generalize qof mg mn md=y at*
  obtain⟨_,_,_,_,_,_,_,rfl,_⟩:=hv.sa
  obtain⟨_,_,_,_,_,_,_,rfl,_⟩:=hw.sa
  clear hv hw
  by_cases f3:fn=3
  · subst f3
    refine Spec.go [(1,.h [] [] [4,5] [4,5,0,2,1,3,6,7]),(10,.h [(11,10)] [] [] [0,1,2,3])] Tryz.func5 rfl rfl (by kernel_rfl) fun C _=>?_
    try simp(disch:=omega) only[go_sem,Nat.reduceBEq,Nat.reduceAdd]
    refine caN (by exact kO) ?_;rintro v1 h1 s1 q1;obtain⟨_,_,_,_,_,_,_,rfl,q1⟩:=q1.sa
    try simp(disch:=omega) only[go_sem,Nat.reduceBEq,Nat.reduceAdd]
    refine caN (by exact kP) ?_;rintro v2 h2 s2 q2;obtain⟨_,_,_,_,_,_,_,rfl,q2⟩:=q2.sa
    try simp(disch:=omega) only[go_sem,Nat.reduceBEq,Nat.reduceAdd]
    refine caN (by exact sane_spec) ?_;rintro v3 h3 s3 rfl
    try simp(disch:=omega) only[go_sem,Nat.reduceBEq,Nat.reduceAdd]
  by_cases f4:fn=4
  · subst f4
    refine Spec.go [(1,.h [] [] [4,5] [4,5,0,2,1,3,6,7]),(10,.h [(11,10)] [] [] [0,1,2,3])] Tryz.func5 rfl rfl (by kernel_rfl) fun C _=>?_
    try simp(disch:=omega) only[go_sem,Nat.reduceBEq,Nat.reduceAdd]
    refine caN (by exact kO) ?_;rintro v1 h1 s1 q1;obtain⟨_,_,_,_,_,_,_,rfl,q1⟩:=q1.sa
    try simp(disch:=omega) only[go_sem,Nat.reduceBEq,Nat.reduceAdd]
    refine caN (by exact kP) ?_;rintro v2 h2 s2 q2;obtain⟨_,_,_,_,_,_,_,rfl,q2⟩:=q2.sa
    try simp(disch:=omega) only[go_sem,Nat.reduceBEq,Nat.reduceAdd]
    refine caN (by exact sane_spec) ?_;rintro v3 h3 s3 rfl
    try simp(disch:=omega) only[go_sem,Nat.reduceBEq,Nat.reduceAdd]
  by_cases f5:fn=5
  · subst f5
    refine Spec.go [(1,.h [] [] [4,5] [4,5,0,2,1,3,6,7]),(10,.h [(11,10)] [] [] [0,1,2,3])] Tryz.func5 rfl rfl (by kernel_rfl) fun C _=>?_
    try simp(disch:=omega) only[go_sem,Nat.reduceBEq,Nat.reduceAdd]
    refine caN (by exact kO) ?_;rintro v1 h1 s1 q1;obtain⟨_,_,_,_,_,_,_,rfl,q1⟩:=q1.sa
    try simp(disch:=omega) only[go_sem,Nat.reduceBEq,Nat.reduceAdd]
    refine caN (by exact kP) ?_;rintro v2 h2 s2 q2;obtain⟨_,_,_,_,_,_,_,rfl,q2⟩:=q2.sa
    try simp(disch:=omega) only[go_sem,Nat.reduceBEq,Nat.reduceAdd]
    refine caN (by exact sane_spec) ?_;rintro v3 h3 s3 rfl
    try simp(disch:=omega) only[go_sem,Nat.reduceBEq,Nat.reduceAdd]
  have e3:(fn == 3)=false:=by simpa using f3
  have e4:(fn == 4)=false:=by simpa using f4
  have e5:(fn == 5)=false:=by simpa using f5
  have eg:=cmpQ_gtO (x:=x) (y:=y)
  have kC:=fun {h1 h:PH} {v w:Value} [Le h1 h] (p:Qr h1 v x) (q:Qr h1 w y)=>QCmp35 (h:=h) p q bx by_
  by_cases hyx:y < x
  · rw[decide_eq_true hyx] at eg
    refine Spec.go [(1,.h [] [] [4,5] [4,5,0,2,1,3,6,7]),(10,.h [(11,10)] [] [] [0,1,2,3])] Tryz.func5 rfl rfl (by kernel_rfl) fun C _=>?_
    try simp(disch:=omega) only[go_sem,Nat.reduceBEq,Nat.reduceAdd]
    refine caN (by exact kO) ?_;rintro v1 h1 s1 q1;obtain⟨_,_,_,_,_,_,_,rfl,q1⟩:=q1.sa
    try simp(disch:=omega) only[go_sem,Nat.reduceBEq,Nat.reduceAdd]
    refine caN (by exact kP) ?_;rintro v2 h2 s2 q2;obtain⟨_,_,_,_,_,_,_,rfl,q2⟩:=q2.sa
    try simp(disch:=omega) only[go_sem,Nat.reduceBEq,Nat.reduceAdd,e3,e4,e5]
    refine caN (by exact kC (q1.to (h':=h2)) q2) ?_;rintro v3 h3 s3 rfl
    try simp(disch:=omega) only[go_sem,Nat.reduceBEq,Nat.reduceAdd,eg]
    refine caN (by exact sane_spec) ?_;rintro v4 h4 s4 rfl
    try simp(disch:=omega) only[go_sem,Nat.reduceBEq,Nat.reduceAdd]
  rw[decide_eq_false hyx] at eg
  have hxy:x≤y:=by grind
  have L:=fun p=>ord_law (fn:=fn) (p:=p) f3 f4 f5 hxy
  have L7:=fun p=>br_ord7 (p:=p) hxy
  have kA':=fun {h0 h:PH} {w:Value} [Le h0 h] (p:Int) (c:Qr h0 w x)=>LBracket_spec (h:=h) (fn:=fn) (p:=p) (Apply_rise f3 f4 f5) c bx
  have kB':=fun {h0 h:PH} {w:Value} [Le h0 h] (p:Int) (c:Qr h0 w y)=>LBracket_spec (h:=h) (fn:=fn) (p:=p) (Apply_rise f3 f4 f5) c by_
  have Z:=fun p=>br_sz fn x p
  have Z':=fun p=>br_sz fn y p
  clear hxy hyx bx by_ f3 f4 f5
  refine Spec.go [(1,.h [] [] [4,5] [4,5,0,2,1,3,6,7]),(10,.h [(11,10)] [] [] [0,1,2,3])] Tryz.func5 rfl rfl (by kernel_rfl) fun C _=>?_
  try simp(disch:=omega) only[go_sem,Nat.reduceBEq,Nat.reduceAdd]
  refine caN (by exact kO) ?_;rintro v1 h1 s1 q1;obtain⟨b1,a1,l1,c1,a2,l2,c2,rfl,q1⟩:=q1.sa
  try simp(disch:=omega) only[go_sem,Nat.reduceBEq,Nat.reduceAdd]
  refine caN (by exact kP) ?_;rintro v2 h2 s2 q2;obtain⟨b2,a3,l3,c3,a4,l4,c4,rfl,q2⟩:=q2.sa
  try simp(disch:=omega) only[go_sem,Nat.reduceBEq,Nat.reduceAdd,e3,e4,e5]
  refine caN (by exact kC (q1.to (h':=h2)) q2) ?_;rintro v3 h3 s3 rfl
  try simp(disch:=omega) only[go_sem,Nat.reduceBEq,Nat.reduceAdd,eg]
  clear kO kP kC eg e3 e4 e5
  refine lpSl [(10,.h [(11,10)] [] [] [0,1,2,3])] (fun i:Nat=>⟨[(0,.v (.int .i64 fn)),(7,.p 0 0),(8,.p 1 0),(9,.v (.int .i64 (16*(i:Int))))],[[.bool b1,.slice a1 l1 c1,.slice a2 l2 c2],[.bool b2,.slice a3 l3 c3,.slice a4 l4 c4]]⟩) (fun i h'=>Le h3 h'∧i≤5) (fun i=>5 - i) 0 [2,3] ?_ ⟨inferInstance,by omega⟩ (by kernel_rfl) ?_
  · try simp(disch:=omega) only[go_sem,Nat.reduceBEq,Nat.reduceAdd,nodupB]
    all_goals rfl
  · rintro i h4 ⟨le4,hi⟩
    have le1:Le h1 h4:=Le.trn (b:=h3) inferInstance le4
    have le2:Le h2 h4:=Le.trn (b:=h3) inferInstance le4
    by_cases i5:i=5
    · subst i5
      try simp(disch:=omega) only[go_sem,Nat.reduceBEq,Nat.reduceAdd]
      refine caN (by exact sane_spec) ?_;rintro v5 h5 s5 rfl
      try simp(disch:=omega) only[go_sem,Nat.reduceBEq,Nat.reduceAdd]
    have el:decide (16*(i:Int)≤64)=true:=decide_eq_true (by omega)
    have ew:IntKind.i64.wrap (16*(i:Int)+16)=16*((i+1:Nat):Int):=by rw[wi64 (by omega) (by omega)];omega
    obtain⟨z1,z2⟩:=Z (16*(i:Int))
    obtain⟨z3,z4⟩:=Z' (16*(i:Int))
    have kA:=fun {h0 h:PH} {w:Value} [Le h0 h] (c:Qr h0 w x)=>kA' (h:=h) (16*(i:Int)) c
    have kB:=fun {h0 h:PH} {w:Value} [Le h0 h] (c:Qr h0 w y)=>kB' (h:=h) (16*(i:Int)) c
    have L:=L (16*(i:Int))
    have L7:=L7 (16*(i:Int))
    obtain⟨ok,hok⟩:∃b,decide (brE fn x (16*(i:Int))=0)=b:=⟨_,rfl⟩
    obtain⟨is,his⟩:∃b,decide (brE fn y (16*(i:Int))=0)=b:=⟨_,rfl⟩
    rw[hok] at kA
    rw[his] at kB
    clear kA' kB' Z Z'
    by_cases f7:fn=7
    · subst f7
      clear L
      have e7:((7:Int) == 7)=true:=rfl
      have ec:ok=true→is=true→decide (cmpQ (brL 7 y (16*(i:Int))) (brH 7 x (16*(i:Int))) > 0)=false:=fun k1 k2=>by
        subst k1 k2
        rw[cmpQ_gtO]
        have:=L7 (of_decide_eq_true hok) (of_decide_eq_true his)
        exact decide_eq_false (by grind)
      generalize brL 7 x (16*(i:Int))=A at*
      generalize brH 7 x (16*(i:Int))=B at*
      generalize brL 7 y (16*(i:Int))=C at*
      generalize brH 7 y (16*(i:Int))=D at*
      clear hok his L7
      cases ok
      · clear ec
        try simp(disch:=omega) only[go_sem,Nat.reduceBEq,Nat.reduceAdd,el]
        refine caN (by exact kA (q1.to (h':=h4))) ?_;rintro v5 h5 s5 ⟨_,_,_,_,_,_,_,_,_,_,_,_,_,_,rfl,r1,r2⟩
        try simp(disch:=omega) only[go_sem,Nat.reduceBEq,Nat.reduceAdd]
        refine caN (by exact kB (q2.to (h':=h5))) ?_;rintro v6 h6 s6 ⟨_,_,_,_,_,_,_,_,_,_,_,_,_,_,rfl,r3,r4⟩
        try simp(disch:=omega) only[go_sem,Nat.reduceBEq,Nat.reduceAdd,e7,ew]
        dsimp only[lpS];refine⟨i+1,[0,1],?_,⟨Le.trn le4 inferInstance,by omega⟩,by show 5 - (i+1) < 5 - i;omega⟩
        try simp(disch:=omega) only[go_sem,Nat.reduceBEq,Nat.reduceAdd,nodupB]
        all_goals (first |rfl |exact⟨rfl,by rw[ew]⟩)
      · cases is
        · clear ec
          try simp(disch:=omega) only[go_sem,Nat.reduceBEq,Nat.reduceAdd,el]
          refine caN (by exact kA (q1.to (h':=h4))) ?_;rintro v5 h5 s5 ⟨_,_,_,_,_,_,_,_,_,_,_,_,_,_,rfl,r1,r2⟩
          try simp(disch:=omega) only[go_sem,Nat.reduceBEq,Nat.reduceAdd]
          refine caN (by exact kB (q2.to (h':=h5))) ?_;rintro v6 h6 s6 ⟨_,_,_,_,_,_,_,_,_,_,_,_,_,_,rfl,r3,r4⟩
          try simp(disch:=omega) only[go_sem,Nat.reduceBEq,Nat.reduceAdd,e7,ew]
          dsimp only[lpS];refine⟨i+1,[0,1],?_,⟨Le.trn le4 inferInstance,by omega⟩,by show 5 - (i+1) < 5 - i;omega⟩
          try simp(disch:=omega) only[go_sem,Nat.reduceBEq,Nat.reduceAdd,nodupB]
          all_goals (first |rfl |exact⟨rfl,by rw[ew]⟩)
        · have ec:=ec rfl rfl
          try simp(disch:=omega) only[go_sem,Nat.reduceBEq,Nat.reduceAdd,el]
          refine caN (by exact kA (q1.to (h':=h4))) ?_;rintro v5 h5 s5 ⟨_,_,_,_,_,_,_,_,_,_,_,_,_,_,rfl,r1,r2⟩
          try simp(disch:=omega) only[go_sem,Nat.reduceBEq,Nat.reduceAdd]
          refine caN (by exact kB (q2.to (h':=h5))) ?_;rintro v6 h6 s6 ⟨_,_,_,_,_,_,_,_,_,_,_,_,_,_,rfl,r3,r4⟩
          try simp(disch:=omega) only[go_sem,Nat.reduceBEq,Nat.reduceAdd,e7]
          refine caN (by exact QCmp_spec (r3.to (h':=h6)) (r2.to (h':=h6)) (Nat.le_trans z3 (by decide)) (Nat.le_trans z2 (by decide))) ?_;rintro v7 h7 s7 rfl
          try simp(disch:=omega) only[go_sem,Nat.reduceBEq,Nat.reduceAdd,ec,ew]
          dsimp only[lpS];refine⟨i+1,[0,1],?_,⟨Le.trn le4 inferInstance,by omega⟩,by show 5 - (i+1) < 5 - i;omega⟩
          try simp(disch:=omega) only[go_sem,Nat.reduceBEq,Nat.reduceAdd,nodupB]
          all_goals (first |rfl |exact⟨rfl,by rw[ew]⟩)
    · have e7:(fn == 7)=false:=by simpa using f7
      clear L7
      have ec:ok=true→is=true→decide (cmpQ (brL fn x (16*(i:Int))) (brH fn y (16*(i:Int))) > 0)=false:=fun k1 k2=>by
        subst k1 k2
        rw[cmpQ_gtO]
        have:=L f7 (of_decide_eq_true hok) (of_decide_eq_true his)
        exact decide_eq_false (by grind)
      generalize brL fn x (16*(i:Int))=A at*
      generalize brH fn x (16*(i:Int))=B at*
      generalize brL fn y (16*(i:Int))=C at*
      generalize brH fn y (16*(i:Int))=D at*
      clear hok his L f7
      cases ok
      · clear ec
        try simp(disch:=omega) only[go_sem,Nat.reduceBEq,Nat.reduceAdd,el]
        refine caN (by exact kA (q1.to (h':=h4))) ?_;rintro v5 h5 s5 ⟨_,_,_,_,_,_,_,_,_,_,_,_,_,_,rfl,r1,r2⟩
        try simp(disch:=omega) only[go_sem,Nat.reduceBEq,Nat.reduceAdd]
        refine caN (by exact kB (q2.to (h':=h5))) ?_;rintro v6 h6 s6 ⟨_,_,_,_,_,_,_,_,_,_,_,_,_,_,rfl,r3,r4⟩
        try simp(disch:=omega) only[go_sem,Nat.reduceBEq,Nat.reduceAdd,e7,ew]
        dsimp only[lpS];refine⟨i+1,[0,1],?_,⟨Le.trn le4 inferInstance,by omega⟩,by show 5 - (i+1) < 5 - i;omega⟩
        try simp(disch:=omega) only[go_sem,Nat.reduceBEq,Nat.reduceAdd,nodupB]
        all_goals (first |rfl |exact⟨rfl,by rw[ew]⟩)
      · cases is
        · clear ec
          try simp(disch:=omega) only[go_sem,Nat.reduceBEq,Nat.reduceAdd,el]
          refine caN (by exact kA (q1.to (h':=h4))) ?_;rintro v5 h5 s5 ⟨_,_,_,_,_,_,_,_,_,_,_,_,_,_,rfl,r1,r2⟩
          try simp(disch:=omega) only[go_sem,Nat.reduceBEq,Nat.reduceAdd]
          refine caN (by exact kB (q2.to (h':=h5))) ?_;rintro v6 h6 s6 ⟨_,_,_,_,_,_,_,_,_,_,_,_,_,_,rfl,r3,r4⟩
          try simp(disch:=omega) only[go_sem,Nat.reduceBEq,Nat.reduceAdd,e7,ew]
          dsimp only[lpS];refine⟨i+1,[0,1],?_,⟨Le.trn le4 inferInstance,by omega⟩,by show 5 - (i+1) < 5 - i;omega⟩
          try simp(disch:=omega) only[go_sem,Nat.reduceBEq,Nat.reduceAdd,nodupB]
          all_goals (first |rfl |exact⟨rfl,by rw[ew]⟩)
        · have ec:=ec rfl rfl
          try simp(disch:=omega) only[go_sem,Nat.reduceBEq,Nat.reduceAdd,el]
          refine caN (by exact kA (q1.to (h':=h4))) ?_;rintro v5 h5 s5 ⟨_,_,_,_,_,_,_,_,_,_,_,_,_,_,rfl,r1,r2⟩
          try simp(disch:=omega) only[go_sem,Nat.reduceBEq,Nat.reduceAdd]
          refine caN (by exact kB (q2.to (h':=h5))) ?_;rintro v6 h6 s6 ⟨_,_,_,_,_,_,_,_,_,_,_,_,_,_,rfl,r3,r4⟩
          try simp(disch:=omega) only[go_sem,Nat.reduceBEq,Nat.reduceAdd,e7]
          refine caN (by exact QCmp_spec (r1.to (h':=h6)) (r4.to (h':=h6)) (Nat.le_trans z1 (by decide)) (Nat.le_trans z4 (by decide))) ?_;rintro v7 h7 s7 rfl
          try simp(disch:=omega) only[go_sem,Nat.reduceBEq,Nat.reduceAdd,ec,ew]
          dsimp only[lpS];refine⟨i+1,[0,1],?_,⟨Le.trn le4 inferInstance,by omega⟩,by show 5 - (i+1) < 5 - i;omega⟩
          try simp(disch:=omega) only[go_sem,Nat.reduceBEq,Nat.reduceAdd,nodupB]
          all_goals (first |rfl |exact⟨rfl,by rw[ew]⟩)
end Go.Q
