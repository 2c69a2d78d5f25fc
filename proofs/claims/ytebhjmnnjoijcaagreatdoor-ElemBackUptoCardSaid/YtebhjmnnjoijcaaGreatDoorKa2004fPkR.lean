/-
  The exponential of a sum is the product of the exponentials, as far as the bounds show it: no program. Conditions: the numbers' absolute values are at most 64.
  What Turns returns. Conditions: the ends are numbers as they come in.
  Quarter turns in a range: a wide range has them; a wider one has what a narrower one has. Plain. Conditions: none.
  The reference's helpers of layer 2: natural numbers, quotients rounded, numbers of a grid; its domains and exact values. Conditions: the values are natural numbers (N16) and numbers (Qr).
  The reference of layer 2: its grid, the series of the arctangent, pi. Conditions: the values are natural numbers (N16) and numbers (Qr).
  Contracts of package elem: the argument of exp made ready; what Exp returns. Conditions: the argument is small enough, the value is not exact.
  The statements' check of one bracket (sane); the statement ElemPi. Conditions: none.
  The reference of layer 2: quarter turns. Conditions: the values are numbers (Qr).
  The statement ElemInverse. Conditions: the argument is a number as it comes in (Rw).
  The values of sine, cosine and tangent and their brackets: no program. Conditions: the number has a bracket.
  The addition theorems and the brackets: no program. Conditions: the numbers have brackets.
  The exponential's sum of 361 terms and its 256th part's power: no program. Conditions: the numbers are at most 1 (256).
  The logarithm's sum of 150 terms: the logarithm of a product, but for very little: no program. Conditions: the numbers are from 1 to 4.
  The logarithm's brackets and its value: no program. Conditions: the numbers are above 0.
  The logarithm's bounds from 1 to 2 and how they rise: no program. Conditions: the numbers are from 1 to 2.
  The exponential of the logarithm's bounds: no program. Conditions: the numbers' exponents are at most 131.
  The logarithm leads back from the exponential's bounds: no program. Conditions: the number's absolute value is at most 64.
-/
import Derived.Test.YtebhjmnnjoijcaaGreatDoorK825e48PkQ
import Derived.Test.YtebhjmnnjoijcaaGreatDoorK01b216PkF
import Derived.Test.YtebhjmnnjoijcaaGreatDoorK8b1465PkN
import Derived.Test.YtebhjmnnjoijcaaGreatDoorK971113PkK
import Derived.Test.YtebhjmnnjoijcaaGreatDoorKcdd313PkL
import Derived.Test.YtebhjmnnjoijcaaGreatDoorK29a9a5PkM
import Derived.Test.YtebhjmnnjoijcaaGreatDoorK0cb377PkP
set_option linter.unusedVariables false
set_option linter.unusedSimpArgs false
open Nat (reduceAdd)
namespace Go.Q
set_option maxRecDepth 100000
set_option maxHeartbeats 4000000
def eN (t:Rat):Rat:=eS t 361
theorem G5:∀k,(icq 1 k).1+(icq 1 k).2=1
  |0=>by show(1:Rat)+0=1;grind
  | k+1=>by
    have h:=G5 k
    show 1*(icq 1 k).2+(icq 1 k).1=1
    grind
theorem cs_eS (t:Rat):∀n,cS 1 n t+sS 1 n t=eS t n
  |0=>by show(0:Rat)+0=0;grind
  | n+1=>by
    have h:=cs_eS t n
    have i:=G5 n
    show cS 1 n t+(icq 1 n).1*trm t n+(sS 1 n t+(icq 1 n).2*trm t n)=eS t n+trm t n
    have e:(icq 1 n).1*trm t n+(icq 1 n).2*trm t n=trm t n:=by rw[←Rat.add_mul,i,Rat.one_mul]
    grind
theorem xN {a b:Rat} (ha:Ab a 2) (hb:Ab b 2):Ab (eN a*eN b - eN (a+b)) (2*eps):=by
  obtain⟨h1,h2⟩:=N_add (q:=1) (Ab.self (by decide)) ha hb
  have e1:=cs_eS a 361
  have e2:=cs_eS b 361
  have e3:=cs_eS (a+b) 361
  unfold cNN sNN at*
  unfold eN
  exact(cf (h1.add h2) (by rw[←e1,←e2,←e3];grind)).le (by grind)
theorem qI:eN 0=1:=by
  have h:=cs_eS 0 361
  obtain⟨z1,z2⟩:=rG 1
  unfold cNN sNN at*
  unfold eN
  rw[←h,z1,z2]
  decide+kernel
def exn (t:Rat):Nat→Nat→Rat
  |_,0=>0
  |i,n+1=>1+t*exn t (i+1) n*((i+1:Nat):Rat)⁻¹
theorem GQ (t:Rat):∀n k,exn t 0 (n+k)=eS t n+trm t n*exn t n k
  |0,k=>by rw[Nat.zero_add];show _=0+1*_;grind
  | n+1,k=>by
    have h:=GQ t n (k+1)
    rw[show n+1+k=n+(k+1) by omega,h]
    show eS t n+trm t n*(1+t*exn t (n+1) k*((n+1:Nat):Rat)⁻¹)=eS t n+trm t n+trm t n*t*((n+1:Nat):Rat)⁻¹*exn t (n+1) k
    grind
theorem E7 (t:Rat):eN t=exn t 0 361:=by
  have h:=GQ t 361 0
  rw[Nat.add_zero,show exn t 361 0=0 from rfl,Rat.mul_zero,Rat.add_zero] at h
  exact h.symm
theorem rV {t:Rat} (h0:0≤t) (h1:t≤1 / 4):∀n i,1≤exn t i (n+1)∧exn t i (n+1)≤2
  | 0,i=>by
    show 1≤1+t*0*((i+1:Nat):Rat)⁻¹∧1+t*0*((i+1:Nat):Rat)⁻¹≤2
    have:1+t*0*((i+1:Nat):Rat)⁻¹=1:=by grind
    rw[this];exact⟨Rat.le_refl,by decide⟩
  | n+1,i=>by
    obtain⟨a1,a2⟩:=rV h0 h1 n (i+1)
    obtain⟨p,_,l,_,_⟩:=k_inv i
    show 1≤1+t*exn t (i+1) (n+1)*((i+1:Nat):Rat)⁻¹∧1+t*exn t (i+1) (n+1)*((i+1:Nat):Rat)⁻¹≤2
    generalize((i+1:Nat):Rat)⁻¹=z at*
    generalize exn t (i+1) (n+1)=X at*
    have m0:0≤t*X:=mnn h0 (by grind)
    have m1:t*X≤1 / 4*X:=mlr h1 (by grind)
    have m2:=mnn m0 (llt p)
    have m3:=mll l m0
    exact⟨by grind,by grind⟩
theorem eN_13 {t:Rat} (h0:0≤t) (h1:t≤1 / 4):1≤eN t∧eN t≤13 / 10:=by
  rw[E7]
  have a3:=(rV h0 h1 357 3).2
  have b0:=(rV h0 h1 360 0).1
  have i3:(0:Rat) < ((2+1:Nat):Rat)⁻¹:=by decide+kernel
  have e2:exn t 2 359=1+t*exn t 3 358*(1 / 3):=by show 1+t*exn t 3 358*((2+1:Nat):Rat)⁻¹=_;rw[show((2+1:Nat):Rat)⁻¹=1 / 3 by decide+kernel]
  have e1:exn t 1 360=1+t*exn t 2 359*(1 / 2):=by show 1+t*exn t 2 359*((1+1:Nat):Rat)⁻¹=_;rw[show((1+1:Nat):Rat)⁻¹=1 / 2 by decide+kernel]
  have e0:exn t 0 361=1+t*exn t 1 360:=by show 1+t*exn t 1 360*((0+1:Nat):Rat)⁻¹=_;rw[show((0+1:Nat):Rat)⁻¹=1 by decide+kernel,Rat.mul_one]
  have p3:=(rV h0 h1 357 3).1
  have p2:=(rV h0 h1 358 2).1
  have p1:=(rV h0 h1 359 1).1
  have m3:=mlr h1 (show 0≤exn t 3 358 by grind)
  have m2:=mlr h1 (show 0≤exn t 2 359 by grind)
  have m1:=mlr h1 (show 0≤exn t 1 360 by grind)
  exact⟨b0,by grind⟩
theorem eQ_exn {y:Rat} (h0:0≤y) (h1:y≤64) (m:Nat):∀k,k≤40→eQ y false k≤exn (y*(256:Rat)⁻¹) (40 - k) (k+(m+1))∧exn (y*(256:Rat)⁻¹) (40 - k) (k+(m+1))≤eQ y true k
  | 0,_=>by
    rw[Nat.zero_add]
    have i0:(0:Rat)≤(256:Rat)⁻¹:=by decide+kernel
    have t1:=mlr h1 i0
    rw[show(64:Rat)*(256:Rat)⁻¹=1 / 4 by decide+kernel] at t1
    exact rV (mnn h0 i0) t1 m _
  | k+1,hk=>by
    obtain⟨a1,a2⟩:=eQ_exn h0 h1 m k (by omega)
    rw[eQ_s,eQ_s,show 40 - (k+1)=39 - k by omega,show k+1+(m+1)=(k+(m+1))+1 by omega]
    show _≤1+y*(256:Rat)⁻¹*exn (y*(256:Rat)⁻¹) (39 - k+1) (k+(m+1))*((39 - k+1:Nat):Rat)⁻¹∧1+y*(256:Rat)⁻¹*exn (y*(256:Rat)⁻¹) (39 - k+1) (k+(m+1))*((39 - k+1:Nat):Rat)⁻¹≤_
    rw[show 39 - k+1=40 - k by omega]
    have e:((256*(40 - k):Nat):Rat)⁻¹=((40 - k:Nat):Rat)⁻¹*(256:Rat)⁻¹:=by rw[Rat.natCast_mul,Rat.inv_mul_rev];rfl
    have z0:(0:Rat)≤((40 - k:Nat):Rat)⁻¹:=llt (Rat.inv_pos.2 (by exact_mod_cast (show 0 < 40 - k by omega)))
    have i0:(0:Rat)≤(256:Rat)⁻¹:=by decide+kernel
    rw[e]
    generalize((40 - k:Nat):Rat)⁻¹=z at*
    generalize(256:Rat)⁻¹=i at*
    have yz:0≤y*(z*i):=mnn h0 (mnn z0 i0)
    have m1:=mll a1 yz
    have m2:=mll a2 yz
    exact⟨by grind,by grind⟩
theorem BP (a b:Rat):∀k,sqk (a*b) k=sqk a k*sqk b k
  |0=>rfl
  | k+1=>by
    show sqk (a*b) k*sqk (a*b) k=sqk a k*sqk a k*(sqk b k*sqk b k)
    rw[BP a b k]
    grind
def nB:Nat→Rat
  |0=>7 / 4
  |k+1=>nB k*nB k
def nD:Nat→Rat
  |0=>2*eps
  |k+1=>2*nB k*nD k
theorem D4 {a b:Rat} (ha:Ab a (7 / 4)) (hb:Ab b (7 / 4)) (h:Ab (a - b) (2*eps)):∀k,Ab (sqk a k) (nB k)∧Ab (sqk b k) (nB k)∧Ab (sqk a k - sqk b k) (nD k)
  |0=>⟨ha,hb,h⟩
  | k+1=>by
    obtain⟨h1,h2,h3⟩:=D4 ha hb h k
    have m:=h3.mul (h1.add h2)
    refine⟨h1.mul h1,h2.mul h2,?_⟩
    show Ab (sqk a k*sqk a k - sqk b k*sqk b k) (2*nB k*nD k)
    exact(cf m (by grind)).le (by grind)
def dl:Rat:=nD 8
theorem sqk_13 {a:Rat} (h1:1≤a) (h2:a≤13 / 10):1≤sqk a 8∧sqk a 8≤2^98:=by
  obtain⟨k1,k2⟩:=lK h1 h2 8
  exact⟨k1,Rat.le_trans k2 (by decide+kernel)⟩
def xE (x:Rat):Rat:=sqk (eN (x*(256:Rat)⁻¹)) 8
theorem t_64 {x:Rat} (h:Ab x 64):Ab (x*(256:Rat)⁻¹) (1 / 4):=by
  have:=h.mul (Ab.self (show(0:Rat)≤(256:Rat)⁻¹ by decide+kernel))
  rw[show(64:Rat)*(256:Rat)⁻¹=1 / 4 by decide+kernel] at this
  exact this
theorem eN_neg {t:Rat} (h0:0≤t) (h1:t≤1 / 4):Ab (eN (-t)) (7 / 5)∧0≤eN (-t):=by
  obtain⟨a1,a2⟩:=eN_13 h0 h1
  have k:=xN (a:=t) (b:=-t) ⟨by grind,by grind⟩ ⟨by grind,by grind⟩
  have e:t+ -t=0:=by grind
  rw[e,qI] at k
  obtain⟨k1,k2⟩:=k
  have e1:2*eps≤1 / 5:=by decide+kernel
  have pos:0≤eN (-t):=by
    refine Rat.not_lt.1 fun c=>?_
    have:=mnn (show 0≤eN t by grind) (show 0≤ -eN (-t) by grind)
    grind
  have up:eN (-t)≤eN t*eN (-t):=by
    have:=mlr a1 pos
    grind
  exact⟨⟨by grind,by grind⟩,pos⟩
theorem eN_ab {t:Rat} (h:Ab t (1 / 4)):Ab (eN t) (7 / 5)∧0≤eN t∧(0≤t→Ab (eN t) (13 / 10)):=by
  obtain⟨h1,h2⟩:=h
  by_cases p:0≤t
  · obtain⟨a1,a2⟩:=eN_13 p h2
    exact⟨⟨by grind,by grind⟩,by grind,fun _=>⟨by grind,by grind⟩⟩
  · obtain⟨a1,a2⟩:=eN_neg (t:=-t) (by grind) (by grind)
    rw[Rat.neg_neg] at a1 a2
    exact⟨a1,a2,fun c=>absurd c p⟩
theorem dl_num:0≤dl∧(4*2^98+4)*dl*2^256 < 1∧dl≤1:=by decide+kernel
theorem eN_mul {a b:Rat} (ha:Ab a (1 / 4)) (hb:Ab b (1 / 4)) (hs:Ab (a+b) (1 / 4)):Ab (sqk (eN a) 8*sqk (eN b) 8 - sqk (eN (a+b)) 8) dl:=by
  have k:=xN (ha.le (by decide+kernel)) (hb.le (by decide+kernel))
  obtain⟨a1,a2,a3⟩:=eN_ab ha
  obtain⟨b1,b2,b3⟩:=eN_ab hb
  obtain⟨c1,_,_⟩:=eN_ab hs
  rw[←BP]
  refine(D4 ?_ (c1.le (by decide+kernel)) k 8).2.2
  have up:=k.2
  have e1:2*eps≤1 / 5:=by decide+kernel
  obtain⟨_,c2⟩:=c1
  have m:=mnn a2 b2
  exact⟨by grind,by grind⟩
theorem sX {x:Rat} (h:Ab x 64):∃v,(exW false x≤v∧v≤exW true x)∧Ab (v - xE x) dl∧0≤v∧v≤2^98:=by
  have d0:=dl_num.1
  have ya:(x.num.natAbs:Rat)*(x.den:Rat)⁻¹=if x.num < 0 then -x else x:=by
    have dd:(x.den:Rat)*(x.den:Rat)⁻¹=1:=Rat.mul_inv_cancel _ (by exact_mod_cast x.den_nz)
    have q:=q_den x
    by_cases hn:x.num < 0
    · rw[if_pos hn,show((x.num.natAbs:Nat):Rat)=(((x.num.natAbs:Nat):Int):Rat) from rfl,show((x.num.natAbs:Nat):Int)= -x.num by omega,Rat.intCast_neg,←q]
      grind
    · rw[if_neg hn,show((x.num.natAbs:Nat):Rat)=(((x.num.natAbs:Nat):Int):Rat) from rfl,show((x.num.natAbs:Nat):Int)=x.num by omega,←q]
      grind
  have sg:=num_lt0 (x:=x)
  have key:∀{y:Rat},0≤y→y≤64→sqk (eQ y false 40) 8≤sqk (eN (y*(256:Rat)⁻¹)) 8∧sqk (eN (y*(256:Rat)⁻¹)) 8≤sqk (eQ y true 40) 8:=fun {y} h0 h1=>by
    obtain⟨k1,k2⟩:=eQ_exn h0 h1 320 40 (Nat.le_refl _)
    have e:eN (y*(256:Rat)⁻¹)=exn (y*(256:Rat)⁻¹) (40 - 40) (40+(320+1)):=E7 _
    rw[←e] at k1 k2
    obtain⟨o1,_⟩:=eQ_le h0 40 (Nat.le_refl _)
    exact⟨(lK o1 k1 8).2,(lK (Rat.le_trans o1 k1) k2 8).2⟩
  obtain⟨h1,h2⟩:=h
  unfold exW exV2
  rw[ya]
  by_cases hn:x.num < 0
  · have x0:=sg.1 hn
    simp only[if_pos hn,Bool.not_false,Bool.not_true]
    obtain⟨k1,k2⟩:=key (y:=-x) (by grind) (by grind)
    obtain⟨o1,o2⟩:=eQ_le (y:=-x) (by grind) 40 (Nat.le_refl _)
    have s1:=(lK o1 Rat.le_refl 8).1
    have tt:=t_64 (x:=-x) ⟨by grind,by grind⟩
    have tu:=t_64 (x:=x) ⟨by grind,by grind⟩
    have ez: -x*(256:Rat)⁻¹+x*(256:Rat)⁻¹=0:=by grind
    have m:=eN_mul tt tu (by rw[ez];exact Ab.zero (by decide+kernel))
    have t0:0≤ -x*(256:Rat)⁻¹:=mnn (by grind) (by decide+kernel)
    obtain⟨n1,n2⟩:=eN_13 t0 tt.2
    obtain⟨w1,_⟩:=sqk_13 n1 n2
    rw[ez,qI,show sqk 1 8=1 by decide+kernel] at m
    refine⟨(sqk (eN (-x*(256:Rat)⁻¹)) 8)⁻¹,⟨fp (by grind) k2,fp (by grind) k1⟩,?_,?_,?_⟩
    · have p:=Rat.inv_pos.2 (show 0 < sqk (eN (-x*(256:Rat)⁻¹)) 8 by grind)
      have i:sqk (eN (-x*(256:Rat)⁻¹)) 8*(sqk (eN (-x*(256:Rat)⁻¹)) 8)⁻¹=1:=Rat.mul_inv_cancel _ (by grind)
      have l:=fp (show(0:Rat) < 1 by decide) w1
      rw[show(1:Rat)⁻¹=1 by decide+kernel] at l
      unfold xE
      generalize sqk (eN (-x*(256:Rat)⁻¹)) 8=W at*
      generalize sqk (eN (x*(256:Rat)⁻¹)) 8=w at*
      generalize W⁻¹=v at*
      have q:=m.neg.mul (⟨by grind,l⟩:Ab v 1)
      have e: -(W*w - 1)*v=v - w*(W*v):=by grind
      rw[e,i,Rat.mul_one,Rat.mul_one] at q
      exact q
    · exact llt (Rat.inv_pos.2 (by grind))
    · have l:=fp (show(0:Rat) < 1 by decide) w1
      exact Rat.le_trans l (by decide+kernel)
  · have x0:0≤x:=by grind
    simp only[if_neg hn]
    obtain⟨k1,k2⟩:=key x0 h2
    have tu:=t_64 (x:=x) ⟨h1,h2⟩
    obtain⟨n1,n2⟩:=eN_13 (mnn x0 (by decide+kernel)) tu.2
    obtain⟨w1,w2⟩:=sqk_13 n1 n2
    refine⟨xE x,⟨k1,k2⟩,?_,?_,w2⟩
    · have e:xE x - xE x=0:=by grind
      rw[e];exact Ab.zero d0
    · show 0≤sqk (eN (x*(256:Rat)⁻¹)) 8
      grind
end Go.Q
namespace Go.Q
open Go.Proofs
set_option maxRecDepth 100000
set_option maxHeartbeats 16000000
def wideB (x:Rat):Prop:=1024 < sz x∨x.den*4294967296 < x.num.natAbs
instance (x:Rat):Decidable (wideB x):=inferInstanceAs (Decidable (_∨_))
end Go.Q
namespace Go.Q
open Go.Proofs
set_option maxRecDepth 100000
end Go.Q
namespace Go.Q
open Go.Proofs
set_option maxRecDepth 100000
set_option maxHeartbeats 8000000
end Go.Q
namespace Go.Q
open Go.Proofs
set_option maxRecDepth 100000
set_option maxHeartbeats 8000000
end Go.Q
namespace Go.Q
open Go.Proofs
set_option maxRecDepth 100000
set_option maxHeartbeats 8000000
theorem Eu {h0 h:PH} [Le h0 h] {v:Value} {x:Rat} {p:Int} (hx:Rv h0 v x) (hp:0≤p∧p≤128) (hl:¬1024 < sz x) (hb:¬x.den*64 < x.num.natAbs):Spec mach 90 #[.int .i64 1,v,.int .i64 p] h (fun r h'=>∃b na nl nc da dl dc,r=.tuple #[.agg #[.bool b,.slice na nl nc,.slice da dl dc],.int .i64 0]∧Cn h' (.agg #[.bool b,.slice na nl nc,.slice da dl dc]) x) NP:=by
  have kK:=fun {h} [Le h0 h]=>qv (h:=h) (fn:=1) hx (by decide)
  have bx:=hx.sz
  obtain⟨_,_,_,_,_,_,_,rfl,_⟩:=hx.sa
  have d1:defB 1 x=true:=rfl
  refine Spec.go [] Tryz.func90 rfl rfl (by kernel_rfl) fun C _=>?_
  try simp(disch:=omega) only[go_sem,Nat.reduceBEq,reduceAdd]
  refine caN (by exact kK) ?_;rintro v1 h1 s1 ⟨_,_,_,_,_,_,_,rfl,c⟩
  try simp(disch:=omega) only[go_sem,Nat.reduceBEq,reduceAdd]
  refine caN (by exact dE (fn:=1) c) ?_;rintro v2 h2 s2 rfl
  try simp(disch:=omega) only[go_sem,Nat.reduceBEq,reduceAdd]
  rw[d1]
  try simp(disch:=omega) only[go_sem,Nat.reduceBEq,reduceAdd]
  refine caN (by exact dX (c.to (h':=h2))) ?_;rintro v3 h3 s3 rfl
  try simp(disch:=omega) only[go_sem,Nat.reduceBEq,reduceAdd]
  try rw[decide_eq_false hl]
  try simp(disch:=omega) only[go_sem,Nat.reduceBEq,reduceAdd]
  refine caN (by exact fY (n:=64) (c.to (h':=h3)) (by omega) (by decide)) ?_;rintro v4 h4 s4 rfl
  try simp(disch:=omega) only[go_sem,Nat.reduceBEq,reduceAdd]
  try rw[decide_eq_false hb]
  try simp(disch:=omega) only[go_sem,Nat.reduceBEq,reduceAdd]
  exact⟨_,_,_,_,_,_,_,rfl,c.to⟩
theorem Ep {h0 h:PH} [Le h0 h] {v:Value} {x y z:Rat} {p:Int} {g:FuncId} (hx:Rv h0 v x) (hp:0≤p∧p≤128) (hl:¬1024 < sz x) (hb:¬x.den*64 < x.num.natAbs) (hx0:x≠0) (hg:∀{h0 h:PH} {a:Value} [Le h0 h],Cn h0 a x→Spec mach g #[a,.int .i64 p] h (fun r h'=>Be h' r y z) NP):
    Spec mach 38 #[.int .i64 1,v,.int .i64 p,.func (.func g) #[] #[]] h (fun r h'=>Be h' r y z) NP:=by
  have kK:=fun {h} [Le h0 h]=>Eu (h:=h) hx hp hl hb
  have e1:exB 1 x=false:=by unfold exB;rw[if_neg (by decide)];exact decide_eq_false hx0
  have kE:=fun {h1 h:PH} {a:Value} [Le h1 h] (c:Cn h1 a x)=>ni (h:=h) (fn:=1) c
  rw[e1] at kE
  obtain⟨_,_,_,_,_,_,_,rfl,_⟩:=hx.sa
  refine Spec.go [] Tryz.func38 rfl rfl (by kernel_rfl) fun C _=>?_
  try simp(disch:=omega) only[go_sem,Nat.reduceBEq,reduceAdd]
  refine caN (by exact kK) ?_;rintro v1 h1 s1 ⟨_,_,_,_,_,_,_,rfl,c⟩
  try simp(disch:=omega) only[go_sem,Nat.reduceBEq,reduceAdd]
  refine caN (by exact kE c) ?_;rintro v2 h2 s2 ⟨_,_,_,_,_,_,_,rfl,_⟩
  try simp(disch:=omega) only[go_sem,Nat.reduceBEq,reduceAdd]
  refine caN (by exact hg (c.to (h':=h2))) ?_;rintro v3 h3 s3 ⟨_,_,_,_,_,_,_,_,_,_,_,_,_,_,rfl,q3⟩
  try simp(disch:=omega) only[go_sem,Nat.reduceBEq,reduceAdd]
  exact⟨_,_,_,_,_,_,_,_,_,_,_,_,_,_,rfl,q3⟩
theorem FExp_ok {h0 h:PH} [Le h0 h] {v:Value} {x:Rat} {p:Nat} (hx:Rv h0 v x) (hp:p≤128) (hl:¬1024 < sz x) (hb:¬x.den*64 < x.num.natAbs) (hx0:x≠0):Spec mach 22 #[v,.int .i64 p] h (fun r h'=>Be h' r (expLo x p) (expHi x p)) NP:=by
  have kA:=fun {h} [Le h0 h]=>Ep (h:=h) (p:=p) (g:=29) hx (by omega) hl hb hx0 (fun {h0 h a} _ c=>yZ c (by omega) hb hp)
  obtain⟨_,_,_,_,_,_,_,rfl,_⟩:=hx.sa
  clear hl hb
  refine Spec.go [] Tryz.func22 rfl rfl (by kernel_rfl) fun C _=>?_
  try simp(disch:=omega) only[go_sem,Nat.reduceBEq,reduceAdd]
  refine caN (by exact kA) ?_;rintro v1 h1 s1 ⟨_,_,_,_,_,_,_,_,_,_,_,_,_,_,rfl,r1,r2⟩
  try simp(disch:=omega) only[go_sem,Nat.reduceBEq,reduceAdd]
  exact⟨_,_,_,_,_,_,_,_,_,_,_,_,_,_,rfl,r1,r2⟩
end Go.Q
namespace Go.Q
open Go.Proofs
set_option maxRecDepth 100000
set_option maxHeartbeats 8000000
theorem pN {h:PH} {a b:Nat} (ha:a < 2^20) (hb:b < 2^20):Spec mach 11 #[.int .i64 a,.int .i64 b] h (fun v h'=>Qr h' v ((a:Rat) / (b:Rat))) NP:=by
  have S:∀{n:Nat},n < 2^20→sz (((n:Int)):Rat)≤2^35:=by
    intro n hn
    unfold sz
    have e1:bl ((((n:Int)):Rat).num.natAbs)≤64:=bl_le.2 (by simp;omega)
    have e2:bl ((((n:Int)):Rat).den)≤64:=bl_le.2 (by simp)
    omega
  have b1:=S ha
  have b2:=S hb
  have e:((((a:Int)):Rat) / (((b:Int)):Rat))=(a:Rat) / (b:Rat):=rfl
  refine Spec.go [] Tryz.func11 rfl rfl (by kernel_rfl) fun C _=>?_
  try simp(disch:=omega) only[go_sem,Nat.reduceBEq,reduceAdd]
  refine caN (by exact aF (n:=a) (by omega) (by omega)) ?_;rintro v1 g1 s1 q1;obtain⟨_,_,_,_,_,_,_,rfl,q1⟩:=q1.sa
  try simp(disch:=omega) only[go_sem,Nat.reduceBEq,reduceAdd]
  refine caN (by exact aF (n:=b) (by omega) (by omega)) ?_;rintro v2 g2 s2 q2;obtain⟨_,_,_,_,_,_,_,rfl,q2⟩:=q2.sa
  try simp(disch:=omega) only[go_sem,Nat.reduceBEq,reduceAdd]
  refine caN (by exact cU (q1.to (h':=g2)) q2 b1 b2) ?_;rintro v3 g3 s3 q3;rw[e] at q3;obtain⟨_,_,_,_,_,_,_,rfl,q3⟩:=q3.sa
  try simp(disch:=omega) only[go_sem,Nat.reduceBEq,reduceAdd]
  exact q3
theorem Jb:expLo 1 3=((21:Nat):Rat) / ((8:Nat):Rat):=by
  unfold expLo
  rw[if_neg (by decide),show expL 1 3 / 2^112=21 by decide+kernel]
  decide+kernel
theorem Jc:expHi 1 3=((11:Nat):Rat) / ((4:Nat):Rat):=by
  unfold expHi
  rw[if_neg (by decide),show cdiv (expH 1 3) (2^112)=22 by decide+kernel]
  decide+kernel
theorem one_rv {h:PH} {b:Nat} (hb:h b=some #[.int .u32 1]):Rv h (.agg #[.bool false,.slice (some ⟨b,0,none⟩) 1 1,.slice none 0 0]) 1:=by
  have e:qof false 1 0=1:=by decide+kernel
  refine⟨false,1,0,⟨some ⟨b,0,none⟩,1,[1],none,0,[],rfl,Arr.of_row (fun _=>hb) (by decide) (by decide) (by decide),Arr.nil _,rfl,rfl,by decide,by decide⟩,?_,e⟩
  unfold lg
  rw[e]
  decide+kernel
theorem ar {h:PH}:Spec mach 8 #[] h (fun r _=>r=.bool true) NP:=by
  have z1:sz (((21:Nat):Rat) / ((8:Nat):Rat))≤2^30:=by decide+kernel
  have z2:sz (((11:Nat):Rat) / ((4:Nat):Rat))≤2^30:=by decide+kernel
  have e1:decide (((21:Nat):Rat) / ((8:Nat):Rat)=((21:Nat):Rat) / ((8:Nat):Rat))=true:=decide_eq_true rfl
  have e2:decide (((11:Nat):Rat) / ((4:Nat):Rat)=((11:Nat):Rat) / ((4:Nat):Rat))=true:=decide_eq_true rfl
  have z1:=Hid.mk z1
  have z2:=Hid.mk z2
  refine Spec.go [(1,.t (.s [0] (.p 0 (.s [1,2,3,4,5,6,7,8] .d))))] Tryz.func8 rfl rfl (by kernel_rfl) fun C _=>?_
  try simp(disch:=omega) only[go_sem,Nat.reduceBEq,reduceAdd]
  intro b h1 st1 hb
  try simp(disch:=omega) only[go_sem,Nat.reduceBEq,reduceAdd]
  have hb:=hb (by simp[uw])
  try simp(disch:=omega) only[go_sem,Nat.reduceBEq,reduceAdd]
  refine caN (by exact FExp_ok (x:=1) (p:=3) (one_rv hb) (by decide) (by decide) (by decide) (by decide)) ?_;rintro v2 h2 s2 ⟨_,_,_,_,_,_,_,_,_,_,_,_,_,_,rfl,r1,r2⟩
  try simp(disch:=omega) only[go_sem,Nat.reduceBEq,reduceAdd]
  rw[Jb] at r1
  rw[Jc] at r2
  try simp(disch:=omega) only[go_sem,Nat.reduceBEq,reduceAdd]
  refine caN (by exact pN (a:=21) (b:=8) (by decide) (by decide)) ?_;rintro v3 h3 s3 q3;obtain⟨_,_,_,_,_,_,_,rfl,q3⟩:=q3.sa
  try simp(disch:=omega) only[go_sem,Nat.reduceBEq,reduceAdd]
  refine caN (by exact dt (r1.to (h':=h3)) q3 z1.out z1.out) ?_;rintro v4 h4 s4 rfl
  try simp(disch:=omega) only[go_sem,Nat.reduceBEq,reduceAdd,e1,decide_true]
  refine caN (by exact pN (a:=11) (b:=4) (by decide) (by decide)) ?_;rintro v5 h5 s5 q5;obtain⟨_,_,_,_,_,_,_,rfl,q5⟩:=q5.sa
  try simp(disch:=omega) only[go_sem,Nat.reduceBEq,reduceAdd]
  refine caN (by exact dt (r2.to (h':=h5)) q5 z2.out z2.out) ?_;rintro v6 h6 s6 rfl
  try simp(disch:=omega) only[go_sem,Nat.reduceBEq,reduceAdd,e2,decide_true]
end Go.Q
namespace Go.Q
open Go.Proofs
set_option maxRecDepth 100000
set_option maxHeartbeats 16000000
end Go.Q
namespace Go.Q
open Go.Proofs
set_option maxRecDepth 100000
set_option maxHeartbeats 8000000
theorem Rw.sz35 {h:PH} {v:Value} {neg:Bool} {n d:Nat} (r:Rw h v neg n d):sz (qof neg n d)≤2^35:=by
  obtain⟨a,c,xs,a',c',ys,rfl,ha,ha',en,ed,lx,ly⟩:=r
  have bn:=mo ha.lt
  have bd:=mo ha'.lt
  rw[en] at bn
  rw[ed] at bd
  have b:=dg neg n (dz_ne d)
  have b':bl (dz d)≤max (bl d) 1:=by unfold dz;split;exact Nat.le_max_right _ _;exact Nat.le_max_left _ _
  unfold qof
  omega
theorem Ap {h0 h:PH} [Le h0 h] {v w:Value} {x y:Rat} (hx:Qr h0 v x) (hy:Qr h0 w y) (bx:sz x≤2^35) (by_:sz y≤2^35):Spec mach 9 #[v,w] h (fun v _=>v=.int .i64 (cmpQ x y)) NP:=by
  obtain⟨_,_,_,_,_,_,_,rfl,hx⟩:=hx.sa
  obtain⟨_,_,_,_,_,_,_,rfl,hy⟩:=hy.sa
  refine Spec.go [] Tryz.func9 rfl rfl (by kernel_rfl) fun C _=>?_
  try simp(disch:=omega) only[go_sem,Nat.reduceBEq,reduceAdd]
  refine caN (by exact cR hx hy bx by_) ?_;rintro v1 h1 s1 q1;obtain⟨_,_,_,_,_,_,_,rfl,q1⟩:=q1.sa
  try simp(disch:=omega) only[go_sem,Nat.reduceBEq,reduceAdd]
  refine caN (by exact bS q1) ?_;rintro v2 h2 s2 rfl
  try simp(disch:=omega) only[go_sem,Nat.reduceBEq,reduceAdd]
  rw[DR]
end Go.Q
namespace Go.Q
set_option maxRecDepth 100000
set_option maxHeartbeats 8000000
def xS (x:Rat) (p:Nat):Rat:=vS (rsK x (p+64)) (rsR x (p+64))
def xC (x:Rat) (p:Nat):Rat:=vC (rsK x (p+64)) (rsR x (p+64))
theorem xS_0 (p:Nat):xS 0 p=0∧xC 0 p=1:=by
  have k:rsK 0 (p+64)=0:=by unfold rsK;rw[Rat.zero_mul];decide+kernel
  have r:rsR 0 (p+64)=0:=by unfold rsR;rw[k];decide+kernel
  unfold xS xC
  rw[k,r]
  exact⟨(rG _).2,(rG _).1⟩
theorem g_in2 (y:Rat) (p:Nat):(∃z:Int,gdown y p*2^p=(z:Rat))∧∃z:Int,gup y p*2^p=(z:Rat):=by
  have hp:=co p
  have e:∀z:Rat,z / 2^p*2^p=z:=fun z=>Rat.div_mul_cancel (by grind)
  exact⟨⟨_,e _⟩,⟨_,e _⟩⟩
def Btw (p:Nat) (l v u:Rat):Prop:=(l≤v∧v≤u)∧(∃z:Int,l*2^p=(z:Rat))∧∃z:Int,u*2^p=(z:Rat)
theorem br_34 (x:Rat) (p:Int):brE 4 x p=brE 3 x p:=by
  have h:eErr 4 x p=eErr 3 x p:=by
    unfold eErr
    have d:defB 4 x=defB 3 x:=rfl
    rw[d]
    simp
  unfold brE elE
  rw[h]
  simp
theorem br_S {x:Rat} {p:Nat} (h:brE 3 x p=0):Btw p (brL 3 x p) (xS x p) (brH 3 x p)∧Btw p (brL 4 x p) (xC x p) (brH 4 x p)∧(-4294967296≤x∧x≤4294967296)∧p≤128∧Ab (rsR x (p+64)) 1:=by
  obtain⟨_,_,p1⟩:=br_p h
  obtain⟨_,_,_,_,_,_,k2⟩:=dw (br_e h)
  have hb:=k2 (.inl rfl)
  have h4:=(br_34 x p).trans h
  obtain⟨⟨a1,a2⟩,b1,b2⟩:=yF (w:=p+64) (by omega) (by omega) hb
  refine⟨?_,?_,iP hb,by omega,(pr (w:=p+64) (by omega) (by omega) (iP hb)).2.2⟩
  · rw[(cC h).1,(cC h).2,show exB 3 x=decide (x=0) from rfl]
    by_cases x0:x=0
    · subst x0
      rw[decide_eq_true rfl,if_pos rfl,if_pos rfl,(xS_0 p).1,show exV 3 0=0 by decide+kernel]
      exact⟨⟨Rat.le_refl,Rat.le_refl⟩,xW p,xW p⟩
    · rw[decide_eq_false x0,if_neg (by decide),if_neg (by decide)]
      exact⟨⟨Rat.le_trans (dV _ _) a1,Rat.le_trans a2 (jc _ _)⟩,(g_in2 _ p).1,(g_in2 _ p).2⟩
  · rw[(cC h4).1,(cC h4).2,show exB 4 x=decide (x=0) from rfl]
    by_cases x0:x=0
    · subst x0
      rw[decide_eq_true rfl,if_pos rfl,if_pos rfl,(xS_0 p).2,show exV 4 0=1 by decide+kernel]
      exact⟨⟨Rat.le_refl,Rat.le_refl⟩,qK p,qK p⟩
    · rw[decide_eq_false x0,if_neg (by decide),if_neg (by decide)]
      exact⟨⟨Rat.le_trans (dV _ _) b1,Rat.le_trans b2 (jc _ _)⟩,(g_in2 _ p).1,(g_in2 _ p).2⟩
theorem tan_pole {x:Rat} {p:Nat} (h:brE 5 x p=0) (hb:exB 5 x=false):¬pole x p:=by
  have he:=br_e h
  intro hp
  unfold brE at h
  split at h
  · cases h
  · unfold elE at h
    rw[if_neg (fun c=>c he),if_neg (by rw[hb];decide),if_pos ⟨rfl,hp⟩] at h
    cases h
theorem br_T {x:Rat} {p:Nat} (h:brE 5 x p=0):(brL 5 x p≤xS x p*(xC x p)⁻¹∧xS x p*(xC x p)⁻¹≤brH 5 x p)∧xC x p*(xC x p)⁻¹=1:=by
  obtain⟨_,_,p1⟩:=br_p h
  obtain⟨_,_,_,_,_,_,k2⟩:=dw (br_e h)
  have hb:=k2 (.inr (.inr rfl))
  rw[(cC h).1,(cC h).2]
  cases he:exB 5 x with
  | true=>
    have x0:x=0:=of_decide_eq_true he
    subst x0
    rw[if_pos rfl,if_pos rfl,(xS_0 p).1,(xS_0 p).2,show exV 5 0=0 by decide+kernel]
    decide+kernel
  | false=>
    have hn:=tan_pole h he
    rw[if_neg (by decide),if_neg (by decide)]
    obtain⟨t1,t2⟩:=BT (w:=p+64) (by omega) (by omega) hb hn
    exact⟨⟨Rat.le_trans (dV _ _) t1,Rat.le_trans t2 (jc _ _)⟩,(E0 (w:=p+64) (by omega) (by omega) hb hn).2⟩
end Go.Q
namespace Go.Q
set_option maxRecDepth 100000
set_option maxHeartbeats 8000000
theorem exW_0 (c:Bool):exW c 0=1:=by
  have e:∀(c:Bool) k,eQ 0 c (k+1)=1:=fun c k=>by rw[eQ_s];grind
  have n:((0:Rat).num.natAbs:Rat)*((0:Rat).den:Rat)⁻¹=0:=by decide+kernel
  have v:∀c,exV2 c 0=1:=fun c=>by
    unfold exV2
    rw[n,e c 39]
    decide+kernel
  unfold exW
  rw[if_neg (by decide),v]
theorem br_X {x:Rat} {p:Nat} (h:brE 1 x p=0):(∀v,exW false x≤v→v≤exW true x→brL 1 x p≤v∧v≤brH 1 x p)∧0≤brL 1 x p∧(∃z:Int,brL 1 x p*2^p=(z:Rat))∧(∃z:Int,brH 1 x p*2^p=(z:Rat))∧p≤128∧Ab x 64:=by
  obtain⟨_,_,p1⟩:=br_p h
  obtain⟨_,_,_,_,_,k1,_⟩:=dw (br_e h)
  have hb:=k1 rfl
  have hx:Ab x 64:=by
    have d0:(0:Rat) < (x.den:Rat):=by exact_mod_cast x.den_pos
    have q:=q_den x
    have i1: -((x.den:Int)*64)≤x.num∧x.num≤(x.den:Int)*64:=by omega
    have c1:=Rat.intCast_le_intCast.2 i1.1
    have c2:=Rat.intCast_le_intCast.2 i1.2
    rw[Rat.intCast_neg,Rat.intCast_mul,←q] at c1
    rw[Rat.intCast_mul,←q] at c2
    rw[show(((x.den:Nat):Int):Rat)=(x.den:Rat) from rfl,show((64:Int):Rat)=64 from rfl] at c1 c2
    constructor
    · exact lmm (c:=(x.den:Rat)) (by grind) d0
    · exact lmm (c:=(x.den:Rat)) (by grind) d0
  rw[(cC h).1,(cC h).2,show exB 1 x=decide (x=0) from rfl]
  by_cases x0:x=0
  · subst x0
    rw[decide_eq_true rfl,if_pos rfl,if_pos rfl,show exV 1 0=1 by decide+kernel,exW_0,exW_0]
    exact⟨fun v a b=>⟨a,b⟩,by decide,qK p,qK p,by omega,hx⟩
  · rw[decide_eq_false x0,if_neg (by decide),if_neg (by decide)]
    obtain⟨o1,o2⟩:=E9 x p
    have f:∀n:Nat,∃z:Int,sgn false n (2^p)*2^p=(z:Rat):=fun n=>⟨_,eG _ _ _⟩
    have l0:0≤expLo x p:=by unfold expLo;split<;>exact cD _ _
    refine⟨fun v a b=>⟨Rat.le_trans o1 a,Rat.le_trans b o2⟩,l0,?_,?_,by omega,hx⟩
    · show ∃z:Int,expLo x p*2^p=(z:Rat)
      unfold expLo;split<;>exact f _
    · show ∃z:Int,expHi x p*2^p=(z:Rat)
      unfold expHi;split<;>exact f _
end Go.Q
namespace Go.Q
set_option maxRecDepth 100000
set_option maxHeartbeats 4000000
theorem AR {t:Rat} (h0:0≤t) (h1:t≤1):∀n i,1≤i→1≤exn t i (n+1)∧exn t i (n+1)≤2
  | 0,i,_=>by
    show 1≤1+t*0*((i+1:Nat):Rat)⁻¹∧1+t*0*((i+1:Nat):Rat)⁻¹≤2
    have:1+t*0*((i+1:Nat):Rat)⁻¹=1:=by grind
    rw[this];exact⟨Rat.le_refl,by decide⟩
  | n +1,i,hi=>by
    obtain⟨a1,a2⟩:=AR h0 h1 n (i+1) (by omega)
    obtain⟨p,q,_,_,_⟩:=k_inv i
    have l:((i+1:Nat):Rat)⁻¹≤1 / 2:=by
      have h:(2:Rat)≤((i+1:Nat):Rat):=by exact_mod_cast (show 2≤i+1 by omega)
      have:=mlr h (llt p)
      grind
    show 1≤1+t*exn t (i+1) (n+1)*((i+1:Nat):Rat)⁻¹∧1+t*exn t (i+1) (n+1)*((i+1:Nat):Rat)⁻¹≤2
    generalize((i+1:Nat):Rat)⁻¹=z at*
    generalize exn t (i+1) (n+1)=X at*
    have m0:0≤t*X:=mnn h0 (by grind)
    have m1:t*X≤1*X:=mlr h1 (by grind)
    have m2:=mnn m0 (llt p)
    have m3:=mll l m0
    exact⟨by grind,by grind⟩
theorem eN_up {t:Rat} (h0:0≤t) (h1:t≤1):1+t≤eN t∧eN t≤29 / 10:=by
  rw[E7]
  obtain⟨a1,_⟩:=AR h0 h1 359 1 (Nat.le_refl _)
  obtain⟨c1,c2⟩:=AR h0 h1 357 3 (by decide)
  have e2:exn t 2 359=1+t*exn t 3 358*(1 / 3):=by show 1+t*exn t 3 358*((2+1:Nat):Rat)⁻¹=_;rw[show((2+1:Nat):Rat)⁻¹=1 / 3 by decide+kernel]
  have e1:exn t 1 360=1+t*exn t 2 359*(1 / 2):=by show 1+t*exn t 2 359*((1+1:Nat):Rat)⁻¹=_;rw[show((1+1:Nat):Rat)⁻¹=1 / 2 by decide+kernel]
  have d1:=(AR h0 h1 358 2 (by decide)).1
  have m4:=mlr h1 (show 0≤exn t 3 358 by grind)
  have m3:=mlr h1 (show 0≤exn t 2 359 by grind)
  have e0:exn t 0 361=1+t*exn t 1 360:=by show 1+t*exn t 1 360*((0+1:Nat):Rat)⁻¹=_;rw[show((0+1:Nat):Rat)⁻¹=1 by decide+kernel,Rat.mul_one]
  rw[e0]
  have m1:=mll a1 h0
  have m2:=mlr h1 (show 0≤exn t 1 360 by grind)
  exact⟨by grind,by grind⟩
theorem eps_s:0 < eps∧2*eps≤1 / 10:=by decide+kernel
theorem pU {t:Rat} (h:Ab t 1):Ab (eN t) (29 / 10)∧0≤eN t∧(t≤0→eN t≤1+2*eps):=by
  obtain⟨h1,h2⟩:=h
  obtain⟨e0,e1⟩:=eps_s
  by_cases p:0≤t
  · obtain⟨a1,a2⟩:=eN_up p h2
    refine⟨⟨by grind,by grind⟩,by grind,fun c=>?_⟩
    have:t=0:=by grind
    rw[this,qI];grind
  · obtain⟨a1,a2⟩:=eN_up (t:=-t) (by grind) (by grind)
    have k:=xN (a:=-t) (b:=t) ⟨by grind,by grind⟩ ⟨by grind,by grind⟩
    have e: -t+t=0:=by grind
    rw[e,qI] at k
    obtain⟨k1,k2⟩:=k
    have pos:0≤eN t:=by
      refine Rat.not_lt.1 fun c=>?_
      have:=mnn (show 0≤eN (-t) by grind) (show 0≤ -eN t by grind)
      grind
    have up:1*eN t≤eN (-t)*eN t:=mlr (by grind) pos
    exact⟨⟨by grind,by grind⟩,pos,fun _=>by grind⟩
def oB:Nat→Rat
  |0=>3
  |k+1=>oB k*oB k
def oD:Nat→Rat
  |0=>2*eps
  |k+1=>2*oB k*oD k
theorem BQ {a b:Rat} (ha:Ab a 3) (hb:Ab b 3) (h:Ab (a - b) (2*eps)):∀k,Ab (sqk a k) (oB k)∧Ab (sqk b k) (oB k)∧Ab (sqk a k - sqk b k) (oD k)
  |0=>⟨ha,hb,h⟩
  | k+1=>by
    obtain⟨h1,h2,h3⟩:=BQ ha hb h k
    have m:=h3.mul (h1.add h2)
    refine⟨h1.mul h1,h2.mul h2,?_⟩
    show Ab (sqk a k*sqk a k - sqk b k*sqk b k) (2*oB k*oD k)
    exact(cf m (by grind)).le (by grind)
def dO:Rat:=oD 8
theorem oD_le:∀k,k < 8→oD k≤dO:=by decide+kernel
theorem Ca {x y:Rat} (hx:Ab x 256) (hy:Ab y 256) (hs:Ab (x+y) 256):Ab (xE x*xE y - xE (x+y)) dO:=by
  have sc:∀{x:Rat},Ab x 256→Ab (x*(256:Rat)⁻¹) 1:=fun {x} h=>by
    have:=h.mul (Ab.self (show(0:Rat)≤(256:Rat)⁻¹ by decide+kernel))
    rw[show(256:Rat)*(256:Rat)⁻¹=1 by decide+kernel] at this
    exact this
  have ha:=sc hx
  have hb:=sc hy
  have hc:=sc hs
  have e:x*(256:Rat)⁻¹+y*(256:Rat)⁻¹=(x+y)*(256:Rat)⁻¹:=by grind
  have k:=xN (ha.le (by decide)) (hb.le (by decide))
  rw[e] at k
  obtain⟨a1,a2,a3⟩:=pU ha
  obtain⟨b1,b2,b3⟩:=pU hb
  obtain⟨c1,c2,c3⟩:=pU hc
  obtain⟨e0,e1⟩:=eps_s
  unfold xE
  rw[←BP]
  have m:=mnn a2 b2
  have k2:=k.2
  have c4:=c1.2
  exact(BQ ⟨by grind,by grind⟩ (c1.le (by decide+kernel)) k 8).2.2
theorem Cb {x:Rat} (h:Ab x 256):Ab (xE (-x)*xE x - 1) dO:=by
  have e: -x+x=0:=by grind
  have k:=Ca (x:=-x) (y:=x) h.neg h (by rw[e];exact Ab.zero (by decide))
  rw[e] at k
  have z:xE 0=1:=by unfold xE;rw[Rat.zero_mul,qI];decide+kernel
  rwa[z] at k
theorem BR {z:Rat} (h:0≤z):∀k,0≤sqk z k
  |0=>h
  |k+1=>mnn (BR h k) (BR h k)
theorem sqk_ge {z:Rat} (h:0≤z):∀k,1+((2^k:Nat):Rat)*z≤sqk (1+z) k
  |0=>by show 1+1*z≤1+z;grind
  | k+1=>by
    have ih:=sqk_ge h k
    have p:(0:Rat)≤((2^k:Nat):Rat):=by exact_mod_cast Nat.zero_le _
    have m:=mnn p h
    have e:((2^(k+1):Nat):Rat)=2*((2^k:Nat):Rat):=by rw[Nat.pow_succ,Rat.natCast_mul];show _*2=_;grind
    show _≤sqk (1+z) k*sqk (1+z) k
    rw[e]
    generalize((2^k:Nat):Rat)=P at*
    generalize sqk (1+z) k=S at*
    have m1:=mll ih (show 0≤S by grind)
    have m2:=mnn m (show 0≤S - 1 by grind)
    grind
theorem xE_sc {x:Rat} (h:Ab x 256):Ab (x*(256:Rat)⁻¹) 1:=by
  have:=h.mul (Ab.self (show(0:Rat)≤(256:Rat)⁻¹ by decide+kernel))
  rw[show(256:Rat)*(256:Rat)⁻¹=1 by decide+kernel] at this
  exact this
theorem sD {x:Rat} (h:Ab x 256):0≤xE x:=BR (pU (xE_sc h)).2.1 8
theorem xE_ge {x:Rat} (h0:0≤x) (h:x≤256):1+x≤xE x:=by
  have i0:(0:Rat)≤(256:Rat)⁻¹:=by decide+kernel
  have z0:=mnn h0 i0
  have k:=(eN_up z0 (xE_sc (x:=x) ⟨by grind,h⟩).2).1
  have m:=(lK (show 1≤1+x*(256:Rat)⁻¹ by grind) k 8).2
  have g:=sqk_ge z0 8
  have e:((2^8:Nat):Rat)*(x*(256:Rat)⁻¹)=x:=by
    rw[show((2^8:Nat):Rat)=256 by decide+kernel]
    have:(256:Rat)*(256:Rat)⁻¹=1:=by decide+kernel
    grind
  rw[e] at g
  exact Rat.le_trans g m
theorem sqk_sq (z:Rat):∀k,sqk z (k+1)=sqk (z*z) k
  |0=>rfl
  | k+1=>by
    show sqk z (k+1)*sqk z (k+1)=sqk (z*z) k*sqk (z*z) k
    rw[sqk_sq z k]
theorem eN_xE {t:Rat} (h:Ab t 1):Ab (eN t - xE t) (8*dO):=by
  have st:∀(j:Nat) (u:Rat),j < 8→Ab u 1→Ab (sqk (eN u) j - sqk (eN (u*(1 / 2))) (j+1)) dO:=fun j u hj hu=>by
    have hv:Ab (u*(1 / 2)) (1 / 2):=by
      obtain⟨a,b⟩:=hu
      exact⟨by grind,by grind⟩
    have k:=xN (hv.le (by decide+kernel)) (hv.le (by decide+kernel))
    have e:u*(1 / 2)+u*(1 / 2)=u:=by grind
    rw[e] at k
    obtain⟨a1,a2,a3⟩:=pU hu
    obtain⟨b1,b2,b3⟩:=pU (hv.le (by decide+kernel))
    obtain⟨e0,e1⟩:=eps_s
    have m:=mnn b2 b2
    have k2:=k.2
    have a4:=a1.2
    rw[sqk_sq]
    have q:=(BQ (a:=eN u) (b:=eN (u*(1 / 2))*eN (u*(1 / 2))) (a1.le (by decide+kernel)) ⟨by grind,by grind⟩ (cf k.neg (by grind)) j).2.2
    exact q.le (oD_le j hj)
  have sh:∀{u:Rat},Ab u 1→Ab (u*(1 / 2)) 1:=fun {u} ⟨a,b⟩=>⟨by grind,by grind⟩
  have s0:=st 0 t (by decide) h
  have h1:=sh h
  have s1:=st 1 _ (by decide) h1
  have h2:=sh h1
  have s2:=st 2 _ (by decide) h2
  have h3:=sh h2
  have s3:=st 3 _ (by decide) h3
  have h4:=sh h3
  have s4:=st 4 _ (by decide) h4
  have h5:=sh h4
  have s5:=st 5 _ (by decide) h5
  have h6:=sh h5
  have s6:=st 6 _ (by decide) h6
  have h7:=sh h6
  have s7:=st 7 _ (by decide) h7
  have tt:=((((((s0.add s1).add s2).add s3).add s4).add s5).add s6).add s7
  have e:t*(1 / 2)*(1 / 2)*(1 / 2)*(1 / 2)*(1 / 2)*(1 / 2)*(1 / 2)*(1 / 2)=t*(256:Rat)⁻¹:=by
    rw[show(256:Rat)⁻¹=1 / 2*(1 / 2)*(1 / 2)*(1 / 2)*(1 / 2)*(1 / 2)*(1 / 2)*(1 / 2) by decide+kernel]
    grind
  rw[e] at tt
  unfold xE
  exact(cf tt (by show _=sqk (eN _) 0 - _;grind)).le (by grind)
end Go.Q
namespace Go.Q
set_option maxRecDepth 100000
set_option maxHeartbeats 4000000
def lT (z:Rat):Nat→Rat
  |0=>0
  |n+1=>lT z n+z^(2*n+1)*((2*n+1:Nat):Rat)⁻¹
def eP2 (z k:Rat) (m:Nat):Rat:=(z+k)^(m+1) - z^(m+1) - ((m+1:Nat):Rat)*k*z^m
def bP (M:Rat):Nat→Rat
  |0=>0
  |m+1=>bP M m*M+((m+1:Nat):Rat)*M^m
theorem qd {z M:Rat} (h:Ab z M):∀m:Nat,Ab (z^m) (M^m)
  |0=>by rw[Rat.pow_zero,Rat.pow_zero];exact Ab.self (show(0:Rat)≤1 by decide)
  |m+1=>by rw[Rat.pow_succ,Rat.pow_succ];exact(qd h m).mul h
theorem AP {z k M:Rat} (h1:Ab z M) (h2:Ab (z+k) M):∀m,Ab (eP2 z k m) (k*k*bP M m)
  | 0 =>by
    have e:eP2 z k 0=0:=by
      unfold eP2
      rw[Rat.pow_zero,Rat.pow_succ,Rat.pow_succ,Rat.pow_zero,Rat.pow_zero,show((0+1:Nat):Rat)=1 from rfl]
      grind
    rw[e]
    exact Ab.zero (by show 0≤k*k*0;grind)
  | m +1=>by
    have ih:=AP h1 h2 m
    have e:eP2 z k (m+1)=eP2 z k m*(z+k)+k*k*(((m+1:Nat):Rat)*z^m):=by
      unfold eP2
      have e1:((m+1+1:Nat):Rat)=((m+1:Nat):Rat)+1:=by push_cast;rfl
      rw[Rat.pow_succ (z+k) (m+1),Rat.pow_succ z (m+1),e1]
      have e2:z^(m+1)=z^m*z:=Rat.pow_succ ..
      rw[e2]
      generalize(z+k)^(m+1)=A at*
      generalize z^m=B at*
      generalize((m+1:Nat):Rat)=C at*
      grind
    have c0:(0:Rat)≤((m+1:Nat):Rat):=by exact_mod_cast Nat.zero_le _
    have t:=(ih.mul h2).add ((Ab.self (cG k)).mul ((Ab.self c0).mul (qd h1 m)))
    rw[e]
    refine t.le ?_
    show k*k*bP M m*M+k*k*(((m+1:Nat):Rat)*M^m)≤k*k*(bP M m*M+((m+1:Nat):Rat)*M^m)
    grind
def cP (M:Rat):Nat→Rat
  |0=>0
  |n+1=>cP M n+bP M (2*n)
def lN (z:Rat):Rat:=2*lT z 150
end Go.Q
namespace Go.Q
set_option maxRecDepth 100000
set_option maxHeartbeats 4000000
def lg0 (x:Rat):Nat→Nat→Rat
  |_,0=>0
  |i,n+1=>((2*i+1:Nat):Rat)⁻¹+x*lg0 x (i+1) n
def mQ (n d:Nat):Rat:=((lgn n (lge n d):Nat):Rat)*((lgd d (lge n d):Nat):Rat)⁻¹
theorem mQ_bd {n d:Nat} (hn:n≠0) (hd:d≠0):1≤mQ n d∧mQ n d < 2:=by
  have a:=jy (d:=d) hn
  have b:=mX (n:=n) hd
  have k0:lgd d (lge n d)≠0:=by omega
  have k:(0:Rat) < ((lgd d (lge n d):Nat):Rat):=by exact_mod_cast Nat.pos_of_ne_zero k0
  have a':((lgd d (lge n d):Nat):Rat)≤((lgn n (lge n d):Nat):Rat):=by exact_mod_cast a
  have b':((lgn n (lge n d):Nat):Rat) < 2*((lgd d (lge n d):Nat):Rat):=by exact_mod_cast b
  unfold mQ
  generalize((lgd d (lge n d):Nat):Rat)=D at*
  generalize((lgn n (lge n d):Nat):Rat)=N at*
  have i:=Rat.inv_pos.2 k
  have e:D*D⁻¹=1:=Rat.mul_inv_cancel _ (by grind)
  have m1:=mlr a' (llt i)
  have m2:=Rat.mul_lt_mul_of_pos_right b' i
  rw[e] at m1
  rw[Rat.mul_assoc,e] at m2
  exact⟨m1,by grind⟩
theorem mQ_pw {n d:Nat} (hd:d≠0):(n:Rat)*(d:Rat)⁻¹=mQ n d*(2:Rat)^lge n d:=by
  have d0:(0:Rat) < (d:Rat):=by exact_mod_cast Nat.pos_of_ne_zero hd
  unfold mQ lgn lgd
  rw[Rat.natCast_mul,Rat.natCast_mul]
  by_cases he:0≤lge n d
  · obtain⟨k,hk⟩:∃k:Nat,lge n d=(k:Int):=⟨(lge n d).toNat,by omega⟩
    rw[hk,show(max 0 (-(k:Int))).toNat=0 by omega,show(max 0 (k:Int)).toNat=k by omega,Rat.zpow_natCast,Nat.pow_zero,show((1:Nat):Rat)=1 from rfl,Rat.mul_one,Rat.inv_mul_rev,Rat.natCast_pow]
    have p:=co k
    have i:((2:Nat):Rat)^k*(((2:Nat):Rat)^k)⁻¹=1:=Rat.mul_inv_cancel _ (by rw[show((2:Nat):Rat)=2 from rfl];grind)
    rw[show((2:Nat):Rat)=2 from rfl] at*
    have:(n:Rat)*(((2:Rat)^k)⁻¹*(d:Rat)⁻¹)*2^k=(n:Rat)*(d:Rat)⁻¹*(2^k*((2:Rat)^k)⁻¹):=by grind
    rw[this,i,Rat.mul_one]
  · obtain⟨k,hk⟩:∃k:Nat,lge n d= -(k:Int):=⟨(-lge n d).toNat,by omega⟩
    rw[hk,show(max 0 (-(-(k:Int)))).toNat=k by omega,show(max 0 (-(k:Int))).toNat=0 by omega,Rat.zpow_neg,Rat.zpow_natCast,Nat.pow_zero,show((1:Nat):Rat)=1 from rfl,Rat.mul_one,Rat.natCast_pow]
    have p:=co k
    have i:((2:Rat))^k*((2:Rat)^k)⁻¹=1:=Rat.mul_inv_cancel _ (by grind)
    rw[show((2:Nat):Rat)=2 from rfl] at*
    have:(n:Rat)*(2:Rat)^k*(d:Rat)⁻¹*((2:Rat)^k)⁻¹=(n:Rat)*(d:Rat)⁻¹*(2^k*((2:Rat)^k)⁻¹):=by grind
    rw[this,i,Rat.mul_one]
theorem yK:(2:Rat)≠0:=by decide
end Go.Q
namespace Go.Q
set_option maxRecDepth 100000
set_option maxHeartbeats 4000000
def uAt (q z:Rat):Nat→Rat
  |0=>0
  |n+1=>uAt q z n+q^n*(z^(2*n+1)*((2*n+1:Nat):Rat)⁻¹)
def uDt (q z:Rat):Nat→Rat
  |0=>0
  |n+1=>uDt q z n+q^n*z^(2*n)
theorem FC:∀n:Nat,(1:Rat)^n=1
  |0=>Rat.pow_zero ..
  |n+1=>by rw[Rat.pow_succ,FC n];decide+kernel
theorem wJ (q z:Rat):∀n,(1 - q*(z*z))*uDt q z n=1 - q^n*z^(2*n)
  | 0=>by
    rw[show 2*0=0 from rfl,Rat.pow_zero,Rat.pow_zero]
    show(1 - q*(z*z))*0=1 - 1*1
    grind
  | n+1=>by
    have h:=wJ q z n
    have e:z^(2*(n+1))=z^(2*n)*z*z:=by rw[show 2*(n+1)=2*n+1+1 by omega,Rat.pow_succ,Rat.pow_succ]
    have e2:q^(n+1)=q^n*q:=Rat.pow_succ ..
    rw[e,e2]
    show(1 - q*(z*z))*(uDt q z n+q^n*z^(2*n))=_
    grind
theorem wI {q z k M:Rat} (hq:Ab q 1) (h1:Ab z M) (h2:Ab (z+k) M):∀n,Ab (uAt q (z+k) n - uAt q z n - k*uDt q z n) (k*k*cP M n)
  | 0=>by
    show Ab (0 - 0 - k*0) (k*k*0)
    have e:(0:Rat) - 0 - k*0=0:=by grind
    rw[e]
    exact Ab.zero (by grind)
  | n +1=>by
    have ih:=wI hq h1 h2 n
    have t:=AP h1 h2 (2*n)
    obtain⟨p,i,l,_,_⟩:=k_inv (2*n)
    have qn:=qd hq n
    have one:(1:Rat)^n=1:=FC n
    rw[one] at qn
    have t2:=qn.mul (t.mul (⟨by grind,l⟩:Ab ((2*n+1:Nat):Rat)⁻¹ 1))
    have t3:=ih.add t2
    have e:uAt q (z+k) (n+1) - uAt q z (n+1) - k*uDt q z (n+1)=uAt q (z+k) n - uAt q z n - k*uDt q z n+q^n*(eP2 z k (2*n)*((2*n+1:Nat):Rat)⁻¹):=by
      show uAt q (z+k) n+q^n*((z+k)^(2*n+1)*((2*n+1:Nat):Rat)⁻¹) - (uAt q z n+q^n*(z^(2*n+1)*((2*n+1:Nat):Rat)⁻¹)) - k*(uDt q z n+q^n*z^(2*n))=_
      unfold eP2
      generalize(z+k)^(2*n+1)=A at*
      generalize z^(2*n+1)=B at*
      generalize z^(2*n)=C at*
      generalize((2*n+1:Nat):Rat)=D at*
      generalize q^n=R at*
      generalize hI:D⁻¹=I at*
      clear hI
      have:R*(D*k*C*I)=R*(k*C)*(D*I):=by grind
      grind
    rw[e]
    refine t3.le ?_
    show k*k*cP M n+1*(k*k*bP M (2*n)*1)≤k*k*(cP M n+bP M (2*n))
    grind
theorem D8 (q z:Rat):∀n k,z*lg0 (q*(z*z)) 0 (n+k)=uAt q z n+q^n*z^(2*n+1)*lg0 (q*(z*z)) n k
  | 0,k=>by
    rw[Nat.zero_add,show 2*0+1=0+1 from rfl,Rat.pow_succ,Rat.pow_zero,Rat.pow_zero]
    show _=0+1*(1*z)*_
    grind
  | n+1,k=>by
    have h:=D8 q z n (k+1)
    rw[show n+1+k=n+(k+1) by omega,h]
    show uAt q z n+q^n*z^(2*n+1)*(((2*n+1:Nat):Rat)⁻¹+q*(z*z)*lg0 (q*(z*z)) (n+1) k)=uAt q z n+q^n*(z^(2*n+1)*((2*n+1:Nat):Rat)⁻¹)+q^(n+1)*z^(2*(n+1)+1)*lg0 (q*(z*z)) (n+1) k
    have e:z^(2*(n+1)+1)=z^(2*n+1)*z*z:=by rw[show 2*(n+1)+1=2*n+1+1+1 by omega,Rat.pow_succ,Rat.pow_succ]
    have e2:q^(n+1)=q^n*q:=Rat.pow_succ ..
    rw[e,e2]
    grind
theorem B5 (q z:Rat) (n:Nat):z*lg0 (q*(z*z)) 0 n=uAt q z n:=by
  have h:=D8 q z n 0
  rw[Nat.add_zero,show lg0 (q*(z*z)) n 0=0 from rfl,Rat.mul_zero,Rat.add_zero] at h
  exact h
theorem lQ_n0 (x:Rat):∀j,j≤55→lQ x false j=lg0 x (55 - j) (j+1)∧lQ x true j=lg0 x (55 - j) (j+1)+x^(j+1)*(100:Rat)⁻¹
  | 0,_=>by
    show(111:Rat)⁻¹=(111:Rat)⁻¹+x*0∧(111:Rat)⁻¹+x*(100:Rat)⁻¹=(111:Rat)⁻¹+x*0+x^(0+1)*(100:Rat)⁻¹
    rw[Rat.pow_succ,Rat.pow_zero]
    exact⟨by grind,by grind⟩
  | j+1,hj=>by
    obtain⟨a1,a2⟩:=lQ_n0 x j (by omega)
    rw[lQ_s,lQ_s,a1,a2,show 55 - (j+1)=54 - j by omega,Rat.pow_succ x (j+1)]
    show _=((2*(54 - j)+1:Nat):Rat)⁻¹+x*lg0 x (54 - j+1) (j+1)∧_=((2*(54 - j)+1:Nat):Rat)⁻¹+x*lg0 x (54 - j+1) (j+1)+_
    rw[show 54 - j+1=55 - j by omega,show 2*(54 - j)+1=109 - 2*j by omega]
    exact⟨rfl,by grind⟩
def gL (c:Bool) (m:Rat):Rat:=2*((m - 1)*(m+1)⁻¹*lQ ((m - 1)*(m+1)⁻¹*((m - 1)*(m+1)⁻¹)) c 55)
theorem lQ_uA (z:Rat):z*lQ (z*z) false 55=uAt 1 z 56∧z*lQ (z*z) true 55=uAt 1 z 56+z^113*(100:Rat)⁻¹:=by
  obtain⟨a1,a2⟩:=lQ_n0 (z*z) 55 (Nat.le_refl _)
  have e:=B5 1 z 56
  rw[Rat.one_mul] at e
  have p:∀n,z*(z*z)^n=z^(2*n+1):=fun n=>by
    induction n with
    |zero=>rw[Rat.pow_zero,show 2*0+1=0+1 from rfl,Rat.pow_succ,Rat.pow_zero];grind
    |succ n ih=>rw[show 2*(n+1)+1=2*n+1+1+1 by omega,Rat.pow_succ,Rat.pow_succ z,Rat.pow_succ z,←ih];grind
  have p56:=p 56
  rw[a1,a2]
  have e:z*lg0 (z*z) (55 - 55) (55+1)=uAt 1 z 56:=e
  refine⟨e,?_⟩
  rw[Rat.mul_add,e]
  have:z*((z*z)^(55+1)*(100:Rat)⁻¹)=z*(z*z)^56*(100:Rat)⁻¹:=by rw[Rat.mul_assoc]
  rw[this,p56]
theorem cP_3:cP (1 / 3) 56≤10∧0≤cP (1 / 3) 56∧bP (1 / 3) 112≤10∧0≤bP (1 / 3) 112:=by decide+kernel
theorem gL_step {m h:Rat} (h1:1≤m) (h0:0≤h) (h4:m+h≤2):(gL false (m+h) - gL false m≤h*m⁻¹+6*(h*h)∧Ab (gL false (m+h) - gL false m) (10*h))∧h*m⁻¹ - 7*(h*h)≤gL true (m+h) - gL true m∧Ab (gL true (m+h) - gL true m) (20*h):=by
  have a0:0 < (m+1)⁻¹:=Rat.inv_pos.2 (by grind)
  have b0:0 < (m+h+1)⁻¹:=Rat.inv_pos.2 (by grind)
  have c0:0 < m⁻¹:=Rat.inv_pos.2 (by grind)
  have a1:(m+1)*(m+1)⁻¹=1:=Rat.mul_inv_cancel _ (by grind)
  have b1:(m+h+1)*(m+h+1)⁻¹=1:=Rat.mul_inv_cancel _ (by grind)
  have c1:m*m⁻¹=1:=Rat.mul_inv_cancel _ (by grind)
  unfold gL
  generalize(m+1)⁻¹=a at*
  generalize(m+h+1)⁻¹=b at*
  generalize m⁻¹=c at*
  have ez:(m+h - 1)*b=(m - 1)*a+2*h*a*b:=by
    have e1:(m - 1)*a+2*h*a*b=(m - 1)*a*((m+h+1)*b)+2*h*a*b:=by rw[b1];grind
    have e2:(m - 1)*a*((m+h+1)*b)+2*h*a*b=(m+h - 1)*b*((m+1)*a):=by grind
    rw[e1,e2,a1,Rat.mul_one]
  have za:∀{t u:Rat},1≤t→t≤2→(t+1)*u=1→0 < u→0≤(t - 1)*u∧Ab ((t - 1)*u) (1 / 3):=fun {t u} k1 k2 k3 k4=>by
    have m1:=mlr (show t - 1≤1 / 3*(t+1) by grind) (llt k4)
    have m0:=mnn (show 0≤t - 1 by grind) (llt k4)
    have e:1 / 3*(t+1)*u=1 / 3*((t+1)*u):=by grind
    rw[e,k3,Rat.mul_one] at m1
    exact⟨m0,by grind,m1⟩
  obtain⟨z0,z1⟩:=za h1 (by grind) a1 a0
  have z2:=(za (t:=m+h) (by grind) h4 b1 b0).2
  rw[ez] at z2
  rw[(lQ_uA _).1,(lQ_uA _).1,(lQ_uA _).2,(lQ_uA _).2,ez]
  have al:a≤1 / 2:=by
    have:=mlr (show(2:Rat)≤m+1 by grind) (llt a0)
    grind
  have bl:b≤1 / 2:=by
    have:=mlr (show(2:Rat)≤m+h+1 by grind) (llt b0)
    grind
  have cl:c≤1:=by
    have:=mlr h1 (llt c0)
    grind
  have l:=wI (q:=1) (Ab.self (by decide)) z1 z2 56
  have g:=wJ 1 ((m - 1)*a) 56
  have P:=(qd z1 112)
  have x:=AP z1 z2 112
  unfold eP2 at x
  rw[show 2*56=112 from rfl,FC,Rat.one_mul,Rat.one_mul] at g
  rw[show 112+1=113 from rfl,show((113:Nat):Rat)=113 from rfl] at x
  have Q0:=Rat.pow_nonneg (n:=112) z0
  obtain⟨cn,n0,bn,bn0⟩:=cP_3
  have P1:((m - 1)*a)^112≤1:=Rat.le_trans P.2 (by decide+kernel)
  clear P z1 z2 z0 za ez
  generalize cP (1 / 3) 56=K at*
  generalize bP (1 / 3) 112=B at*
  generalize uAt 1 ((m - 1)*a+2*h*a*b) 56=X at*
  generalize uAt 1 ((m - 1)*a) 56=Y at*
  generalize uDt 1 ((m - 1)*a) 56=D at*
  generalize((m - 1)*a+2*h*a*b)^113=U at*
  generalize((m - 1)*a)^113=V at*
  generalize((m - 1)*a)^112=Q at*
  have q1:1 - (m - 1)*a*((m - 1)*a)=4*m*(a*a):=by
    have e:(1:Rat)=(m+1)*a*((m+1)*a):=by rw[a1];decide+kernel
    rw[show 1 - (m - 1)*a*((m - 1)*a)=(m+1)*a*((m+1)*a) - (m - 1)*a*((m - 1)*a) by rw[←e]]
    grind
  rw[q1] at g
  have q2:4*(a*b)*D=b*(m+1)*(1 - Q)*c:=by
    rw[←g]
    have e:b*(m+1)*(4*m*(a*a)*D)*c=4*(a*b)*D*((m+1)*a)*(m*c):=by grind
    rw[e,a1,c1];grind
  have q3:b*(m+1)=1 - h*b:=by grind
  have q4:2*(2*h*a*b*D) - h*c= -(h*h*(b*c)) - h*Q*(c*(1 - h*b)):=by
    have e:2*(2*h*a*b*D)=h*(4*(a*b)*D):=by grind
    rw[e,q2,q3]
    grind
  have bc:0≤b*c∧b*c≤1:=by
    have m1:=mlr bl (llt c0)
    have m2:=mnn (llt b0) (llt c0)
    exact⟨m2,by grind⟩
  have hb:0≤h*b∧h*b≤1:=by
    have m2:=mnn h0 (llt b0)
    have m1:=mlr (show h≤m+h+1 by grind) (llt b0)
    exact⟨m2,by grind⟩
  have cb:0≤c*(1 - h*b)∧c*(1 - h*b)≤1:=by
    have m1:=mnn (llt c0) (show 0≤1 - h*b by grind)
    have m2:=mlr cl (show 0≤1 - h*b by grind)
    exact⟨m1,by grind⟩
  have hh:=cG h
  have ab1:a*b≤1 / 4:=by
    have m1:=mlr al (llt b0)
    grind
  have ab0:0≤a*b:=mnn (llt a0) (llt b0)
  have s0:=cG (a*b)
  have s3:=mnn s0 hh
  have s1:a*b*(a*b)≤1 / 4*(1 / 4):=(Ab.mul (⟨by grind,ab1⟩:Ab (a*b) (1 / 4)) (⟨by grind,ab1⟩:Ab (a*b) (1 / 4))).2
  have s2:=mlr s1 hh
  have kk:2*h*a*b*(2*h*a*b)*K≤5 / 2*(h*h):=by
    have s4:=mll cn s3
    grind
  have kb:2*h*a*b*(2*h*a*b)*B≤5 / 2*(h*h):=by
    have s4:=mll bn s3
    grind
  have hq:0≤h*Q:=mnn h0 Q0
  have hq1:h*Q≤h:=by
    have:=mll P1 h0
    grind
  have hqc:=mnn hq cb.1
  have hqc1:=mll cb.2 hq
  have hbc:=mnn hh bc.1
  have hbc1:=mll bc.2 hh
  have hc0:=mnn h0 (llt c0)
  have hc1:=mll cl h0
  have hle:h*h≤h:=by
    have:=mll (show h≤1 by grind) h0
    grind
  have kab:=mnn hq ab0
  have kab1:=mll ab1 hq
  have key:c*(1 - h*b)≤113 / 25*(a*b):=by
    have w1:0≤(2 - m)*(m - 1)*c:=mnn (mnn (by grind) (by grind)) (llt c0)
    have w2:(2 - m)*(m - 1)*c=3 - m - 2*c:=by
      have:(2 - m)*(m - 1)*c=3*(m*c) - m*(m*c) - 2*c:=by grind
      rw[this,c1];grind
    have w3:m+c≤5 / 2:=by grind
    have w4:c*(m+1)≤113 / 25*a:=by
      have e:c*(m+1)=(m+2+c)*a:=by
        have:(m+2+c)*a=(1*(m+1)+(m*c+c))*a+(1 - m*c)*a:=by grind
        rw[this,c1]
        have:(1*(m+1)+(1+c))*a+(1 - 1)*a=((m+1)*a)*1+(1+c)*a:=by grind
        rw[this]
        have e3:(1+c)=c*(m+1):=by grind
        have e4:c*(m+1)=c*(m+1)*((m+1)*a):=by rw[a1,Rat.mul_one]
        grind
      rw[e]
      exact mlr (by grind) (llt a0)
    rw[←q3]
    have:=mll w4 (llt b0)
    grind
  have key2:=mll key hq
  obtain⟨l1,l2⟩:=l
  obtain⟨x1,x2⟩:=x
  have i100:(100:Rat)⁻¹=1 / 100:=by decide+kernel
  rw[i100]
  have e5:113*(2*h*a*b)*Q=226*(h*Q*(a*b)):=by grind
  rw[e5] at x1 x2
  clear q1 q2 q3 g a1 b1 c1 s0 s1 s2 s3 cn n0 bn bn0 key
  refine⟨⟨by grind,by grind,by grind⟩,by grind,by grind,by grind⟩
end Go.Q
namespace Go.Q
set_option maxRecDepth 100000
set_option maxHeartbeats 4000000
theorem BU {G:Rat→Rat} {h d:Rat} {m:Nat} (st:∀i,i < m→G (h*(i:Rat)) - d≤G (h*(i:Rat)+h)):∀i:Nat,i≤m→G 0 - (i:Rat)*d≤G (h*(i:Rat))
  | 0,_=>by
    rw[show((0:Nat):Rat)=0 from rfl,Rat.mul_zero,Rat.zero_mul]
    grind
  | i+1,hi=>by
    have ih:=BU st i (by omega)
    have s:=st i (by omega)
    have e:((i+1:Nat):Rat)=(i:Rat)+1:=by push_cast;rfl
    have e2:h*((i:Rat)+1)=h*(i:Rat)+h:=by grind
    rw[e,e2]
    grind
theorem eN_loc {t h H:Rat} (h1:Ab t 4) (h2:Ab (t+h) 4) (hH:Ab h H):Ab (eN (t+h) - eN t - h*eN t) (120*(h*h)+2*(H*trm 4 360)):=by
  obtain⟨a1,a2⟩:=N_loc (q:=1) (Ab.self (by decide)) h1 h2 hH
  have e1:=cs_eS t 361
  have e2:=cs_eS (t+h) 361
  unfold cNN sNN at*
  unfold eN
  exact(cf (a1.add a2) (by rw[←e1,←e2];grind)).le (by grind)
theorem lQ_32 {x:Rat} (h0:0≤x) (h1:x≤1 / 9) (c:Bool):∀j,j≤54+1→0≤lQ x c j∧lQ x c j≤3 / 2
  | 0,_=>by
    cases c with
    | false=>
      show(0:Rat)≤(111:Rat)⁻¹∧(111:Rat)⁻¹≤3 / 2
      decide+kernel
    | true=>
      show 0≤(111:Rat)⁻¹+x*(100:Rat)⁻¹∧(111:Rat)⁻¹+x*(100:Rat)⁻¹≤3 / 2
      rw[show(111:Rat)⁻¹=1 / 111 by decide+kernel,show(100:Rat)⁻¹=1 / 100 by decide+kernel]
      exact⟨by grind,by grind⟩
  | j+1,hj=>by
    obtain⟨a1,a2⟩:=lQ_32 h0 h1 c j (by omega)
    have hd:(1:Rat)≤((109 - 2*j:Nat):Rat):=by exact_mod_cast (show 1≤109 - 2*j by omega)
    have i:=Rat.inv_pos.2 (show(0:Rat) < ((109 - 2*j:Nat):Rat) by grind)
    have l:=fp (by decide) hd
    rw[show(1:Rat)⁻¹=1 by decide+kernel] at l
    have m0:=mnn h0 a1
    have m1:=mlr h1 a1
    rw[lQ_s]
    exact⟨by grind,by grind⟩
theorem gL_bd {c:Bool} {m:Rat} (h1:1≤m) (h2:m≤2):0≤gL c m∧gL c m≤1:=by
  have a0:0 < (m+1)⁻¹:=Rat.inv_pos.2 (by grind)
  have a1:(m+1)*(m+1)⁻¹=1:=Rat.mul_inv_cancel _ (by grind)
  have m1:=mlr (show m - 1≤1 / 3*(m+1) by grind) (llt a0)
  have m0:=mnn (show 0≤m - 1 by grind) (llt a0)
  unfold gL
  generalize(m+1)⁻¹=a at*
  have e:1 / 3*(m+1)*a=1 / 3*((m+1)*a):=by grind
  rw[e,a1,Rat.mul_one] at m1
  generalize(m - 1)*a=z at*
  have zz:z*z≤1 / 9:=by
    have:=(Ab.mul (⟨by grind,m1⟩:Ab z (1 / 3)) (⟨by grind,m1⟩:Ab z (1 / 3))).2
    grind
  obtain⟨q1,q2⟩:=lQ_32 (cG z) zz c 55 (by decide)
  have k1:=mnn m0 q1
  have k2:=mll q2 m0
  exact⟨by grind,by grind⟩
theorem gL_one (c:Bool):gL c 1=0:=by
  unfold gL
  rw[show(1:Rat) - 1=0 by decide+kernel,Rat.zero_mul,Rat.zero_mul];decide+kernel
theorem T_num:0 < trm 4 360∧960*trm 4 360≤eps∧eps≤dO:=by decide+kernel
theorem GP {s u h D w:Rat} (s0:0≤s) (s1:s≤1) (u1:1≤u) (h0:0≤h) (u2:u+h≤2) (hw:u*w=1) (aD:Ab D (20*h)) (hA:Ab (s+D) 4):
    (D≤h*w+6*(h*h)→eN (-s)*u - (100000*(h*h)+80*(h*trm 4 360))≤eN (-(s+D))*(u+h))∧
    (h*w - 7*(h*h)≤D→eN (-(s+D))*(u+h)≤eN (-s)*u+(100000*(h*h)+80*(h*trm 4 360))):=by
  have e: -(s+D)= -s+ -D:=by grind
  have l:=eN_loc (t:=-s) (h:=-D) (H:=20*h) (⟨by grind,by grind⟩) (by rw[←e];exact hA.neg) aD.neg
  obtain⟨b1,b2,b3⟩:=pU (t:=-s) ⟨by grind,by grind⟩
  have b3:=b3 (by grind)
  obtain⟨e0,e1⟩:=eps_s
  have T0:=T_num.1
  rw[e]
  generalize eN (-s+ -D)=E at*
  generalize eN (-s)=a at*
  generalize trm 4 360=T at*
  have DD:=(aD.mul aD).2
  have hh:=cG h
  have n1: -D* -D=D*D:=by grind
  rw[n1] at l
  obtain⟨l1,l2⟩:=l
  have hT:=mnn h0 (llt T0)
  have er:Ab ((E - a - -D*a)*(u+h)) ((48000*(h*h)+40*(h*T))*2):=Ab.mul (⟨by grind,by grind⟩:Ab (E - a - -D*a) (48000*(h*h)+40*(h*T))) (⟨by grind,by grind⟩:Ab (u+h) 2)
  obtain⟨r1,r2⟩:=er
  have Dh:Ab (D*h) (20*(h*h)):=by
    have:=aD.mul (Ab.self h0)
    exact this.le (by grind)
  have Dha:=Dh.mul (⟨by grind,by grind⟩:Ab a (6 / 5))
  obtain⟨d1,d2⟩:=Dha
  have ih:h*w*u=h:=by grind
  constructor
  · intro hD
    have k:=mlr hD (show 0≤u by grind)
    have k2:=mll k b2
    have hu:=mll (show u≤2 by grind) hh
    have hua:=mll hu b2
    have ha:=mlr (show a≤6 / 5 by grind) hh
    have id:E*(u+h)=(E - a - -D*a)*(u+h)+a*u+a*h - a*(D*u) - D*h*a:=by grind
    have id2:a*((h*w+6*(h*h))*u)=a*(h*w*u)+6*(a*(h*h*u)):=by grind
    rw[id2,ih] at k2
    rw[id]
    grind
  · intro hD
    have k:=mlr hD (show 0≤u by grind)
    have k2:=mll k b2
    have hu:=mll (show u≤2 by grind) hh
    have hua:=mll hu b2
    have ha:=mlr (show a≤6 / 5 by grind) hh
    have id:E*(u+h)=(E - a - -D*a)*(u+h)+a*u+a*h - a*(D*u) - D*h*a:=by grind
    have id2:a*((h*w - 7*(h*h))*u)=a*(h*w*u) - 7*(a*(h*h*u)):=by grind
    rw[id2,ih] at k2
    rw[id]
    grind
theorem ex_both {m:Rat} (m1:1≤m) (m2:m≤2):1 - 80*trm 4 360≤eN (-gL false m)*m∧eN (-gL true m)*m≤1+80*trm 4 360:=by
  have T0:=T_num.1
  have d0:0≤m - 1:=by grind
  have z:∀c,eN (-gL c (1+0))*(1+0)=1:=fun c=>by
    rw[Rat.add_zero,gL_one,show(-(0:Rat))=0 by decide+kernel,qI];decide+kernel
  have main:∀N:Nat,1 - (100000*((N+1:Nat):Rat)⁻¹+80*trm 4 360)≤eN (-gL false m)*m∧ -1 - (100000*((N+1:Nat):Rat)⁻¹+80*trm 4 360)≤ -(eN (-gL true m)*m):=by
    intro N
    obtain⟨c0,ci,cl,_,_⟩:=k_inv N
    have st:∀i,i < N+1→
        ((fun t=>eN (-gL false (1+t))*(1+t)) ((m - 1)*((N+1:Nat):Rat)⁻¹*(i:Rat)) - (100000*(((N+1:Nat):Rat)⁻¹*((N+1:Nat):Rat)⁻¹)+80*(((N+1:Nat):Rat)⁻¹*trm 4 360))≤(fun t=>eN (-gL false (1+t))*(1+t)) ((m - 1)*((N+1:Nat):Rat)⁻¹*(i:Rat)+(m - 1)*((N+1:Nat):Rat)⁻¹))∧
        ((fun t=>-(eN (-gL true (1+t))*(1+t))) ((m - 1)*((N+1:Nat):Rat)⁻¹*(i:Rat)) - (100000*(((N+1:Nat):Rat)⁻¹*((N+1:Nat):Rat)⁻¹)+80*(((N+1:Nat):Rat)⁻¹*trm 4 360))≤(fun t=>-(eN (-gL true (1+t))*(1+t))) ((m - 1)*((N+1:Nat):Rat)⁻¹*(i:Rat)+(m - 1)*((N+1:Nat):Rat)⁻¹)):=by
      intro i hi
      have j0:0≤((N+1:Nat):Rat)⁻¹*(i:Rat):=mnn (llt c0) (by exact_mod_cast Nat.zero_le i)
      have j1:((N+1:Nat):Rat)⁻¹*(i:Rat)+((N+1:Nat):Rat)⁻¹≤1:=by
        have:(i:Rat)+1≤((N+1:Nat):Rat):=by exact_mod_cast hi
        have:=mll this (llt c0)
        grind
      generalize((N+1:Nat):Rat)⁻¹=c at*
      generalize(i:Rat)=x at*
      have k0:0≤(m - 1)*c*x:=by rw[Rat.mul_assoc];exact mnn d0 j0
      have h0:0≤(m - 1)*c:=mnn d0 (llt c0)
      have hc:(m - 1)*c≤c:=by
        have:=mlr (show m - 1≤1 by grind) (llt c0)
        grind
      have kx:(m - 1)*c*x+(m - 1)*c≤1:=by
        have m1:=mll j1 d0
        grind
      generalize hH:(m - 1)*c=h at*
      generalize h*x=t at*
      have hh:h*h≤c*c:=by
        have m1:=mll hc h0
        have m2:=mlr hc (llt c0)
        grind
      have hT:h*trm 4 360≤c*trm 4 360:=mlr hc (llt T0)
      obtain⟨⟨g1,g2⟩,g3,g4⟩:=gL_step (m:=1+t) (h:=h) (by grind) h0 (by grind)
      have hw:(1+t)*(1+t)⁻¹=1:=Rat.mul_inv_cancel _ (by grind)
      have bd:∀c,0≤gL c (1+t)∧gL c (1+t)≤1:=fun c=>gL_bd (by grind) (by grind)
      have bd2:∀c,Ab (gL c (1+t)+(gL c (1+t+h) - gL c (1+t))) 4:=fun c=>by
        have:=gL_bd (c:=c) (m:=1+t+h) (by grind) (by grind)
        exact⟨by grind,by grind⟩
      have e:∀c,gL c (1+t)+(gL c (1+t+h) - gL c (1+t))=gL c (1+t+h):=fun c=>by grind
      have s1:=(GP (bd false).1 (bd false).2 (by grind) h0 (by grind) hw (g2.le (by grind)) (bd2 false)).1 g1
      have s2:=(GP (bd true).1 (bd true).2 (by grind) h0 (by grind) hw g4 (bd2 true)).2 g3
      rw[e] at s1 s2
      have e4:1+(t+h)=1+t+h:=by grind
      show eN (-gL false (1+t))*(1+t) - (100000*(c*c)+80*(c*trm 4 360))≤eN (-gL false (1+(t+h)))*(1+(t+h))∧ -(eN (-gL true (1+t))*(1+t)) - (100000*(c*c)+80*(c*trm 4 360))≤ -(eN (-gL true (1+(t+h)))*(1+(t+h)))
      rw[e4]
      exact⟨by grind,by grind⟩
    have s1:=BU (G:=fun t=>eN (-gL false (1+t))*(1+t)) (h:=(m - 1)*((N+1:Nat):Rat)⁻¹) (fun i hi=>(st i hi).1) (N+1) (Nat.le_refl _)
    have s2:=BU (G:=fun t=>-(eN (-gL true (1+t))*(1+t))) (h:=(m - 1)*((N+1:Nat):Rat)⁻¹) (fun i hi=>(st i hi).2) (N+1) (Nat.le_refl _)
    have ea:(m - 1)*((N+1:Nat):Rat)⁻¹*((N+1:Nat):Rat)=m - 1:=by grind
    rw[ea] at s1 s2
    have e1:1+(m - 1)=m:=by grind
    simp only[e1,z] at s1 s2
    have ed:((N+1:Nat):Rat)*(100000*(((N+1:Nat):Rat)⁻¹*((N+1:Nat):Rat)⁻¹)+80*(((N+1:Nat):Rat)⁻¹*trm 4 360))=100000*((N+1:Nat):Rat)⁻¹+80*trm 4 360:=by
      generalize((N+1:Nat):Rat)⁻¹=c at*
      grind
    rw[ed] at s1 s2
    exact⟨s1,s2⟩
  have h1:1 - eN (-gL false m)*m≤80*trm 4 360:=pZ (y:=100000) fun N=>by have:=(main N).1;grind
  have h2:eN (-gL true m)*m - 1≤80*trm 4 360:=pZ (y:=100000) fun N=>by have:=(main N).2;grind
  exact⟨by grind,by grind⟩
theorem H7 {m:Rat} (m1:1≤m) (m2:m≤2):1 - 20*dO≤xE (-gL false m)*m∧xE (-gL true m)*m≤1+20*dO:=by
  obtain⟨a1,a2⟩:=ex_both m1 m2
  obtain⟨t0,t1,t2⟩:=T_num
  have f:∀c,Ab ((eN (-gL c m) - xE (-gL c m))*m) (8*dO*2):=fun c=>by
    have b:=gL_bd (c:=c) m1 m2
    exact(eN_xE (t:=-gL c m) ⟨by grind,by grind⟩).mul ⟨by grind,m2⟩
  obtain⟨f1,f2⟩:=f false
  obtain⟨g1,g2⟩:=f true
  exact⟨by grind,by grind⟩
theorem mQ_z {n d:Nat} (hn:n≠0) (hd:d≠0):(mQ n d - 1)*(mQ n d+1)⁻¹=((lgT n d 0:Nat):Rat)*((lgB n d:Nat):Rat)⁻¹:=by
  have a:=jy (d:=d) hn
  have b:=mX (n:=n) hd
  have k0:lgd d (lge n d)≠0:=by omega
  have hB:=lP (d:=d) hn
  have k:(0:Rat) < ((lgd d (lge n d):Nat):Rat):=by exact_mod_cast Nat.pos_of_ne_zero k0
  have kB:(0:Rat) < ((lgB n d:Nat):Rat):=by exact_mod_cast Nat.pos_of_ne_zero hB
  have eB:((lgB n d:Nat):Rat)=((lgn n (lge n d):Nat):Rat)+((lgd d (lge n d):Nat):Rat):=by unfold lgB;rw[Rat.natCast_add]
  have eT:((lgT n d 0:Nat):Rat)=((lgn n (lge n d):Nat):Rat) - ((lgd d (lge n d):Nat):Rat):=by
    unfold lgT
    rw[Nat.pow_zero,Nat.mul_one]
    have:((lgn n (lge n d) - lgd d (lge n d):Nat):Rat)+((lgd d (lge n d):Nat):Rat)=((lgn n (lge n d):Nat):Rat):=by rw[←Rat.natCast_add,Nat.sub_add_cancel a]
    grind
  have a':((lgd d (lge n d):Nat):Rat)≤((lgn n (lge n d):Nat):Rat):=by exact_mod_cast a
  rw[eT,eB]
  rw[eB] at kB
  unfold mQ
  generalize((lgd d (lge n d):Nat):Rat)=D at*
  generalize((lgn n (lge n d):Nat):Rat)=N at*
  have e:D*D⁻¹=1:=Rat.mul_inv_cancel _ (by grind)
  have f:(N+D)*(N+D)⁻¹=1:=Rat.mul_inv_cancel _ (by grind)
  have i:=Rat.inv_pos.2 k
  have m1:=mnn (show 0≤N by grind) (llt i)
  have g:(N*D⁻¹+1)*(N*D⁻¹+1)⁻¹=1:=Rat.mul_inv_cancel _ (by grind)
  generalize D⁻¹=I at*
  generalize(N+D)⁻¹=J at*
  generalize(N*I+1)⁻¹=K at*
  have h1:(N*I - 1)*K=(N*I - 1)*K*((N+D)*J):=by rw[f,Rat.mul_one]
  have h3:(N*I - 1)*(N+D)=(N - D)*(N*I+1):=by
    have l:(N*I - 1)*(N+D)=N*N*I+N*(D*I) - N - D:=by grind
    have r:(N - D)*(N*I+1)=N*N*I+N - N*(D*I) - D:=by grind
    rw[l,r,e];grind
  have h4:(N*I - 1)*K*((N+D)*J)=(N*I - 1)*(N+D)*(K*J):=by grind
  rw[h1,h4,h3]
  have h5:(N - D)*(N*I+1)*(K*J)=(N - D)*J*((N*I+1)*K):=by grind
  rw[h5,g,Rat.mul_one]
theorem lM_gL {n d:Nat} (hn:n≠0) (hd:d≠0) (c:Bool):lM c n d=gL c (mQ n d):=by
  unfold lM gL
  rw[mQ_z hn hd]
theorem l2_gL (c:Bool):l2 c=gL c 2:=by
  unfold l2 gL
  rw[show((2:Rat) - 1)*(2+1)⁻¹=(3:Rat)⁻¹ by decide+kernel]
theorem pw_120 {B:Rat} (h0:0≤B) (h2:B≤2) {k:Nat} (hk:k≤132):0≤B^k∧B^k≤2^132:=by
  refine⟨Rat.pow_nonneg h0,Rat.le_trans (qd (⟨by grind,h2⟩:Ab B 2) k).2 ?_⟩
  have:((2^k:Nat):Rat)≤((2^132:Nat):Rat):=Rat.natCast_le_natCast.2 (Nat.pow_le_pow_right (by decide) hk)
  rw[Rat.natCast_pow,Rat.natCast_pow] at this
  exact this
theorem dO_s:0 < dO∧300*(60*dO+2^134*dO)≤1:=by decide+kernel
theorem sY {A B S m:Rat} (hA:Ab A 1) (hS:Ab S 1) (m1:1≤m) (m2:m≤2) (B0:0≤B) (B2:B≤2):
    (1 - 60*dO≤xE A*B→1 - 60*dO≤xE S*m→∀k:Nat,k≤131→1 - ((k:Rat)+1)*(60*dO+2^134*dO)≤xE (S+(k:Rat)*A)*(m*B^k))∧
    (xE A*B≤1+60*dO→xE S*m≤1+60*dO→∀k:Nat,k≤131→xE (S+(k:Rat)*A)*(m*B^k)≤1+(2*(k:Rat)+1)*(60*dO+2^134*dO)):=by
  obtain⟨d0,ds⟩:=dO_s
  have kc:∀k:Nat,((k+1:Nat):Rat)=(k:Rat)+1:=fun k=>by push_cast;rfl
  have k0:∀k:Nat,(0:Rat)≤(k:Rat):=fun k=>by exact_mod_cast Nat.zero_le k
  have kl:∀k:Nat,k≤131→(k:Rat)≤131:=fun k h=>by exact_mod_cast h
  have z:∀S:Rat,xE (S+((0:Nat):Rat)*A)*(m*B^0)=xE S*m:=fun S=>by
    rw[show((0:Nat):Rat)=0 from rfl,Rat.zero_mul,Rat.add_zero,Rat.pow_zero,Rat.mul_one]
  have rng:∀k:Nat,k≤131→Ab (S+(k:Rat)*A) 256:=fun k hk=>by
    have:=hS.add ((Ab.self (k0 k)).mul hA)
    exact this.le (by have:=kl k hk;grind)
  have st:∀k:Nat,k+1≤131→Ab ((xE (S+(k:Rat)*A)*(m*B^k))*(xE A*B) - xE (S+((k+1:Nat):Rat)*A)*(m*B^(k+1))) (2^134*dO)∧0≤xE (S+(k:Rat)*A)*(m*B^k)∧0≤xE A*B:=fun k hk=>by
    have e:S+(k:Rat)*A+A=S+((k+1:Nat):Rat)*A:=by rw[kc];grind
    have a:=Ca (rng k (by omega)) (hA.le (by decide)) (by rw[e];exact rng (k+1) hk)
    rw[e] at a
    obtain⟨p0,p1⟩:=pw_120 B0 B2 (k:=k+1) (by omega)
    have mB:Ab (m*B^(k+1)) (2*2^132):=Ab.mul ⟨by grind,m2⟩ ⟨by grind,p1⟩
    have t:=a.mul mB
    have ee:B^(k+1)=B^k*B:=Rat.pow_succ ..
    have e2:(xE (S+(k:Rat)*A)*xE A - xE (S+((k+1:Nat):Rat)*A))*(m*B^(k+1))=(xE (S+(k:Rat)*A)*(m*B^k))*(xE A*B) - xE (S+((k+1:Nat):Rat)*A)*(m*B^(k+1)):=by rw[ee];grind
    refine⟨(cf t e2).le ?_,?_,?_⟩
    · rw[show(2:Rat)^132=5444517870735015415413993718908291383296 by decide+kernel,show(2:Rat)^134=21778071482940061661655974875633165533184 by decide+kernel]
      grind
    · exact mnn (sD (rng k (by omega))) (mnn (by grind) (Rat.pow_nonneg B0))
    · exact mnn (sD (hA.le (by decide))) B0
  constructor
  · intro h1 h2 k
    induction k with
    | zero=>
      intro _
      rw[z,show((0:Nat):Rat)=0 from rfl]
      have:(0:Rat)≤2^134*dO:=mnn (by decide+kernel) (llt d0)
      grind
    | succ k ih=>
      intro hk
      have ih:=ih (by omega)
      obtain⟨⟨s1,s2⟩,s3,s4⟩:=st k hk
      have kk:=kl k (by omega)
      have kn:=k0 k
      rw[kc] at*
      generalize xE (S+((k:Rat)+1)*A)*(m*B^(k+1))=N at*
      generalize xE (S+(k:Rat)*A)*(m*B^k)=U at*
      generalize xE A*B=V at*
      generalize hs:(60*dO+2^134*dO:Rat)=s at*
      have sd:0 < 2^134*dO:=Rat.mul_pos (by decide+kernel) d0
      generalize(2:Rat)^134*dO=w at*
      generalize(k:Rat)=K at*
      have q0:=mll h1 s3
      have q1:=mlr ih (show 0≤1 - 60*dO by grind)
      have q2:=mnn (show 0≤K+1 by grind) (show 0≤s by grind)
      have q3:=mnn q2 (llt d0)
      grind
  · intro h1 h2 k
    induction k with
    | zero=>
      intro _
      rw[z,show((0:Nat):Rat)=0 from rfl]
      have:(0:Rat)≤2^134*dO:=mnn (by decide+kernel) (llt d0)
      grind
    | succ k ih=>
      intro hk
      have ih:=ih (by omega)
      obtain⟨⟨s1,s2⟩,s3,s4⟩:=st k hk
      have kk:=kl k (by omega)
      have kn:=k0 k
      rw[kc] at*
      generalize xE (S+((k:Rat)+1)*A)*(m*B^(k+1))=N at*
      generalize xE (S+(k:Rat)*A)*(m*B^k)=U at*
      generalize xE A*B=V at*
      generalize hs:(60*dO+2^134*dO:Rat)=s at*
      have sd:0 < 2^134*dO:=Rat.mul_pos (by decide+kernel) d0
      generalize(2:Rat)^134*dO=w at*
      generalize(k:Rat)=K at*
      have q0:=mll h1 s3
      have q1:=mlr ih (show 0≤1+60*dO by grind)
      have q2:=mnn (show 0≤s by grind) (llt d0)
      have q3:=mlr (show(2*K+1)≤300 by grind) (show 0≤s by grind)
      have q4:=mlr (show(2*K+1)*s≤1 by grind) (llt d0)
      grind
def tF:Rat:=2^144*dO
theorem FY:0 < tF∧264*(60*dO+2^134*dO)≤tF∧tF*2^1200≤1∧dO≤tF:=by decide+kernel
theorem Hk {n d:Nat} (hn:n≠0) (hd:d≠0) (e1:lge n d≤131) (e2: -131≤lge n d):
    1 - tF≤xE (-lnV false n d)*((n:Rat)*(d:Rat)⁻¹)∧xE (-lnV true n d)*((n:Rat)*(d:Rat)⁻¹)≤1+tF:=by
  obtain⟨m1,m2⟩:=mQ_bd hn hd
  have m2:=llt m2
  obtain⟨a1,a2⟩:=H7 m1 m2
  obtain⟨b1,b2⟩:=H7 (m:=2) (by decide) Rat.le_refl
  obtain⟨f0,f1,_,_⟩:=FY
  obtain⟨d0,_⟩:=dO_s
  have g:∀{c m},1≤m→m≤2→Ab (gL c m) 1:=fun {c m} h1 h2=>by
    have:=gL_bd (c:=c) h1 h2
    exact⟨by grind,by grind⟩
  rw[mQ_pw hd]
  have sd:(0:Rat)≤60*dO+2^134*dO:=by
    have:(0:Rat)≤2^134*dO:=mnn (by decide+kernel) (llt d0)
    grind
  have fin:∀k:Nat,k≤131→((k:Rat)+1)*(60*dO+2^134*dO)≤tF∧(2*(k:Rat)+1)*(60*dO+2^134*dO)≤tF:=fun k hk=>by
    have kl:(k:Rat)≤131:=by exact_mod_cast hk
    have q1:=mlr (show(k:Rat)+1≤264 by grind) sd
    have q2:=mlr (show 2*(k:Rat)+1≤264 by grind) sd
    exact⟨by grind,by grind⟩
  unfold lnV
  rw[lM_gL hn hd,lM_gL hn hd]
  by_cases he:0≤lge n d
  · rw[if_pos he,if_pos he]
    obtain⟨k,hk⟩:∃k:Nat,lge n d=(k:Int):=⟨(lge n d).toNat,by omega⟩
    rw[hk,Int.toNat_natCast,Rat.zpow_natCast,l2_gL,l2_gL]
    have hk:k≤131:=by omega
    have c1:=(sY (g (c:=false) (m:=2) (by decide) Rat.le_refl).neg (g (c:=false) m1 m2).neg m1 m2 (show(0:Rat)≤2 by decide) Rat.le_refl).1 (by grind) (by grind) k hk
    have c2:=(sY (g (c:=true) (m:=2) (by decide) Rat.le_refl).neg (g (c:=true) m1 m2).neg m1 m2 (show(0:Rat)≤2 by decide) Rat.le_refl).2 (by grind) (by grind) k hk
    have e:∀c,-(gL c 2*(k:Rat)+gL c (mQ n d))= -gL c (mQ n d)+(k:Rat)* -gL c 2:=fun c=>by grind
    rw[e,e]
    obtain⟨f2,f3⟩:=fin k hk
    exact⟨by grind,by grind⟩
  · rw[if_neg he,if_neg he]
    obtain⟨k,hk⟩:∃k:Nat,lge n d= -(k:Int):=⟨(-lge n d).toNat,by omega⟩
    have hk':k≤131:=by omega
    rw[hk,show(0 - -(k:Int)).toNat=k by omega,Rat.zpow_neg,Rat.zpow_natCast,Bool.not_false,Bool.not_true,l2_gL,l2_gL]
    have ip:((2:Rat)^k)⁻¹=(1 / 2:Rat)^k:=by
      clear hk hk' fin e1 e2 he
      induction k with
      |zero=>rw[Rat.pow_zero,Rat.pow_zero];decide+kernel
      |succ k ih=>rw[Rat.pow_succ,Rat.pow_succ,Rat.inv_mul_rev,ih,show(2:Rat)⁻¹=1 / 2 by decide+kernel,Rat.mul_comm]
    rw[ip]
    have n1:=Cb ((g (c:=true) (m:=2) (by decide) Rat.le_refl).le (show(1:Rat)≤256 by decide))
    have n2:=Cb ((g (c:=false) (m:=2) (by decide) Rat.le_refl).le (show(1:Rat)≤256 by decide))
    have p1:=sD ((g (c:=true) (m:=2) (by decide) Rat.le_refl).le (show(1:Rat)≤256 by decide))
    have p2:=sD ((g (c:=false) (m:=2) (by decide) Rat.le_refl).le (show(1:Rat)≤256 by decide))
    have dsm:dO≤1 / 1000:=by decide+kernel
    have u1:1 - 60*dO≤xE (gL true 2)*(1 / 2):=by
      generalize xE (gL true 2)=q at*
      generalize xE (-gL true 2)=p at*
      have q1:=mlr b2 p1
      refine Rat.not_lt.1 fun c=>?_
      have q2:=Rat.mul_lt_mul_of_pos_right c (show 0 < 1+20*dO by grind)
      have q3:=cG dO
      obtain⟨n1,_⟩:=n1
      grind
    have u2:xE (gL false 2)*(1 / 2)≤1+60*dO:=by
      generalize xE (gL false 2)=q at*
      generalize xE (-gL false 2)=p at*
      have q1:=mlr b1 p2
      refine Rat.not_lt.1 fun c=>?_
      have q2:=Rat.mul_lt_mul_of_pos_right c (show 0 < 1 - 20*dO by grind)
      have q3:=mlr dsm (llt d0)
      obtain⟨_,n2⟩:=n2
      grind
    have c1:=(sY (g (c:=true) (m:=2) (by decide) Rat.le_refl) (g (c:=false) m1 m2).neg m1 m2 (show(0:Rat)≤1 / 2 by decide+kernel) (by decide+kernel)).1 u1 (by grind) k hk'
    have c2:=(sY (g (c:=false) (m:=2) (by decide) Rat.le_refl) (g (c:=true) m1 m2).neg m1 m2 (show(0:Rat)≤1 / 2 by decide+kernel) (by decide+kernel)).2 u2 (by grind) k hk'
    have e:∀(c:Bool) (y:Rat),-(gL c (mQ n d) - y*(k:Rat))= -gL c (mQ n d)+(k:Rat)*y:=fun c y=>by grind
    rw[e,e]
    obtain⟨f2,f3⟩:=fin k hk'
    exact⟨by grind,by grind⟩
end Go.Q
namespace Go.Q
set_option maxRecDepth 100000
set_option maxHeartbeats 4000000
theorem Fz {x:Rat} (h:0 < x):(x.num.natAbs:Rat)*(x.den:Rat)⁻¹=x:=by
  have dd:(x.den:Rat)*(x.den:Rat)⁻¹=1:=Rat.mul_inv_cancel _ (by exact_mod_cast x.den_nz)
  have q:=q_den x
  have n0:=Rat.num_nonneg.2 (llt h)
  rw[show((x.num.natAbs:Nat):Rat)=(((x.num.natAbs:Nat):Int):Rat) from rfl,Int.natAbs_of_nonneg n0,←q,Rat.mul_assoc,dd,Rat.mul_one]
theorem two_1 (j:Nat):(1:Rat)≤2^j:=by
  have:((1:Nat):Rat)≤((2^j:Nat):Rat):=Rat.natCast_le_natCast.2 (Nat.one_le_two_pow)
  rw[Rat.natCast_pow] at this
  exact this
theorem lge_hi {n d k:Nat} (hn:n≠0) (hd:d≠0) (h:(n:Rat)*(d:Rat)⁻¹ < 2^k):lge n d < k:=by
  refine Int.not_le.1 fun c=>?_
  obtain⟨m1,m2⟩:=mQ_bd hn hd
  rw[mQ_pw hd] at h
  obtain⟨j,hj⟩:∃j:Nat,lge n d=(k:Int)+(j:Int):=⟨(lge n d - k).toNat,by omega⟩
  have a:=two_1 k
  have b:=two_1 j
  rw[hj,Rat.zpow_add yK,Rat.zpow_natCast,Rat.zpow_natCast] at h
  generalize(2:Rat)^k=P at*
  generalize(2:Rat)^j=J at*
  have q1:=mll b (show 0≤P by grind)
  have q2:=mlr m1 (show 0≤P*J by grind)
  grind
theorem lge_lo {n d k:Nat} (hn:n≠0) (hd:d≠0) (h:1≤(n:Rat)*(d:Rat)⁻¹*2^k): -(k:Int)≤lge n d:=by
  refine Int.not_lt.1 fun c=>?_
  obtain⟨m1,m2⟩:=mQ_bd hn hd
  rw[mQ_pw hd] at h
  obtain⟨j,hj⟩:∃j:Nat,lge n d= -((k+(1+j):Nat):Int):=⟨(-lge n d - k - 1).toNat,by omega⟩
  have a:=two_1 k
  have b:=two_1 j
  rw[hj,Rat.zpow_neg,Rat.zpow_natCast,yp,yp,Rat.pow_one] at h
  generalize(2:Rat)^k=P at*
  generalize(2:Rat)^j=J at*
  have q1:=mll b (show 0≤P by grind)
  have i:(P*(2*J))*(P*(2*J))⁻¹=1:=Rat.mul_inv_cancel _ (by grind)
  have i0:=Rat.inv_pos.2 (show 0 < P*(2*J) by grind)
  generalize(P*(2*J))⁻¹=I at*
  have q2:=mnn (show 0≤P by grind) (llt i0)
  have q3:=mll b q2
  have q4:=Rat.mul_lt_mul_of_pos_right m2 (show 0 < I*P from Rat.mul_pos i0 (by grind))
  grind
def rho:Rat:=((2^1160:Nat):Rat)⁻¹
theorem BB:0 < rho∧8*(tF+oB 8*dl)≤rho∧rho≤1 / 2∧0≤dl∧0≤oB 8∧rho*2^(128+1024) < 1:=by decide+kernel
theorem l2_num:2 / 3≤l2 true:=by decide+kernel
theorem xE_oB {x:Rat} (h:Ab x 256):xE x≤oB 8:=by
  have a:=(pU (xE_sc h)).1
  have e0:=eps_s
  have z:∀u:Rat,u - u=0:=fun u=>by grind
  exact(BQ (a:=eN (x*(256:Rat)⁻¹)) (b:=eN (x*(256:Rat)⁻¹)) (a.le (by decide+kernel)) (a.le (by decide+kernel)) (by rw[z];exact Ab.zero (by grind)) 8).1.2
theorem lnV_ab {n d:Nat} (hn:n≠0) (hd:d≠0) (e1:lge n d≤131) (e2: -131≤lge n d) (c:Bool):Ab (lnV c n d) 132:=by
  obtain⟨m1,m2⟩:=mQ_bd hn hd
  have m2:=llt m2
  have g:=gL_bd (c:=c) m1 m2
  have f:∀c,0≤l2 c∧l2 c≤1:=fun c=>by rw[l2_gL];exact gL_bd (by decide) Rat.le_refl
  unfold lnV
  rw[lM_gL hn hd]
  split
  · have k:(((lge n d).toNat:Nat):Rat)≤131:=by exact_mod_cast (show(lge n d).toNat≤131 by omega)
    have k0:(0:Rat)≤(((lge n d).toNat:Nat):Rat):=by exact_mod_cast Nat.zero_le _
    have q:=f c
    have q1:=mlr q.2 k0
    have q2:=mnn q.1 k0
    exact⟨by grind,by grind⟩
  · have k:(((0 - lge n d).toNat:Nat):Rat)≤131:=by exact_mod_cast (show(0 - lge n d).toNat≤131 by omega)
    have k0:(0:Rat)≤(((0 - lge n d).toNat:Nat):Rat):=by exact_mod_cast Nat.zero_le _
    have q:=f (!c)
    have q1:=mlr q.2 k0
    have q2:=mnn q.1 k0
    exact⟨by grind,by grind⟩
theorem I8 {x l:Rat} {p:Nat} (hx:Ab x 64) (l0:0 < l) (hl:l≤exW false x) (gr:∃z:Int,l*2^p=(z:Rat)) (hp:p≤128):lnV false l.num.natAbs l.den≤x+rho:=by
  obtain⟨v,⟨v1,_⟩,vd,v0,v98⟩:=sX hx
  have hn:=(bZ l0).2
  have hd:=l.den_nz
  have hq:=Fz l0
  have e1:lge l.num.natAbs l.den < (99:Nat):=lge_hi hn hd (by
    rw[hq]
    have:(2:Rat)^98 < 2^99:=by decide+kernel
    grind)
  have e2: -(p:Int)≤lge l.num.natAbs l.den:=lge_lo hn hd (by
    rw[hq]
    obtain⟨z,hz⟩:=gr
    have hp:=co p
    have:=Rat.mul_pos l0 hp
    rw[hz] at this ⊢
    have z0:0 < z:=Rat.intCast_lt_intCast.1 this
    exact_mod_cast (show(1:Int)≤z by omega))
  have main:=(Hk hn hd (by omega) (by omega)).1
  have wa:=lnV_ab hn hd (by omega) (by omega) false
  rw[hq] at main
  generalize lnV false l.num.natAbs l.den=W at*
  refine Rat.not_lt.1 fun c=>?_
  obtain⟨r0,r1,r2,dl0,o0,_⟩:=BB
  have dd0:=dO_s.1
  obtain⟨f0,f1,f2,f3⟩:=FY
  have hW:Ab W 256:=wa.le (by decide)
  have hX:Ab x 256:=hx.le (by decide)
  have hS:Ab (-W+x) 256:=(wa.neg.add hx).le (by decide+kernel)
  have a:=Ca hW.neg hX hS
  have b:=Cb (x:=W - x) ⟨by have:=hS.2;grind,by have:=hS.1;grind⟩
  have e: -(W - x)= -W+x:=by grind
  rw[e] at b
  have g:=xE_ge (x:=W - x) (by grind) (by have:=hS.1;grind)
  have p1:=sD hW.neg
  have p2:=sD hS
  have o:=xE_oB hW.neg
  have k1:=mll (show l≤xE x+dl by have:=vd.2;grind) p1
  have k2:=mlr o dl0
  have k3:=mll g p2
  have a1:=a.2
  have b1:=b.2
  have k5:=mnn o0 dl0
  generalize xE (-W+x)=q at*
  generalize xE (-W)=w at*
  generalize xE (W - x)=y at*
  generalize oB 8*dl=od at*
  have k4:=mll (show 1+rho≤1+(W - x) by grind) p2
  have q1:1 - tF - dO - od≤q:=by grind
  have k6:=mlr q1 (show 0≤1+rho by grind)
  have k7:=mlr r2 (show 0≤tF+dO+od by grind)
  grind
theorem I9 {x l:Rat} {p:Nat} (hx:Ab x 64) (l0:0 < l) (hl:exW true x≤l) (gr:∃z:Int,l*2^p=(z:Rat)) (hp:p≤128):x≤lnV true l.num.natAbs l.den+rho:=by
  obtain⟨v,⟨_,v1⟩,vd,v0,v98⟩:=sX hx
  have hn:=(bZ l0).2
  have hd:=l.den_nz
  have hq:=Fz l0
  obtain⟨r0,r1,r2,dl0,o0,_⟩:=BB
  have dd0:=dO_s.1
  have e2: -(p:Int)≤lge l.num.natAbs l.den:=lge_lo hn hd (by
    rw[hq]
    obtain⟨z,hz⟩:=gr
    have hp:=co p
    have:=Rat.mul_pos l0 hp
    rw[hz] at this ⊢
    have z0:0 < z:=Rat.intCast_lt_intCast.1 this
    exact_mod_cast (show(1:Int)≤z by omega))
  by_cases e1:lge l.num.natAbs l.den≤131
  · have main:=(Hk hn hd (by omega) (by omega)).2
    have wa:=lnV_ab hn hd (by omega) (by omega) true
    rw[hq] at main
    generalize lnV true l.num.natAbs l.den=W at*
    refine Rat.not_lt.1 fun c=>?_
    obtain⟨f0,f1,f2,f3⟩:=FY
    have hW:Ab W 256:=wa.le (by decide)
    have hX:Ab x 256:=hx.le (by decide)
    have hS:Ab (-W+x) 256:=(wa.neg.add hx).le (by decide+kernel)
    have a:=Ca hW.neg hX hS
    have g:=xE_ge (x:=-W+x) (by grind) hS.2
    have p1:=sD hW.neg
    have o:=xE_oB hW.neg
    have k1:=mll (show xE x - dl≤l by have:=vd.1;grind) p1
    have k2:=mlr o dl0
    have a1:=a.1
    have k5:=mnn o0 dl0
    generalize xE (-W+x)=q at*
    generalize xE (-W)=w at*
    generalize oB 8*dl=od at*
    grind
  · obtain⟨m1,m2⟩:=mQ_bd hn hd
    have g:=gL_bd (c:=true) m1 (llt m2)
    unfold lnV
    rw[if_pos (by omega),lM_gL hn hd]
    have k:(132:Rat)≤(((lge l.num.natAbs l.den).toNat:Nat):Rat):=by exact_mod_cast (show 132≤(lge l.num.natAbs l.den).toNat by omega)
    have q:=mlr l2_num (show(0:Rat)≤(((lge l.num.natAbs l.den).toNat:Nat):Rat) by grind)
    have:=hx.2
    grind
theorem wb {a x e:Rat} {p n:Nat} (ha:∃z:Int,a*2^p=(z:Rat)) (hp:p≤128) (hs:sz x≤n) (h:a≤x+e) (he:e*2^(128+n) < 1) (e0:0≤e):a≤x:=by
  obtain⟨y,hy⟩:=dZ ha hp
  have d:=bl_le.1 (Nat.le_trans (bB x) hs)
  have dr:(x.den:Rat)≤2^n:=by
    have:(x.den:Rat)≤((2^n:Nat):Rat):=Rat.natCast_le_natCast.2 (Nat.le_of_lt d)
    rw[Rat.natCast_pow] at this
    exact this
  have d0:(0:Rat) < (x.den:Rat):=by exact_mod_cast x.den_pos
  have q:=q_den x
  have p0:=co 128
  have pd:=Rat.mul_pos p0 d0
  have m:=mlr h (llt pd)
  have m1:=mll dr (mnn e0 (llt p0))
  have pe:(2:Rat)^(128+n)=2^128*2^n:=yp 128 n
  rw[pe] at he
  have l:((y*(x.den:Int):Int):Rat) < ((x.num*2^128+1:Int):Rat):=by
    rw[Rat.intCast_add,Rat.intCast_mul,Rat.intCast_mul,show((1:Int):Rat)=1 from rfl,show((2^128:Int):Rat)=2^128 by decide+kernel,show(((x.den:Nat):Int):Rat)=(x.den:Rat) from rfl,←hy,←q]
    generalize(2:Rat)^128=P at*
    generalize(2:Rat)^1024=R at*
    generalize(x.den:Rat)=D at*
    grind
  have l2:y*(x.den:Int)≤x.num*2^128:=by
    have:=Rat.intCast_lt_intCast.1 l
    omega
  have l3:=Rat.intCast_le_intCast.2 l2
  rw[Rat.intCast_mul,Rat.intCast_mul,show((2^128:Int):Rat)=2^128 by decide+kernel,show(((x.den:Nat):Int):Rat)=(x.den:Rat) from rfl,←hy,←q] at l3
  refine lmm (c:=2^128*(x.den:Rat)) ?_ pd
  grind
end Go.Q
