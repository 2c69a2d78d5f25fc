/-
  The sizes of the brackets' ends: no program. Conditions: eErr tells no error.
  The statements' helper right; the reference's domains and exact values. Conditions: the values are numbers (Cn, Qr).
  The bracket of a function as the statements read it (bracket), for every number. Conditions: the number has at most 2^35 binary digits.
  The brackets that Apply returns at a number and at its opposite: no program. Conditions: a function of sine, cosine, tangent, arcsine, arctangent; of the first three: no tie.
  The exponentials of a number and of its opposite; their order: no program. Conditions: as Apply's.
  What Turns returns. Conditions: the ends are numbers as they come in.
  Quarter turns in a range: a wide range has them; a wider one has what a narrower one has. Plain. Conditions: none.
  The reference's helpers of layer 2: natural numbers, quotients rounded, numbers of a grid; its domains and exact values. Conditions: the values are natural numbers (N16) and numbers (Qr).
  The reference of layer 2: its grid, the series of the arctangent, pi. Conditions: the values are natural numbers (N16) and numbers (Qr).
  Contracts of package elem: the argument of exp made ready; what Exp returns. Conditions: the argument is small enough, the value is not exact.
  The statements' check of one bracket (sane); the statement ElemPi. Conditions: none.
  The reference of layer 2: quarter turns. Conditions: the values are numbers (Qr).
  The statement ElemInverse. Conditions: the argument is a number as it comes in (Rw).
  A number as it comes in, of at most 2^26 binary digits (Rx). Conditions: none.
  A number as a statement's argument, read, with its size. Conditions: what is read is of bulk at most 1048576.
  Roots of numbers on a grid, plain: their signs, when they are exact, their order. Conditions: the index is not 0.
  The series of the arctangent on a grid lies on both sides of its exact sum, which rises: no program. Conditions: the numbers are at most 1.
  The brackets of the arctangent and of halved angles keep the order: no program. Conditions: the numbers are at most 1 of the grid.
  Sixteen times the lower arctangent of a sixteenth of a turn at most pi's upper bound (by computation): no program. Conditions: the working precision is from 32 to 160.
  The brackets of arctangent, arcsine and arccosine keep the order: no program. Conditions: the functions' domains; precisions up to 128.
  The brackets of logarithm and exponential keep the order: no program. Conditions: the functions' domains.
  The brackets of the functions that rise, and of the arccosine, keep the order: no program. Conditions: both numbers have a bracket.
  The series of sine and cosine on a grid and their exact sums: no program. Conditions: the numbers are at most 1.
  How far apart the bounds of the series are: no program. Conditions: the numbers are at most 1 of the grid (of the exponential: 64).
  The brackets' ends are whole multiples of a unit, in order, at most two units apart: no program. Conditions: the functions' domains; precisions up to 128.
  Sums of 161 terms of the exponential's parts: the addition theorem, but for very little: no program. Conditions: the numbers are at most 2.
  The sums of sine and cosine lie between their bounds: no program. Conditions: the numbers are at most 1.
  Sine, cosine and tangent lie between the bounds of their brackets, with any two precisions: no program. Conditions: the number's absolute value is at most 2^32; precisions up to 128.
  Brackets with two precisions have a number in common: no program. Conditions: the functions' domains; precisions up to 128.
  The logarithm's sum of 150 terms: the logarithm of a product, but for very little: no program. Conditions: the numbers are from 1 to 4.
  The logarithm's brackets and its value: no program. Conditions: the numbers are above 0.
  The statement ElemLogs. Conditions: the arguments are numbers as they come in, of at most 2^26 binary digits (Rx).
-/
import Derived.Test.YtclajmpjcojhaaaGreatDoorKeed6f3PkF
import Derived.Test.YtclajmpjcojhaaaGreatDoorK60ff85PkN
import Derived.Test.YtclajmpjcojhaaaGreatDoorK94fcb0PkL
import Derived.Test.YtclajmpjcojhaaaGreatDoorK5f5312PkM
set_option linter.unusedVariables false
set_option linter.unusedSimpArgs false
namespace Go.Q
set_option maxRecDepth 100000
set_option maxHeartbeats 4000000
theorem sgn_szp {neg:Bool} {n p k:Nat} (h:bl n≤k) (hp:p+1≤k):sz (sgn neg n (2^p))≤k:=by
  have h1:=sz_sgn neg n (pow2_ne p)
  have h2:=bl_pow2 p
  omega
theorem bk_sz {neg:Bool} {a b k p m:Nat} (ha:bl a≤m) (hb:bl b≤m) (hp:p≤m):sz (bkL neg a b k p)≤m+1∧sz (bkH neg a b k p)≤m+1:=by
  have h1:=bl_div_le a (2^k)
  have h2:=bl_cdiv b (pow2_ne k)
  unfold bkL bkH
  cases neg
  · exact⟨sgn_szp (by omega) (by omega),sgn_szp (by omega) (by omega)⟩
  · exact⟨sgn_szp (by omega) (by omega),sgn_szp (by omega) (by omega)⟩
theorem exp_sz {x:Rat} {p:Nat} (hb:¬x.den*64 < x.num.natAbs) (hp:p≤128):sz (expLo x p)≤2048∧sz (expHi x p)≤2048:=by
  obtain⟨f1,f2,f3,f4⟩:=exp_fit (p:=p) hb
  unfold expLo expHi
  generalize expL x p=A at*
  generalize expH x p=B at*
  have u:=bl_pow2 (p+112+p)
  have h1:=bl_div_le (2^(p+112+p)) B
  have h2:=bl_cdiv (2^(p+112+p)) f3
  have h3:=bl_div_le A (2^112)
  have h4:=bl_cdiv B (pow2_ne 112)
  generalize 2^(p+112+p)=U at*
  generalize U / B=a1 at*
  generalize cdiv U A=a2 at*
  generalize A / 2^112=a3 at*
  generalize cdiv B (2^112)=a4 at*
  constructor<;>split<;>exact sgn_szp (by omega) (by omega)
theorem ln_sz {n d p:Nat} (hn:n≠0) (b1:bl n≤1024) (b2:bl d≤1024) (hp:p≤128):sz (lnLo n d p)≤2048∧sz (lnHi n d p)≤2048:=by
  obtain⟨a1,a2,_,_⟩:=lge_abs b1 b2
  obtain⟨l1,l2⟩:=lgm_arg (n:=n) (d:=d) (w:=p+32) hn
  obtain⟨l3,l4⟩:=lg2_arg (p+32)
  obtain⟨l5,l6⟩:=logL_le l1 l2
  obtain⟨l7,l8⟩:=logL_le l3 l4
  have c1:bl (lgmL n d (p+32))≤p+32+8:=bl_112 l5
  have c2:bl (lgmH n d (p+32))≤p+32+8:=bl_112 l6
  have c3:bl (lg2L (p+32))≤p+32+8:=bl_112 l7
  have c4:bl (lg2H (p+32))≤p+32+8:=bl_112 l8
  clear l1 l2 l3 l4 l5 l6 l7 l8
  generalize e1:lgmL n d (p+32)=A at*
  generalize e2:lgmH n d (p+32)=B at*
  generalize e3:lg2L (p+32)=C at*
  generalize e4:lg2H (p+32)=D at*
  by_cases he:0≤lge n d
  · obtain⟨m,hm⟩:∃m:Nat,(lge n d).toNat=m:=⟨_,rfl⟩
    have bm:bl m≤11:=bl_le.2 (by omega)
    have b14:=bl_mul C m
    have b15:=bl_mul D m
    have b16:=bl_add (C*m) A
    have b17:=bl_add (D*m) B
    have b18:=bl_div_le (C*m+A) (2^32)
    have b19:=bl_cdiv (D*m+B) (pow2_ne 32)
    unfold lnLo lnHi
    rw[if_pos he,if_pos he,hm,e1,e2,e3,e4]
    exact⟨sgn_szp (by omega) (by omega),sgn_szp (by omega) (by omega)⟩
  · obtain⟨m,hm⟩:∃m:Nat,(0 - lge n d).toNat=m:=⟨_,rfl⟩
    have bm:bl m≤11:=bl_le.2 (by omega)
    have b14:=bl_mul C m
    have b15:=bl_mul D m
    have y1:=sz_dif (a:=A) (b:=D*m) (w:=p+32) (k:=p+52) (by omega) (by omega) (by omega)
    have y2:=sz_dif (a:=B) (b:=C*m) (w:=p+32) (k:=p+52) (by omega) (by omega) (by omega)
    unfold lnLo lnHi
    rw[if_neg he,if_neg he,hm,e1,e2,e3,e4]
    have z1:=sz_gd (sgn false A (2^(p+32))+ -sgn false (D*m) (2^(p+32))) p
    have z2:=sz_gu (sgn false B (2^(p+32))+ -sgn false (C*m) (2^(p+32))) p
    omega
theorem at_sz {x:Rat} {p:Nat} (hp:p≤128):sz (atLo x p)≤2048∧sz (atHi x p)≤2048:=by
  have key:bl (atA x (p+32))≤p+38∧bl (atB x (p+32))≤p+38:=by
    obtain⟨b1,b2⟩:=bl_pi (w:=p+32)
    unfold atA atB
    by_cases hb:x.den < x.num.natAbs
    · rw[if_pos hb,if_pos hb]
      have h1:bl (piL (p+32) - anH (glo (invQ x) (p+32)) (ghi (invQ x) (p+32)) (p+32)*2^1)≤_:=bl_mono (Nat.sub_le _ _)
      have h2:bl (piH (p+32) - anL (glo (invQ x) (p+32)) (ghi (invQ x) (p+32)) (p+32)*2^1)≤_:=bl_mono (Nat.sub_le _ _)
      omega
    · rw[if_neg hb,if_neg hb]
      obtain⟨l1,l2⟩:=g_le (x:=x) (w:=p+32) hb
      obtain⟨m1,m2⟩:=an_le (w:=p+32) (by omega) l1 l2
      have b3:=bl_w3 (by omega) m1
      have b4:=bl_w3 (by omega) m2
      omega
  obtain⟨k1,k2⟩:=bk_sz (neg:=decide (x.num < 0)) (k:=atK x) (p:=p) key.1 key.2 (by omega)
  exact⟨Nat.le_trans k1 (by omega),Nat.le_trans k2 (by omega)⟩
theorem as_sz {x:Rat} {p:Nat} (h:x.num.natAbs≤x.den) (hp:p≤128):sz (asinLo x p)≤2048∧sz (asinHi x p)≤2048:=by
  obtain⟨b1,b2⟩:=bl_as (w:=p+32) (by omega) h
  obtain⟨k1,k2⟩:=bk_sz (neg:=decide (x.num < 0)) (k:=32) (p:=p) b1 b2 (by omega)
  exact⟨Nat.le_trans k1 (by omega),Nat.le_trans k2 (by omega)⟩
theorem ac_sz {x:Rat} {p:Nat} (h:x.num.natAbs≤x.den) (hp:p≤128):sz (acLo x p)≤2048∧sz (acHi x p)≤2048:=by
  obtain⟨b1,b2⟩:=bl_as (w:=p+32) (by omega) h
  obtain⟨b3,b4⟩:=bl_pi (w:=p+32)
  have b5:=bl_shl (asL x (p+32)) 1
  have b6:=bl_shl (asU x (p+32)) 1
  unfold acLo acHi
  by_cases h0:x=0
  · rw[if_pos h0,if_pos h0]
    obtain⟨k1,k2⟩:=bk_sz (neg:=false) (k:=33) (p:=p) b3 b4 (by omega)
    exact⟨Nat.le_trans k1 (by omega),Nat.le_trans k2 (by omega)⟩
  · rw[if_neg h0,if_neg h0]
    by_cases hs:x.num < 0
    · rw[if_pos hs,if_pos hs]
      have b9:=bl_add (piL (p+32)) (asL x (p+32)*2^1)
      have b10:=bl_add (piH (p+32)) (asU x (p+32)*2^1)
      obtain⟨k1,k2⟩:=bk_sz (neg:=false) (k:=33) (p:=p) (m:=p+50) (show bl (piL (p+32)+asL x (p+32)*2^1)≤p+50 by omega) (show bl (piH (p+32)+asU x (p+32)*2^1)≤p+50 by omega) (by omega)
      exact⟨Nat.le_trans k1 (by omega),Nat.le_trans k2 (by omega)⟩
    · rw[if_neg hs,if_neg hs]
      have y1:=sz_dif (a:=piL (p+32)) (b:=asU x (p+32)*2^1) (w:=p+32+1) (k:=p+52) (by omega) (by omega) (by omega)
      have y2:=sz_dif (a:=piH (p+32)) (b:=asL x (p+32)*2^1) (w:=p+32+1) (k:=p+52) (by omega) (by omega) (by omega)
      have z1:=sz_gd (sgn false (piL (p+32)) (2^(p+32+1))+ -sgn false (asU x (p+32)*2^1) (2^(p+32+1))) p
      have z2:=sz_gu (sgn false (piH (p+32)) (2^(p+32+1))+ -sgn false (asL x (p+32)*2^1) (2^(p+32+1))) p
      omega
theorem g_sz {x y:Rat} {p k:Nat} (h1:sz x≤k) (h2:sz y≤k) (hk:k+2*p+2≤2048):sz (gdown x p)≤2048∧sz (gup y p)≤2048:=by
  have z1:=sz_gd x p
  have z2:=sz_gu y p
  omega
theorem ser_sz {fn:Int} {x:Rat} {p:Int} (he:eErr fn x p=0) (hb:exB fn x=false):sz (serL fn x p.toNat)≤2048∧sz (serH fn x p.toNat)≤2048:=by
  obtain⟨hf,p0,p1,hd,bx,k1,k2⟩:=eErr_p he
  have hp:p.toNat≤128:=by omega
  generalize p.toNat=q at*
  unfold serL serH
  by_cases h1:fn=1
  · subst h1;exact exp_sz (k1 rfl) hp
  rw[if_neg h1,if_neg h1]
  by_cases h2:fn=2
  · subst h2
    rw[if_pos rfl,if_pos rfl]
    refine ln_sz (fun e=>?_) (Nat.le_trans (sz_num x) bx) (Nat.le_trans (sz_den x) bx) hp
    have hx:0 < x:=by simpa[defB] using hd
    have:=Rat.num_eq_zero.1 (Int.natAbs_eq_zero.1 e)
    rw[this] at hx
    exact absurd hx (by decide)
  rw[if_neg h2,if_neg h2]
  by_cases h3:fn=3
  · subst h3
    rw[if_pos rfl,if_pos rfl]
    obtain⟨z1,z2,_,_⟩:=sc_sz (w:=q+64) (k2 (.inl rfl)) (by omega) (by omega)
    exact g_sz z1 z2 (by omega)
  rw[if_neg h3,if_neg h3]
  by_cases h4:fn=4
  · subst h4
    rw[if_pos rfl,if_pos rfl]
    obtain⟨_,_,z1,z2⟩:=sc_sz (w:=q+64) (k2 (.inr (.inl rfl))) (by omega) (by omega)
    exact g_sz z1 z2 (by omega)
  rw[if_neg h4,if_neg h4]
  by_cases h5:fn=5
  · subst h5
    rw[if_pos rfl,if_pos rfl]
    obtain⟨z1,z2⟩:=tqL_sz (x:=x) (w:=q+64) (k2 (.inr (.inr rfl))) (by omega) (by omega) 3
    exact g_sz z1 z2 (by omega)
  rw[if_neg h5,if_neg h5]
  by_cases h6:fn=6
  · subst h6
    rw[if_pos rfl,if_pos rfl]
    exact as_sz (abs_1 hd) hp
  rw[if_neg h6,if_neg h6]
  by_cases h7:fn=7
  · subst h7
    rw[if_pos rfl,if_pos rfl]
    exact ac_sz (abs_1 hd) hp
  rw[if_neg h7,if_neg h7]
  exact at_sz hp
theorem el_sz {fn:Int} {x:Rat} {p:Int}:sz (elL fn x p)≤2048∧sz (elH fn x p)≤2048:=by
  unfold elL elH
  by_cases e:elE fn x p≠0
  · rw[if_pos e,if_pos e];decide
  · rw[if_neg e,if_neg e]
    have he:eErr fn x p=0:=by
      refine Decidable.byContradiction fun c=>e ?_
      unfold elE
      rw[if_pos c]
      exact c
    cases hb:exB fn x with
    | true=>
      simp only[if_true]
      have:sz (exV fn x)≤2048:=by unfold exV;split<;>decide
      exact⟨this,this⟩
    |false=>exact ser_sz he hb
end Go.Q
namespace Go.Q
open Go.Proofs
set_option maxRecDepth 100000
set_option maxHeartbeats 8000000
theorem Right_spec {h0 h:PH} [Le h0 h] {v w:Value} {x y:Rat} (hx:Cn h0 v x) (hy:Qr h0 w y) (bx:sz x≤2^30) (by_:sz y≤2^30):Spec mach 22 #[v,w] h (fun r _=>r=.bool (decide (x=y))) NP:=by
  have kC:=fun {h} [Le h0 h]=>Canonical_cn (h:=h) hx bx
  have hw:=hx.rw bx
  have kO:=fun {h} [Le h0 h]=>QOf_spec (h:=h) hw
  rw[qof_cn] at kO
  have e3:(cmpQ x y == 0)=decide (x=y):=by unfold cmpQ;grind
  obtain⟨_,_,_,_,_,_,_,rfl,_⟩:=hx.sa
  have hy0:=hy
  obtain⟨_,_,_,_,_,_,_,rfl,_⟩:=hy.sl
  refine Spec.go [(1,.o [0,1,2,3,5,4,6,7,8,9])] Tryz.func22 rfl rfl (by kernel_rfl) fun C _=>?_
  try simp(disch:=omega) only[go_sem,Nat.reduceBEq,Nat.reduceAdd]
  refine caN (by exact kC) ?_;rintro v1 h1 s1 rfl
  try simp(disch:=omega) only[go_sem,Nat.reduceBEq,Nat.reduceAdd]
  refine caN (by exact kO) ?_;rintro v2 h2 s2 q2;have q2':=q2;obtain⟨_,_,_,_,_,_,_,rfl,_⟩:=q2'.sl
  try simp(disch:=omega) only[go_sem,Nat.reduceBEq,Nat.reduceAdd]
  refine caN (by exact QCmp_spec q2 (hy0.to (h':=h2)) (Nat.le_trans bx (by decide)) (Nat.le_trans by_ (by decide))) ?_;rintro v3 h3 s3 rfl
  try simp(disch:=omega) only[go_sem,Nat.reduceBEq,Nat.reduceAdd,e3]
end Go.Q
namespace Go.Q
open Go.Proofs
set_option maxRecDepth 100000
set_option maxHeartbeats 8000000
def brE (fn:Int) (x:Rat) (p:Int):Int:=if 2048 < sz x then 1 else elE fn x p
def brL (fn:Int) (x:Rat) (p:Int):Rat:=if 2048 < sz x then 0 else elL fn x p
def brH (fn:Int) (x:Rat) (p:Int):Rat:=if 2048 < sz x then 0 else elH fn x p
theorem br_sz (fn:Int) (x:Rat) (p:Int):sz (brL fn x p)≤2048∧sz (brH fn x p)≤2048:=by
  unfold brL brH
  by_cases h:2048 < sz x
  · rw[if_pos h,if_pos h];decide
  · rw[if_neg h,if_neg h];exact el_sz
theorem len32 (n:Nat):(W 4294967296 n).length≤(bl n+31) / 32:=
  W_length_le (by decide) (by rw[←B_pow];exact Nat.lt_of_lt_of_le (bl_le.1 (Nat.le_refl _)) (Nat.pow_le_pow_right (by decide) (by omega)))
theorem Cn.rwb {h:PH} {v:Value} {x:Rat} (r:Cn h v x) (bx:sz x≤2^35):Rw h v (decide (x.num < 0)) x.num.natAbs (if x.den=1 then 0 else x.den):=by
  obtain⟨sn,sd,rfl,h2,h3⟩:=r
  have b1:=sz_num x;have b2:=sz_den x
  have b3:bl (if x.den=1 then 0 else x.den)≤bl x.den:=bl_mono (by split<;>omega)
  obtain⟨a,c,xs,rfl,ha,hx,hm⟩:=h2.out
  obtain⟨a',c',ys,rfl,ha',hy,hm'⟩:=h3.out
  have l1:=len32 x.num.natAbs
  have l2:=len32 (if x.den=1 then 0 else x.den)
  rw[hx] at l1
  rw[hy] at l2
  exact⟨_,_,_,_,_,_,rfl,ha,ha',hm,hm',by omega,by omega⟩
theorem Apply_cn {h0 h:PH} [Le h0 h] {v:Value} {x:Rat} {fn p:Int} (hk:∀{h0 h:PH} {w:Value} [Le h0 h],Rv h0 w x→Spec mach 19 #[.int .i64 fn,w,.int .i64 p] h (fun r h'=>Ber h' r (elE fn x p) (elL fn x p) (elH fn x p)) NP) (hx:Cn h0 v x) (bx:sz x≤2^35):Spec mach 19 #[.int .i64 fn,v,.int .i64 p] h (fun r h'=>Ber h' r (brE fn x p) (brL fn x p) (brH fn x p)) NP:=by
  unfold brE brL brH
  by_cases hs:2048 < sz x
  · rw[if_pos hs,if_pos hs,if_pos hs];exact Apply_no (hx.rwb bx) (lg_cn.2 hs)
  · rw[if_neg hs,if_neg hs,if_neg hs];exact hk (Rv.of hx (by omega))
theorem QOf_can {h0 h:PH} [Le h0 h] {v:Value} {x:Rat} (hv:Cn h0 v x) (bx:sz x≤2^30):Spec mach 6 #[v] h (fun v h'=>Qr h' v x) NP:=by
  have:=QOf_spec (h:=h) (hv.rw bx)
  rw[qof_cn] at this
  exact this
def Qb (h:PH) (r:Value) (x y:Rat) (b:Bool):Prop:=∃b1 a1 m1 c1 a2 m2 c2 b2 a3 m3 c3 a4 m4 c4,r=.tuple #[.agg #[.bool b1,.slice a1 m1 c1,.slice a2 m2 c2],.agg #[.bool b2,.slice a3 m3 c3,.slice a4 m4 c4],.bool b]∧Qr h (.agg #[.bool b1,.slice a1 m1 c1,.slice a2 m2 c2]) x∧Qr h (.agg #[.bool b2,.slice a3 m3 c3,.slice a4 m4 c4]) y
theorem LBracket_spec {h0 h:PH} [Le h0 h] {v:Value} {x:Rat} {fn p:Int} (hk:∀{h0 h:PH} {w:Value} [Le h0 h],Rv h0 w x→Spec mach 19 #[.int .i64 fn,w,.int .i64 p] h (fun r h'=>Ber h' r (elE fn x p) (elL fn x p) (elH fn x p)) NP) (hx:Qr h0 v x) (bx:sz x≤2^35):Spec mach 7 #[.int .i64 fn,v,.int .i64 p] h (fun r h'=>Qb h' r (brL fn x p) (brH fn x p) (decide (brE fn x p=0))) NP:=by
  obtain⟨z1,z2⟩:=br_sz fn x p
  have kA:=fun {h0 h:PH} {w:Value} [Le h0 h] (c:Cn h0 w x)=>Apply_cn (h:=h) (fn:=fn) (p:=p) hk c bx
  clear hk
  generalize brE fn x p=e at*
  generalize brL fn x p=lo at*
  generalize brH fn x p=hi at*
  have ee:(e == 0)=decide (e=0):=by rw[Bool.eq_iff_iff];simp
  obtain⟨_,_,_,_,_,_,_,rfl,hx⟩:=hx.sa
  refine Spec.go [(2,.h [] [] [] [0,1,3,4,6,7,2,5,8,9,10])] Tryz.func7 rfl rfl (by kernel_rfl) fun C _=>?_
  try simp(maxSteps:=999999) (disch:=omega) only[go_sem,Nat.reduceBEq,Nat.reduceAdd]
  refine caN (by exact QRat_spec hx (Nat.le_trans bx (by decide))) ?_;rintro v1 h1 s1 q1;obtain⟨_,_,_,_,_,_,_,rfl,q1⟩:=q1.sa
  try simp(maxSteps:=999999) (disch:=omega) only[go_sem,Nat.reduceBEq,Nat.reduceAdd]
  refine caN (by exact kA q1) ?_;rintro v2 h2 s2 q2;obtain⟨_,_,_,_,_,_,_,_,_,_,_,_,_,_,rfl,c1,c2⟩:=q2
  try simp(maxSteps:=999999) (disch:=omega) only[go_sem,Nat.reduceBEq,Nat.reduceAdd]
  refine caN (by exact QOf_can c1 (Nat.le_trans z1 (by decide))) ?_;rintro v3 h3 s3 q3;obtain⟨_,_,_,_,_,_,_,rfl,q3⟩:=q3.sa
  try simp(maxSteps:=999999) (disch:=omega) only[go_sem,Nat.reduceBEq,Nat.reduceAdd]
  refine caN (by exact QOf_can (c2.to (h':=h3)) (Nat.le_trans z2 (by decide))) ?_;rintro v4 h4 s4 q4;obtain⟨_,_,_,_,_,_,_,rfl,q4⟩:=q4.sa
  try simp(maxSteps:=999999) (disch:=omega) only[go_sem,Nat.reduceBEq,Nat.reduceAdd]
  rw[ee]
  exact⟨_,_,_,_,_,_,_,_,_,_,_,_,_,_,rfl,q3.to,q4⟩
end Go.Q
namespace Go.Q
set_option maxRecDepth 100000
set_option maxHeartbeats 4000000
theorem br_p {fn:Int} {x:Rat} {p:Int} (h:brE fn x p=0):sz x≤1024∧0≤p∧p≤128:=by
  unfold brE at h
  split at h
  · cases h
  · unfold elE at h
    by_cases he:eErr fn x p=0
    · have:=eErr_p he;omega
    · rw[if_pos he] at h;exact absurd h he
theorem br_ser {fn:Int} {x:Rat} {p:Int} (h:brE fn x p=0):brL fn x p=(if exB fn x=true then exV fn x else serL fn x p.toNat)∧brH fn x p=(if exB fn x=true then exV fn x else serH fn x p.toNat):=by
  have b:=br_p h
  unfold brE at h
  rw[if_neg (by omega)] at h
  have n1:¬2048 < sz x:=by omega
  constructor
  · show(if 2048 < sz x then 0 else elL fn x p)=_
    rw[if_neg n1]
    show(if elE fn x p≠0 then 0 else if exB fn x=true then exV fn x else serL fn x p.toNat)=_
    rw[if_neg (fun c=>c h)]
  · show(if 2048 < sz x then 0 else elH fn x p)=_
    rw[if_neg n1]
    show(if elE fn x p≠0 then 0 else if exB fn x=true then exV fn x else serH fn x p.toNat)=_
    rw[if_neg (fun c=>c h)]
end Go.Q
namespace Go.Q
set_option maxRecDepth 100000
set_option maxHeartbeats 4000000
end Go.Q
namespace Go.Q
open Go.Proofs
set_option maxRecDepth 100000
set_option maxHeartbeats 16000000
def wideB (x:Rat):Prop:=1024 < sz x∨x.den*4294967296 < x.num.natAbs
instance (x:Rat):Decidable (wideB x):=inferInstanceAs (Decidable (_∨_))
end Go.Q
namespace Go.Q
open Go.Proofs
set_option maxRecDepth 100000
end Go.Q
namespace Go.Q
open Go.Proofs
set_option maxRecDepth 100000
set_option maxHeartbeats 8000000
end Go.Q
namespace Go.Q
open Go.Proofs
set_option maxRecDepth 100000
set_option maxHeartbeats 8000000
end Go.Q
namespace Go.Q
open Go.Proofs
set_option maxRecDepth 100000
set_option maxHeartbeats 8000000
theorem EReady_exp {h0 h:PH} [Le h0 h] {v:Value} {x:Rat} {p:Int} (hx:Rv h0 v x) (hp:0≤p∧p≤128) (hl:¬1024 < sz x) (hb:¬x.den*64 < x.num.natAbs):Spec mach 84 #[.int .i64 1,v,.int .i64 p] h (fun r h'=>∃b na nl nc da dl dc,r=.tuple #[.agg #[.bool b,.slice na nl nc,.slice da dl dc],.int .i64 0]∧Cn h' (.agg #[.bool b,.slice na nl nc,.slice da dl dc]) x) NP:=by
  have kK:=fun {h} [Le h0 h]=>EKnown_ok (h:=h) (fn:=1) hx (by decide)
  have bx:=hx.sz
  obtain⟨_,_,_,_,_,_,_,rfl,_⟩:=hx.sa
  have d1:defB 1 x=true:=rfl
  refine Spec.go [] Tryz.func84 rfl rfl (by kernel_rfl) fun C _=>?_
  try simp(disch:=omega) only[go_sem,Nat.reduceBEq,Nat.reduceAdd]
  refine caN (by exact kK) ?_;rintro v1 h1 s1 ⟨_,_,_,_,_,_,_,rfl,c⟩
  try simp(disch:=omega) only[go_sem,Nat.reduceBEq,Nat.reduceAdd]
  refine caN (by exact EDefined_spec (fn:=1) c) ?_;rintro v2 h2 s2 rfl
  try simp(disch:=omega) only[go_sem,Nat.reduceBEq,Nat.reduceAdd]
  rw[d1]
  try simp(disch:=omega) only[go_sem,Nat.reduceBEq,Nat.reduceAdd]
  refine caN (by exact TooLong_spec (c.to (h':=h2))) ?_;rintro v3 h3 s3 rfl
  try simp(disch:=omega) only[go_sem,Nat.reduceBEq,Nat.reduceAdd]
  try rw[decide_eq_false hl]
  try simp(disch:=omega) only[go_sem,Nat.reduceBEq,Nat.reduceAdd]
  refine caN (by exact Beyond_spec (n:=64) (c.to (h':=h3)) (by omega) (by decide)) ?_;rintro v4 h4 s4 rfl
  try simp(disch:=omega) only[go_sem,Nat.reduceBEq,Nat.reduceAdd]
  try rw[decide_eq_false hb]
  try simp(disch:=omega) only[go_sem,Nat.reduceBEq,Nat.reduceAdd]
  exact⟨_,_,_,_,_,_,_,rfl,c.to⟩
theorem EApply_exp {h0 h:PH} [Le h0 h] {v:Value} {x y z:Rat} {p:Int} {g:FuncId} (hx:Rv h0 v x) (hp:0≤p∧p≤128) (hl:¬1024 < sz x) (hb:¬x.den*64 < x.num.natAbs) (hx0:x≠0) (hg:∀{h0 h:PH} {a:Value} [Le h0 h],Cn h0 a x→Spec mach g #[a,.int .i64 p] h (fun r h'=>Be h' r y z) NP):
    Spec mach 46 #[.int .i64 1,v,.int .i64 p,.func (.func g) #[] #[]] h (fun r h'=>Be h' r y z) NP:=by
  have kK:=fun {h} [Le h0 h]=>EReady_exp (h:=h) hx hp hl hb
  have e1:exB 1 x=false:=by unfold exB;rw[if_neg (by decide)];exact decide_eq_false hx0
  have kE:=fun {h1 h:PH} {a:Value} [Le h1 h] (c:Cn h1 a x)=>EExact_spec (h:=h) (fn:=1) c
  rw[e1] at kE
  obtain⟨_,_,_,_,_,_,_,rfl,_⟩:=hx.sa
  refine Spec.go [] Tryz.func46 rfl rfl (by kernel_rfl) fun C _=>?_
  try simp(disch:=omega) only[go_sem,Nat.reduceBEq,Nat.reduceAdd]
  refine caN (by exact kK) ?_;rintro v1 h1 s1 ⟨_,_,_,_,_,_,_,rfl,c⟩
  try simp(disch:=omega) only[go_sem,Nat.reduceBEq,Nat.reduceAdd]
  refine caN (by exact kE c) ?_;rintro v2 h2 s2 ⟨_,_,_,_,_,_,_,rfl,_⟩
  try simp(disch:=omega) only[go_sem,Nat.reduceBEq,Nat.reduceAdd]
  refine caN (by exact hg (c.to (h':=h2))) ?_;rintro v3 h3 s3 ⟨_,_,_,_,_,_,_,_,_,_,_,_,_,_,rfl,q3⟩
  try simp(disch:=omega) only[go_sem,Nat.reduceBEq,Nat.reduceAdd]
  exact⟨_,_,_,_,_,_,_,_,_,_,_,_,_,_,rfl,q3⟩
theorem FExp_ok {h0 h:PH} [Le h0 h] {v:Value} {x:Rat} {p:Nat} (hx:Rv h0 v x) (hp:p≤128) (hl:¬1024 < sz x) (hb:¬x.den*64 < x.num.natAbs) (hx0:x≠0):Spec mach 21 #[v,.int .i64 p] h (fun r h'=>Be h' r (expLo x p) (expHi x p)) NP:=by
  have kA:=fun {h} [Le h0 h]=>EApply_exp (h:=h) (p:=p) (g:=37) hx (by omega) hl hb hx0 (fun {h0 h a} _ c=>EExp_spec c (by omega) hb hp)
  obtain⟨_,_,_,_,_,_,_,rfl,_⟩:=hx.sa
  clear hl hb
  refine Spec.go [] Tryz.func21 rfl rfl (by kernel_rfl) fun C _=>?_
  try simp(disch:=omega) only[go_sem,Nat.reduceBEq,Nat.reduceAdd]
  refine caN (by exact kA) ?_;rintro v1 h1 s1 ⟨_,_,_,_,_,_,_,_,_,_,_,_,_,_,rfl,r1,r2⟩
  try simp(disch:=omega) only[go_sem,Nat.reduceBEq,Nat.reduceAdd]
  exact⟨_,_,_,_,_,_,_,_,_,_,_,_,_,_,rfl,r1,r2⟩
end Go.Q
namespace Go.Q
open Go.Proofs
set_option maxRecDepth 100000
set_option maxHeartbeats 8000000
theorem RFrac2_spec {h:PH} {a b:Nat} (ha:a < 2^20) (hb:b < 2^20):Spec mach 23 #[.int .i64 a,.int .i64 b] h (fun v h'=>Qr h' v ((a:Rat) / (b:Rat))) NP:=by
  have S:∀{n:Nat},n < 2^20→sz (((n:Int)):Rat)≤2^35:=by
    intro n hn
    unfold sz
    have e1:bl ((((n:Int)):Rat).num.natAbs)≤64:=bl_le.2 (by simp;omega)
    have e2:bl ((((n:Int)):Rat).den)≤64:=bl_le.2 (by simp)
    omega
  have b1:=S ha
  have b2:=S hb
  have e:((((a:Int)):Rat) / (((b:Int)):Rat))=(a:Rat) / (b:Rat):=rfl
  refine Spec.go [] Tryz.func23 rfl rfl (by kernel_rfl) fun C _=>?_
  try simp(disch:=omega) only[go_sem,Nat.reduceBEq,Nat.reduceAdd]
  refine caN (by exact QInt_spec (n:=a) (by omega) (by omega)) ?_;rintro v1 g1 s1 q1;obtain⟨_,_,_,_,_,_,_,rfl,q1⟩:=q1.sa
  try simp(disch:=omega) only[go_sem,Nat.reduceBEq,Nat.reduceAdd]
  refine caN (by exact QInt_spec (n:=b) (by omega) (by omega)) ?_;rintro v2 g2 s2 q2;obtain⟨_,_,_,_,_,_,_,rfl,q2⟩:=q2.sa
  try simp(disch:=omega) only[go_sem,Nat.reduceBEq,Nat.reduceAdd]
  refine caN (by exact QDiv_spec (q1.to (h':=g2)) q2 b1 b2) ?_;rintro v3 g3 s3 q3;rw[e] at q3;obtain⟨_,_,_,_,_,_,_,rfl,q3⟩:=q3.sa
  try simp(disch:=omega) only[go_sem,Nat.reduceBEq,Nat.reduceAdd]
  exact q3
theorem exp_sane1:expLo 1 3=((21:Nat):Rat) / ((8:Nat):Rat):=by
  unfold expLo
  rw[if_neg (by decide),show expL 1 3 / 2^112=21 by decide+kernel]
  decide+kernel
theorem exp_sane2:expHi 1 3=((11:Nat):Rat) / ((4:Nat):Rat):=by
  unfold expHi
  rw[if_neg (by decide),show cdiv (expH 1 3) (2^112)=22 by decide+kernel]
  decide+kernel
theorem one_rv {h:PH} {b:Nat} (hb:h b=some #[.int .u32 1]):Rv h (.agg #[.bool false,.slice (some ⟨b,0,none⟩) 1 1,.slice none 0 0]) 1:=by
  have e:qof false 1 0=1:=by decide+kernel
  refine⟨false,1,0,⟨some ⟨b,0,none⟩,1,[1],none,0,[],rfl,Arr.of_row (fun _=>hb) (by decide) (by decide) (by decide),Arr.nil _,rfl,rfl,by decide,by decide⟩,?_,e⟩
  unfold lg
  rw[e]
  decide+kernel
theorem sane_spec {h:PH}:Spec mach 8 #[] h (fun r _=>r=.bool true) NP:=by
  have z1:sz (((21:Nat):Rat) / ((8:Nat):Rat))≤2^30:=by decide+kernel
  have z2:sz (((11:Nat):Rat) / ((4:Nat):Rat))≤2^30:=by decide+kernel
  have e1:decide (((21:Nat):Rat) / ((8:Nat):Rat)=((21:Nat):Rat) / ((8:Nat):Rat))=true:=decide_eq_true rfl
  have e2:decide (((11:Nat):Rat) / ((4:Nat):Rat)=((11:Nat):Rat) / ((4:Nat):Rat))=true:=decide_eq_true rfl
  have z1:=Hid.mk z1
  have z2:=Hid.mk z2
  refine Spec.go [(1,.t (.s [0] (.p 0 (.s [1,2,3,4,5,6,7,8] .d))))] Tryz.func8 rfl rfl (by kernel_rfl) fun C _=>?_
  try simp(disch:=omega) only[go_sem,Nat.reduceBEq,Nat.reduceAdd]
  intro b h1 st1 hb
  try simp(disch:=omega) only[go_sem,Nat.reduceBEq,Nat.reduceAdd]
  have hb:=hb (by simp[uw])
  try simp(disch:=omega) only[go_sem,Nat.reduceBEq,Nat.reduceAdd]
  refine caN (by exact FExp_ok (x:=1) (p:=3) (one_rv hb) (by decide) (by decide) (by decide) (by decide)) ?_;rintro v2 h2 s2 ⟨_,_,_,_,_,_,_,_,_,_,_,_,_,_,rfl,r1,r2⟩
  try simp(disch:=omega) only[go_sem,Nat.reduceBEq,Nat.reduceAdd]
  rw[exp_sane1] at r1
  rw[exp_sane2] at r2
  try simp(disch:=omega) only[go_sem,Nat.reduceBEq,Nat.reduceAdd]
  refine caN (by exact RFrac2_spec (a:=21) (b:=8) (by decide) (by decide)) ?_;rintro v3 h3 s3 q3;obtain⟨_,_,_,_,_,_,_,rfl,q3⟩:=q3.sa
  try simp(disch:=omega) only[go_sem,Nat.reduceBEq,Nat.reduceAdd]
  refine caN (by exact Right_spec (r1.to (h':=h3)) q3 z1.out z1.out) ?_;rintro v4 h4 s4 rfl
  try simp(disch:=omega) only[go_sem,Nat.reduceBEq,Nat.reduceAdd,e1,decide_true]
  refine caN (by exact RFrac2_spec (a:=11) (b:=4) (by decide) (by decide)) ?_;rintro v5 h5 s5 q5;obtain⟨_,_,_,_,_,_,_,rfl,q5⟩:=q5.sa
  try simp(disch:=omega) only[go_sem,Nat.reduceBEq,Nat.reduceAdd]
  refine caN (by exact Right_spec (r2.to (h':=h5)) q5 z2.out z2.out) ?_;rintro v6 h6 s6 rfl
  try simp(disch:=omega) only[go_sem,Nat.reduceBEq,Nat.reduceAdd,e2,decide_true]
end Go.Q
namespace Go.Q
open Go.Proofs
set_option maxRecDepth 100000
set_option maxHeartbeats 16000000
theorem RProd_spec {h0 h:PH} [Le h0 h] {v w:Value} {x y:Rat} (hx:Qr h0 v x) (hy:Qr h0 w y) (bx:sz x≤2^35) (by_:sz y≤2^35):
    Spec mach 14 #[v,w] h (fun v h'=>Qr h' v (x*y)) NP:=by
  have hx0:=hx
  have hy0:=hy
  obtain⟨na,nl,nc,da,dl,dc,e,rfl,hn,hd,he⟩:=hx.sl
  obtain⟨na',nl',nc',da',dl',dc',e',rfl,hn',hd',he'⟩:=hy.sl
  have b1:=sz_num x;have b2:=sz_den x;have b3:=sz_num y;have b4:=sz_den y
  have b5:=bl_mul x.num.natAbs y.num.natAbs
  have b6:=bl_mul x.den y.den
  refine Spec.go [(1,.o [0,1,2,3,4,5,6,7,8,10,12,9,11,13,14,15,16])] Tryz.func14 rfl rfl (by kernel_rfl) fun C _=>?_
  try simp(disch:=omega) only[go_sem,Nat.reduceBEq,Nat.reduceAdd]
  refine caN (by exact NatMul_spec hn hn' (by omega) (by omega)) ?_;rintro _ h1 _ hv1;obtain⟨v1,_,_,rfl,hv1⟩:=hv1.sl
  try simp(disch:=omega) only[go_sem,Nat.reduceBEq,Nat.reduceAdd]
  refine caN (by exact den_spec hx0) ?_;rintro _ g1 _ hd1;obtain⟨_,_,_,rfl,hd1⟩:=hd1.sl
  try simp(disch:=omega) only[go_sem,Nat.reduceBEq,Nat.reduceAdd]
  refine caN (by exact den_spec hy0) ?_;rintro _ g2 _ hd2;obtain⟨_,_,_,rfl,hd2⟩:=hd2.sl
  try simp(disch:=omega) only[go_sem,Nat.reduceBEq,Nat.reduceAdd]
  refine caN (by exact NatMul_spec (hd1.to (h':=g2)) hd2 (by omega) (by omega)) ?_;rintro _ h2 _ hv2;obtain⟨v2,_,_,rfl,hv2⟩:=hv2.sl
  try simp(disch:=omega) only[go_sem,Nat.reduceBEq,Nat.reduceAdd]
  refine caN (by exact Make_spec (hv1.to (h':=h2)) hv2 (by omega) (by omega)) ?_;rintro _ h3 _ hv3;obtain⟨_,_,_,_,_,_,_,rfl,hv3⟩:=hv3.sa
  try simp(disch:=omega) only[go_sem,Nat.reduceBEq,Nat.reduceAdd]
  rw[sgn_mul] at hv3
  exact hv3
end Go.Q
namespace Go.Q
open Go.Proofs
set_option maxRecDepth 100000
set_option maxHeartbeats 8000000
end Go.Q
namespace Go.Q
set_option maxRecDepth 100000
def Rx (h:PH) (v:Value) (neg:Bool) (n d:Nat):Prop:=Rw h v neg n d∧bl n≤2^26∧bl d≤2^26
theorem Rx.sz {h:PH} {v:Value} {neg:Bool} {n d:Nat} (r:Rx h v neg n d):sz (qof neg n d)≤2^28:=by
  obtain⟨_,bn,bd⟩:=r
  have b:=sz_sgn neg n (dz_ne d)
  have b':bl (dz d)≤max (bl d) 1:=by unfold dz;split;exact Nat.le_max_right _ _;exact Nat.le_max_left _ _
  unfold qof
  omega
end Go.Q
namespace Go.Q
open Go.Proofs Go.Proofs.YtclajmpjcojhaaaGreatDoor
set_option maxRecDepth 100000
open Go.ChangeShapes Go.WideShapes Go.ChangeAt Go.RowKit
variable {H:Type} {enc:TypeId×Value→H} {W:World} {sp:Nat→Bool} {held:Bool}
theorem open_words2 {fuel:Nat} {cs:List Value} {x:DataW H×List MemPlace} (h:DataW.trod enc Tryz.prog W 0 sp held fuel 22 cs=some x) {B:Nat} (hB:B≤1048576) (hk:Rows.uptoBulk x.1≤B):
    ∃a xs c,cs=[.slice a xs.length c]∧Arr (pub W) a c xs∧xs.length≤2^20:=by
  rcases open_ints un22 un76 ce76 h with⟨rfl,rfl⟩ |⟨a,len,cap,zs,rfl,_,hl,hm,hz,rfl,hcell,hwf⟩
  · exact⟨none,[],0,rfl,Arr.nil _,by simp⟩
  · have hzl:len≤zs.length:=by rw[hz];split<;>omega
    have hb:len≤1048576:=by
      simp only[Rows.uptoBulk] at hk
      have e:(lits (H:=H) .u32 (zs.take len)).length=len:=by simp[lits];omega
      have:=bulk_len (H:=H) (lits .u32 (zs.take len))
      rw[e] at this
      omega
    refine⟨some a,(zs.take len).map Int.toNat,cap,?_,⟨?_,?_,?_,?_⟩,?_⟩
    · simp;omega
    · simp;omega
    · simp;omega
    · intro y hy
      obtain⟨z,hz,rfl⟩:=List.mem_map.1 hy
      have:=bounds_u32 (hwf z (List.mem_of_mem_take hz))
      omega
    · intro i y hy
      rw[List.getElem?_map,Option.map_eq_some_iff] at hy
      obtain⟨z,hz',rfl⟩:=hy
      rw[List.getElem?_take] at hz'
      split at hz'
      · refine⟨a,rfl,?_⟩
        have hi:i < zs.length:=(List.getElem?_eq_some_iff.1 hz').1
        rw[pub_at,hcell i hi]
        have e:zs.getD i 0=z:=by simp[hz']
        have:=bounds_u32 (hwf z (List.mem_of_getElem? hz'))
        rw[e]
        congr 2
        omega
      · cases hz'
    · simp;omega
theorem open_rx {fuel:Nat} {cs:List Value} {x:DataW H×List MemPlace} (h:DataW.trod enc Tryz.prog W 0 sp held fuel 24 cs=some x) {B:Nat} (hB:B≤1048576) (hk:Rows.uptoBulk x.1≤B):
    ∃neg n d,Rx (pub W) (.agg cs.toArray) neg n d∧cs.length=3:=by
  obtain⟨fs,hu,hf⟩:=flds_some fl24
  obtain⟨xs,n,rfl,rfl,hl,hsz,hg⟩:=DataW.trod_struct hu h
  rw[ce24] at hl
  have hfs:fs.size=3:=by
    have:=congrArg List.length hf
    simpa using this
  match cs,hl with
  |[c0,c1,c2],_=>
  have get:∀(i t o:Nat),(fs.toList.map fun f=>(f.type,f.offset))[i]?=some (t,o)→∃f:Field,fs[i]?=some f∧f.type=t∧f.offset=o:=by
    intro i t o hi
    rw[List.getElem?_map,Option.map_eq_some_iff] at hi
    obtain⟨f,h1,h2⟩:=hi
    cases h2
    exact⟨f,by simpa using h1,rfl,rfl⟩
  obtain⟨f0,k0,e0,o0⟩:=get 0 4 0 (by rw[hf];rfl)
  obtain⟨f1,k1,e1,o1⟩:=get 1 22 1 (by rw[hf];rfl)
  obtain⟨f2,k2,e2,o2⟩:=get 2 22 2 (by rw[hf];rfl)
  have g0:=hg 0 f0 k0
  have g1:=hg 1 f1 k1
  have g2:=hg 2 f2 k2
  rw[e0,o0,ce4] at g0
  rw[e1,o1,ce22] at g1
  rw[e2,o2,ce22] at g2
  rw[hfs] at hsz
  match xs,hsz with
  |[y0,y1,y2],_=>
  simp only[List.drop_zero,List.take_succ_cons,List.take_zero,List.drop_succ_cons,List.getElem?_cons_zero,List.getElem?_cons_succ] at g0 g1 g2
  simp only[Rows.uptoBulk,List.map_cons,List.map_nil,Rows.uptoBulkAll] at hk
  obtain⟨b,e,_⟩:=DataW.trod_bool un4 g0
  obtain⟨a1,xs1,c1',e1,A1,l1⟩:=open_words2 g1 hB (by omega)
  obtain⟨a2,xs2,c2',e2,A2,l2⟩:=open_words2 g2 hB (by omega)
  cases e
  cases e1
  cases e2
  have b1:=val_bl A1.lt
  have b2:=val_bl A2.lt
  exact⟨b,_,_,⟨⟨a1,c1',xs1,a2,c2',xs2,rfl,A1,A2,rfl,rfl,Nat.le_trans l1 (by decide),Nat.le_trans l2 (by decide)⟩,Nat.le_trans b1 (by omega),Nat.le_trans b2 (by omega)⟩,rfl⟩
end Go.Q
namespace Go.Q
end Go.Q
namespace Go.Q
set_option maxRecDepth 100000
set_option maxHeartbeats 4000000
end Go.Q
namespace Go.Q
set_option maxRecDepth 100000
set_option maxHeartbeats 4000000
theorem div_rat {a d:Nat} (_:d≠0):((a / d:Nat):Rat)*(d:Rat)≤(a:Rat):=by exact_mod_cast Nat.div_mul_le_self a d
theorem cdiv_rat {a d:Nat} (hd:d≠0):(a:Rat)≤((cdiv a d:Nat):Rat)*(d:Rat):=by
  have:a≤cdiv a d*d:=by rw[Nat.mul_comm];exact(cdiv_le_iff hd).1 (Nat.le_refl _)
  exact_mod_cast this
end Go.Q
namespace Go.Q
set_option maxRecDepth 100000
set_option maxHeartbeats 4000000
end Go.Q
namespace Go.Q
set_option maxRecDepth 100000
set_option maxHeartbeats 4000000
theorem num_pos0 {x:Rat} (h:0 < x):¬x.num < 0∧x.num.natAbs≠0:=by
  have h1:=Rat.num_nonneg.2 (Rat.le_of_lt h)
  have h2:x.num≠0:=fun c=>by have:=Rat.num_eq_zero.1 c;grind
  omega
theorem rinv_le {a b:Rat} (ha:0 < a) (h:a≤b):b⁻¹≤a⁻¹:=by
  have hb:0 < b:=by grind
  have i1:a*a⁻¹=1:=Rat.mul_inv_cancel _ (by grind)
  have i2:b*b⁻¹=1:=Rat.mul_inv_cancel _ (by grind)
  refine Rat.le_of_mul_le_mul_left (c:=a*b) ?_ (Rat.mul_pos ha hb)
  have e1:a*b*b⁻¹=a:=by rw[Rat.mul_assoc,i2,Rat.mul_one]
  have e2:a*b*a⁻¹=b:=by rw[Rat.mul_comm a b,Rat.mul_assoc,i1,Rat.mul_one]
  rw[e1,e2]
  exact h
end Go.Q
namespace Go.Q
set_option maxRecDepth 100000
set_option maxHeartbeats 4000000
theorem lg_above {n d:Nat} (hd:d≠0):lgn n (lge n d) < 2*lgd d (lge n d):=by
  obtain⟨d1,d2⟩:=bl_pos hd
  have n2:n < 2^bl n:=bl_le.1 (Nat.le_refl _)
  have e2:2^bl d=2*2^(bl d - 1):=by rw[←Nat.pow_succ'];congr 1;omega
  unfold lge
  split
  · rename_i h
    unfold lgn lgd at h ⊢
    by_cases c:1≤lge0 n d
    · obtain⟨k,hk⟩:∃k:Nat,lge0 n d=k+1:=⟨(lge0 n d - 1).toNat,by omega⟩
      rw[hk] at h ⊢
      rw[show(max 0 (-((k:Int)+1))).toNat=0 by omega,show(max 0 ((k:Int)+1)).toNat=k+1 by omega,Nat.pow_zero,Nat.mul_one,Nat.pow_succ] at h
      rw[show(max 0 (-((k:Int)+1 - 1))).toNat=0 by omega,show(max 0 ((k:Int)+1 - 1)).toNat=k by omega,Nat.pow_zero,Nat.mul_one]
      rw[←Nat.mul_assoc] at h
      omega
    · obtain⟨k,hk⟩:∃k:Nat,lge0 n d= -(k:Int):=⟨(-lge0 n d).toNat,by omega⟩
      rw[hk] at h ⊢
      rw[show(max 0 (- -(k:Int))).toNat=k by omega,show(max 0 (-(k:Int))).toNat=0 by omega,Nat.pow_zero,Nat.mul_one] at h
      rw[show(max 0 (-(-(k:Int) - 1))).toNat=k+1 by omega,show(max 0 (-(k:Int) - 1)).toNat=0 by omega,Nat.pow_zero,Nat.mul_one,Nat.pow_succ,←Nat.mul_assoc]
      omega
  · unfold lgn lgd lge0
    by_cases c:bl d≤bl n
    · obtain⟨k,hk⟩:=Nat.exists_eq_add_of_le c
      rw[show(max 0 (-((bl n:Int) - bl d))).toNat=0 by omega,show(max 0 ((bl n:Int) - bl d)).toNat=k by omega,Nat.pow_zero,Nat.mul_one]
      rw[hk,Nat.pow_add,e2] at n2
      have:=Nat.mul_le_mul_right (2^k) (Nat.mul_le_mul_left 2 d2)
      rw[Nat.mul_assoc 2 d] at this
      omega
    · obtain⟨k,hk⟩:=Nat.exists_eq_add_of_le (show bl n≤bl d by omega)
      rw[show(max 0 (-((bl n:Int) - bl d))).toNat=k by omega,show(max 0 ((bl n:Int) - bl d)).toNat=0 by omega,Nat.pow_zero,Nat.mul_one]
      rw[hk,Nat.pow_add] at e2
      have:=Nat.mul_lt_mul_of_pos_right n2 (Nat.pow_pos (n:=k) (show 0 < 2 by decide))
      rw[hk] at d2
      rw[e2] at this
      omega
theorem out_32 (a p:Nat):sgn false (a / 2^32) (2^p)≤sgn false a (2^(p+32))∧sgn false a (2^(p+32))≤sgn false (cdiv a (2^32)) (2^p):=by
  have e1:=sgn_u (a / 2^32) p
  have e2:=sgn_u a (p+32)
  have e3:=sgn_u (cdiv a (2^32)) p
  have eu:((2^(p+32):Nat):Rat)=((2^p:Nat):Rat)*((2^32:Nat):Rat):=by rw[←Rat.natCast_mul,←Nat.pow_add]
  have d1:((a / 2^32:Nat):Rat)*((2^32:Nat):Rat)≤(a:Rat):=div_rat (by decide)
  have d2:(a:Rat)≤((cdiv a (2^32):Nat):Rat)*((2^32:Nat):Rat):=cdiv_rat (by decide)
  have u0:=u_pos p
  have v0:(0:Rat) < ((2^32:Nat):Rat):=u_pos 32
  rw[←e1,←e2,eu] at d1
  rw[←e2,←e3,eu] at d2
  generalize((2^32:Nat):Rat)=v at*
  generalize((2^p:Nat):Rat)=u at*
  have uv:=Rat.mul_pos u0 v0
  exact⟨Rat.le_of_mul_le_mul_right (c:=u*v) (by grind) uv,Rat.le_of_mul_le_mul_right (c:=u*v) (by grind) uv⟩
def lnA (n d w:Nat):Rat:=if 0≤lge n d then sgn false (lg2L w*(lge n d).toNat+lgmL n d w) (2^w) else sgn false (lgmL n d w) (2^w)+ -sgn false (lg2H w*(0 - lge n d).toNat) (2^w)
def lnB (n d w:Nat):Rat:=if 0≤lge n d then sgn false (lg2H w*(lge n d).toNat+lgmH n d w) (2^w) else sgn false (lgmH n d w) (2^w)+ -sgn false (lg2L w*(0 - lge n d).toNat) (2^w)
theorem ln_out (n d p:Nat):lnLo n d p≤lnA n d (p+32)∧lnB n d (p+32)≤lnHi n d p:=by
  unfold lnLo lnHi lnA lnB
  by_cases h:0≤lge n d
  · simp only[if_pos h]
    exact⟨(out_32 _ p).1,(out_32 _ p).2⟩
  · simp only[if_neg h]
    exact⟨gdown_le _ _,le_gup _ _⟩
end Go.Q
namespace Go.Q
set_option maxRecDepth 100000
set_option maxHeartbeats 4000000
theorem br_e {fn:Int} {x:Rat} {p:Int} (h:brE fn x p=0):eErr fn x p=0:=by
  unfold brE at h
  split at h
  · cases h
  · unfold elE at h
    refine Decidable.byContradiction fun he=>?_
    rw[if_pos he] at h
    exact he h
end Go.Q
namespace Go.Q
set_option maxRecDepth 100000
set_option maxHeartbeats 4000000
end Go.Q
namespace Go.Q
set_option maxRecDepth 100000
set_option maxHeartbeats 4000000
end Go.Q
namespace Go.Q
set_option maxRecDepth 100000
set_option maxHeartbeats 4000000
theorem sgn_int (neg:Bool) (n p:Nat):sgn neg n (2^p)*2^p=((if neg then -(n:Int) else n:Int):Rat):=by
  have h:=sgn_u n p
  push_cast at h
  rw[sgn_sg]
  cases neg
  · rw[if_neg (by decide),if_neg (by decide),h];rfl
  · rw[if_pos rfl,if_pos rfl,Rat.neg_mul,h];push_cast;rfl
end Go.Q
namespace Go.Q
set_option maxRecDepth 100000
set_option maxHeartbeats 4000000
def Ab (x a:Rat):Prop:=-a≤x∧x≤a
theorem Ab.mul {x y a b:Rat} (h:Ab x a) (k:Ab y b):Ab (x*y) (a*b):=by
  obtain⟨h1,h2⟩:=h
  obtain⟨k1,k2⟩:=k
  have p1:0≤(a - x)*(b - y):=Rat.mul_nonneg (by grind) (by grind)
  have p2:0≤(a+x)*(b+y):=Rat.mul_nonneg (by grind) (by grind)
  have p3:0≤(a - x)*(b+y):=Rat.mul_nonneg (by grind) (by grind)
  have p4:0≤(a+x)*(b - y):=Rat.mul_nonneg (by grind) (by grind)
  exact⟨by grind,by grind⟩
theorem Ab.add {x y a b:Rat} (h:Ab x a) (k:Ab y b):Ab (x+y) (a+b):=by
  obtain⟨h1,h2⟩:=h
  obtain⟨k1,k2⟩:=k
  exact⟨by grind,by grind⟩
theorem Ab.neg {x a:Rat} (h:Ab x a):Ab (-x) a:=by
  obtain⟨h1,h2⟩:=h
  exact⟨by grind,by grind⟩
theorem Ab.pos {x a:Rat} (h:Ab x a):0≤a:=by
  obtain⟨h1,h2⟩:=h
  grind
theorem Ab.le {x a b:Rat} (h:Ab x a) (k:a≤b):Ab x b:=by
  obtain⟨h1,h2⟩:=h
  exact⟨by grind,by grind⟩
theorem Ab.zero {a:Rat} (h:0≤a):Ab 0 a:=⟨by grind,h⟩
theorem Ab.self {a:Rat} (h:0≤a):Ab a a:=⟨by grind,Rat.le_refl⟩
theorem k_inv (k:Nat):0 < ((k+1:Nat):Rat)⁻¹∧((k+1:Nat):Rat)*((k+1:Nat):Rat)⁻¹=1∧((k+1:Nat):Rat)⁻¹≤1∧((k+1:Nat):Rat)=(k:Rat)+1∧(0:Rat)≤(k:Rat):=by
  have h:(0:Rat) < ((k+1:Nat):Rat):=by exact_mod_cast Nat.succ_pos k
  have e:((k+1:Nat):Rat)=(k:Rat)+1:=by push_cast;rfl
  have n:(0:Rat)≤(k:Rat):=by exact_mod_cast Nat.zero_le k
  have i:=Rat.mul_inv_cancel ((k+1:Nat):Rat) (by grind)
  have p:=Rat.inv_pos.2 h
  refine⟨p,i,?_,e,n⟩
  have:=Rat.mul_le_mul_of_nonneg_right (show(1:Rat)≤((k+1:Nat):Rat) by grind) (Rat.le_of_lt p)
  rw[i,Rat.one_mul] at this
  exact this
def trm (t:Rat):Nat→Rat
  |0=>1
  |k+1=>trm t k*t*((k+1:Nat):Rat)⁻¹
def dB (M:Rat):Nat→Rat
  |0=>0
  |k+1=>trm M k
theorem hh_pos (h:Rat):0≤h*h:=by
  by_cases k:0≤h
  · exact Rat.mul_nonneg k k
  · have:=Rat.mul_nonneg (show 0≤ -h by grind) (show 0≤ -h by grind)
    grind
def eB (M:Rat):Nat→Rat
  |0=>0
  |k+1=>eB M k+dB M k
theorem lim_le {x y z:Rat} (h:∀m:Nat,x≤y*((m+1:Nat):Rat)⁻¹+z):x≤z:=by
  refine Rat.not_lt.1 fun hd=>?_
  have d0:0 < x - z:=by grind
  have l:=Rat.lt_floor_add_one (y*(x - z)⁻¹)
  obtain⟨m,hm⟩:∃m:Nat,(y*(x - z)⁻¹).floor.natAbs=m:=⟨_,rfl⟩
  have k:=h m
  obtain⟨p,i,_,e,_⟩:=k_inv m
  have f:((y*(x - z)⁻¹).floor:Rat)≤(m:Rat):=by
    have:(y*(x - z)⁻¹).floor≤(m:Int):=by omega
    exact Rat.intCast_le_intCast.2 this
  have j:(x - z)*(x - z)⁻¹=1:=Rat.mul_inv_cancel _ (by grind)
  have l2:y*(x - z)⁻¹ < (m:Rat)+1:=by grind
  have l3:=Rat.mul_lt_mul_of_pos_right l2 d0
  have e3:y*(x - z)⁻¹*(x - z)=y:=by grind
  rw[e3,←e] at l3
  have l4:=Rat.mul_le_mul_of_nonneg_right (show x - z≤y*((m+1:Nat):Rat)⁻¹ by grind) (Rat.le_of_lt (show(0:Rat) < ((m+1:Nat):Rat) by exact_mod_cast Nat.succ_pos m))
  have e4:y*((m+1:Nat):Rat)⁻¹*((m+1:Nat):Rat)=y:=by grind
  rw[e4] at l4
  grind
theorem tele {G:Rat→Rat} {h d:Rat} {m:Nat} (st:∀i,i < m→Ab (G (h*(i:Rat)+h) - G (h*(i:Rat))) d):∀i:Nat,i≤m→Ab (G (h*(i:Rat)) - G 0) ((i:Rat)*d)
  | 0,_=>by
    rw[show((0:Nat):Rat)=0 from rfl,Rat.mul_zero,Rat.zero_mul]
    have:G 0 - G 0=0:=by grind
    rw[this]
    exact Ab.zero Rat.le_refl
  | i+1,hi=>by
    have ih:=(tele st i (by omega)).add (st i (by omega))
    have e:((i+1:Nat):Rat)=(i:Rat)+1:=by push_cast;rfl
    have e2:h*((i:Rat)+1)=h*(i:Rat)+h:=by grind
    rw[e,e2]
    have e3:G (h*(i:Rat)) - G 0+(G (h*(i:Rat)+h) - G (h*(i:Rat)))=G (h*(i:Rat)+h) - G 0:=by grind
    have e4:((i:Rat)+1)*d=(i:Rat)*d+d:=by grind
    rw[e3] at ih
    rw[e4]
    exact ih
end Go.Q
namespace Go.Q
set_option maxRecDepth 100000
set_option maxHeartbeats 4000000
def al (f:Nat) (x:Rat):Nat→Nat→Rat
  |_,0=>0
  |i,n+1=>1 - x*al f x (i+1) n*((wav f i:Nat):Rat)⁻¹
end Go.Q
namespace Go.Q
set_option maxRecDepth 100000
set_option maxHeartbeats 4000000
theorem pw_add (p k:Nat):(2:Rat)^(p+k)=2^p*2^k:=by
  have h:((2^(p+k):Nat):Rat)=((2^p:Nat):Rat)*((2^k:Nat):Rat):=by rw[Nat.pow_add,Rat.natCast_mul]
  rw[Rat.natCast_pow,Rat.natCast_pow,Rat.natCast_pow] at h
  exact h
theorem int_near {a b e:Rat} {n:Nat} (ha:∃z:Int,a*2^n=(z:Rat)) (hb:∃z:Int,b*2^n=(z:Rat)) (h:a≤b+e) (he:e*2^n < 1):a≤b:=by
  obtain⟨y,hy⟩:=ha
  obtain⟨z,hz⟩:=hb
  have hp:=pow2_pos n
  have k:=Rat.mul_le_mul_of_nonneg_right h (Rat.le_of_lt hp)
  have l:(y:Rat) < ((z+1:Int):Rat):=by push_cast;grind
  have l2:y < z+1:=Rat.intCast_lt_intCast.1 l
  have l3:(y:Rat)≤(z:Rat):=Rat.intCast_le_intCast.2 (by omega)
  rw[←hy,←hz] at l3
  exact Rat.le_of_mul_le_mul_right l3 hp
theorem int_up {a:Rat} {n k:Nat} (h:∃z:Int,a*2^n=(z:Rat)):∃z:Int,a*2^(n+k)=(z:Rat):=by
  obtain⟨z,hz⟩:=h
  refine⟨z*2^k,?_⟩
  rw[pw_add,←Rat.mul_assoc,hz]
  push_cast
  rfl
theorem int_to {a:Rat} {n m:Nat} (h:∃z:Int,a*2^n=(z:Rat)) (hm:n≤m):∃z:Int,a*2^m=(z:Rat):=by
  obtain⟨k,rfl⟩:=Nat.exists_eq_add_of_le hm
  exact int_up h
end Go.Q
namespace Go.Q
set_option maxRecDepth 100000
set_option maxHeartbeats 4000000
def lQ (x:Rat):Bool→Nat→Rat
  |false,0=>(111:Rat)⁻¹
  |true,0=>(111:Rat)⁻¹+x*(100:Rat)⁻¹
  |c,j+1=>((109 - 2*j:Nat):Rat)⁻¹+x*lQ x c j
theorem lQ_s (x:Rat) (c:Bool) (j:Nat):lQ x c (j+1)=((109 - 2*j:Nat):Rat)⁻¹+x*lQ x c j:=by cases c<;>rfl
theorem lQ_le {x:Rat} (hx:0≤x):∀j,0≤lQ x false j∧lQ x false j≤lQ x true j
  | 0=>by
    have:0≤x*(100:Rat)⁻¹:=Rat.mul_nonneg hx (by decide+kernel)
    have h:(0:Rat)≤(111:Rat)⁻¹:=by decide+kernel
    show(0:Rat)≤(111:Rat)⁻¹∧(111:Rat)⁻¹≤(111:Rat)⁻¹+x*(100:Rat)⁻¹
    exact⟨h,by grind⟩
  | j +1=>by
    obtain⟨h1,h2⟩:=lQ_le hx j
    have i0:(0:Rat)≤((109 - 2*j:Nat):Rat)⁻¹:=by
      by_cases h:109 - 2*j=0
      · rw[h];decide+kernel
      · exact Rat.le_of_lt (Rat.inv_pos.2 (by exact_mod_cast Nat.pos_of_ne_zero h))
    rw[lQ_s,lQ_s]
    have m1:=Rat.mul_le_mul_of_nonneg_left h2 hx
    have m2:=Rat.mul_nonneg hx h1
    exact⟨by grind,by grind⟩
theorem logV_Q {w s t:Nat} {x:Rat} (hx:0≤x) (hs:(s:Rat)≤x*((2^w:Nat):Rat)) (ht:x*((2^w:Nat):Rat)≤(t:Rat)):
    ∀j,j≤55→((logV w s t false j:Nat):Rat)≤((2^w:Nat):Rat)*lQ x false j∧((2^w:Nat):Rat)*lQ x true j≤((logV w s t true j:Nat):Rat)
  | 0,_=>by
    have u0:=u_pos w
    rw[logV_0,logV_0']
    constructor
    · have h1:=div_rat (a:=2^w) (d:=111) (by decide)
      show _≤((2^w:Nat):Rat)*(111:Rat)⁻¹
      have c1:((111:Nat):Rat)=111:=rfl
      rw[c1] at h1
      have i1:(111:Rat)*(111:Rat)⁻¹=1:=by decide+kernel
      have i0:(0:Rat)≤(111:Rat)⁻¹:=by decide+kernel
      have:=Rat.mul_le_mul_of_nonneg_right h1 i0
      rw[Rat.mul_assoc,i1,Rat.mul_one] at this
      exact this
    · have h1:=cdiv_rat (a:=2^w*100+t*111) (d:=11100) (by decide)
      rw[Rat.natCast_add,Rat.natCast_mul,Rat.natCast_mul,show((11100:Nat):Rat)=11100 from rfl,show((100:Nat):Rat)=100 from rfl,show((111:Nat):Rat)=111 from rfl] at h1
      show((2^w:Nat):Rat)*((111:Rat)⁻¹+x*(100:Rat)⁻¹)≤_
      have i1:(111:Rat)⁻¹=100 / 11100:=by decide+kernel
      have i2:(100:Rat)⁻¹=111 / 11100:=by decide+kernel
      rw[i1,i2]
      generalize((cdiv (2^w*100+t*111) 11100:Nat):Rat)=V at*
      generalize((2^w:Nat):Rat)=u at*
      grind
  | j +1,hj=>by
    obtain⟨h1,h2⟩:=logV_Q hx hs ht j (by omega)
    have u0:=u_pos w
    have hk:(109 - 2*j)*2^w≠0:=Nat.mul_ne_zero (by omega) (pow2_ne w)
    have k0:(0:Rat) < ((109 - 2*j:Nat):Rat):=by exact_mod_cast (show 0 < 109 - 2*j by omega)
    have i1:((109 - 2*j:Nat):Rat)*((109 - 2*j:Nat):Rat)⁻¹=1:=Rat.mul_inv_cancel _ (by grind)
    have v1:(0:Rat)≤((logV w s t true j:Nat):Rat):=by exact_mod_cast Nat.zero_le _
    have v2:(0:Rat)≤((logV w s t false j:Nat):Rat):=by exact_mod_cast Nat.zero_le _
    have xu:0≤x*((2^w:Nat):Rat):=Rat.mul_nonneg hx (Rat.le_of_lt u0)
    have m1:=Rat.le_trans (Rat.mul_le_mul_of_nonneg_left h2 xu) (Rat.mul_le_mul_of_nonneg_right ht v1)
    have m3:=Rat.le_trans (Rat.mul_le_mul_of_nonneg_right hs v2) (Rat.mul_le_mul_of_nonneg_left h1 xu)
    rw[logV_s,logV_s',lQ_s,lQ_s]
    have c1:=div_rat (a:=2^w*2^w+s*logV w s t false j*(109 - 2*j)) hk
    have c2:=cdiv_rat (a:=2^w*2^w+t*logV w s t true j*(109 - 2*j)) hk
    rw[Rat.natCast_add,Rat.natCast_mul (2^w),Rat.natCast_mul (s*logV w s t false j),Rat.natCast_mul s,Rat.natCast_mul (109 - 2*j)] at c1
    rw[Rat.natCast_add,Rat.natCast_mul (2^w),Rat.natCast_mul (t*logV w s t true j),Rat.natCast_mul t,Rat.natCast_mul (109 - 2*j)] at c2
    clear hk
    generalize(((2^w*2^w+s*logV w s t false j*(109 - 2*j)) / ((109 - 2*j)*2^w):Nat):Rat)=Z1 at*
    generalize((cdiv (2^w*2^w+t*logV w s t true j*(109 - 2*j)) ((109 - 2*j)*2^w):Nat):Rat)=Z2 at*
    generalize((logV w s t true j:Nat):Rat)=V at*
    generalize((logV w s t false j:Nat):Rat)=W at*
    generalize((109 - 2*j:Nat):Rat)=K at*
    generalize((2^w:Nat):Rat)=u at*
    generalize lQ x true j=Q at*
    generalize lQ x false j=R at*
    have ku:0 < K*u:=Rat.mul_pos k0 u0
    have n1:=Rat.mul_le_mul_of_nonneg_right m1 (Rat.le_of_lt k0)
    have n3:=Rat.mul_le_mul_of_nonneg_right m3 (Rat.le_of_lt k0)
    constructor
    · refine Rat.le_of_mul_le_mul_right (c:=K*u) ?_ ku
      have:u*(K⁻¹+x*R)*(K*u)=u*u*(K*K⁻¹)+x*u*(u*R)*K:=by grind
      rw[this,i1]
      grind
    · refine Rat.le_of_mul_le_mul_right (c:=K*u) ?_ ku
      have:u*(K⁻¹+x*Q)*(K*u)=u*u*(K*K⁻¹)+x*u*(u*Q)*K:=by grind
      rw[this,i1]
      grind
theorem log_Q {a b w:Nat} {z:Rat} (hz:0≤z) (ha:(a:Rat)≤z*((2^w:Nat):Rat)) (hb:z*((2^w:Nat):Rat)≤(b:Rat)):((logL a b w:Nat):Rat)≤2*(z*lQ (z*z) false 55)*((2^w:Nat):Rat)∧2*(z*lQ (z*z) true 55)*((2^w:Nat):Rat)≤((logH a b w:Nat):Rat):=by
  have u0:=u_pos w
  have zu:=Rat.mul_nonneg hz (Rat.le_of_lt u0)
  have a0:(0:Rat)≤(a:Rat):=by exact_mod_cast Nat.zero_le a
  have s1:((sqL a w:Nat):Rat)≤z*z*((2^w:Nat):Rat):=by
    have d:=div_rat (a:=a*a) (d:=2^w) (pow2_ne w)
    rw[Rat.natCast_mul] at d
    have m:=Rat.le_trans (Rat.mul_le_mul_of_nonneg_left ha a0) (Rat.mul_le_mul_of_nonneg_right ha zu)
    exact Rat.le_of_mul_le_mul_right (c:=((2^w:Nat):Rat)) (by unfold sqL;grind) u0
  have s2:z*z*((2^w:Nat):Rat)≤((sqH b w:Nat):Rat):=by
    have d:=cdiv_rat (a:=b*b) (d:=2^w) (pow2_ne w)
    rw[Rat.natCast_mul] at d
    have m:=Rat.le_trans (Rat.mul_le_mul_of_nonneg_left hb zu) (Rat.mul_le_mul_of_nonneg_right hb (Rat.le_trans zu hb))
    exact Rat.le_of_mul_le_mul_right (c:=((2^w:Nat):Rat)) (by unfold sqH;grind) u0
  obtain⟨h1,h2⟩:=logV_Q (hh_pos z) s1 s2 55 (Nat.le_refl _)
  have d1:=div_rat (a:=a*logV w (sqL a w) (sqH b w) false 55*2^1) (d:=2^w) (pow2_ne w)
  have d2:=cdiv_rat (a:=b*logV w (sqL a w) (sqH b w) true 55*2^1) (d:=2^w) (pow2_ne w)
  rw[Rat.natCast_mul (a*_),Rat.natCast_mul a,show((2^1:Nat):Rat)=2 from rfl] at d1
  rw[Rat.natCast_mul (b*_),Rat.natCast_mul b,show((2^1:Nat):Rat)=2 from rfl] at d2
  have v2:(0:Rat)≤((logV w (sqL a w) (sqH b w) false 55:Nat):Rat):=by exact_mod_cast Nat.zero_le _
  have q0:=(lQ_le (hh_pos z) 55)
  unfold logL logH
  generalize((logV w (sqL a w) (sqH b w) false 55:Nat):Rat)=F at*
  generalize((logV w (sqL a w) (sqH b w) true 55:Nat):Rat)=T at*
  generalize((a*logV w (sqL a w) (sqH b w) false 55*2^1 / 2^w:Nat):Rat)=A at*
  generalize((cdiv (b*logV w (sqL a w) (sqH b w) true 55*2^1) (2^w):Nat):Rat)=B at*
  generalize lQ (z*z) false 55=Q at*
  generalize lQ (z*z) true 55=R at*
  generalize((2^w:Nat):Rat)=u at*
  have m1:=Rat.le_trans (Rat.mul_le_mul_of_nonneg_right ha v2) (Rat.mul_le_mul_of_nonneg_left h1 zu)
  have m2:=Rat.le_trans (Rat.mul_le_mul_of_nonneg_left h2 zu) (Rat.mul_le_mul_of_nonneg_right hb (Rat.le_trans (Rat.mul_nonneg (Rat.le_of_lt u0) (by grind)) h2))
  constructor
  · exact Rat.le_of_mul_le_mul_right (c:=u) (by grind) u0
  · exact Rat.le_of_mul_le_mul_right (c:=u) (by grind) u0
def lM (c:Bool) (n d:Nat):Rat:=2*(((lgT n d 0:Nat):Rat)*((lgB n d:Nat):Rat)⁻¹*lQ (((lgT n d 0:Nat):Rat)*((lgB n d:Nat):Rat)⁻¹*(((lgT n d 0:Nat):Rat)*((lgB n d:Nat):Rat)⁻¹)) c 55)
def l2 (c:Bool):Rat:=2*((3:Rat)⁻¹*lQ ((3:Rat)⁻¹*(3:Rat)⁻¹) c 55)
theorem q_in {t b w:Nat} (hb:b≠0):((t*2^w / b:Nat):Rat)≤(t:Rat)*(b:Rat)⁻¹*((2^w:Nat):Rat)∧(t:Rat)*(b:Rat)⁻¹*((2^w:Nat):Rat)≤((cdiv (t*2^w) b:Nat):Rat):=by
  have d0:(0:Rat) < (b:Rat):=by exact_mod_cast Nat.pos_of_ne_zero hb
  have h1:=div_rat (a:=t*2^w) hb
  have h2:=cdiv_rat (a:=t*2^w) hb
  rw[Rat.natCast_mul] at h1 h2
  generalize((t*2^w / b:Nat):Rat)=A at*
  generalize((cdiv (t*2^w) b:Nat):Rat)=B at*
  generalize(t:Rat)=n at*
  generalize(b:Rat)=d at*
  generalize((2^w:Nat):Rat)=u at*
  have i:d*d⁻¹=1:=Rat.mul_inv_cancel _ (by grind)
  have e:n*d⁻¹*u*d=n*u:=by grind
  constructor
  · refine Rat.le_of_mul_le_mul_right (c:=d) ?_ d0
    rw[e];exact h1
  · refine Rat.le_of_mul_le_mul_right (c:=d) ?_ d0
    rw[e];exact h2
theorem lM_bd {n d w:Nat} (hn:n≠0):((lgmL n d w:Nat):Rat)≤lM false n d*((2^w:Nat):Rat)∧lM true n d*((2^w:Nat):Rat)≤((lgmH n d w:Nat):Rat):=by
  have hb:=lgB_ne (d:=d) hn
  have z0:0≤((lgT n d 0:Nat):Rat)*((lgB n d:Nat):Rat)⁻¹:=Rat.mul_nonneg (by exact_mod_cast Nat.zero_le _) (Rat.le_of_lt (Rat.inv_pos.2 (by exact_mod_cast Nat.pos_of_ne_zero hb)))
  obtain⟨g1,g2⟩:=q_in (t:=lgT n d 0) (w:=w) hb
  have e:lgT n d 0*2^w=lgT n d w:=by unfold lgT;rw[Nat.pow_zero,Nat.mul_one]
  rw[e] at g1 g2
  exact log_Q z0 g1 g2
theorem l2_bd (w:Nat):((lg2L w:Nat):Rat)≤l2 false*((2^w:Nat):Rat)∧l2 true*((2^w:Nat):Rat)≤((lg2H w:Nat):Rat):=by
  obtain⟨g1,g2⟩:=q_in (t:=1) (b:=3) (w:=w) (by decide)
  rw[Nat.one_mul,show((1:Nat):Rat)=1 from rfl,show((3:Nat):Rat)=3 from rfl,Rat.one_mul] at g1 g2
  exact log_Q (by decide+kernel) g1 g2
def lnV (c:Bool) (n d:Nat):Rat:=if 0≤lge n d then l2 c*((lge n d).toNat:Rat)+lM c n d else lM c n d - l2 (!c)*((0 - lge n d).toNat:Rat)
theorem ln_in {n d p:Nat} (hn:n≠0):lnLo n d p≤lnV false n d∧lnV true n d≤lnHi n d p:=by
  obtain⟨o1,o2⟩:=ln_out n d p
  obtain⟨m1,m2⟩:=lM_bd (d:=d) (w:=p+32) hn
  obtain⟨t1,t2⟩:=l2_bd (p+32)
  have u:=u_pos (p+32)
  suffices h:lnA n d (p+32)≤lnV false n d∧lnV true n d≤lnB n d (p+32) from⟨Rat.le_trans o1 h.1,Rat.le_trans h.2 o2⟩
  unfold lnA lnB lnV
  by_cases he:0≤lge n d
  · rw[if_pos he,if_pos he,if_pos he,if_pos he]
    generalize(lge n d).toNat=m at*
    have m0:(0:Rat)≤(m:Rat):=by exact_mod_cast Nat.zero_le m
    have e1:=sgn_u (lg2L (p+32)*m+lgmL n d (p+32)) (p+32)
    have e2:=sgn_u (lg2H (p+32)*m+lgmH n d (p+32)) (p+32)
    rw[Rat.natCast_add,Rat.natCast_mul] at e1 e2
    have k1:=Rat.mul_le_mul_of_nonneg_right t1 m0
    have k2:=Rat.mul_le_mul_of_nonneg_right t2 m0
    constructor
    · exact Rat.le_of_mul_le_mul_right (c:=((2^(p+32):Nat):Rat)) (by rw[e1];grind) u
    · exact Rat.le_of_mul_le_mul_right (c:=((2^(p+32):Nat):Rat)) (by rw[e2];grind) u
  · rw[if_neg he,if_neg he,if_neg he,if_neg he]
    generalize(0 - lge n d).toNat=m at*
    have m0:(0:Rat)≤(m:Rat):=by exact_mod_cast Nat.zero_le m
    have e1:=sgn_u (lgmL n d (p+32)) (p+32)
    have e2:=sgn_u (lg2H (p+32)*m) (p+32)
    have e3:=sgn_u (lgmH n d (p+32)) (p+32)
    have e4:=sgn_u (lg2L (p+32)*m) (p+32)
    rw[Rat.natCast_mul] at e2 e4
    have k1:=Rat.mul_le_mul_of_nonneg_right t1 m0
    have k2:=Rat.mul_le_mul_of_nonneg_right t2 m0
    simp only[Bool.not_false,Bool.not_true]
    rw[←e1] at m1
    rw[←e3] at m2
    rw[←e2] at k2
    rw[←e4] at k1
    generalize sgn false (lgmL n d (p+32)) (2^(p+32))=A at*
    generalize sgn false (lgmH n d (p+32)) (2^(p+32))=B at*
    generalize sgn false (lg2H (p+32)*m) (2^(p+32))=C at*
    generalize sgn false (lg2L (p+32)*m) (2^(p+32))=D at*
    generalize((2^(p+32):Nat):Rat)=U at*
    constructor
    · exact Rat.le_of_mul_le_mul_right (c:=U) (by grind) u
    · exact Rat.le_of_mul_le_mul_right (c:=U) (by grind) u
end Go.Q
namespace Go.Q
set_option maxRecDepth 100000
set_option maxHeartbeats 4000000
def lT (z:Rat):Nat→Rat
  |0=>0
  |n+1=>lT z n+z^(2*n+1)*((2*n+1:Nat):Rat)⁻¹
def lD (z:Rat):Nat→Rat
  |0=>0
  |n+1=>lD z n+z^(2*n)
theorem lD_geo (z:Rat):∀n,(1 - z*z)*lD z n=1 - z^(2*n)
  | 0=>by
    rw[show 2*0=0 from rfl,Rat.pow_zero]
    show(1 - z*z)*0=1 - 1
    grind
  | n+1=>by
    have h:=lD_geo z n
    have e:z^(2*(n+1))=z^(2*n)*z*z:=by rw[show 2*(n+1)=2*n+1+1 by omega,Rat.pow_succ,Rat.pow_succ]
    rw[e]
    show(1 - z*z)*(lD z n+z^(2*n))=_
    grind
def eP2 (z k:Rat) (m:Nat):Rat:=(z+k)^(m+1) - z^(m+1) - ((m+1:Nat):Rat)*k*z^m
def bP (M:Rat):Nat→Rat
  |0=>0
  |m+1=>bP M m*M+((m+1:Nat):Rat)*M^m
theorem pow_ab {z M:Rat} (h:Ab z M):∀m:Nat,Ab (z^m) (M^m)
  |0=>by rw[Rat.pow_zero,Rat.pow_zero];exact Ab.self (show(0:Rat)≤1 by decide)
  |m+1=>by rw[Rat.pow_succ,Rat.pow_succ];exact(pow_ab h m).mul h
theorem eP2_ab {z k M:Rat} (h1:Ab z M) (h2:Ab (z+k) M):∀m,Ab (eP2 z k m) (k*k*bP M m)
  | 0 =>by
    have e:eP2 z k 0=0:=by
      unfold eP2
      rw[Rat.pow_zero,Rat.pow_succ,Rat.pow_succ,Rat.pow_zero,Rat.pow_zero,show((0+1:Nat):Rat)=1 from rfl]
      grind
    rw[e]
    exact Ab.zero (by show 0≤k*k*0;grind)
  | m +1=>by
    have ih:=eP2_ab h1 h2 m
    have e:eP2 z k (m+1)=eP2 z k m*(z+k)+k*k*(((m+1:Nat):Rat)*z^m):=by
      unfold eP2
      have e1:((m+1+1:Nat):Rat)=((m+1:Nat):Rat)+1:=by push_cast;rfl
      rw[Rat.pow_succ (z+k) (m+1),Rat.pow_succ z (m+1),e1]
      have e2:z^(m+1)=z^m*z:=Rat.pow_succ ..
      rw[e2]
      generalize(z+k)^(m+1)=A at*
      generalize z^m=B at*
      generalize((m+1:Nat):Rat)=C at*
      grind
    have c0:(0:Rat)≤((m+1:Nat):Rat):=by exact_mod_cast Nat.zero_le _
    have t:=(ih.mul h2).add ((Ab.self (hh_pos k)).mul ((Ab.self c0).mul (pow_ab h1 m)))
    rw[e]
    refine t.le ?_
    show k*k*bP M m*M+k*k*(((m+1:Nat):Rat)*M^m)≤k*k*(bP M m*M+((m+1:Nat):Rat)*M^m)
    grind
def cP (M:Rat):Nat→Rat
  |0=>0
  |n+1=>cP M n+bP M (2*n)
theorem ab_le {x y d:Rat} (h:Ab x d) (e:x=y):Ab y d:=e▸h
theorem lT_loc {z k M:Rat} (h1:Ab z M) (h2:Ab (z+k) M):∀n,Ab (lT (z+k) n - lT z n - k*lD z n) (k*k*cP M n)
  | 0=>by
    show Ab (0 - 0 - k*0) (k*k*0)
    have e:(0:Rat) - 0 - k*0=0:=by grind
    rw[e]
    exact Ab.zero (by grind)
  | n +1=>by
    have ih:=lT_loc h1 h2 n
    have t:=eP2_ab h1 h2 (2*n)
    obtain⟨p,i,l,_,_⟩:=k_inv (2*n)
    have t2:=t.mul (⟨by grind,l⟩:Ab ((2*n+1:Nat):Rat)⁻¹ 1)
    have t3:=ih.add t2
    have e:lT (z+k) (n+1) - lT z (n+1) - k*lD z (n+1)=lT (z+k) n - lT z n - k*lD z n+eP2 z k (2*n)*((2*n+1:Nat):Rat)⁻¹:=by
      show lT (z+k) n+(z+k)^(2*n+1)*((2*n+1:Nat):Rat)⁻¹ - (lT z n+z^(2*n+1)*((2*n+1:Nat):Rat)⁻¹) - k*(lD z n+z^(2*n))=_
      unfold eP2
      generalize(z+k)^(2*n+1)=A at*
      generalize z^(2*n+1)=B at*
      generalize z^(2*n)=C at*
      generalize((2*n+1:Nat):Rat)=D at*
      generalize hI:D⁻¹=I at*
      clear hI
      have:D*k*C*I=k*C*(D*I):=by grind
      grind
    rw[e]
    refine t3.le ?_
    show k*k*cP M n+k*k*bP M (2*n)*1≤k*k*(cP M n+bP M (2*n))
    grind
theorem cP_num:cP (3 / 5) 150≤10:=by decide+kernel
def lN (z:Rat):Rat:=2*lT z 150
def gN (m:Rat):Rat:=lN ((m - 1)*(m+1)⁻¹)
def tl:Rat:=(3 / 5)^300
theorem gN_loc {m h:Rat} (h1:1≤m) (h0:0≤h) (h4:m+h≤4):Ab (gN (m+h) - gN m - h*m⁻¹) (6*(h*h)+h*tl):=by
  have a0:0 < (m+1)⁻¹:=Rat.inv_pos.2 (by grind)
  have b0:0 < (m+h+1)⁻¹:=Rat.inv_pos.2 (by grind)
  have c0:0 < m⁻¹:=Rat.inv_pos.2 (by grind)
  have a1:(m+1)*(m+1)⁻¹=1:=Rat.mul_inv_cancel _ (by grind)
  have b1:(m+h+1)*(m+h+1)⁻¹=1:=Rat.mul_inv_cancel _ (by grind)
  have c1:m*m⁻¹=1:=Rat.mul_inv_cancel _ (by grind)
  unfold gN
  generalize(m+1)⁻¹=a at*
  generalize(m+h+1)⁻¹=b at*
  generalize m⁻¹=c at*
  have ez:(m+h - 1)*b=(m - 1)*a+2*h*a*b:=by
    have e1:(m - 1)*a+2*h*a*b=(m - 1)*a*((m+h+1)*b)+2*h*a*b:=by rw[b1];grind
    have e2:(m - 1)*a*((m+h+1)*b)+2*h*a*b=(m+h - 1)*b*((m+1)*a):=by grind
    rw[e1,e2,a1,Rat.mul_one]
  rw[ez]
  have za:∀{t u:Rat},1≤t→t≤4→(t+1)*u=1→0 < u→Ab ((t - 1)*u) (3 / 5):=fun {t u} k1 k2 k3 k4=>by
    have m1:=Rat.mul_le_mul_of_nonneg_right (show t - 1≤3 / 5*(t+1) by grind) (Rat.le_of_lt k4)
    have m0:=Rat.mul_nonneg (show 0≤t - 1 by grind) (Rat.le_of_lt k4)
    have e:3 / 5*(t+1)*u=3 / 5*((t+1)*u):=by grind
    rw[e,k3,Rat.mul_one] at m1
    exact⟨by grind,m1⟩
  have z1:=za h1 (by grind) a1 a0
  have z2:=za (t:=m+h) (by grind) h4 b1 b0
  rw[ez] at z2
  have al:a≤1 / 2:=by
    have:=Rat.mul_le_mul_of_nonneg_right (show(2:Rat)≤m+1 by grind) (Rat.le_of_lt a0)
    grind
  have bl:b≤1 / 2:=by
    have:=Rat.mul_le_mul_of_nonneg_right (show(2:Rat)≤m+h+1 by grind) (Rat.le_of_lt b0)
    grind
  have cl:c≤1:=by
    have:=Rat.mul_le_mul_of_nonneg_right h1 (Rat.le_of_lt c0)
    grind
  have l:=lT_loc z1 z2 150
  have g:=lD_geo ((m - 1)*a) 150
  have P:=(pow_ab z1 300)
  rw[show 2*150=300 from rfl] at g
  have cn:=cP_num
  have n0:0≤cP (3 / 5) 150:=by decide+kernel
  unfold lN
  rw[show((3:Rat) / 5)^300=tl from rfl] at P
  generalize cP (3 / 5) 150=K at*
  generalize lT ((m - 1)*a+2*h*a*b) 150=X at*
  generalize lT ((m - 1)*a) 150=Y at*
  generalize lD ((m - 1)*a) 150=D at*
  generalize((m - 1)*a)^300=Q at*
  have q1:1 - (m - 1)*a*((m - 1)*a)=4*m*(a*a):=by
    have e:(1:Rat)=(m+1)*a*((m+1)*a):=by rw[a1];decide+kernel
    rw[show 1 - (m - 1)*a*((m - 1)*a)=(m+1)*a*((m+1)*a) - (m - 1)*a*((m - 1)*a) by rw[←e]]
    grind
  rw[q1] at g
  have q2:4*(a*b)*D=b*(m+1)*(1 - Q)*c:=by
    rw[←g]
    have e:b*(m+1)*(4*m*(a*a)*D)*c=4*(a*b)*D*((m+1)*a)*(m*c):=by grind
    rw[e,a1,c1];grind
  have q3:b*(m+1)=1 - h*b:=by grind
  have q4:2*(2*h*a*b*D) - h*c= -(h*h*(b*c)) - h*Q*(c*(1 - h*b)):=by
    have e:2*(2*h*a*b*D)=h*(4*(a*b)*D):=by grind
    rw[e,q2,q3]
    grind
  have bc:Ab (b*c) 1:=by
    have m1:=Rat.mul_le_mul_of_nonneg_right bl (Rat.le_of_lt c0)
    have m2:=Rat.mul_nonneg (Rat.le_of_lt b0) (Rat.le_of_lt c0)
    exact⟨by grind,by grind⟩
  have hb:0≤h*b∧h*b≤1:=by
    have m2:=Rat.mul_nonneg h0 (Rat.le_of_lt b0)
    have m1:=Rat.mul_le_mul_of_nonneg_right (show h≤m+h+1 by grind) (Rat.le_of_lt b0)
    exact⟨m2,by grind⟩
  have cb:Ab (c*(1 - h*b)) 1:=by
    have m1:=Rat.mul_nonneg (Rat.le_of_lt c0) (show 0≤1 - h*b by grind)
    have m2:=Rat.mul_le_mul_of_nonneg_right cl (show 0≤1 - h*b by grind)
    exact⟨by grind,by grind⟩
  have hh:=hh_pos h
  have t1:=((Ab.self hh).mul bc).neg
  have t2:=(((Ab.self h0).mul P).mul cb).neg
  have ab1:a*b≤1 / 4:=by
    have m1:=Rat.mul_le_mul_of_nonneg_right al (Rat.le_of_lt b0)
    grind
  have ab0:0≤a*b:=Rat.mul_nonneg (Rat.le_of_lt a0) (Rat.le_of_lt b0)
  have kk:2*h*a*b*(2*h*a*b)*K≤5 / 2*(h*h):=by
    have s1:a*b*(a*b)≤1 / 4*(1 / 4):=(Ab.mul (⟨by grind,ab1⟩:Ab (a*b) (1 / 4)) (⟨by grind,ab1⟩:Ab (a*b) (1 / 4))).2
    have s0:=hh_pos (a*b)
    have s2:=Rat.mul_le_mul_of_nonneg_right s1 hh
    have s3:=Rat.mul_nonneg s0 hh
    have s4:=Rat.mul_le_mul_of_nonneg_left cn s3
    grind
  have l2:=(l.add l).add (t1.add t2)
  have e:X - Y - 2*h*a*b*D+(X - Y - 2*h*a*b*D)+(-(h*h*(b*c))+ -(h*Q*(c*(1 - h*b))))=2*X - 2*Y - h*c:=by
    have e2: -(h*h*(b*c))+ -(h*Q*(c*(1 - h*b)))=2*(2*h*a*b*D) - h*c:=by rw[q4];grind
    rw[e2];grind
  rw[e] at l2
  exact l2.le (by grind)
theorem gN_mul {x y:Rat} (x1:1≤x) (x2:x≤2) (y1:1≤y) (y2:y≤2):Ab (gN (y*x) - gN x - gN y) (3*tl):=by
  have t0:0≤tl:=by decide+kernel
  have g1:gN 1=0:=by decide+kernel
  have main:∀m:Nat,Ab (gN (y*x) - gN x - gN y) (30*((m+1:Nat):Rat)⁻¹+3*tl):=by
    intro m
    obtain⟨c0,ci,cl,_,_⟩:=k_inv m
    have st:∀i,i < m+1→Ab ((fun t=>gN (y*(1+t)) - gN (1+t)) ((x - 1)*((m+1:Nat):Rat)⁻¹*(i:Rat)+(x - 1)*((m+1:Nat):Rat)⁻¹) - (fun t=>gN (y*(1+t)) - gN (1+t)) ((x - 1)*((m+1:Nat):Rat)⁻¹*(i:Rat))) (30*(((m+1:Nat):Rat)⁻¹*((m+1:Nat):Rat)⁻¹)+3*tl*((m+1:Nat):Rat)⁻¹):=by
      intro i hi
      have j0:0≤((m+1:Nat):Rat)⁻¹*(i:Rat):=Rat.mul_nonneg (Rat.le_of_lt c0) (by exact_mod_cast Nat.zero_le i)
      have j1:((m+1:Nat):Rat)⁻¹*(i:Rat)+((m+1:Nat):Rat)⁻¹≤1:=by
        have:(i:Rat)+1≤((m+1:Nat):Rat):=by exact_mod_cast hi
        have:=Rat.mul_le_mul_of_nonneg_left this (Rat.le_of_lt c0)
        grind
      generalize((m+1:Nat):Rat)⁻¹=c at*
      generalize(i:Rat)=z at*
      have d0:0≤x - 1:=by grind
      have k0:0≤(x - 1)*c*z:=by rw[Rat.mul_assoc];exact Rat.mul_nonneg d0 j0
      have h0:0≤(x - 1)*c:=Rat.mul_nonneg d0 (Rat.le_of_lt c0)
      have hc:(x - 1)*c≤c:=by
        have:=Rat.mul_le_mul_of_nonneg_right (show x - 1≤1 by grind) (Rat.le_of_lt c0)
        grind
      have kx:(x - 1)*c*z+(x - 1)*c≤1:=by
        have m1:=Rat.mul_le_mul_of_nonneg_left j1 d0
        grind
      generalize hH:(x - 1)*c=h at*
      generalize h*z=t at*
      have hh:h*h≤c*c:=by
        have m1:=Rat.mul_le_mul_of_nonneg_left hc h0
        have m2:=Rat.mul_le_mul_of_nonneg_right hc (Rat.le_of_lt c0)
        grind
      have yh0:0≤y*h:=Rat.mul_nonneg (by grind) h0
      have yt:1≤y*(1+t):=by
        have:=Rat.mul_le_mul_of_nonneg_left (show 1≤1+t by grind) (show 0≤y by grind)
        grind
      have y4:y*(1+t)+y*h≤4:=by
        have m1:=Rat.mul_le_mul_of_nonneg_left (show 1+t+h≤2 by grind) (show 0≤y by grind)
        grind
      have l1:=gN_loc yt yh0 y4
      have l2:=gN_loc (m:=1+t) (h:=h) (by grind) h0 (by grind)
      have iq:y*h*(y*(1+t))⁻¹=h*(1+t)⁻¹:=by
        have n1:y*y⁻¹=1:=Rat.mul_inv_cancel _ (by grind)
        rw[Rat.inv_mul_rev]
        have:y*h*((1+t)⁻¹*y⁻¹)=h*(1+t)⁻¹*(y*y⁻¹):=by grind
        rw[this,n1,Rat.mul_one]
      rw[iq] at l1
      have e3:y*(1+(t+h))=y*(1+t)+y*h:=by grind
      have e4:1+(t+h)=1+t+h:=by grind
      show Ab (gN (y*(1+(t+h))) - gN (1+(t+h)) - (gN (y*(1+t)) - gN (1+t))) _
      rw[e3,e4]
      have t5:=l1.add l2.neg
      have yy:y*h*(y*h)≤4*(c*c):=by
        have m1:y*y≤4:=by
          have:=(Ab.mul (⟨by grind,y2⟩:Ab y 2) (⟨by grind,y2⟩:Ab y 2)).2
          grind
        have m2:=Rat.mul_le_mul_of_nonneg_right m1 (hh_pos h)
        grind
      have th:h*tl≤c*tl:=Rat.mul_le_mul_of_nonneg_right hc t0
      have tyh:y*h*tl≤2*(c*tl):=by
        have m1:=Rat.mul_le_mul_of_nonneg_right y2 (Rat.mul_nonneg h0 t0)
        grind
      exact(ab_le t5 (by grind)).le (by grind)
    have s:=tele (G:=fun t=>gN (y*(1+t)) - gN (1+t)) (h:=(x - 1)*((m+1:Nat):Rat)⁻¹) st (m+1) (Nat.le_refl _)
    have ea:(x - 1)*((m+1:Nat):Rat)⁻¹*((m+1:Nat):Rat)=x - 1:=by grind
    rw[ea] at s
    have e1:1+(x - 1)=x:=by grind
    have e2:(1:Rat)+0=1:=by grind
    simp only[e1,e2,Rat.mul_one,g1] at s
    have ed:((m+1:Nat):Rat)*(30*(((m+1:Nat):Rat)⁻¹*((m+1:Nat):Rat)⁻¹)+3*tl*((m+1:Nat):Rat)⁻¹)=30*((m+1:Nat):Rat)⁻¹+3*tl:=by
      generalize((m+1:Nat):Rat)⁻¹=c at*
      grind
    rw[ed] at s
    exact ab_le s (by grind)
  have h1:gN (y*x) - gN x - gN y≤3*tl:=lim_le (y:=30) fun m=>(main m).2
  have h2: -(gN (y*x) - gN x - gN y)≤3*tl:=lim_le (y:=30) fun m=>by have:=(main m).1;grind
  exact⟨by grind,h1⟩
end Go.Q
namespace Go.Q
set_option maxRecDepth 100000
set_option maxHeartbeats 4000000
def lg0 (x:Rat):Nat→Nat→Rat
  |_,0=>0
  |i,n+1=>((2*i+1:Nat):Rat)⁻¹+x*lg0 x (i+1) n
theorem lg0_sum (z:Rat):∀n k,z*lg0 (z*z) 0 (n+k)=lT z n+z^(2*n+1)*lg0 (z*z) n k
  | 0,k=>by
    rw[Nat.zero_add,show 2*0+1=0+1 from rfl,Rat.pow_succ,Rat.pow_zero]
    show _=0+1*z*_
    grind
  | n+1,k=>by
    have h:=lg0_sum z n (k+1)
    rw[show n+1+k=n+(k+1) by omega,h]
    show lT z n+z^(2*n+1)*(((2*n+1:Nat):Rat)⁻¹+z*z*lg0 (z*z) (n+1) k)=lT z n+z^(2*n+1)*((2*n+1:Nat):Rat)⁻¹+z^(2*(n+1)+1)*lg0 (z*z) (n+1) k
    have e:z^(2*(n+1)+1)=z^(2*n+1)*z*z:=by rw[show 2*(n+1)+1=2*n+1+1+1 by omega,Rat.pow_succ,Rat.pow_succ]
    rw[e]
    grind
theorem lN_lg (z:Rat):lN z=2*(z*lg0 (z*z) 0 150):=by
  have h:=lg0_sum z 150 0
  rw[Nat.add_zero,show lg0 (z*z) 150 0=0 from rfl,Rat.mul_zero,Rat.add_zero] at h
  unfold lN
  rw[h]
theorem lg0_tail {x:Rat} (h0:0≤x) (h1:x≤1 / 9):∀n i,56≤i→0≤lg0 x i n∧lg0 x i n≤1 / 100
  |0,i,_=>by show(0:Rat)≤0∧(0:Rat)≤1 / 100;exact⟨Rat.le_refl,by decide+kernel⟩
  | n +1,i,hi=>by
    obtain⟨a1,a2⟩:=lg0_tail h0 h1 n (i+1) (by omega)
    obtain⟨p,_⟩:=k_inv (2*i)
    have l:((2*i+1:Nat):Rat)⁻¹≤1 / 113:=by
      have h:(113:Rat)≤((2*i+1:Nat):Rat):=by exact_mod_cast (show 113≤2*i+1 by omega)
      have:=rinv_le (by decide) h
      rw[show(1 / 113:Rat)=(113:Rat)⁻¹ by decide+kernel]
      exact this
    have m0:=Rat.mul_nonneg h0 a1
    have m1:=Rat.mul_le_mul_of_nonneg_right h1 a1
    show 0≤((2*i+1:Nat):Rat)⁻¹+x*lg0 x (i+1) n∧((2*i+1:Nat):Rat)⁻¹+x*lg0 x (i+1) n≤1 / 100
    exact⟨by grind,by grind⟩
theorem lQ_lg {x:Rat} (h0:0≤x) (h1:x≤1 / 9) (m:Nat):∀j,j≤55→lQ x false j≤lg0 x (55 - j) (j+1+m)∧lg0 x (55 - j) (j+1+m)≤lQ x true j
  | 0,_=>by
    obtain⟨a1,a2⟩:=lg0_tail h0 h1 m 56 (by decide)
    rw[show 0+1+m=m+1 by omega]
    show(111:Rat)⁻¹≤(111:Rat)⁻¹+x*lg0 x 56 m∧(111:Rat)⁻¹+x*lg0 x 56 m≤(111:Rat)⁻¹+x*(100:Rat)⁻¹
    have m0:=Rat.mul_nonneg h0 a1
    rw[show(1 / 100:Rat)=(100:Rat)⁻¹ by decide+kernel] at a2
    have m1:=Rat.mul_le_mul_of_nonneg_left a2 h0
    exact⟨by grind,by grind⟩
  | j+1,hj=>by
    obtain⟨a1,a2⟩:=lQ_lg h0 h1 m j (by omega)
    rw[lQ_s,lQ_s,show 55 - (j+1)=54 - j by omega,show j+1+1+m=(j+1+m)+1 by omega]
    show _≤((2*(54 - j)+1:Nat):Rat)⁻¹+x*lg0 x (54 - j+1) (j+1+m)∧((2*(54 - j)+1:Nat):Rat)⁻¹+x*lg0 x (54 - j+1) (j+1+m)≤_
    rw[show 54 - j+1=55 - j by omega,show 2*(54 - j)+1=109 - 2*j by omega]
    have m1:=Rat.mul_le_mul_of_nonneg_left a1 h0
    have m2:=Rat.mul_le_mul_of_nonneg_left a2 h0
    exact⟨by grind,by grind⟩
theorem lN_bd {z:Rat} (h0:0≤z) (h1:z≤1 / 3):2*(z*lQ (z*z) false 55)≤lN z∧lN z≤2*(z*lQ (z*z) true 55):=by
  have zz:z*z≤1 / 9:=by
    have:=(Ab.mul (⟨by grind,h1⟩:Ab z (1 / 3)) (⟨by grind,h1⟩:Ab z (1 / 3))).2
    grind
  obtain⟨a1,a2⟩:=lQ_lg (hh_pos z) zz 94 55 (Nat.le_refl _)
  have e:lg0 (z*z) 0 150=lg0 (z*z) (55 - 55) (55+1+94):=rfl
  rw[←e] at a1 a2
  rw[lN_lg]
  have m1:=Rat.mul_le_mul_of_nonneg_left a1 h0
  have m2:=Rat.mul_le_mul_of_nonneg_left a2 h0
  exact⟨by grind,by grind⟩
def mQ (n d:Nat):Rat:=((lgn n (lge n d):Nat):Rat)*((lgd d (lge n d):Nat):Rat)⁻¹
theorem mQ_bd {n d:Nat} (hn:n≠0) (hd:d≠0):1≤mQ n d∧mQ n d < 2:=by
  have a:=lg_below (d:=d) hn
  have b:=lg_above (n:=n) hd
  have k0:lgd d (lge n d)≠0:=by omega
  have k:(0:Rat) < ((lgd d (lge n d):Nat):Rat):=by exact_mod_cast Nat.pos_of_ne_zero k0
  have a':((lgd d (lge n d):Nat):Rat)≤((lgn n (lge n d):Nat):Rat):=by exact_mod_cast a
  have b':((lgn n (lge n d):Nat):Rat) < 2*((lgd d (lge n d):Nat):Rat):=by exact_mod_cast b
  unfold mQ
  generalize((lgd d (lge n d):Nat):Rat)=D at*
  generalize((lgn n (lge n d):Nat):Rat)=N at*
  have i:=Rat.inv_pos.2 k
  have e:D*D⁻¹=1:=Rat.mul_inv_cancel _ (by grind)
  have m1:=Rat.mul_le_mul_of_nonneg_right a' (Rat.le_of_lt i)
  have m2:=Rat.mul_lt_mul_of_pos_right b' i
  rw[e] at m1
  rw[Rat.mul_assoc,e] at m2
  exact⟨m1,by grind⟩
theorem gN_lM {n d:Nat} (hn:n≠0) (hd:d≠0):lM false n d≤gN (mQ n d)∧gN (mQ n d)≤lM true n d:=by
  have a:=lg_below (d:=d) hn
  have b:=lg_above (n:=n) hd
  have k0:lgd d (lge n d)≠0:=by omega
  have hB:=lgB_ne (d:=d) hn
  have k:(0:Rat) < ((lgd d (lge n d):Nat):Rat):=by exact_mod_cast Nat.pos_of_ne_zero k0
  have kB:(0:Rat) < ((lgB n d:Nat):Rat):=by exact_mod_cast Nat.pos_of_ne_zero hB
  have eB:((lgB n d:Nat):Rat)=((lgn n (lge n d):Nat):Rat)+((lgd d (lge n d):Nat):Rat):=by unfold lgB;rw[Rat.natCast_add]
  have eT:((lgT n d 0:Nat):Rat)=((lgn n (lge n d):Nat):Rat) - ((lgd d (lge n d):Nat):Rat):=by
    unfold lgT
    rw[Nat.pow_zero,Nat.mul_one]
    have:((lgn n (lge n d) - lgd d (lge n d):Nat):Rat)+((lgd d (lge n d):Nat):Rat)=((lgn n (lge n d):Nat):Rat):=by rw[←Rat.natCast_add,Nat.sub_add_cancel a]
    grind
  have b':((lgn n (lge n d):Nat):Rat) < 2*((lgd d (lge n d):Nat):Rat):=by exact_mod_cast b
  have a':((lgd d (lge n d):Nat):Rat)≤((lgn n (lge n d):Nat):Rat):=by exact_mod_cast a
  have ez:(mQ n d - 1)*(mQ n d+1)⁻¹=((lgT n d 0:Nat):Rat)*((lgB n d:Nat):Rat)⁻¹:=by
    rw[eT,eB]
    rw[eB] at kB
    unfold mQ
    generalize((lgd d (lge n d):Nat):Rat)=D at*
    generalize((lgn n (lge n d):Nat):Rat)=N at*
    have e:D*D⁻¹=1:=Rat.mul_inv_cancel _ (by grind)
    have f:(N+D)*(N+D)⁻¹=1:=Rat.mul_inv_cancel _ (by grind)
    have i:=Rat.inv_pos.2 k
    have m1:=Rat.mul_nonneg (show 0≤N by grind) (Rat.le_of_lt i)
    have g:(N*D⁻¹+1)*(N*D⁻¹+1)⁻¹=1:=Rat.mul_inv_cancel _ (by grind)
    generalize D⁻¹=I at*
    generalize(N+D)⁻¹=J at*
    generalize(N*I+1)⁻¹=K at*
    have h1:(N*I - 1)*K=(N*I - 1)*K*((N+D)*J):=by rw[f,Rat.mul_one]
    have h2:(N*I - 1)*K*((N+D)*J)=(N - D)*J*((N*I+1)*K)+(N - D)*J*K*0+(N*I - 1)*K*((N+D)*J) - (N - D)*J*((N*I+1)*K):=by grind
    have h3:(N*I - 1)*(N+D)=(N - D)*(N*I+1):=by
      have l:(N*I - 1)*(N+D)=N*N*I+N*(D*I) - N - D:=by grind
      have r:(N - D)*(N*I+1)=N*N*I+N - N*(D*I) - D:=by grind
      rw[l,r,e];grind
    have h4:(N*I - 1)*K*((N+D)*J)=(N*I - 1)*(N+D)*(K*J):=by grind
    rw[h1,h4,h3]
    have h5:(N - D)*(N*I+1)*(K*J)=(N - D)*J*((N*I+1)*K):=by grind
    rw[h5,g,Rat.mul_one]
  have z0:0≤((lgT n d 0:Nat):Rat)*((lgB n d:Nat):Rat)⁻¹:=Rat.mul_nonneg (by exact_mod_cast Nat.zero_le _) (Rat.le_of_lt (Rat.inv_pos.2 kB))
  have z1:((lgT n d 0:Nat):Rat)*((lgB n d:Nat):Rat)⁻¹≤1 / 3:=by
    have f:((lgB n d:Nat):Rat)*((lgB n d:Nat):Rat)⁻¹=1:=Rat.mul_inv_cancel _ (by grind)
    have m:=Rat.mul_le_mul_of_nonneg_right (show((lgT n d 0:Nat):Rat)≤1 / 3*((lgB n d:Nat):Rat) by rw[eT,eB];grind) (Rat.le_of_lt (Rat.inv_pos.2 kB))
    rw[Rat.mul_assoc,f,Rat.mul_one] at m
    exact m
  unfold gN
  rw[ez]
  exact lN_bd z0 z1
theorem gN_l2:l2 false≤gN 2∧gN 2≤l2 true:=by
  have h:=lN_bd (z:=(3:Rat)⁻¹) (by decide+kernel) (by decide+kernel)
  have e:((2:Rat) - 1)*(2+1)⁻¹=(3:Rat)⁻¹:=by decide+kernel
  unfold gN l2
  rw[e]
  exact h
def lV (n d:Nat):Rat:=gN 2*(lge n d:Rat)+gN (mQ n d)
theorem lV_in {n d:Nat} (hn:n≠0) (hd:d≠0):lnV false n d≤lV n d∧lV n d≤lnV true n d:=by
  obtain⟨a1,a2⟩:=gN_lM hn hd
  obtain⟨b1,b2⟩:=gN_l2
  unfold lnV lV
  by_cases he:0≤lge n d
  · rw[if_pos he,if_pos he]
    have e:(lge n d:Rat)=((lge n d).toNat:Rat):=by
      rw[show(((lge n d).toNat:Nat):Rat)=((((lge n d).toNat:Nat):Int):Rat) from rfl,Int.toNat_of_nonneg he]
    have m0:(0:Rat)≤((lge n d).toNat:Rat):=by exact_mod_cast Nat.zero_le _
    rw[e]
    have k1:=Rat.mul_le_mul_of_nonneg_right b1 m0
    have k2:=Rat.mul_le_mul_of_nonneg_right b2 m0
    exact⟨by grind,by grind⟩
  · rw[if_neg he,if_neg he]
    have e:(lge n d:Rat)= -((0 - lge n d).toNat:Rat):=by
      rw[show(((0 - lge n d).toNat:Nat):Rat)=((((0 - lge n d).toNat:Nat):Int):Rat) from rfl,Int.toNat_of_nonneg (by omega),←Rat.intCast_neg]
      congr 1
      omega
    have m0:(0:Rat)≤((0 - lge n d).toNat:Rat):=by exact_mod_cast Nat.zero_le _
    rw[e]
    have k1:=Rat.mul_le_mul_of_nonneg_right b1 m0
    have k2:=Rat.mul_le_mul_of_nonneg_right b2 m0
    simp only[Bool.not_false,Bool.not_true]
    exact⟨by grind,by grind⟩
theorem mQ_pw {n d:Nat} (hd:d≠0):(n:Rat)*(d:Rat)⁻¹=mQ n d*(2:Rat)^lge n d:=by
  have d0:(0:Rat) < (d:Rat):=by exact_mod_cast Nat.pos_of_ne_zero hd
  unfold mQ lgn lgd
  rw[Rat.natCast_mul,Rat.natCast_mul]
  by_cases he:0≤lge n d
  · obtain⟨k,hk⟩:∃k:Nat,lge n d=(k:Int):=⟨(lge n d).toNat,by omega⟩
    rw[hk,show(max 0 (-(k:Int))).toNat=0 by omega,show(max 0 (k:Int)).toNat=k by omega,Rat.zpow_natCast,Nat.pow_zero,show((1:Nat):Rat)=1 from rfl,Rat.mul_one,Rat.inv_mul_rev,Rat.natCast_pow]
    have p:=pow2_pos k
    have i:((2:Nat):Rat)^k*(((2:Nat):Rat)^k)⁻¹=1:=Rat.mul_inv_cancel _ (by rw[show((2:Nat):Rat)=2 from rfl];grind)
    rw[show((2:Nat):Rat)=2 from rfl] at*
    have:(n:Rat)*(((2:Rat)^k)⁻¹*(d:Rat)⁻¹)*2^k=(n:Rat)*(d:Rat)⁻¹*(2^k*((2:Rat)^k)⁻¹):=by grind
    rw[this,i,Rat.mul_one]
  · obtain⟨k,hk⟩:∃k:Nat,lge n d= -(k:Int):=⟨(-lge n d).toNat,by omega⟩
    rw[hk,show(max 0 (-(-(k:Int)))).toNat=k by omega,show(max 0 (-(k:Int))).toNat=0 by omega,Rat.zpow_neg,Rat.zpow_natCast,Nat.pow_zero,show((1:Nat):Rat)=1 from rfl,Rat.mul_one,Rat.natCast_pow]
    have p:=pow2_pos k
    have i:((2:Rat))^k*((2:Rat)^k)⁻¹=1:=Rat.mul_inv_cancel _ (by grind)
    rw[show((2:Nat):Rat)=2 from rfl] at*
    have:(n:Rat)*(2:Rat)^k*(d:Rat)⁻¹*((2:Rat)^k)⁻¹=(n:Rat)*(d:Rat)⁻¹*(2^k*((2:Rat)^k)⁻¹):=by grind
    rw[this,i,Rat.mul_one]
theorem two_nz:(2:Rat)≠0:=by decide
theorem pw_lt {a b:Rat} {e f:Int} (a1:1≤a) (b2:b < 2) (h:a*2^e=b*2^f):e≤f:=by
  refine Int.not_lt.1 fun c=>?_
  obtain⟨j,hj⟩:∃j:Nat,e=f+((j:Int)+1):=⟨(e - f - 1).toNat,by omega⟩
  have p:=@Rat.zpow_pos 2 f (by decide)
  rw[hj,Rat.zpow_add two_nz,Rat.zpow_add_one two_nz,Rat.zpow_natCast] at h
  have q:(1:Rat)≤2^j:=by
    have:((1:Nat):Rat)≤((2^j:Nat):Rat):=Rat.natCast_le_natCast.2 (Nat.one_le_two_pow)
    rw[Rat.natCast_pow] at this
    exact this
  generalize(2:Rat)^f=P at*
  generalize(2:Rat)^j=J at*
  have m1:=Rat.mul_lt_mul_of_pos_right b2 p
  have m2:=Rat.mul_le_mul_of_nonneg_right (show 2≤J*2 by grind) (Rat.le_of_lt p)
  have m3:=Rat.mul_le_mul_of_nonneg_right a1 (Rat.mul_nonneg (show 0≤J*2 by grind) (Rat.le_of_lt p))
  grind
theorem pw_uniq {a b:Rat} {e f:Int} (a1:1≤a) (a2:a < 2) (b1:1≤b) (b2:b < 2) (h:a*2^e=b*2^f):e=f∧a=b:=by
  have k:e=f:=Int.le_antisymm (pw_lt a1 b2 h) (pw_lt b1 a2 h.symm)
  subst k
  have p:=@Rat.zpow_pos 2 e (by decide)
  refine⟨rfl,?_⟩
  have i:(2:Rat)^e*((2:Rat)^e)⁻¹=1:=Rat.mul_inv_cancel _ (by grind)
  have:=congrArg (· *((2:Rat)^e)⁻¹) h
  simp only[Rat.mul_assoc,i,Rat.mul_one] at this
  exact this
theorem lV_mul {n1 d1 n2 d2 n3 d3:Nat} (h1:n1≠0) (g1:d1≠0) (h2:n2≠0) (g2:d2≠0) (h3:n3≠0) (g3:d3≠0) (h:(n1:Rat)*(d1:Rat)⁻¹*((n2:Rat)*(d2:Rat)⁻¹)=(n3:Rat)*(d3:Rat)⁻¹):Ab (lV n1 d1+lV n2 d2 - lV n3 d3) (6*tl):=by
  obtain⟨a1,a2⟩:=mQ_bd h1 g1
  obtain⟨b1,b2⟩:=mQ_bd h2 g2
  obtain⟨c1,c2⟩:=mQ_bd h3 g3
  have t0:0≤tl:=by decide+kernel
  rw[mQ_pw g1,mQ_pw g2,mQ_pw g3] at h
  have e:mQ n1 d1*2^lge n1 d1*(mQ n2 d2*2^lge n2 d2)=mQ n2 d2*mQ n1 d1*2^(lge n1 d1+lge n2 d2):=by rw[Rat.zpow_add two_nz];grind
  rw[e] at h
  have m1:=Rat.mul_le_mul_of_nonneg_left a1 (show 0≤mQ n2 d2 by grind)
  have k:=gN_mul a1 (Rat.le_of_lt a2) b1 (Rat.le_of_lt b2)
  unfold lV
  by_cases hc:mQ n2 d2*mQ n1 d1 < 2
  · obtain⟨u,v⟩:=pw_uniq (by grind) hc c1 c2 h
    rw[←v,←u,Rat.intCast_add]
    exact(ab_le k.neg (by grind)).le (by grind)
  · have h':mQ n2 d2*mQ n1 d1*(1 / 2)*2^(lge n1 d1+lge n2 d2+1)=mQ n3 d3*2^lge n3 d3:=by
      rw[Rat.zpow_add_one two_nz,←h];grind
    have m2:mQ n2 d2*mQ n1 d1 < 4:=by
      have q1:=Rat.mul_lt_mul_of_pos_left a2 (show 0 < mQ n2 d2 by grind)
      grind
    obtain⟨u,v⟩:=pw_uniq (by grind) (by grind) c1 c2 h'
    have l:=gN_mul (x:=mQ n2 d2*mQ n1 d1*(1 / 2)) (y:=2) (by grind) (by grind) (by decide) Rat.le_refl
    have e2:2*(mQ n2 d2*mQ n1 d1*(1 / 2))=mQ n2 d2*mQ n1 d1:=by grind
    rw[e2] at l
    rw[←v,←u,Rat.intCast_add,Rat.intCast_add,show((1:Int):Rat)=1 from rfl]
    exact(ab_le (k.neg.add l) (by grind)).le (by grind)
theorem tl_num:6*tl*2^128 < 1:=by decide+kernel
theorem lV_one:lV 1 1=0:=by decide+kernel
end Go.Q
namespace Go.Q
open Go.Proofs
set_option maxRecDepth 100000
set_option maxHeartbeats 8000000
theorem gi_1 (y:Rat) (p:Nat):(∃z:Int,gdown y p*2^p=(z:Rat))∧∃z:Int,gup y p*2^p=(z:Rat):=by
  have hp:=pow2_pos p
  have e:∀z:Rat,z / 2^p*2^p=z:=fun z=>Rat.div_mul_cancel (by grind)
  exact⟨⟨_,e _⟩,⟨_,e _⟩⟩
theorem br_ln {x:Rat} {p:Nat} (h:brE 2 x p=0):0 < x∧p≤128∧(brL 2 x p≤lV x.num.natAbs x.den∧lV x.num.natAbs x.den≤brH 2 x p)∧(∃z:Int,brL 2 x p*2^p=(z:Rat))∧∃z:Int,brH 2 x p*2^p=(z:Rat):=by
  obtain⟨_,_,p1⟩:=br_p h
  obtain⟨_,_,_,dx,_,_,_⟩:=eErr_p (br_e h)
  have hx:0 < x:=by simpa[defB] using dx
  refine⟨hx,by omega,?_⟩
  rw[(br_ser h).1,(br_ser h).2,show exB 2 x=decide (x=1) from rfl]
  by_cases x1:x=1
  · subst x1
    have z:∃z:Int,(0:Rat)*2^p=(z:Rat):=⟨0,by rw[Rat.zero_mul];rfl⟩
    rw[decide_eq_true rfl,if_pos rfl,if_pos rfl,show exV 2 1=0 by decide+kernel,show(1:Rat).num.natAbs=1 from rfl,show(1:Rat).den=1 from rfl,lV_one]
    exact⟨⟨Rat.le_refl,Rat.le_refl⟩,z,z⟩
  · rw[decide_eq_false x1,if_neg (by decide),if_neg (by decide)]
    have hn:=(num_pos0 hx).2
    obtain⟨o1,o2⟩:=ln_in (p:=p) (d:=x.den) hn
    obtain⟨v1,v2⟩:=lV_in hn x.den_nz
    have f:∀n:Nat,∃z:Int,sgn false n (2^p)*2^p=(z:Rat):=fun n=>⟨_,sgn_int _ _ _⟩
    refine⟨⟨Rat.le_trans o1 v1,Rat.le_trans v2 o2⟩,?_,?_⟩
    · show ∃z:Int,lnLo x.num.natAbs x.den p*2^p=(z:Rat)
      unfold lnLo;split
      · exact f _
      · exact(gi_1 _ p).1
    · show ∃z:Int,lnHi x.num.natAbs x.den p*2^p=(z:Rat)
      unfold lnHi;split
      · exact f _
      · exact(gi_1 _ p).2
theorem int_sum {a b:Rat} {p:Nat} (h:∃z:Int,a*2^p=(z:Rat)) (k:∃z:Int,b*2^p=(z:Rat)):∃z:Int,(a+b)*2^p=(z:Rat):=by
  obtain⟨y,hy⟩:=h
  obtain⟨z,hz⟩:=k
  refine⟨y+z,?_⟩
  rw[Rat.add_mul,hy,hz]
  push_cast
  rfl
theorem num_q {x:Rat} (h:0 < x):(x.num.natAbs:Rat)*(x.den:Rat)⁻¹=x:=by
  have dd:(x.den:Rat)*(x.den:Rat)⁻¹=1:=Rat.mul_inv_cancel _ (by exact_mod_cast x.den_nz)
  have q:=q_den x
  have n0:=Rat.num_nonneg.2 (Rat.le_of_lt h)
  rw[show((x.num.natAbs:Nat):Rat)=(((x.num.natAbs:Nat):Int):Rat) from rfl,Int.natAbs_of_nonneg n0,←q,Rat.mul_assoc,dd,Rat.mul_one]
theorem logs_law {x y:Rat} {p:Int} (hx:brE 2 x p=0) (hy:brE 2 y p=0) (hs:brE 2 (x*y) p=0):brL 2 x p+brL 2 y p≤brH 2 (x*y) p∧brL 2 (x*y) p≤brH 2 x p+brH 2 y p:=by
  obtain⟨_,p0,_⟩:=br_p hx
  obtain⟨q,rfl⟩:∃q:Nat,p=(q:Int):=⟨p.toNat,by omega⟩
  obtain⟨x0,hp,⟨a1,a2⟩,a3,a4⟩:=br_ln hx
  obtain⟨y0,_,⟨b1,b2⟩,b3,b4⟩:=br_ln hy
  obtain⟨s0,_,⟨c1,c2⟩,c3,c4⟩:=br_ln hs
  have k:=lV_mul (num_pos0 x0).2 x.den_nz (num_pos0 y0).2 y.den_nz (num_pos0 s0).2 (x*y).den_nz (by rw[num_q x0,num_q y0,num_q s0])
  obtain⟨k1,k2⟩:=k
  exact⟨int_near (int_to (int_sum a3 b3) hp) (int_to c4 hp) (by grind) tl_num,int_near (int_to c3 hp) (int_to (int_sum a4 b4) hp) (by grind) tl_num⟩
theorem LMts2_yes {h0 h:PH} [Le h0 h] {va vb vc vd:Value} {a b c d:Rat} (ha:Qr h0 va a) (hb:Qr h0 vb b) (hc:Qr h0 vc c) (hd:Qr h0 vd d) (sa:sz a≤2^34) (sb:sz b≤2^34) (sc:sz c≤2^34) (sd:sz d≤2^34) (h1:a≤d) (h2:c≤b):Spec mach 10 #[va,vb,vc,vd] h (fun r _=>r=.bool true) NP:=by
  have e1:decide (cmpQ a d≤0)=true:=by unfold cmpQ;grind
  have e2:decide (cmpQ c b≤0)=true:=by unfold cmpQ;grind
  obtain⟨_,_,_,_,_,_,_,rfl,ha⟩:=ha.sa
  obtain⟨_,_,_,_,_,_,_,rfl,hb⟩:=hb.sa
  obtain⟨_,_,_,_,_,_,_,rfl,hc⟩:=hc.sa
  obtain⟨_,_,_,_,_,_,_,rfl,hd⟩:=hd.sa
  refine Spec.go [] Tryz.func10 rfl rfl (by kernel_rfl) fun C _=>?_
  try simp(maxSteps:=999999) (disch:=omega) only[go_sem,Nat.reduceBEq,Nat.reduceAdd]
  refine caN (by exact QCmp_spec ha hd sa sd) ?_;rintro v1 g1 s1 rfl
  try simp(maxSteps:=999999) (disch:=omega) only[go_sem,Nat.reduceBEq,Nat.reduceAdd,e1]
  refine caN (by exact QCmp_spec (hc.to (h':=g1)) (hb.to (h':=g1)) sc sb) ?_;rintro v2 g2 s2 rfl
  try simp(maxSteps:=999999) (disch:=omega) only[go_sem,Nat.reduceBEq,Nat.reduceAdd,e2]
theorem Logs_law {h0 h:PH} [Le h0 h] {v w:Value} {ng mg:Bool} {nn nd mn md:Nat} {p:Int} (hv:Rx h0 v ng nn nd) (hw:Rx h0 w mg mn md):Spec mach 4 #[v,w,.int .i64 p] h (fun r _=>r=.bool true) NP:=by
  have bx:=hv.sz
  have by_:=hw.sz
  obtain⟨hv,_⟩:=hv
  obtain⟨hw,_⟩:=hw
  have kO:=fun {h} [Le h0 h]=>QOf_spec (h:=h) hv
  have kP:=fun {h} [Le h0 h]=>QOf_spec (h:=h) hw
  generalize qof ng nn nd=x at*
  generalize qof mg mn md=y at*
  have bs:=sz_mul x y
  have bs:sz (x*y)≤2^35:=by omega
  have bx:sz x≤2^35:=by omega
  have by_:sz y≤2^35:=by omega
  obtain⟨_,_,_,_,_,_,_,rfl,_⟩:=hv.sa
  obtain⟨_,_,_,_,_,_,_,rfl,_⟩:=hw.sa
  clear hv hw
  have e1:=fun {h0 h:PH} {w:Value} [Le h0 h] (c:Qr h0 w x)=>LBracket_spec (h:=h) (fn:=2) (p:=p) Apply_e2 c bx
  have e2:=fun {h0 h:PH} {w:Value} [Le h0 h] (c:Qr h0 w y)=>LBracket_spec (h:=h) (fn:=2) (p:=p) Apply_e2 c by_
  have e3:=fun {h0 h:PH} {w:Value} [Le h0 h] (c:Qr h0 w (x*y))=>LBracket_spec (h:=h) (fn:=2) (p:=p) Apply_e2 c bs
  have M:=logs_law (x:=x) (y:=y) (p:=p)
  obtain⟨E1,f1⟩:∃c,decide (brE 2 x p=0)=c:=⟨_,rfl⟩
  obtain⟨E2,f2⟩:∃c,decide (brE 2 y p=0)=c:=⟨_,rfl⟩
  obtain⟨E3,f3⟩:∃c,decide (brE 2 (x*y) p=0)=c:=⟨_,rfl⟩
  have M:=fun(k1:E1=true) (k2:E2=true) (k3:E3=true)=>M (of_decide_eq_true (f1.trans k1)) (of_decide_eq_true (f2.trans k2)) (of_decide_eq_true (f3.trans k3))
  rw[f1] at e1
  rw[f2] at e2
  rw[f3] at e3
  obtain⟨z1,z2⟩:=br_sz 2 x p
  obtain⟨z3,z4⟩:=br_sz 2 y p
  obtain⟨z5,z6⟩:=br_sz 2 (x*y) p
  clear f1 f2 f3
  generalize brL 2 x p=A1 at*
  generalize brH 2 x p=B1 at*
  generalize brL 2 y p=A2 at*
  generalize brH 2 y p=B2 at*
  generalize brL 2 (x*y) p=A3 at*
  generalize brH 2 (x*y) p=B3 at*
  have z7:=sz_add A1 A2
  have z8:=sz_add B1 B2
  have z7:sz (A1+A2)≤2^34:=by omega
  have z8:sz (B1+B2)≤2^34:=by omega
  have z7:=Hid.mk z7
  have z8:=Hid.mk z8
  have bx:=Hid.mk bx
  have by_:=Hid.mk by_
  clear bs
  refine Spec.go [(1,.h [] [] [4,5] [4,5,0,2,1,3,6,7]),(7,.o [0,1,2,3,4,5,6,8,9,11,12,7,10,13,14,15,16])] Tryz.func4 rfl rfl (by kernel_rfl) fun C _=>?_
  try simp(maxSteps:=999999) (disch:=omega) only[go_sem,Nat.reduceBEq,Nat.reduceAdd]
  refine caN (by exact kO) ?_;rintro v1 h1 r1 q1;obtain⟨_,_,_,_,_,_,_,rfl,q1⟩:=q1.sa
  try simp(maxSteps:=999999) (disch:=omega) only[go_sem,Nat.reduceBEq,Nat.reduceAdd]
  refine caN (by exact kP) ?_;rintro v2 h2 r2 q2;obtain⟨_,_,_,_,_,_,_,rfl,q2⟩:=q2.sa
  try simp(maxSteps:=999999) (disch:=omega) only[go_sem,Nat.reduceBEq,Nat.reduceAdd]
  refine caN (by exact e1 (q1.to (h':=h2))) ?_;rintro v3 h3 r3 ⟨_,_,_,_,_,_,_,_,_,_,_,_,_,_,rfl,a1,a2⟩
  try simp(maxSteps:=999999) (disch:=omega) only[go_sem,Nat.reduceBEq,Nat.reduceAdd]
  refine caN (by exact e2 (q2.to (h':=h3))) ?_;rintro v4 h4 r4 ⟨_,_,_,_,_,_,_,_,_,_,_,_,_,_,rfl,a3,a4⟩
  try simp(maxSteps:=999999) (disch:=omega) only[go_sem,Nat.reduceBEq,Nat.reduceAdd]
  cases E1
  · try simp(maxSteps:=999999) (disch:=omega) only[go_sem,Nat.reduceBEq,Nat.reduceAdd]
    refine caN (by exact sane_spec) ?_;rintro v5 h5 r5 rfl
    try simp(maxSteps:=999999) (disch:=omega) only[go_sem,Nat.reduceBEq,Nat.reduceAdd]
  cases E2
  · try simp(maxSteps:=999999) (disch:=omega) only[go_sem,Nat.reduceBEq,Nat.reduceAdd]
    refine caN (by exact sane_spec) ?_;rintro v5 h5 r5 rfl
    try simp(maxSteps:=999999) (disch:=omega) only[go_sem,Nat.reduceBEq,Nat.reduceAdd]
  try simp(maxSteps:=999999) (disch:=omega) only[go_sem,Nat.reduceBEq,Nat.reduceAdd]
  refine caN (by exact RProd_spec (q1.to (h':=h4)) (q2.to (h':=h4)) bx.out by_.out) ?_;rintro v5 h5 r5 q3;obtain⟨_,_,_,_,_,_,_,rfl,q3⟩:=q3.sa
  try simp(maxSteps:=999999) (disch:=omega) only[go_sem,Nat.reduceBEq,Nat.reduceAdd]
  refine caN (by exact e3 q3) ?_;rintro v6 h6 r6 ⟨_,_,_,_,_,_,_,_,_,_,_,_,_,_,rfl,a5,a6⟩
  try simp(maxSteps:=999999) (disch:=omega) only[go_sem,Nat.reduceBEq,Nat.reduceAdd]
  refine caN (by exact sane_spec) ?_;rintro v7 h7 r7 rfl
  try simp(maxSteps:=999999) (disch:=omega) only[go_sem,Nat.reduceBEq,Nat.reduceAdd]
  cases E3
  · try simp(maxSteps:=999999) (disch:=omega) only[go_sem,Nat.reduceBEq,Nat.reduceAdd]
  obtain⟨m1,m2⟩:=M rfl rfl rfl
  try simp(maxSteps:=999999) (disch:=omega) only[go_sem,Nat.reduceBEq,Nat.reduceAdd]
  refine caN (by exact Sum_spec (a1.to (h':=h7)) (a3.to (h':=h7)) (Nat.le_trans z1 (by decide)) (Nat.le_trans z3 (by decide))) ?_;rintro v8 h8 r8 q4;obtain⟨_,_,_,_,_,_,_,rfl,q4⟩:=q4.sa
  try simp(maxSteps:=999999) (disch:=omega) only[go_sem,Nat.reduceBEq,Nat.reduceAdd]
  refine caN (by exact Sum_spec (a2.to (h':=h8)) (a4.to (h':=h8)) (Nat.le_trans z2 (by decide)) (Nat.le_trans z4 (by decide))) ?_;rintro v9 h9 r9 q5;obtain⟨_,_,_,_,_,_,_,rfl,q5⟩:=q5.sa
  try simp(maxSteps:=999999) (disch:=omega) only[go_sem,Nat.reduceBEq,Nat.reduceAdd]
  refine caN (by exact LMts2_yes (q4.to (h':=h9)) q5 (a5.to (h':=h9)) (a6.to (h':=h9)) z7.out z8.out (Nat.le_trans z5 (by decide)) (Nat.le_trans z6 (by decide)) m1 m2) ?_;rintro v10 h10 r10 rfl
  try simp(maxSteps:=999999) (disch:=omega) only[go_sem,Nat.reduceBEq,Nat.reduceAdd]
end Go.Q
