/-
  The sizes of the brackets' ends: no program. Conditions: eErr tells no error.
  The statements' helper right; the reference's domains and exact values. Conditions: the values are numbers (Cn, Qr).
  The bracket of a function as the statements read it (bracket), for every number. Conditions: the number has at most 2^35 binary digits.
  The brackets that Apply returns at a number and at its opposite: no program. Conditions: a function of sine, cosine, tangent, arcsine, arctangent; of the first three: no tie.
  The exponentials of a number and of its opposite; their order: no program. Conditions: as Apply's.
  Roots of numbers on a grid, plain: their signs, when they are exact, their order. Conditions: the index is not 0.
  The series of the arctangent on a grid lies on both sides of its exact sum, which rises: no program. Conditions: the numbers are at most 1.
  The brackets of the arctangent and of halved angles keep the order: no program. Conditions: the numbers are at most 1 of the grid.
  Sixteen times the lower arctangent of a sixteenth of a turn at most pi's upper bound (by computation): no program. Conditions: the working precision is from 32 to 160.
  The brackets of arctangent, arcsine and arccosine keep the order: no program. Conditions: the functions' domains; precisions up to 128.
  The brackets of logarithm and exponential keep the order: no program. Conditions: the functions' domains.
  The brackets of the functions that rise, and of the arccosine, keep the order: no program. Conditions: both numbers have a bracket.
  Sixteen times the upper arctangent of a sixteenth of a turn at least pi's lower bound (by computation): no program. Conditions: the working precision is from 32 to 160.
  Arcsine and arccosine, and the arctangents of a number and of its inverse, have the sum of a quarter turn, as far as brackets show it: no program. Conditions: the functions' domains; precisions up to 128.
  What Turns returns. Conditions: the ends are numbers as they come in.
  Quarter turns in a range: a wide range has them; a wider one has what a narrower one has. Plain. Conditions: none.
  The reference's helpers of layer 2: natural numbers, quotients rounded, numbers of a grid; its domains and exact values. Conditions: the values are natural numbers (N16) and numbers (Qr).
  The reference of layer 2: its grid, the series of the arctangent, pi. Conditions: the values are natural numbers (N16) and numbers (Qr).
  Contracts of package elem: the argument of exp made ready; what Exp returns. Conditions: the argument is small enough, the value is not exact.
  The statements' check of one bracket (sane); the statement ElemPi. Conditions: none.
  The reference of layer 2: quarter turns. Conditions: the values are numbers (Qr).
  The statement ElemInverse. Conditions: the argument is a number as it comes in (Rw).
-/
import Derived.Test.YtacebncjhpdacaaGreatDoorK8c97aaPkF
import Derived.Test.YtacebncjhpdacaaGreatDoorK7e8d8ePkO
import Derived.Test.YtacebncjhpdacaaGreatDoorK50c18cPkM
import Derived.Test.YtacebncjhpdacaaGreatDoorKb103c3PkL
import Derived.Test.YtacebncjhpdacaaGreatDoorK133544PkN
set_option linter.unusedVariables false
set_option linter.unusedSimpArgs false
namespace Go.Q
set_option maxRecDepth 100000
set_option maxHeartbeats 4000000
theorem sgn_szp {neg:Bool} {n p k:Nat} (h:bl n≤k) (hp:p+1≤k):sz (sgn neg n (2^p))≤k:=by
  have h1:=sz_sgn neg n (pow2_ne p)
  have h2:=bl_pow2 p
  omega
theorem bk_sz {neg:Bool} {a b k p m:Nat} (ha:bl a≤m) (hb:bl b≤m) (hp:p≤m):sz (bkL neg a b k p)≤m+1∧sz (bkH neg a b k p)≤m+1:=by
  have h1:=bl_div_le a (2^k)
  have h2:=bl_cdiv b (pow2_ne k)
  unfold bkL bkH
  cases neg
  · exact⟨sgn_szp (by omega) (by omega),sgn_szp (by omega) (by omega)⟩
  · exact⟨sgn_szp (by omega) (by omega),sgn_szp (by omega) (by omega)⟩
theorem exp_sz {x:Rat} {p:Nat} (hb:¬x.den*64 < x.num.natAbs) (hp:p≤128):sz (expLo x p)≤2048∧sz (expHi x p)≤2048:=by
  obtain⟨f1,f2,f3,f4⟩:=exp_fit (p:=p) hb
  unfold expLo expHi
  generalize expL x p=A at*
  generalize expH x p=B at*
  have u:=bl_pow2 (p+112+p)
  have h1:=bl_div_le (2^(p+112+p)) B
  have h2:=bl_cdiv (2^(p+112+p)) f3
  have h3:=bl_div_le A (2^112)
  have h4:=bl_cdiv B (pow2_ne 112)
  generalize 2^(p+112+p)=U at*
  generalize U / B=a1 at*
  generalize cdiv U A=a2 at*
  generalize A / 2^112=a3 at*
  generalize cdiv B (2^112)=a4 at*
  constructor<;>split<;>exact sgn_szp (by omega) (by omega)
theorem ln_sz {n d p:Nat} (hn:n≠0) (b1:bl n≤1024) (b2:bl d≤1024) (hp:p≤128):sz (lnLo n d p)≤2048∧sz (lnHi n d p)≤2048:=by
  obtain⟨a1,a2,_,_⟩:=lge_abs b1 b2
  obtain⟨l1,l2⟩:=lgm_arg (n:=n) (d:=d) (w:=p+32) hn
  obtain⟨l3,l4⟩:=lg2_arg (p+32)
  obtain⟨l5,l6⟩:=logL_le l1 l2
  obtain⟨l7,l8⟩:=logL_le l3 l4
  have c1:bl (lgmL n d (p+32))≤p+32+8:=bl_112 l5
  have c2:bl (lgmH n d (p+32))≤p+32+8:=bl_112 l6
  have c3:bl (lg2L (p+32))≤p+32+8:=bl_112 l7
  have c4:bl (lg2H (p+32))≤p+32+8:=bl_112 l8
  clear l1 l2 l3 l4 l5 l6 l7 l8
  generalize e1:lgmL n d (p+32)=A at*
  generalize e2:lgmH n d (p+32)=B at*
  generalize e3:lg2L (p+32)=C at*
  generalize e4:lg2H (p+32)=D at*
  by_cases he:0≤lge n d
  · obtain⟨m,hm⟩:∃m:Nat,(lge n d).toNat=m:=⟨_,rfl⟩
    have bm:bl m≤11:=bl_le.2 (by omega)
    have b14:=bl_mul C m
    have b15:=bl_mul D m
    have b16:=bl_add (C*m) A
    have b17:=bl_add (D*m) B
    have b18:=bl_div_le (C*m+A) (2^32)
    have b19:=bl_cdiv (D*m+B) (pow2_ne 32)
    unfold lnLo lnHi
    rw[if_pos he,if_pos he,hm,e1,e2,e3,e4]
    exact⟨sgn_szp (by omega) (by omega),sgn_szp (by omega) (by omega)⟩
  · obtain⟨m,hm⟩:∃m:Nat,(0 - lge n d).toNat=m:=⟨_,rfl⟩
    have bm:bl m≤11:=bl_le.2 (by omega)
    have b14:=bl_mul C m
    have b15:=bl_mul D m
    have y1:=sz_dif (a:=A) (b:=D*m) (w:=p+32) (k:=p+52) (by omega) (by omega) (by omega)
    have y2:=sz_dif (a:=B) (b:=C*m) (w:=p+32) (k:=p+52) (by omega) (by omega) (by omega)
    unfold lnLo lnHi
    rw[if_neg he,if_neg he,hm,e1,e2,e3,e4]
    have z1:=sz_gd (sgn false A (2^(p+32))+ -sgn false (D*m) (2^(p+32))) p
    have z2:=sz_gu (sgn false B (2^(p+32))+ -sgn false (C*m) (2^(p+32))) p
    omega
theorem at_sz {x:Rat} {p:Nat} (hp:p≤128):sz (atLo x p)≤2048∧sz (atHi x p)≤2048:=by
  have key:bl (atA x (p+32))≤p+38∧bl (atB x (p+32))≤p+38:=by
    obtain⟨b1,b2⟩:=bl_pi (w:=p+32)
    unfold atA atB
    by_cases hb:x.den < x.num.natAbs
    · rw[if_pos hb,if_pos hb]
      have h1:bl (piL (p+32) - anH (glo (invQ x) (p+32)) (ghi (invQ x) (p+32)) (p+32)*2^1)≤_:=bl_mono (Nat.sub_le _ _)
      have h2:bl (piH (p+32) - anL (glo (invQ x) (p+32)) (ghi (invQ x) (p+32)) (p+32)*2^1)≤_:=bl_mono (Nat.sub_le _ _)
      omega
    · rw[if_neg hb,if_neg hb]
      obtain⟨l1,l2⟩:=g_le (x:=x) (w:=p+32) hb
      obtain⟨m1,m2⟩:=an_le (w:=p+32) (by omega) l1 l2
      have b3:=bl_w3 (by omega) m1
      have b4:=bl_w3 (by omega) m2
      omega
  obtain⟨k1,k2⟩:=bk_sz (neg:=decide (x.num < 0)) (k:=atK x) (p:=p) key.1 key.2 (by omega)
  exact⟨Nat.le_trans k1 (by omega),Nat.le_trans k2 (by omega)⟩
theorem as_sz {x:Rat} {p:Nat} (h:x.num.natAbs≤x.den) (hp:p≤128):sz (asinLo x p)≤2048∧sz (asinHi x p)≤2048:=by
  obtain⟨b1,b2⟩:=bl_as (w:=p+32) (by omega) h
  obtain⟨k1,k2⟩:=bk_sz (neg:=decide (x.num < 0)) (k:=32) (p:=p) b1 b2 (by omega)
  exact⟨Nat.le_trans k1 (by omega),Nat.le_trans k2 (by omega)⟩
theorem ac_sz {x:Rat} {p:Nat} (h:x.num.natAbs≤x.den) (hp:p≤128):sz (acLo x p)≤2048∧sz (acHi x p)≤2048:=by
  obtain⟨b1,b2⟩:=bl_as (w:=p+32) (by omega) h
  obtain⟨b3,b4⟩:=bl_pi (w:=p+32)
  have b5:=bl_shl (asL x (p+32)) 1
  have b6:=bl_shl (asU x (p+32)) 1
  unfold acLo acHi
  by_cases h0:x=0
  · rw[if_pos h0,if_pos h0]
    obtain⟨k1,k2⟩:=bk_sz (neg:=false) (k:=33) (p:=p) b3 b4 (by omega)
    exact⟨Nat.le_trans k1 (by omega),Nat.le_trans k2 (by omega)⟩
  · rw[if_neg h0,if_neg h0]
    by_cases hs:x.num < 0
    · rw[if_pos hs,if_pos hs]
      have b9:=bl_add (piL (p+32)) (asL x (p+32)*2^1)
      have b10:=bl_add (piH (p+32)) (asU x (p+32)*2^1)
      obtain⟨k1,k2⟩:=bk_sz (neg:=false) (k:=33) (p:=p) (m:=p+50) (show bl (piL (p+32)+asL x (p+32)*2^1)≤p+50 by omega) (show bl (piH (p+32)+asU x (p+32)*2^1)≤p+50 by omega) (by omega)
      exact⟨Nat.le_trans k1 (by omega),Nat.le_trans k2 (by omega)⟩
    · rw[if_neg hs,if_neg hs]
      have y1:=sz_dif (a:=piL (p+32)) (b:=asU x (p+32)*2^1) (w:=p+32+1) (k:=p+52) (by omega) (by omega) (by omega)
      have y2:=sz_dif (a:=piH (p+32)) (b:=asL x (p+32)*2^1) (w:=p+32+1) (k:=p+52) (by omega) (by omega) (by omega)
      have z1:=sz_gd (sgn false (piL (p+32)) (2^(p+32+1))+ -sgn false (asU x (p+32)*2^1) (2^(p+32+1))) p
      have z2:=sz_gu (sgn false (piH (p+32)) (2^(p+32+1))+ -sgn false (asL x (p+32)*2^1) (2^(p+32+1))) p
      omega
theorem g_sz {x y:Rat} {p k:Nat} (h1:sz x≤k) (h2:sz y≤k) (hk:k+2*p+2≤2048):sz (gdown x p)≤2048∧sz (gup y p)≤2048:=by
  have z1:=sz_gd x p
  have z2:=sz_gu y p
  omega
theorem ser_sz {fn:Int} {x:Rat} {p:Int} (he:eErr fn x p=0) (hb:exB fn x=false):sz (serL fn x p.toNat)≤2048∧sz (serH fn x p.toNat)≤2048:=by
  obtain⟨hf,p0,p1,hd,bx,k1,k2⟩:=eErr_p he
  have hp:p.toNat≤128:=by omega
  generalize p.toNat=q at*
  unfold serL serH
  by_cases h1:fn=1
  · subst h1;exact exp_sz (k1 rfl) hp
  rw[if_neg h1,if_neg h1]
  by_cases h2:fn=2
  · subst h2
    rw[if_pos rfl,if_pos rfl]
    refine ln_sz (fun e=>?_) (Nat.le_trans (sz_num x) bx) (Nat.le_trans (sz_den x) bx) hp
    have hx:0 < x:=by simpa[defB] using hd
    have:=Rat.num_eq_zero.1 (Int.natAbs_eq_zero.1 e)
    rw[this] at hx
    exact absurd hx (by decide)
  rw[if_neg h2,if_neg h2]
  by_cases h3:fn=3
  · subst h3
    rw[if_pos rfl,if_pos rfl]
    obtain⟨z1,z2,_,_⟩:=sc_sz (w:=q+64) (k2 (.inl rfl)) (by omega) (by omega)
    exact g_sz z1 z2 (by omega)
  rw[if_neg h3,if_neg h3]
  by_cases h4:fn=4
  · subst h4
    rw[if_pos rfl,if_pos rfl]
    obtain⟨_,_,z1,z2⟩:=sc_sz (w:=q+64) (k2 (.inr (.inl rfl))) (by omega) (by omega)
    exact g_sz z1 z2 (by omega)
  rw[if_neg h4,if_neg h4]
  by_cases h5:fn=5
  · subst h5
    rw[if_pos rfl,if_pos rfl]
    obtain⟨z1,z2⟩:=tqL_sz (x:=x) (w:=q+64) (k2 (.inr (.inr rfl))) (by omega) (by omega) 3
    exact g_sz z1 z2 (by omega)
  rw[if_neg h5,if_neg h5]
  by_cases h6:fn=6
  · subst h6
    rw[if_pos rfl,if_pos rfl]
    exact as_sz (abs_1 hd) hp
  rw[if_neg h6,if_neg h6]
  by_cases h7:fn=7
  · subst h7
    rw[if_pos rfl,if_pos rfl]
    exact ac_sz (abs_1 hd) hp
  rw[if_neg h7,if_neg h7]
  exact at_sz hp
theorem el_sz {fn:Int} {x:Rat} {p:Int}:sz (elL fn x p)≤2048∧sz (elH fn x p)≤2048:=by
  unfold elL elH
  by_cases e:elE fn x p≠0
  · rw[if_pos e,if_pos e];decide
  · rw[if_neg e,if_neg e]
    have he:eErr fn x p=0:=by
      refine Decidable.byContradiction fun c=>e ?_
      unfold elE
      rw[if_pos c]
      exact c
    cases hb:exB fn x with
    | true=>
      simp only[if_true]
      have:sz (exV fn x)≤2048:=by unfold exV;split<;>decide
      exact⟨this,this⟩
    |false=>exact ser_sz he hb
end Go.Q
namespace Go.Q
open Go.Proofs
set_option maxRecDepth 100000
set_option maxHeartbeats 8000000
theorem Right_spec {h0 h:PH} [Le h0 h] {v w:Value} {x y:Rat} (hx:Cn h0 v x) (hy:Qr h0 w y) (bx:sz x≤2^30) (by_:sz y≤2^30):Spec mach 36 #[v,w] h (fun r _=>r=.bool (decide (x=y))) NP:=by
  have kC:=fun {h} [Le h0 h]=>Canonical_cn (h:=h) hx bx
  have hw:=hx.rw bx
  have kO:=fun {h} [Le h0 h]=>QOf_spec (h:=h) hw
  rw[qof_cn] at kO
  have e3:(cmpQ x y == 0)=decide (x=y):=by unfold cmpQ;grind
  obtain⟨_,_,_,_,_,_,_,rfl,_⟩:=hx.sa
  have hy0:=hy
  obtain⟨_,_,_,_,_,_,_,rfl,_⟩:=hy.sl
  refine Spec.go [(1,.o [0,1,2,3,5,4,6,7,8,9])] Tryz.func36 rfl rfl (by kernel_rfl) fun C _=>?_
  try simp(disch:=omega) only[go_sem,Nat.reduceBEq,Nat.reduceAdd]
  refine caN (by exact kC) ?_;rintro v1 h1 s1 rfl
  try simp(disch:=omega) only[go_sem,Nat.reduceBEq,Nat.reduceAdd]
  refine caN (by exact kO) ?_;rintro v2 h2 s2 q2;have q2':=q2;obtain⟨_,_,_,_,_,_,_,rfl,_⟩:=q2'.sl
  try simp(disch:=omega) only[go_sem,Nat.reduceBEq,Nat.reduceAdd]
  refine caN (by exact QCmp_spec q2 (hy0.to (h':=h2)) (Nat.le_trans bx (by decide)) (Nat.le_trans by_ (by decide))) ?_;rintro v3 h3 s3 rfl
  try simp(disch:=omega) only[go_sem,Nat.reduceBEq,Nat.reduceAdd,e3]
theorem Qr_nil (h:PH):Qr h (.agg #[.bool false,.slice none 0 0,.slice none 0 0]) 0:=⟨_,_,0,rfl,N16.zero h,N16.zero h,rfl⟩
end Go.Q
namespace Go.Q
open Go.Proofs
set_option maxRecDepth 100000
set_option maxHeartbeats 8000000
def brE (fn:Int) (x:Rat) (p:Int):Int:=if 2048 < sz x then 1 else elE fn x p
def brL (fn:Int) (x:Rat) (p:Int):Rat:=if 2048 < sz x then 0 else elL fn x p
def brH (fn:Int) (x:Rat) (p:Int):Rat:=if 2048 < sz x then 0 else elH fn x p
theorem br_sz (fn:Int) (x:Rat) (p:Int):sz (brL fn x p)≤2048∧sz (brH fn x p)≤2048:=by
  unfold brL brH
  by_cases h:2048 < sz x
  · rw[if_pos h,if_pos h];decide
  · rw[if_neg h,if_neg h];exact el_sz
theorem len32 (n:Nat):(W 4294967296 n).length≤(bl n+31) / 32:=
  W_length_le (by decide) (by rw[←B_pow];exact Nat.lt_of_lt_of_le (bl_le.1 (Nat.le_refl _)) (Nat.pow_le_pow_right (by decide) (by omega)))
theorem Cn.rwb {h:PH} {v:Value} {x:Rat} (r:Cn h v x) (bx:sz x≤2^35):Rw h v (decide (x.num < 0)) x.num.natAbs (if x.den=1 then 0 else x.den):=by
  obtain⟨sn,sd,rfl,h2,h3⟩:=r
  have b1:=sz_num x;have b2:=sz_den x
  have b3:bl (if x.den=1 then 0 else x.den)≤bl x.den:=bl_mono (by split<;>omega)
  obtain⟨a,c,xs,rfl,ha,hx,hm⟩:=h2.out
  obtain⟨a',c',ys,rfl,ha',hy,hm'⟩:=h3.out
  have l1:=len32 x.num.natAbs
  have l2:=len32 (if x.den=1 then 0 else x.den)
  rw[hx] at l1
  rw[hy] at l2
  exact⟨_,_,_,_,_,_,rfl,ha,ha',hm,hm',by omega,by omega⟩
theorem Apply_cn {h0 h:PH} [Le h0 h] {v:Value} {x:Rat} {fn p:Int} (hk:∀{h0 h:PH} {w:Value} [Le h0 h],Rv h0 w x→Spec mach 7 #[.int .i64 fn,w,.int .i64 p] h (fun r h'=>Ber h' r (elE fn x p) (elL fn x p) (elH fn x p)) NP) (hx:Cn h0 v x) (bx:sz x≤2^35):Spec mach 7 #[.int .i64 fn,v,.int .i64 p] h (fun r h'=>Ber h' r (brE fn x p) (brL fn x p) (brH fn x p)) NP:=by
  unfold brE brL brH
  by_cases hs:2048 < sz x
  · rw[if_pos hs,if_pos hs,if_pos hs];exact Apply_no (hx.rwb bx) (lg_cn.2 hs)
  · rw[if_neg hs,if_neg hs,if_neg hs];exact hk (Rv.of hx (by omega))
theorem QOf_can {h0 h:PH} [Le h0 h] {v:Value} {x:Rat} (hv:Cn h0 v x) (bx:sz x≤2^30):Spec mach 9 #[v] h (fun v h'=>Qr h' v x) NP:=by
  have:=QOf_spec (h:=h) (hv.rw bx)
  rw[qof_cn] at this
  exact this
def Qb (h:PH) (r:Value) (x y:Rat) (b:Bool):Prop:=∃b1 a1 m1 c1 a2 m2 c2 b2 a3 m3 c3 a4 m4 c4,r=.tuple #[.agg #[.bool b1,.slice a1 m1 c1,.slice a2 m2 c2],.agg #[.bool b2,.slice a3 m3 c3,.slice a4 m4 c4],.bool b]∧Qr h (.agg #[.bool b1,.slice a1 m1 c1,.slice a2 m2 c2]) x∧Qr h (.agg #[.bool b2,.slice a3 m3 c3,.slice a4 m4 c4]) y
theorem LBracket_spec {h0 h:PH} [Le h0 h] {v:Value} {x:Rat} {fn p:Int} (hk:∀{h0 h:PH} {w:Value} [Le h0 h],Rv h0 w x→Spec mach 7 #[.int .i64 fn,w,.int .i64 p] h (fun r h'=>Ber h' r (elE fn x p) (elL fn x p) (elH fn x p)) NP) (hx:Qr h0 v x) (bx:sz x≤2^35):Spec mach 17 #[.int .i64 fn,v,.int .i64 p] h (fun r h'=>Qb h' r (brL fn x p) (brH fn x p) (decide (brE fn x p=0))) NP:=by
  obtain⟨z1,z2⟩:=br_sz fn x p
  have kA:=fun {h0 h:PH} {w:Value} [Le h0 h] (c:Cn h0 w x)=>Apply_cn (h:=h) (fn:=fn) (p:=p) hk c bx
  clear hk
  generalize brE fn x p=e at*
  generalize brL fn x p=lo at*
  generalize brH fn x p=hi at*
  have ee:(e == 0)=decide (e=0):=by rw[Bool.eq_iff_iff];simp
  obtain⟨_,_,_,_,_,_,_,rfl,hx⟩:=hx.sa
  refine Spec.go [(2,.h [] [] [] [0,1,3,4,6,7,2,5,8,9,10])] Tryz.func17 rfl rfl (by kernel_rfl) fun C _=>?_
  try simp(maxSteps:=999999) (disch:=omega) only[go_sem,Nat.reduceBEq,Nat.reduceAdd]
  refine caN (by exact QRat_spec hx (Nat.le_trans bx (by decide))) ?_;rintro v1 h1 s1 q1;obtain⟨_,_,_,_,_,_,_,rfl,q1⟩:=q1.sa
  try simp(maxSteps:=999999) (disch:=omega) only[go_sem,Nat.reduceBEq,Nat.reduceAdd]
  refine caN (by exact kA q1) ?_;rintro v2 h2 s2 q2;obtain⟨_,_,_,_,_,_,_,_,_,_,_,_,_,_,rfl,c1,c2⟩:=q2
  try simp(maxSteps:=999999) (disch:=omega) only[go_sem,Nat.reduceBEq,Nat.reduceAdd]
  refine caN (by exact QOf_can c1 (Nat.le_trans z1 (by decide))) ?_;rintro v3 h3 s3 q3;obtain⟨_,_,_,_,_,_,_,rfl,q3⟩:=q3.sa
  try simp(maxSteps:=999999) (disch:=omega) only[go_sem,Nat.reduceBEq,Nat.reduceAdd]
  refine caN (by exact QOf_can (c2.to (h':=h3)) (Nat.le_trans z2 (by decide))) ?_;rintro v4 h4 s4 q4;obtain⟨_,_,_,_,_,_,_,rfl,q4⟩:=q4.sa
  try simp(maxSteps:=999999) (disch:=omega) only[go_sem,Nat.reduceBEq,Nat.reduceAdd]
  rw[ee]
  exact⟨_,_,_,_,_,_,_,_,_,_,_,_,_,_,rfl,q3.to,q4⟩
end Go.Q
namespace Go.Q
set_option maxRecDepth 100000
set_option maxHeartbeats 4000000
theorem br_p {fn:Int} {x:Rat} {p:Int} (h:brE fn x p=0):sz x≤1024∧0≤p∧p≤128:=by
  unfold brE at h
  split at h
  · cases h
  · unfold elE at h
    by_cases he:eErr fn x p=0
    · have:=eErr_p he;omega
    · rw[if_pos he] at h;exact absurd h he
theorem br_ser {fn:Int} {x:Rat} {p:Int} (h:brE fn x p=0):brL fn x p=(if exB fn x=true then exV fn x else serL fn x p.toNat)∧brH fn x p=(if exB fn x=true then exV fn x else serH fn x p.toNat):=by
  have b:=br_p h
  unfold brE at h
  rw[if_neg (by omega)] at h
  have n1:¬2048 < sz x:=by omega
  constructor
  · show(if 2048 < sz x then 0 else elL fn x p)=_
    rw[if_neg n1]
    show(if elE fn x p≠0 then 0 else if exB fn x=true then exV fn x else serL fn x p.toNat)=_
    rw[if_neg (fun c=>c h)]
  · show(if 2048 < sz x then 0 else elH fn x p)=_
    rw[if_neg n1]
    show(if elE fn x p≠0 then 0 else if exB fn x=true then exV fn x else serH fn x p.toNat)=_
    rw[if_neg (fun c=>c h)]
end Go.Q
namespace Go.Q
set_option maxRecDepth 100000
set_option maxHeartbeats 4000000
theorem cdiv_ge {a d k:Nat} (hd:d≠0) (h:d*k≤a):k≤cdiv a d:=by
  have h1:k=d*k / d:=(Nat.mul_div_cancel_left _ (Nat.pos_of_ne_zero hd)).symm
  rw[h1]
  exact Nat.le_trans (Nat.div_le_div_right h) (le_cdiv a hd)
theorem div_cdiv {a b d:Nat} (hd:d≠0) (h:a≤b):a / d≤cdiv b d:=Nat.le_trans (Nat.div_le_div_right h) (le_cdiv b hd)
theorem glo_ghi (x:Rat) (w:Nat):glo x w≤ghi x w:=div_cdiv x.den_nz (Nat.le_refl _)
theorem sgn_le {a b p:Nat} (h:a≤b):sgn false a (2^p)≤sgn false b (2^p):=by
  have e1:=sgn_u a p
  have e2:=sgn_u b p
  have hp:=u_pos p
  have h':(a:Rat)≤(b:Rat):=by exact_mod_cast h
  rw[←e1,←e2] at h'
  exact Rat.le_of_mul_le_mul_right h' hp
end Go.Q
namespace Go.Q
theorem sgn_negs (m d:Nat):sgn true m d= -(sgn false m d):=by
  show mkRat (-(m:Int)) d= -(mkRat (m:Int) d)
  rw[Rat.neg_mkRat]
theorem dec_pos {q:Rat} (h:0≤q):decide (q.num < 0)=false:=by
  rw[decide_eq_false_iff_not,num_neg]
  grind
theorem dec_neg {q:Rat} (h:q < 0):decide (q.num < 0)=true:=by
  rw[decide_eq_true_iff,num_neg]
  exact h
theorem rtw_neg (q:Rat) (n p:Nat):rtw (-q) n p=rtw q n p:=by
  unfold rtw
  rw[Rat.neg_num,Int.natAbs_neg,Rat.neg_den]
theorem rtx_neg (q:Rat) (n p:Nat):rtx (-q) n p=rtx q n p:=by
  unfold rtx
  rw[rtw_neg,Rat.neg_num,Int.natAbs_neg,Rat.neg_den]
theorem rootg_neg {q:Rat} (h:q < 0) (up:Bool) (n p:Nat):rootg up q n p= -(rootg (!up) (-q) n p):=by
  unfold rootg rtm
  rw[dec_neg h,dec_pos (show 0≤ -q by grind),rtw_neg,rtx_neg,sgn_negs]
  cases up<;>rfl
theorem rootg_dn {q:Rat} (h:0≤q) (n p:Nat):rootg false q n p=sgn false (irt n (rtw q n p)) (2^p):=by
  unfold rootg rtm
  rw[dec_pos h]
  rfl
theorem rootg_up {q:Rat} (h:0≤q) (n p:Nat):rootg true q n p=sgn false (if rtx q n p=true then irt n (rtw q n p) else irt n (rtw q n p)+1) (2^p):=by
  unfold rootg rtm
  rw[dec_pos h]
  cases rtx q n p<;>rfl
theorem rmul_pow (a b:Rat) (n:Nat):(a*b)^n=a^n*b^n:=by
  induction n with
  |zero=>simp
  |succ n ih=>rw[Rat.pow_succ,Rat.pow_succ,Rat.pow_succ,ih];grind
theorem sgn_mden (m:Nat) {d:Nat} (hd:d≠0):sgn false m d*(d:Rat)=(m:Rat):=by
  show mkRat (m:Int) d*(d:Rat)=_
  have h1:(d:Rat)≠0:=by exact_mod_cast hd
  rw[Rat.mkRat_eq_div]
  exact Rat.div_mul_cancel h1
theorem num_den {q:Rat} (h:0≤q):q*(q.den:Rat)=(q.num.natAbs:Rat):=by
  have h1:=sgn_self q
  rw[dec_pos h] at h1
  have h2:=sgn_mden q.num.natAbs (d:=q.den) q.den_nz
  rwa[h1] at h2
theorem grid_pow (m n p:Nat) (q:Rat):sgn false m (2^p)^n*((2^(p*n):Nat):Rat)*(q.den:Rat)=((m^n*q.den:Nat):Rat):=by
  have h1:=sgn_mden m (d:=2^p) (Nat.ne_of_gt (Nat.pow_pos (by decide)))
  have h2:(sgn false m (2^p)*((2^p:Nat):Rat))^n=(m:Rat)^n:=by rw[h1]
  rw[rmul_pow] at h2
  have h3:(((2^p:Nat):Rat))^n=((2^(p*n):Nat):Rat):=by rw[Nat.pow_mul];push_cast;rfl
  rw[h3] at h2
  rw[h2]
  push_cast
  rfl
theorem num_pow' {q:Rat} (h:0≤q) (n p:Nat):q*((2^(p*n):Nat):Rat)*(q.den:Rat)=((q.num.natAbs*2^(p*n):Nat):Rat):=by
  have h1:=num_den h
  have:q*((2^(p*n):Nat):Rat)*(q.den:Rat)=(q*(q.den:Rat))*((2^(p*n):Nat):Rat):=by grind
  rw[this,h1]
  push_cast
  rfl
theorem scale_pos (q:Rat) (n p:Nat):(0:Rat) < ((2^(p*n):Nat):Rat)∧(0:Rat) < (q.den:Rat):=by
  have h1:0 < 2^(p*n):=Nat.pow_pos (by decide)
  have h2:0 < q.den:=Nat.pos_of_ne_zero q.den_nz
  exact⟨by exact_mod_cast h1,by exact_mod_cast h2⟩
theorem mul_mono2 {a b c d:Rat} (hc:0 < c) (hd:0 < d):a*c*d≤b*c*d↔a≤b:=by
  constructor
  · intro h
    refine Decidable.byContradiction fun k=>?_
    have h1:b < a:=by grind
    have h2:=Rat.mul_lt_mul_of_pos_right h1 hc
    have h3:=Rat.mul_lt_mul_of_pos_right h2 hd
    grind
  · intro h
    have h2:=Rat.mul_le_mul_of_nonneg_right h (show 0≤c by grind)
    exact Rat.mul_le_mul_of_nonneg_right h2 (show 0≤d by grind)
theorem grid_le {q:Rat} (h:0≤q) (m n p:Nat):sgn false m (2^p)^n≤q↔m^n*q.den≤q.num.natAbs*2^(p*n):=by
  obtain⟨h1,h2⟩:=scale_pos q n p
  rw[←mul_mono2 h1 h2,grid_pow,num_pow' h]
  exact_mod_cast Iff.rfl
theorem grid_ge {q:Rat} (h:0≤q) (m n p:Nat):q≤sgn false m (2^p)^n↔q.num.natAbs*2^(p*n)≤m^n*q.den:=by
  obtain⟨h1,h2⟩:=scale_pos q n p
  rw[←mul_mono2 h1 h2,grid_pow,num_pow' h]
  exact_mod_cast Iff.rfl
theorem rtx_iff (q:Rat) (n p:Nat):rtx q n p=true↔irt n (rtw q n p)^n*q.den=q.num.natAbs*2^(p*n):=by
  have hd:0 < q.den:=Nat.pos_of_ne_zero q.den_nz
  unfold rtx
  rw[Bool.and_eq_true,decide_eq_true_iff,decide_eq_true_iff]
  have hw:rtw q n p=q.num.natAbs*2^(p*n) / q.den:=rfl
  generalize irt n (rtw q n p)^n=r at*
  rw[hw]
  generalize q.num.natAbs*2^(p*n)=N at*
  have:=Nat.div_add_mod N q.den
  constructor
  · rintro⟨h1,h2⟩
    rw[h1,Nat.mul_comm];omega
  · intro h
    rw[←h]
    exact⟨(Nat.mul_div_cancel _ hd).symm,Nat.mul_mod_left ..⟩
theorem root_exact {q:Rat} (h:0≤q) (n p:Nat):rootg false q n p^n=q↔rtx q n p=true:=by
  rw[rootg_dn h,rtx_iff]
  have h1:=grid_le h (irt n (rtw q n p)) n p
  have h2:=grid_ge h (irt n (rtw q n p)) n p
  constructor
  · intro k
    have:=h1.1 (by rw[k];exact Rat.le_refl)
    have:=h2.1 (by rw[k];exact Rat.le_refl)
    omega
  · intro k
    exact Rat.le_antisymm (h1.2 (by omega)) (h2.2 (by omega))
theorem root_low {q:Rat} (h:0≤q) {n:Nat} (hn:n≠0) (p:Nat):rootg false q n p^n≤q:=by
  rw[rootg_dn h,grid_le h]
  have h1:=irt_le (n:=n) (a:=rtw q n p) hn
  have h2:rtw q n p*q.den≤q.num.natAbs*2^(p*n):=Nat.div_mul_le_self _ _
  exact Nat.le_trans (Nat.mul_le_mul_right _ h1) h2
theorem root_high {q:Rat} (h:0≤q) {n:Nat} (hn:n≠0) (p:Nat):q≤rootg true q n p^n:=by
  rw[rootg_up h,grid_ge h]
  cases hx:rtx q n p with
  | true=>
    have:=(rtx_iff q n p).1 hx
    simp only[if_true]
    omega
  | false=>
    simp only[Bool.false_eq_true,if_false]
    have h1:rtw q n p < (irt n (rtw q n p)+1)^n:=Decidable.byContradiction fun k=>by
      have:=irt_max (n:=n) (a:=rtw q n p) (j:=irt n (rtw q n p)+1) hn (by omega)
      omega
    have hd:0 < q.den:=Nat.pos_of_ne_zero q.den_nz
    have h2:q.num.natAbs*2^(p*n) < (irt n (rtw q n p)+1)^n*q.den:=by
      have hw:rtw q n p=q.num.natAbs*2^(p*n) / q.den:=rfl
      rw[hw,Nat.div_lt_iff_lt_mul hd] at h1
      exact h1
    omega
theorem rootg_nonneg {q:Rat} (h:0≤q) (up:Bool) (n p:Nat):0≤rootg up q n p:=by
  unfold rootg
  rw[dec_pos h]
  have h1:=sgn_mden (rtm up q n p) (d:=2^p) (Nat.ne_of_gt (Nat.pow_pos (by decide)))
  have h2:(0:Rat) < ((2^p:Nat):Rat):=by
    have:0 < 2^p:=Nat.pow_pos (by decide)
    exact_mod_cast this
  have h3:(0:Rat)≤((rtm up q n p:Nat):Rat):=by exact_mod_cast Nat.zero_le _
  refine Decidable.byContradiction fun k=>?_
  have h4:=Rat.mul_lt_mul_of_pos_right (show sgn false (rtm up q n p) (2^p) < 0 by grind) h2
  rw[h1,Rat.zero_mul] at h4
  grind
theorem rpow_lt {a b:Rat} {n:Nat} (hn:n≠0) (h0:0≤a) (h:a < b):a^n < b^n:=by
  obtain⟨m,rfl⟩:∃m,n=m+1:=⟨n - 1,by omega⟩
  rw[Rat.pow_succ,Rat.pow_succ]
  have h1:=rpow_mono m h0 (show a≤b by grind)
  have h2:=Rat.mul_le_mul_of_nonneg_right h1 h0
  have h3:=Rat.mul_lt_mul_of_pos_left h (Rat.pow_pos (n:=m) (show 0 < b by grind))
  grind
theorem root_mono0 {a b:Rat} (ha:0≤a) (h:a≤b) {n:Nat} (hn:n≠0) (p:Nat):rootg false a n p≤rootg true b n p:=by
  refine Decidable.byContradiction fun k=>?_
  have hb:0≤b:=Rat.le_trans ha h
  have h1:=rpow_lt hn (rootg_nonneg hb true n p) (show rootg true b n p < rootg false a n p by grind)
  have h2:=root_low ha hn p
  have h3:=root_high hb hn p
  grind
theorem root_mono {a b:Rat} (h:a≤b) {n:Nat} (hn:n≠0) (p:Nat):rootg false a n p≤rootg true b n p:=by
  by_cases ha:0≤a
  · exact root_mono0 ha h hn p
  · have e1:=rootg_neg (show a < 0 by grind) false n p
    have n1:=rootg_nonneg (show 0≤ -a by grind) true n p
    have e1:rootg false a n p= -(rootg true (-a) n p):=e1
    by_cases hb:0≤b
    · have:=rootg_nonneg hb true n p
      rw[e1];grind
    · have e2:rootg true b n p= -(rootg false (-b) n p):=rootg_neg (show b < 0 by grind) true n p
      have:=root_mono0 (show 0≤ -b by grind) (show -b≤ -a by grind) hn p
      rw[e1,e2];grind
end Go.Q
namespace Go.Q
set_option maxRecDepth 100000
set_option maxHeartbeats 4000000
theorem pow_plus2 (z:Rat) (m:Nat):z^(m+2)=z^m*z^2:=by
  have e:z^2=z*z:=by rw[show(2:Nat)=1+1 from rfl,Rat.pow_succ,Rat.pow_one]
  rw[Rat.pow_succ,Rat.pow_succ,e,Rat.mul_assoc]
theorem pow_dif {x y:Rat} (hx:0≤x) (h:x≤y):∀m:Nat,(m:Rat)*x^m*(y - x)≤(y^m - x^m)*x
  |0=>by rw[Rat.pow_zero,Rat.pow_zero];grind
  | m +1=>by
    have ih:=pow_dif hx h m
    have e:((m+1:Nat):Rat)=(m:Rat)+1:=by push_cast;rfl
    have hy:0≤y:=Rat.le_trans hx h
    have p1:=Rat.mul_le_mul_of_nonneg_right ih hy
    have p2:0≤x^m*(y - x)*(y - x)*(m:Rat):=by
      have a1:0≤x^m:=Rat.pow_nonneg hx
      have a2:0≤y - x:=by grind
      have a3:(0:Rat)≤(m:Rat):=by exact_mod_cast Nat.zero_le m
      exact Rat.mul_nonneg (Rat.mul_nonneg (Rat.mul_nonneg a1 a2) a2) a3
    rw[e,Rat.pow_succ,Rat.pow_succ]
    generalize x^m=X at*
    generalize y^m=Y at*
    generalize(m:Rat)=M at*
    grind
theorem pow_step {x y:Rat} (hx:0≤x) (h:x≤y) (hy:y≤1) (m:Nat):(m:Rat)*(y^(m+1) - x^(m+1))≤((m:Rat)+1)*(y^m - x^m):=by
  have k:=pow_dif hx h m
  have d:0≤y^m - x^m:=by
    have:=rpow_mono m hx h
    grind
  have a3:(0:Rat)≤(m:Rat):=by exact_mod_cast Nat.zero_le m
  have p1:(m:Rat)*(y^m - x^m)*y≤(m:Rat)*(y^m - x^m)*1:=Rat.mul_le_mul_of_nonneg_left hy (Rat.mul_nonneg a3 d)
  have p2:(y^m - x^m)*x≤(y^m - x^m)*1:=Rat.mul_le_mul_of_nonneg_left (Rat.le_trans h hy) d
  rw[Rat.pow_succ,Rat.pow_succ]
  generalize x^m=X at*
  generalize y^m=Y at*
  generalize(m:Rat)=M at*
  grind
theorem pow_two_steps {x y:Rat} (hx:0≤x) (h:x≤y) (hy:y≤1) {m:Nat} (hm:m≠0):(y^(m+2) - x^(m+2))*((m+2:Nat):Rat)⁻¹≤(y^m - x^m)*(m:Rat)⁻¹:=by
  have k1:=pow_step hx h hy m
  have k2:=pow_step hx h hy (m+1)
  have e1:((m+1:Nat):Rat)=(m:Rat)+1:=by push_cast;rfl
  have e2:((m+2:Nat):Rat)=(m:Rat)+2:=by push_cast;rfl
  have m0:(0:Rat) < (m:Rat):=by exact_mod_cast Nat.pos_of_ne_zero hm
  rw[e1] at k2
  rw[e2]
  rw[show m+1+1=m+2 from rfl] at k2
  generalize(m:Rat)=M at*
  generalize y^m - x^m=A at*
  generalize y^(m+1) - x^(m+1)=B at*
  generalize y^(m+2) - x^(m+2)=C at*
  have i1:M*M⁻¹=1:=Rat.mul_inv_cancel _ (by grind)
  have i2:(M+2)*(M+2)⁻¹=1:=Rat.mul_inv_cancel _ (by grind)
  have q:M*C≤(M+2)*A:=by
    have t:=Rat.mul_le_mul_of_nonneg_left k2 (Rat.le_of_lt m0)
    have t2:=Rat.mul_le_mul_of_nonneg_left k1 (show 0≤M+2 by grind)
    have h0:(M+1)*(M*C)≤(M+1)*((M+2)*A):=by grind
    exact Rat.le_of_mul_le_mul_left h0 (by grind)
  have n1:0≤M⁻¹:=Rat.le_of_lt (Rat.inv_pos.2 m0)
  have n2:0≤(M+2)⁻¹:=Rat.le_of_lt (Rat.inv_pos.2 (by grind))
  have r:=Rat.mul_le_mul_of_nonneg_right q (Rat.mul_nonneg n1 n2)
  have z1:M*C*(M⁻¹*(M+2)⁻¹)=C*(M+2)⁻¹:=by grind
  have z2:(M+2)*A*(M⁻¹*(M+2)⁻¹)=A*M⁻¹:=by grind
  rw[z1,z2] at r
  exact r
def arcQ (t:Rat):Bool→Nat→Rat
  |false,0=>(79:Rat)⁻¹ - t*(81:Rat)⁻¹
  |true,0=>(79:Rat)⁻¹
  |false,j+1=>((77 - 2*j:Nat):Rat)⁻¹ - t*arcQ t true j
  |true,j+1=>((77 - 2*j:Nat):Rat)⁻¹ - t*arcQ t false j
theorem arcQ_s (t:Rat) (c:Bool) (j:Nat):arcQ t c (j+1)=((77 - 2*j:Nat):Rat)⁻¹ - t*arcQ t (!c) j:=by cases c<;>rfl
theorem arcQ_le {t:Rat} (ht:0≤t):∀j,arcQ t false j≤arcQ t true j
  | 0=>by
    show(79:Rat)⁻¹ - t*(81:Rat)⁻¹≤(79:Rat)⁻¹
    have:0≤t*(81:Rat)⁻¹:=Rat.mul_nonneg ht (by decide+kernel)
    grind
  | j+1=>by
    rw[arcQ_s,arcQ_s]
    have:=Rat.mul_le_mul_of_nonneg_left (arcQ_le ht j) ht
    show _ - t*arcQ t true j≤_ - t*arcQ t false j
    grind
theorem arcP_mono {x y:Rat} (hx:0≤x) (h:x≤y) (hy:y≤1):∀(j:Nat) (c:Bool),j≤39→x^(79 - 2*j)*arcQ (x^2) c j≤y^(79 - 2*j)*arcQ (y^2) c j∧y^(79 - 2*j)*arcQ (y^2) c j - x^(79 - 2*j)*arcQ (x^2) c j≤(y^(79 - 2*j) - x^(79 - 2*j))*((79 - 2*j:Nat):Rat)⁻¹
  | 0,c,_=>by
    have k:=pow_two_steps hx h hy (m:=79) (by decide)
    have d:=rpow_mono 81 hx h
    have d':=rpow_mono 79 hx h
    have e79:((79 - 2*0:Nat):Rat)=79:=rfl
    have e81:((79+2:Nat):Rat)=81:=rfl
    have e79':((79:Nat):Rat)=79:=rfl
    rw[e81,e79'] at k
    rw[e79]
    have p:∀z:Rat,z^(79+2)=z^79*z^2:=fun z=>pow_plus2 z 79
    have i0:(0:Rat)≤(79:Rat)⁻¹:=by decide+kernel
    have i1:(0:Rat)≤(81:Rat)⁻¹:=by decide+kernel
    have d81:x^79*x^2≤y^79*y^2:=by rw[←p,←p];exact d
    rw[p,p] at k
    have n1:=Rat.mul_le_mul_of_nonneg_right d' i0
    have n2:=Rat.mul_le_mul_of_nonneg_right d81 i1
    simp only[Nat.mul_zero,Nat.sub_zero]
    cases c
    · show x^79*((79:Rat)⁻¹ - x^2*(81:Rat)⁻¹)≤y^79*((79:Rat)⁻¹ - y^2*(81:Rat)⁻¹)∧y^79*((79:Rat)⁻¹ - y^2*(81:Rat)⁻¹) - x^79*((79:Rat)⁻¹ - x^2*(81:Rat)⁻¹)≤(y^79 - x^79)*(79:Rat)⁻¹
      clear p d d' d81 e79 e81 e79' hx h hy i0 i1
      generalize x^79=X at*
      generalize y^79=Y at*
      generalize x^2=X2 at*
      generalize y^2=Y2 at*
      generalize(79:Rat)⁻¹=A at*
      generalize(81:Rat)⁻¹=B at*
      constructor<;>grind
    · show x^79*(79:Rat)⁻¹≤y^79*(79:Rat)⁻¹∧y^79*(79:Rat)⁻¹ - x^79*(79:Rat)⁻¹≤(y^79 - x^79)*(79:Rat)⁻¹
      clear p d d' d81 e79 e81 e79' hx h hy i0 i1
      generalize x^79=X at*
      generalize y^79=Y at*
      generalize(79:Rat)⁻¹=A at*
      constructor<;>grind
  | j+1,c,hj=>by
    obtain⟨a1,a2⟩:=arcP_mono hx h hy j (!c) (by omega)
    have k:=pow_two_steps hx h hy (m:=77 - 2*j) (by omega)
    rw[show 77 - 2*j+2=79 - 2*j by omega] at k
    have p:∀z:Rat,z^(79 - 2*j)=z^(77 - 2*j)*z^2:=fun z=>by rw[←pow_plus2];congr 1;omega
    rw[show 79 - 2*(j+1)=77 - 2*j by omega,arcQ_s,arcQ_s]
    rw[p,p] at a1 a2 k
    clear p
    generalize x^(77 - 2*j)=X at*
    generalize y^(77 - 2*j)=Y at*
    generalize arcQ (x^2) (!c) j=Q at*
    generalize arcQ (y^2) (!c) j=R at*
    generalize x^2=X2 at*
    generalize y^2=Y2 at*
    generalize((77 - 2*j:Nat):Rat)⁻¹=A at*
    generalize((79 - 2*j:Nat):Rat)⁻¹=B at*
    clear hx h hy
    constructor<;>grind
theorem arcQ_mono {x y:Rat} (hx:0≤x) (h:x≤y) (hy:y≤1):x*arcQ (x^2) false 39≤y*arcQ (y^2) true 39:=by
  have h1:=(arcP_mono hx h hy 39 false (Nat.le_refl _)).1
  rw[show 79 - 2*39=1 from rfl,Rat.pow_one,Rat.pow_one] at h1
  refine Rat.le_trans h1 ?_
  exact Rat.mul_le_mul_of_nonneg_left (arcQ_le (Rat.pow_nonneg (Rat.le_trans hx h)) 39) (Rat.le_trans hx h)
end Go.Q
namespace Go.Q
set_option maxRecDepth 100000
set_option maxHeartbeats 4000000
theorem div_rat {a d:Nat} (_:d≠0):((a / d:Nat):Rat)*(d:Rat)≤(a:Rat):=by exact_mod_cast Nat.div_mul_le_self a d
theorem cdiv_rat {a d:Nat} (hd:d≠0):(a:Rat)≤((cdiv a d:Nat):Rat)*(d:Rat):=by
  have:a≤cdiv a d*d:=by rw[Nat.mul_comm];exact(cdiv_le_iff hd).1 (Nat.le_refl _)
  exact_mod_cast this
theorem arcV_Q {w s t:Nat} {x:Rat} (hw:20≤w) (hx:0≤x) (hs:(s:Rat)≤x*((2^w:Nat):Rat)) (ht:x*((2^w:Nat):Rat)≤(t:Rat)) (ls:s≤2^w) (lt:t≤2^w):
    ∀j,j≤39→((arcV w s t false j:Nat):Rat)≤((2^w:Nat):Rat)*arcQ x false j∧((2^w:Nat):Rat)*arcQ x true j≤((arcV w s t true j:Nat):Rat)
  | 0,_=>by
    have u0:=u_pos w
    rw[arcV_0,arcV_0']
    constructor
    · have h1:=div_rat (a:=2^w*81 - t*79) (d:=79*81) (by decide)
      have e:((2^w*81 - t*79:Nat):Rat)=((2^w:Nat):Rat)*81 - (t:Rat)*79:=by
        have:((2^w*81 - t*79:Nat):Rat)+((t*79:Nat):Rat)=((2^w*81:Nat):Rat):=by
          rw[←Rat.natCast_add];congr 1;omega
        rw[Rat.natCast_mul,Rat.natCast_mul] at this
        have c1:((79:Nat):Rat)=79:=rfl
        have c2:((81:Nat):Rat)=81:=rfl
        rw[c1,c2] at this
        generalize((2^w*81 - t*79:Nat):Rat)=z at*
        grind
      rw[e] at h1
      generalize((2^w:Nat):Rat)=u at*
      generalize(((2^w*81 - t*79) / (79*81):Nat):Rat)=V at*
      have c3:((79*81:Nat):Rat)=6399:=rfl
      rw[c3] at h1
      show V≤u*((79:Rat)⁻¹ - x*(81:Rat)⁻¹)
      have i1:(79:Rat)⁻¹=81 / 6399:=by decide+kernel
      have i2:(81:Rat)⁻¹=79 / 6399:=by decide+kernel
      rw[i1,i2]
      grind
    · have h1:=cdiv_rat (a:=2^w) (d:=79) (by decide)
      show((2^w:Nat):Rat)*(79:Rat)⁻¹≤_
      have c1:((79:Nat):Rat)=79:=rfl
      rw[c1] at h1
      have i1:(79:Rat)*(79:Rat)⁻¹=1:=by decide+kernel
      have i0:(0:Rat)≤(79:Rat)⁻¹:=by decide+kernel
      have:=Rat.mul_le_mul_of_nonneg_right h1 i0
      rw[Rat.mul_assoc,i1,Rat.mul_one] at this
      exact this
  | j + 1,hj=>by
    obtain⟨h1,h2⟩:=arcV_Q hw hx hs ht ls lt j (by omega)
    obtain⟨b1,b2⟩:=arcV_sub (w:=w) (s:=s) (t:=t) (j:=j) hw ls lt (by omega)
    have u0:=u_pos w
    have hk:(77 - 2*j)*2^w≠0:=Nat.mul_ne_zero (by omega) (pow2_ne w)
    have k0:(0:Rat) < ((77 - 2*j:Nat):Rat):=by exact_mod_cast (show 0 < 77 - 2*j by omega)
    have i1:((77 - 2*j:Nat):Rat)*((77 - 2*j:Nat):Rat)⁻¹=1:=Rat.mul_inv_cancel _ (by grind)
    have v1:(0:Rat)≤((arcV w s t true j:Nat):Rat):=by exact_mod_cast Nat.zero_le _
    have v2:(0:Rat)≤((arcV w s t false j:Nat):Rat):=by exact_mod_cast Nat.zero_le _
    have xu:0≤x*((2^w:Nat):Rat):=Rat.mul_nonneg hx (Rat.le_of_lt u0)
    have m1:=Rat.mul_le_mul_of_nonneg_right ht v1
    have m2:=Rat.mul_le_mul_of_nonneg_left h2 xu
    have m3:=Rat.mul_le_mul_of_nonneg_right hs v2
    have m4:=Rat.mul_le_mul_of_nonneg_left h1 xu
    rw[arcV_s,arcV_s',arcQ_s,arcQ_s]
    have c1:=div_rat (a:=2^w*2^w - t*arcV w s t true j*(77 - 2*j)) hk
    have c2:=cdiv_rat (a:=2^w*2^w - s*arcV w s t false j*(77 - 2*j)) hk
    have e1:((2^w*2^w - t*arcV w s t true j*(77 - 2*j):Nat):Rat)=((2^w:Nat):Rat)*((2^w:Nat):Rat) - (t:Rat)*((arcV w s t true j:Nat):Rat)*((77 - 2*j:Nat):Rat):=by
      have:((2^w*2^w - t*arcV w s t true j*(77 - 2*j):Nat):Rat)+((t*arcV w s t true j*(77 - 2*j):Nat):Rat)=((2^w*2^w:Nat):Rat):=by
        rw[←Rat.natCast_add,Nat.sub_add_cancel b1]
      rw[Rat.natCast_mul,Rat.natCast_mul,Rat.natCast_mul] at this
      generalize((2^w*2^w - t*arcV w s t true j*(77 - 2*j):Nat):Rat)=z at*
      grind
    have e2:((2^w*2^w - s*arcV w s t false j*(77 - 2*j):Nat):Rat)=((2^w:Nat):Rat)*((2^w:Nat):Rat) - (s:Rat)*((arcV w s t false j:Nat):Rat)*((77 - 2*j:Nat):Rat):=by
      have:((2^w*2^w - s*arcV w s t false j*(77 - 2*j):Nat):Rat)+((s*arcV w s t false j*(77 - 2*j):Nat):Rat)=((2^w*2^w:Nat):Rat):=by
        rw[←Rat.natCast_add,Nat.sub_add_cancel b2]
      rw[Rat.natCast_mul,Rat.natCast_mul,Rat.natCast_mul] at this
      generalize((2^w*2^w - s*arcV w s t false j*(77 - 2*j):Nat):Rat)=z at*
      grind
    rw[e1,Rat.natCast_mul (77 - 2*j)] at c1
    rw[e2,Rat.natCast_mul (77 - 2*j)] at c2
    clear e1 e2 b1 b2 hk
    generalize(((2^w*2^w - t*arcV w s t true j*(77 - 2*j)) / ((77 - 2*j)*2^w):Nat):Rat)=Z1 at*
    generalize((cdiv (2^w*2^w - s*arcV w s t false j*(77 - 2*j)) ((77 - 2*j)*2^w):Nat):Rat)=Z2 at*
    generalize((arcV w s t true j:Nat):Rat)=V at*
    generalize((arcV w s t false j:Nat):Rat)=W at*
    generalize hK:((77 - 2*j:Nat):Rat)=K at*
    generalize((2^w:Nat):Rat)=u at*
    simp only[Bool.not_false,Bool.not_true]
    generalize arcQ x true j=Q at*
    generalize arcQ x false j=R at*
    have ku:0 < K*u:=Rat.mul_pos k0 u0
    have n1:x*u*(u*Q)≤(t:Rat)*V:=Rat.le_trans m2 m1
    have n2:(s:Rat)*W≤x*u*(u*R):=Rat.le_trans m3 m4
    have n3:=Rat.mul_le_mul_of_nonneg_right n1 (Rat.le_of_lt k0)
    have n4:=Rat.mul_le_mul_of_nonneg_right n2 (Rat.le_of_lt k0)
    constructor
    · refine Rat.le_of_mul_le_mul_right (c:=K*u) ?_ ku
      have:u*(K⁻¹ - x*Q)*(K*u)=u*u*(K*K⁻¹) - x*u*(u*Q)*K:=by grind
      rw[this,i1]
      grind
    · refine Rat.le_of_mul_le_mul_right (c:=K*u) ?_ ku
      have:u*(K⁻¹ - x*R)*(K*u)=u*u*(K*K⁻¹) - x*u*(u*R)*K:=by grind
      rw[this,i1]
      grind
theorem grid_sq {a w:Nat}:((a:Rat) / ((2^w:Nat):Rat))^2*((2^w:Nat):Rat)*((2^w:Nat):Rat)=(a:Rat)*(a:Rat):=by
  have u0:=u_pos w
  have e:(a:Rat) / ((2^w:Nat):Rat)*((2^w:Nat):Rat)=(a:Rat):=Rat.div_mul_cancel (by grind)
  have e2:((a:Rat) / ((2^w:Nat):Rat))^2=(a:Rat) / ((2^w:Nat):Rat)*((a:Rat) / ((2^w:Nat):Rat)):=by rw[show(2:Nat)=1+1 from rfl,Rat.pow_succ,Rat.pow_one]
  rw[e2]
  generalize(a:Rat) / ((2^w:Nat):Rat)=q at*
  rw[←e]
  grind
theorem sq_in {a b c w:Nat} (h1:a≤c) (h2:c≤b):((sqL a w:Nat):Rat)≤((c:Rat) / ((2^w:Nat):Rat))^2*((2^w:Nat):Rat)∧((c:Rat) / ((2^w:Nat):Rat))^2*((2^w:Nat):Rat)≤((sqH b w:Nat):Rat):=by
  have u0:=u_pos w
  have g:=grid_sq (a:=c) (w:=w)
  have d1:=div_rat (a:=a*a) (d:=2^w) (pow2_ne w)
  have d2:=cdiv_rat (a:=b*b) (d:=2^w) (pow2_ne w)
  have l1:((a*a:Nat):Rat)≤((c*c:Nat):Rat):=by exact_mod_cast Nat.mul_le_mul h1 h1
  have l2:((c*c:Nat):Rat)≤((b*b:Nat):Rat):=by exact_mod_cast Nat.mul_le_mul h2 h2
  have ec:((c*c:Nat):Rat)=(c:Rat)*(c:Rat):=Rat.natCast_mul c c
  rw[ec,←g] at l1 l2
  unfold sqL sqH
  generalize((c:Rat) / ((2^w:Nat):Rat))^2*((2^w:Nat):Rat)=q at*
  exact⟨Rat.le_of_mul_le_mul_right (Rat.le_trans d1 l1) u0,Rat.le_of_mul_le_mul_right (Rat.le_trans l2 d2) u0⟩
theorem arcL_Q {a b c w:Nat} (hw:20≤w) (h1:a≤c) (h2:c≤b) (lb:b≤2^w):((arcL a b w:Nat):Rat)≤(c:Rat) / ((2^w:Nat):Rat)*arcQ (((c:Rat) / ((2^w:Nat):Rat))^2) false 39*((2^w:Nat):Rat)∧(c:Rat) / ((2^w:Nat):Rat)*arcQ (((c:Rat) / ((2^w:Nat):Rat))^2) true 39*((2^w:Nat):Rat)≤((arcH a b w:Nat):Rat):=by
  have u0:=u_pos w
  obtain⟨q1,q2⟩:=sq_in (w:=w) h1 h2
  have x0:0≤(c:Rat) / ((2^w:Nat):Rat):=by
    rw[Rat.div_def]
    exact Rat.mul_nonneg (by exact_mod_cast Nat.zero_le c) (Rat.le_of_lt (Rat.inv_pos.2 u0))
  obtain⟨v1,v2⟩:=arcV_Q hw (Rat.pow_nonneg (n:=2) x0) q1 q2 (sqL_le (Nat.le_trans h1 (Nat.le_trans h2 lb))) (sqH_le lb) 39 (Nat.le_refl _)
  have e:(c:Rat) / ((2^w:Nat):Rat)*((2^w:Nat):Rat)=(c:Rat):=Rat.div_mul_cancel (by grind)
  have d1:=div_rat (a:=a*arcV w (sqL a w) (sqH b w) false 39) (d:=2^w) (pow2_ne w)
  have d2:=cdiv_rat (a:=b*arcV w (sqL a w) (sqH b w) true 39) (d:=2^w) (pow2_ne w)
  have l1:((a*arcV w (sqL a w) (sqH b w) false 39:Nat):Rat)≤((c*arcV w (sqL a w) (sqH b w) false 39:Nat):Rat):=by exact_mod_cast Nat.mul_le_mul_right _ h1
  have l2:((c*arcV w (sqL a w) (sqH b w) true 39:Nat):Rat)≤((b*arcV w (sqL a w) (sqH b w) true 39:Nat):Rat):=by exact_mod_cast Nat.mul_le_mul_right _ h2
  rw[Rat.natCast_mul c] at l1 l2
  unfold arcL arcH
  have c0:(0:Rat)≤(c:Rat):=by exact_mod_cast Nat.zero_le c
  have m1:=Rat.mul_le_mul_of_nonneg_left v1 c0
  have m2:=Rat.mul_le_mul_of_nonneg_left v2 c0
  generalize arcQ (((c:Rat) / ((2^w:Nat):Rat))^2) false 39=P at*
  generalize arcQ (((c:Rat) / ((2^w:Nat):Rat))^2) true 39=Q at*
  generalize(c:Rat) / ((2^w:Nat):Rat)=x at*
  refine⟨Rat.le_of_mul_le_mul_right (c:=((2^w:Nat):Rat)) ?_ u0,Rat.le_of_mul_le_mul_right (c:=((2^w:Nat):Rat)) ?_ u0⟩
  · refine Rat.le_trans (Rat.le_trans d1 l1) ?_
    generalize((2^w:Nat):Rat)=u at*
    rw[←e] at m1 ⊢
    grind
  · refine Rat.le_trans ?_ (Rat.le_trans l2 d2)
    generalize((2^w:Nat):Rat)=u at*
    rw[←e] at m2 ⊢
    grind
theorem grid_div {a b w:Nat} (h:a≤b):(a:Rat) / ((2^w:Nat):Rat)≤(b:Rat) / ((2^w:Nat):Rat):=by
  rw[Rat.div_def,Rat.div_def]
  exact Rat.mul_le_mul_of_nonneg_right (by exact_mod_cast h) (Rat.le_of_lt (Rat.inv_pos.2 (u_pos w)))
theorem arc_ord {a1 b1 a2 b2 w:Nat} (hw:20≤w) (h1:a1≤b1) (h2:a2≤b2) (h:a1≤b2) (l1:b1≤2^w) (l2:b2≤2^w):arcL a1 b1 w≤arcH a2 b2 w:=by
  have u0:=u_pos w
  have k1:=(arcL_Q hw (Nat.le_refl a1) h1 l1).1
  have k2:=(arcL_Q hw (Nat.le_max_right a1 a2) (Nat.max_le.2 ⟨h,h2⟩) l2).2
  have x0:0≤(a1:Rat) / ((2^w:Nat):Rat):=by
    rw[Rat.div_def]
    exact Rat.mul_nonneg (by exact_mod_cast Nat.zero_le a1) (Rat.le_of_lt (Rat.inv_pos.2 u0))
  have y1:((max a1 a2:Nat):Rat) / ((2^w:Nat):Rat)≤1:=by
    have:=grid_div (w:=w) (Nat.le_trans (Nat.max_le.2 ⟨h,h2⟩) l2)
    have e:((2^w:Nat):Rat) / ((2^w:Nat):Rat)=1:=by rw[Rat.div_def];exact Rat.mul_inv_cancel _ (by grind)
    rw[e] at this
    exact this
  have k3:=arcQ_mono x0 (grid_div (w:=w) (Nat.le_max_left a1 a2)) y1
  have k4:=Rat.mul_le_mul_of_nonneg_right k3 (Rat.le_of_lt u0)
  exact_mod_cast Rat.le_trans k1 (Rat.le_trans k4 k2)
theorem irt_le_up (n:Nat):irt 2 n≤rtUp n:=by unfold rtUp;split<;>omega
theorem rtUp_sq (n:Nat):n≤rtUp n*rtUp n:=by
  unfold rtUp
  split
  · rename_i h;rw[Nat.pow_two] at h;omega
  · refine Nat.le_of_lt (Nat.lt_of_not_le fun c=>?_)
    have:=irt_max (n:=2) (a:=n) (j:=irt 2 n+1) (by decide) (by rw[Nat.pow_two];exact c)
    omega
theorem rtUp_le {n r:Nat} (h:n≤r*r):rtUp n≤r:=by
  have h1:=irt_le (n:=2) (a:=n) (by decide)
  have h2:irt 2 n≤r:=by
    refine Nat.le_of_not_lt fun c=>?_
    have:=Nat.mul_le_mul (Nat.succ_le_of_lt c) (Nat.succ_le_of_lt c)
    rw[Nat.pow_two] at h1
    have e:(r+1)*(r+1)=r*r+2*r+1:=by rw[Nat.add_mul,Nat.mul_add];omega
    have:(r+1)*(r+1)≤irt 2 n*irt 2 n:=this
    omega
  unfold rtUp
  split
  · exact h2
  · rename_i hne
    rcases Nat.lt_or_eq_of_le h2 with c |c
    · omega
    · rw[c,Nat.pow_two] at hne h1;omega
theorem hvL_mono {a b w:Nat} (h:a≤b):hvL a w≤hvL b w:=by
  obtain⟨d,rfl⟩:=Nat.exists_eq_add_of_le h
  unfold hvL
  have hU:=Nat.pos_of_ne_zero (pow2_ne w)
  have h1:=rtUp_sq (2^(2*w)+a*a)
  have hp:=Nat.pos_of_ne_zero (pow2_ne (2*w))
  have ra:a≤rtUp (2^(2*w)+a*a):=by
    refine Nat.le_of_not_lt fun c=>?_
    have:=Nat.mul_lt_mul'' c c
    omega
  have h2:rtUp (2^(2*w)+(a+d)*(a+d))≤rtUp (2^(2*w)+a*a)+d:=by
    refine rtUp_le ?_
    generalize rtUp (2^(2*w)+a*a)=r at*
    have e1:(r+d)*(r+d)=r*r+2*(r*d)+d*d:=by rw[Nat.add_mul,Nat.mul_add,Nat.mul_add,Nat.mul_comm d r];omega
    have e2:(a+d)*(a+d)=a*a+2*(a*d)+d*d:=by rw[Nat.add_mul,Nat.mul_add,Nat.mul_add,Nat.mul_comm d a];omega
    have:=Nat.mul_le_mul_right d ra
    omega
  generalize rtUp (2^(2*w)+a*a)=r at*
  generalize rtUp (2^(2*w)+(a+d)*(a+d))=q at*
  generalize 2^w=U at*
  refine(Nat.le_div_iff_mul_le (by omega)).2 ?_
  have c1:=Nat.div_mul_le_self (a*U) (U+r)
  have c2:a*U / (U+r)≤a*U / (U+r):=Nat.le_refl _
  have c3:a*U / (U+r)≤U:=Nat.div_le_of_le_mul (by rw[Nat.add_mul,Nat.mul_comm a U];have:=Nat.mul_le_mul_right U ra;rw[Nat.mul_comm U a];omega)
  generalize a*U / (U+r)=m at*
  have c4:m*(U+q)≤m*(U+r+d):=Nat.mul_le_mul_left _ (by omega)
  have c5:m*d≤U*d:=Nat.mul_le_mul_right _ c3
  rw[Nat.mul_add m (U+r) d] at c4
  rw[Nat.add_mul,Nat.mul_comm d U]
  omega
theorem hv_le (b w:Nat):hvL b w≤hvH b w:=by
  unfold hvL hvH
  have hU:=Nat.pos_of_ne_zero (pow2_ne w)
  have h:=irt_le_up (2^(2*w)+b*b)
  refine Nat.le_trans (Nat.div_le_div_left (Nat.add_le_add_left h _) (by omega)) (le_cdiv _ (by omega))
theorem hv_ord {a b w:Nat} (h:a≤b):hvL a w≤hvH b w:=Nat.le_trans (hvL_mono h) (hv_le b w)
theorem an_ord {a1 b1 a2 b2 w:Nat} (hw:20≤w) (h1:a1≤b1) (h2:a2≤b2) (h:a1≤b2) (l1:b1≤2^w) (l2:b2≤2^w):anL a1 b1 w≤anH a2 b2 w:=by
  unfold anL anH
  refine Nat.mul_le_mul_right _ (arc_ord hw (hv_ord (hv_ord h1)) (hv_ord (hv_ord h2)) (hv_ord (hv_ord h)) ?_ ?_)
  · exact Nat.le_trans (hvH_le _ _) (Nat.le_trans (hvH_le _ _) l1)
  · exact Nat.le_trans (hvH_le _ _) (Nat.le_trans (hvH_le _ _) l2)
end Go.Q
namespace Go.Q
set_option maxRecDepth 100000
set_option maxHeartbeats 4000000
def sqA (n:Nat):Nat→Nat→Nat
  |0,r=>r
  |k+1,r=>if Nat.ble ((r+2^k)*(r+2^k)) n then sqA n k (r+2^k) else sqA n k r
def topC (w a r:Nat):Nat:=a*2^w / (2^w+r)
def topR (w a:Nat):Nat:=sqA (2^(2*w)+a*a) (w+1) 0+1
def topA (w:Nat):Nat:=topC w (2^w) (topR w (2^w))
def topB (w:Nat):Nat:=topC w (topA w) (topR w (topA w))
def topL (w a:Nat):Bool:=Nat.blt ((topR w a - 1)*(topR w a - 1)) (2^(2*w)+a*a)
def topOk (w:Nat):Bool:=topL w (2^w) && topL w (topA w) && Nat.ble (16*arcH (topB w*2^64) (topB w*2^64) (w+64)) (piH w*2^64)
theorem topOk_all:((List.range 129).all fun i=>topOk (i+32))=true:=by decide+kernel
theorem top_ok {w:Nat} (h1:32≤w) (h2:w≤160):topL w (2^w)=true∧topL w (topA w)=true∧16*arcH (topB w*2^64) (topB w*2^64) (w+64)≤piH w*2^64:=by
  have h:=List.all_eq_true.1 topOk_all (w - 32) (List.mem_range.2 (by omega))
  rw[show w - 32+32=w by omega] at h
  unfold topOk at h
  simp only[Bool.and_eq_true,Nat.ble_eq] at h
  exact⟨h.1.1,h.1.2,h.2⟩
theorem hvL_top {w a:Nat} (h:topL w a=true):hvL a w≤topC w a (topR w a):=by
  unfold topL at h
  have h:(topR w a - 1)*(topR w a - 1)+1≤2^(2*w)+a*a:=by simpa[Nat.blt,Nat.ble_eq] using h
  have k:topR w a≤rtUp (2^(2*w)+a*a):=by
    refine Nat.le_of_not_lt fun c=>?_
    have h1:=rtUp_sq (2^(2*w)+a*a)
    have:=Nat.mul_le_mul (show rtUp (2^(2*w)+a*a)≤topR w a - 1 by omega) (show rtUp (2^(2*w)+a*a)≤topR w a - 1 by omega)
    omega
  unfold hvL topC
  have hU:=Nat.pos_of_ne_zero (pow2_ne w)
  exact Nat.div_le_div_left (Nat.add_le_add_left k _) (by omega)
theorem arcL_top {a b w:Nat} (h1:32≤w) (h2:w≤160) (ha:a≤2^w) (hab:hvL (hvL a w) w≤b) (lb:b≤2^w):16*arcL (hvL (hvL a w) w) b w≤piH w:=by
  obtain⟨t1,t2,t3⟩:=top_ok h1 h2
  have ht:hvL (hvL a w) w≤topB w:=by
    have k1:=Nat.le_trans (hvL_mono ha) (hvL_top t1)
    exact Nat.le_trans (hvL_mono k1) (hvL_top t2)
  have tA:topA w≤2^w:=by
    unfold topA topC
    have hU:=Nat.pos_of_ne_zero (pow2_ne w)
    exact Nat.div_le_of_le_mul (by rw[Nat.add_mul];omega)
  have tB:topB w≤2^w:=by
    refine Nat.le_trans ?_ tA
    unfold topB topC
    have hU:=Nat.pos_of_ne_zero (pow2_ne w)
    exact Nat.div_le_of_le_mul (by rw[Nat.add_mul,Nat.mul_comm (topA w)];exact Nat.le_add_right _ _)
  have u0:=u_pos w
  have v0:=u_pos (w+64)
  have ew:((2^(w+64):Nat):Rat)=((2^w:Nat):Rat)*((2^64:Nat):Rat):=by rw[Nat.pow_add,Rat.natCast_mul]
  have k1:=(arcL_Q (by omega) (Nat.le_refl (hvL (hvL a w) w)) hab lb).1
  have lb':topB w*2^64≤2^(w+64):=by rw[Nat.pow_add];exact Nat.mul_le_mul_right _ tB
  have k2:=(arcL_Q (w:=w+64) (by omega) (Nat.le_refl (topB w*2^64)) (Nat.le_refl _) lb').2
  have p0:(0:Rat) < ((2^64:Nat):Rat):=by decide+kernel
  have ey:((topB w*2^64:Nat):Rat) / ((2^(w+64):Nat):Rat)=(topB w:Rat) / ((2^w:Nat):Rat):=by
    have a1:((topB w*2^64:Nat):Rat) / ((2^(w+64):Nat):Rat)*((2^(w+64):Nat):Rat)=((topB w*2^64:Nat):Rat):=Rat.div_mul_cancel (by grind)
    have a2:(topB w:Rat) / ((2^w:Nat):Rat)*((2^w:Nat):Rat)=(topB w:Rat):=Rat.div_mul_cancel (by grind)
    rw[Rat.natCast_mul] at a1 ⊢
    rw[ew] at a1 v0 ⊢
    generalize(topB w:Rat)*((2^64:Nat):Rat) / (((2^w:Nat):Rat)*((2^64:Nat):Rat))=z1 at*
    generalize(topB w:Rat) / ((2^w:Nat):Rat)=z2 at*
    rw[←a2] at a1
    have:(z1 - z2)*(((2^w:Nat):Rat)*((2^64:Nat):Rat))=0:=by grind
    rcases Rat.mul_eq_zero.1 this with c |c
    · grind
    · grind
  rw[ey] at k2
  have x0:0≤(hvL (hvL a w) w:Rat) / ((2^w:Nat):Rat):=by
    rw[Rat.div_def]
    exact Rat.mul_nonneg (by exact_mod_cast Nat.zero_le _) (Rat.le_of_lt (Rat.inv_pos.2 u0))
  have y1:(topB w:Rat) / ((2^w:Nat):Rat)≤1:=by
    have:=grid_div (w:=w) tB
    have e:((2^w:Nat):Rat) / ((2^w:Nat):Rat)=1:=by rw[Rat.div_def];exact Rat.mul_inv_cancel _ (by grind)
    rw[e] at this
    exact this
  have k3:=arcQ_mono x0 (grid_div (w:=w) ht) y1
  have k4:=Rat.mul_le_mul_of_nonneg_right k3 (Rat.le_of_lt u0)
  have k5:=Rat.mul_le_mul_of_nonneg_right (Rat.le_trans k1 k4) (Rat.le_of_lt p0)
  rw[ew] at k2
  have k6:((arcL (hvL (hvL a w) w) b w:Nat):Rat)*((2^64:Nat):Rat)≤((arcH (topB w*2^64) (topB w*2^64) (w+64):Nat):Rat):=by
    refine Rat.le_trans k5 (Rat.le_trans ?_ k2)
    rw[Rat.mul_assoc _ ((2^w:Nat):Rat)]
    exact Rat.le_refl
  have k7:arcL (hvL (hvL a w) w) b w*2^64≤arcH (topB w*2^64) (topB w*2^64) (w+64):=by exact_mod_cast k6
  have k8:16*arcL (hvL (hvL a w) w) b w*2^64≤piH w*2^64:=by
    rw[Nat.mul_assoc]
    exact Nat.le_trans (Nat.mul_le_mul_left 16 k7) t3
  exact Nat.le_of_mul_le_mul_right k8 (Nat.pow_pos (by decide))
end Go.Q
namespace Go.Q
set_option maxRecDepth 100000
set_option maxHeartbeats 4000000
theorem rat_cross {x y:Rat} (hx:0≤x) (h:x≤y):x.num.natAbs*y.den≤y.num.natAbs*x.den:=by
  have h1:=(Rat.le_iff x y).1 h
  have a1:=Rat.num_nonneg.2 hx
  have a2:=Rat.num_nonneg.2 (Rat.le_trans hx h)
  have e1:((x.num.natAbs*y.den:Nat):Int)=x.num*y.den:=by rw[Int.natCast_mul,Int.natAbs_of_nonneg a1]
  have e2:((y.num.natAbs*x.den:Nat):Int)=y.num*x.den:=by rw[Int.natCast_mul,Int.natAbs_of_nonneg a2]
  omega
theorem glo_ghi_le {x y:Rat} {w:Nat} (h:x.num.natAbs*y.den≤y.num.natAbs*x.den):glo x w≤ghi y w:=by
  unfold glo ghi
  refine cdiv_ge y.den_nz ?_
  have h1:=Nat.div_mul_le_self (x.num.natAbs*2^w) x.den
  generalize x.num.natAbs*2^w / x.den=q at*
  refine Nat.le_of_mul_le_mul_right (c:=x.den) ?_ (Nat.pos_of_ne_zero x.den_nz)
  have h2:=Nat.mul_le_mul_right y.den h1
  have h3:=Nat.mul_le_mul_right (2^w) h
  rw[show y.den*q*x.den=q*x.den*y.den by rw[Nat.mul_comm y.den,Nat.mul_right_comm]]
  rw[show x.num.natAbs*2^w*y.den=x.num.natAbs*y.den*2^w by rw[Nat.mul_right_comm]] at h2
  rw[show y.num.natAbs*2^w*x.den=y.num.natAbs*x.den*2^w by rw[Nat.mul_right_comm]]
  exact Nat.le_trans h2 h3
theorem num_pos0 {x:Rat} (h:0 < x):¬x.num < 0∧x.num.natAbs≠0:=by
  have h1:=Rat.num_nonneg.2 (Rat.le_of_lt h)
  have h2:x.num≠0:=fun c=>by have:=Rat.num_eq_zero.1 c;grind
  omega
theorem num_lt0 {x:Rat}:x.num < 0↔x < 0:=by
  have:=Rat.num_nonneg (q:=x)
  constructor
  · intro h
    refine Decidable.byContradiction fun c=>?_
    have:=this.2 (by grind)
    omega
  · intro h
    refine Int.not_le.1 fun c=>?_
    have:=this.1 c
    grind
theorem rinv_le {a b:Rat} (ha:0 < a) (h:a≤b):b⁻¹≤a⁻¹:=by
  have hb:0 < b:=by grind
  have i1:a*a⁻¹=1:=Rat.mul_inv_cancel _ (by grind)
  have i2:b*b⁻¹=1:=Rat.mul_inv_cancel _ (by grind)
  refine Rat.le_of_mul_le_mul_left (c:=a*b) ?_ (Rat.mul_pos ha hb)
  have e1:a*b*b⁻¹=a:=by rw[Rat.mul_assoc,i2,Rat.mul_one]
  have e2:a*b*a⁻¹=b:=by rw[Rat.mul_comm a b,Rat.mul_assoc,i1,Rat.mul_one]
  rw[e1,e2]
  exact h
theorem asH_ord {x y:Rat} {w:Nat} (dx:x.num.natAbs≤x.den) (dy:y.num.natAbs≤y.den) (h:abQ x≤abQ y):asH true x w≤asH false y w:=by
  obtain⟨a0,a1⟩:=abQ_bd dx
  obtain⟨b0,b1⟩:=abQ_bd dy
  have g1:=(asG_bd (u:=true) (w:=w) dx).1
  have g2:=(asG_bd (u:=false) (w:=w) dy).1
  have hr:asR y≤asR x:=by
    unfold asR
    have m1:=Rat.mul_le_mul_of_nonneg_left h a0
    have m2:=Rat.mul_le_mul_of_nonneg_right h b0
    grind
  have hg:asG false y w≤asG true x w:=root_mono hr (by decide) w
  have hi:=rinv_le (a:=1+asG false y w) (b:=1+asG true x w) (by grind) (by grind)
  have i0:0≤(1+asG true x w)⁻¹:=Rat.le_of_lt (Rat.inv_pos.2 (by grind))
  unfold asH
  exact Rat.le_trans (Rat.mul_le_mul_of_nonneg_right h i0) (Rat.mul_le_mul_of_nonneg_left hi b0)
theorem as_ord {x y:Rat} {w:Nat} (hw:20≤w) (dx:x.num.natAbs≤x.den) (dy:y.num.natAbs≤y.den) (h:abQ x≤abQ y):asL x w≤asU y w:=by
  have g:∀{a b:Rat},0≤a→a≤b→glo a w≤ghi b w:=fun ha h=>glo_ghi_le (rat_cross ha h)
  unfold asL asU
  exact Nat.mul_le_mul_right _ (an_ord hw (g (asH_bd dx).1 (asH_ord dx dx Rat.le_refl)) (g (asH_bd dy).1 (asH_ord dy dy Rat.le_refl)) (g (asH_bd dx).1 (asH_ord dx dy h)) (as_arg dx).2 (as_arg dy).2)
theorem as_pi {x:Rat} {w:Nat} (h1:32≤w) (h2:w≤160) (dx:x.num.natAbs≤x.den):asL x w*2^1≤piH w:=by
  have g:glo (asH true x w) w≤ghi (asH false x w) w:=glo_ghi_le (rat_cross (asH_bd dx).1 (asH_ord dx dx Rat.le_refl))
  obtain⟨a1,a2⟩:=as_arg (w:=w) dx
  have:=arcL_top h1 h2 a1 (hv_ord (hv_ord g)) (Nat.le_trans (hvH_le _ _) (Nat.le_trans (hvH_le _ _) a2))
  unfold asL anL
  omega
theorem abQ_pos {x:Rat} (h:0≤x):abQ x=x:=by
  obtain⟨e1,e2⟩:=abQ_parts x
  refine Rat.ext ?_ e2
  rw[e1,Int.natAbs_of_nonneg (Rat.num_nonneg.2 h)]
theorem abQ_opp (x:Rat):abQ (-x)=abQ x:=by unfold abQ;rw[(opp_parts x).2.1,(opp_parts x).2.2]
theorem half_down (a p:Nat):sgn false (a / 2^33) (2^p)≤sgn false a (2^(p+32+1))∧sgn false a (2^(p+32+1))≤sgn false (cdiv a (2^33)) (2^p):=by
  have e1:=sgn_u (a / 2^33) p
  have e2:=sgn_u a (p+32+1)
  have e3:=sgn_u (cdiv a (2^33)) p
  have eu:((2^(p+32+1):Nat):Rat)=((2^p:Nat):Rat)*((2^33:Nat):Rat):=by rw[←Rat.natCast_mul,←Nat.pow_add]
  have d1:((a / 2^33:Nat):Rat)*((2^33:Nat):Rat)≤(a:Rat):=div_rat (by decide)
  have d2:(a:Rat)≤((cdiv a (2^33):Nat):Rat)*((2^33:Nat):Rat):=cdiv_rat (by decide)
  have u0:=u_pos p
  have v0:(0:Rat) < ((2^33:Nat):Rat):=u_pos 33
  rw[←e1,←e2,eu] at d1
  rw[←e2,←e3,eu] at d2
  generalize((2^33:Nat):Rat)=v at*
  generalize((2^p:Nat):Rat)=u at*
  have uv:=Rat.mul_pos u0 v0
  exact⟨Rat.le_of_mul_le_mul_right (c:=u*v) (by grind) uv,Rat.le_of_mul_le_mul_right (c:=u*v) (by grind) uv⟩
def acA (x:Rat) (w:Nat):Rat:=if x=0 then sgn false (piL w) (2^(w+1)) else if x.num < 0 then sgn false (piL w+asL x w*2^1) (2^(w+1)) else sgn false (piL w) (2^(w+1))+ -sgn false (asU x w*2^1) (2^(w+1))
def acB (x:Rat) (w:Nat):Rat:=if x=0 then sgn false (piH w) (2^(w+1)) else if x.num < 0 then sgn false (piH w+asU x w*2^1) (2^(w+1)) else sgn false (piH w) (2^(w+1))+ -sgn false (asL x w*2^1) (2^(w+1))
theorem ac_out (x:Rat) (p:Nat):acLo x p≤acA x (p+32)∧acB x (p+32)≤acHi x p:=by
  unfold acLo acHi acA acB bkL bkH
  by_cases h0:x=0
  · simp only[if_pos h0,Bool.false_eq_true,if_false]
    exact⟨(half_down _ p).1,(half_down _ p).2⟩
  · by_cases h1:x.num < 0
    · simp only[if_neg h0,if_pos h1,Bool.false_eq_true,if_false]
      exact⟨(half_down _ p).1,(half_down _ p).2⟩
    · simp only[if_neg h0,if_neg h1]
      exact⟨gdown_le _ _,le_gup _ _⟩
theorem sgn_sum (a b w:Nat):sgn false (a+b) (2^w)=sgn false a (2^w)+sgn false b (2^w):=by
  have e1:=sgn_u a w
  have e2:=sgn_u b w
  have e3:=sgn_u (a+b) w
  have u0:=u_pos w
  rw[Rat.natCast_add,←e1,←e2] at e3
  generalize sgn false (a+b) (2^w)=s at*
  generalize sgn false a (2^w)=t at*
  generalize sgn false b (2^w)=r at*
  generalize((2^w:Nat):Rat)=u at*
  have:(s - (t+r))*u=0:=by grind
  rcases Rat.mul_eq_zero.1 this with c |c<;>grind
end Go.Q
namespace Go.Q
set_option maxRecDepth 100000
set_option maxHeartbeats 4000000
theorem out_32 (a p:Nat):sgn false (a / 2^32) (2^p)≤sgn false a (2^(p+32))∧sgn false a (2^(p+32))≤sgn false (cdiv a (2^32)) (2^p):=by
  have e1:=sgn_u (a / 2^32) p
  have e2:=sgn_u a (p+32)
  have e3:=sgn_u (cdiv a (2^32)) p
  have eu:((2^(p+32):Nat):Rat)=((2^p:Nat):Rat)*((2^32:Nat):Rat):=by rw[←Rat.natCast_mul,←Nat.pow_add]
  have d1:((a / 2^32:Nat):Rat)*((2^32:Nat):Rat)≤(a:Rat):=div_rat (by decide)
  have d2:(a:Rat)≤((cdiv a (2^32):Nat):Rat)*((2^32:Nat):Rat):=cdiv_rat (by decide)
  have u0:=u_pos p
  have v0:(0:Rat) < ((2^32:Nat):Rat):=u_pos 32
  rw[←e1,←e2,eu] at d1
  rw[←e2,←e3,eu] at d2
  generalize((2^32:Nat):Rat)=v at*
  generalize((2^p:Nat):Rat)=u at*
  have uv:=Rat.mul_pos u0 v0
  exact⟨Rat.le_of_mul_le_mul_right (c:=u*v) (by grind) uv,Rat.le_of_mul_le_mul_right (c:=u*v) (by grind) uv⟩
end Go.Q
namespace Go.Q
set_option maxRecDepth 100000
set_option maxHeartbeats 4000000
theorem br_e {fn:Int} {x:Rat} {p:Int} (h:brE fn x p=0):eErr fn x p=0:=by
  unfold brE at h
  split at h
  · cases h
  · unfold elE at h
    refine Decidable.byContradiction fun he=>?_
    rw[if_pos he] at h
    exact he h
theorem one_eq {x:Rat} (h:0≤x) (e:x.num.natAbs=x.den):x=1:=by
  have h1:=Rat.num_nonneg.2 h
  have hr:x.den=1:=by
    have k:=x.reduced
    unfold Nat.Coprime at k
    rw[e,Nat.gcd_self] at k
    exact k
  refine Rat.ext ?_ (by rw[hr];rfl)
  rw[show(1:Rat).num=1 from rfl]
  omega
end Go.Q
namespace Go.Q
set_option maxRecDepth 100000
set_option maxHeartbeats 4000000
def botC (w a r:Nat):Nat:=cdiv (a*2^w) (2^w+r)
def botR (w a:Nat):Nat:=sqA (2^(2*w)+a*a) (w+1) 0
def botA (w:Nat):Nat:=botC w (2^w) (botR w (2^w))
def botB (w:Nat):Nat:=botC w (botA w) (botR w (botA w))
def botL (w a:Nat):Bool:=Nat.blt (2^(2*w)+a*a) ((botR w a+1)*(botR w a+1))
def botOk (w:Nat):Bool:=botL w (2^w) && botL w (botA w) && Nat.ble (piL w*2^64) (16*arcL (botB w*2^64) (botB w*2^64) (w+64))
theorem botOk_all:((List.range 129).all fun i=>botOk (i+32))=true:=by decide+kernel
theorem bot_ok {w:Nat} (h1:32≤w) (h2:w≤160):botL w (2^w)=true∧botL w (botA w)=true∧piL w*2^64≤16*arcL (botB w*2^64) (botB w*2^64) (w+64):=by
  have h:=List.all_eq_true.1 botOk_all (w - 32) (List.mem_range.2 (by omega))
  rw[show w - 32+32=w by omega] at h
  unfold botOk at h
  simp only[Bool.and_eq_true,Nat.ble_eq] at h
  exact⟨h.1.1,h.1.2,h.2⟩
theorem hvH_bot {w a:Nat} (h:botL w a=true):botC w a (botR w a)≤hvH a w:=by
  unfold botL at h
  have h:2^(2*w)+a*a+1≤(botR w a+1)*(botR w a+1):=by simpa[Nat.blt,Nat.ble_eq] using h
  have k:irt 2 (2^(2*w)+a*a)≤botR w a:=by
    refine Nat.le_of_not_lt fun c=>?_
    have h1:=irt_le (n:=2) (a:=2^(2*w)+a*a) (by decide)
    rw[Nat.pow_two] at h1
    have:=Nat.mul_le_mul (show botR w a+1≤irt 2 (2^(2*w)+a*a) by omega) (show botR w a+1≤irt 2 (2^(2*w)+a*a) by omega)
    omega
  unfold hvH botC
  have hU:=Nat.pos_of_ne_zero (pow2_ne w)
  refine(cdiv_le_iff (by omega)).2 ?_
  have h1:=(cdiv_le_iff (a:=a*2^w) (d:=2^w+irt 2 (2^(2*w)+a*a)) (c:=cdiv (a*2^w) (2^w+irt 2 (2^(2*w)+a*a))) (by omega)).1 (Nat.le_refl _)
  exact Nat.le_trans h1 (Nat.mul_le_mul_right _ (Nat.add_le_add_left k _))
theorem hvH_mono {a b w:Nat} (h:a≤b):hvH a w≤hvH b w:=by
  obtain⟨d,rfl⟩:=Nat.exists_eq_add_of_le h
  have hU:=Nat.pos_of_ne_zero (pow2_ne w)
  have hp:=Nat.pos_of_ne_zero (pow2_ne (2*w))
  have i1:=irt_le (n:=2) (a:=2^(2*w)+(a+d)*(a+d)) (by decide)
  have ra:a≤irt 2 (2^(2*w)+a*a):=irt_max (by decide) (by rw[Nat.pow_two];omega)
  have rd:d≤irt 2 (2^(2*w)+(a+d)*(a+d)):=irt_max (by decide) (by
    rw[Nat.pow_two]
    have:=Nat.mul_le_mul (Nat.le_add_left d a) (Nat.le_add_left d a)
    omega)
  have h2:irt 2 (2^(2*w)+(a+d)*(a+d))≤irt 2 (2^(2*w)+a*a)+d:=by
    refine Nat.sub_le_iff_le_add.1 (irt_max (by decide) ?_)
    rw[Nat.pow_two] at i1 ⊢
    have ra2:a+d≤irt 2 (2^(2*w)+(a+d)*(a+d)):=irt_max (by decide) (by rw[Nat.pow_two];omega)
    generalize irt 2 (2^(2*w)+(a+d)*(a+d))=q at*
    obtain⟨e,rfl⟩:=Nat.exists_eq_add_of_le rd
    rw[Nat.add_sub_cancel_left]
    have e1:(d+e)*(d+e)=e*e+2*(e*d)+d*d:=by rw[Nat.add_mul,Nat.mul_add,Nat.mul_add,Nat.mul_comm d e];omega
    have e2:(a+d)*(a+d)=a*a+2*(a*d)+d*d:=by rw[Nat.add_mul,Nat.mul_add,Nat.mul_add,Nat.mul_comm d a];omega
    have:=Nat.mul_le_mul_right d (show a≤e by omega)
    omega
  unfold hvH
  generalize irt 2 (2^(2*w)+a*a)=r at*
  generalize irt 2 (2^(2*w)+(a+d)*(a+d))=q at*
  clear i1 rd
  have hc:=(cdiv_le_iff (a:=(a+d)*2^w) (d:=2^w+q) (c:=cdiv ((a+d)*2^w) (2^w+q)) (by omega)).1 (Nat.le_refl _)
  refine(cdiv_le_iff (by omega)).2 ?_
  generalize cdiv ((a+d)*2^w) (2^w+q)=m at*
  generalize 2^w=U at*
  by_cases hm:U≤m
  · have:=Nat.mul_le_mul ra hm
    have:=Nat.mul_le_mul_left r hm
    have:U*U≤U*m:=Nat.mul_le_mul_left U hm
    have e1:(U+r)*m=U*m+r*m:=Nat.add_mul _ _ _
    omega
  · have c4:(U+q)*m≤(U+r+d)*m:=Nat.mul_le_mul_right _ (by omega)
    have c5:d*m≤d*U:=Nat.mul_le_mul_left _ (by omega)
    rw[Nat.add_mul (U+r) d] at c4
    rw[Nat.add_mul a d] at hc
    omega
theorem arcQ_up {x y:Rat} (hx:0≤x) (h:x≤y) (hy:y≤1):x*arcQ (x^2) true 39≤y*arcQ (y^2) true 39:=by
  have h1:=(arcP_mono hx h hy 39 true (Nat.le_refl _)).1
  rw[show 79 - 2*39=1 from rfl,Rat.pow_one,Rat.pow_one] at h1
  exact h1
theorem arcH_bot {a w:Nat} (h1:32≤w) (h2:w≤160) (ha:a≤hvH (hvH (2^w) w) w):piL w≤16*arcH a (hvH (hvH (2^w) w) w) w:=by
  obtain⟨t1,t2,t3⟩:=bot_ok h1 h2
  have ht:botB w≤hvH (hvH (2^w) w) w:=by
    have k1:=hvH_bot t1
    exact Nat.le_trans (hvH_bot t2) (hvH_mono k1)
  have lb:hvH (hvH (2^w) w) w≤2^w:=Nat.le_trans (hvH_le _ _) (hvH_le _ _)
  have tB:=Nat.le_trans ht lb
  have u0:=u_pos w
  have v0:=u_pos (w+64)
  have ew:((2^(w+64):Nat):Rat)=((2^w:Nat):Rat)*((2^64:Nat):Rat):=by rw[Nat.pow_add,Rat.natCast_mul]
  have k1:=(arcL_Q (by omega) ha (Nat.le_refl (hvH (hvH (2^w) w) w)) lb).2
  have lb':botB w*2^64≤2^(w+64):=by rw[Nat.pow_add];exact Nat.mul_le_mul_right _ tB
  have k2:=(arcL_Q (w:=w+64) (by omega) (Nat.le_refl (botB w*2^64)) (Nat.le_refl _) lb').1
  have p0:(0:Rat) < ((2^64:Nat):Rat):=by decide+kernel
  have ey:((botB w*2^64:Nat):Rat) / ((2^(w+64):Nat):Rat)=(botB w:Rat) / ((2^w:Nat):Rat):=by
    have a1:((botB w*2^64:Nat):Rat) / ((2^(w+64):Nat):Rat)*((2^(w+64):Nat):Rat)=((botB w*2^64:Nat):Rat):=Rat.div_mul_cancel (by grind)
    have a2:(botB w:Rat) / ((2^w:Nat):Rat)*((2^w:Nat):Rat)=(botB w:Rat):=Rat.div_mul_cancel (by grind)
    rw[Rat.natCast_mul] at a1 ⊢
    rw[ew] at a1 v0 ⊢
    generalize(botB w:Rat)*((2^64:Nat):Rat) / (((2^w:Nat):Rat)*((2^64:Nat):Rat))=z1 at*
    generalize(botB w:Rat) / ((2^w:Nat):Rat)=z2 at*
    rw[←a2] at a1
    have:(z1 - z2)*(((2^w:Nat):Rat)*((2^64:Nat):Rat))=0:=by grind
    rcases Rat.mul_eq_zero.1 this with c |c
    · grind
    · grind
  rw[ey] at k2
  have x0:0≤(botB w:Rat) / ((2^w:Nat):Rat):=by
    rw[Rat.div_def]
    exact Rat.mul_nonneg (by exact_mod_cast Nat.zero_le _) (Rat.le_of_lt (Rat.inv_pos.2 u0))
  have y1:(hvH (hvH (2^w) w) w:Rat) / ((2^w:Nat):Rat)≤1:=by
    have:=grid_div (w:=w) lb
    have e:((2^w:Nat):Rat) / ((2^w:Nat):Rat)=1:=by rw[Rat.div_def];exact Rat.mul_inv_cancel _ (by grind)
    rw[e] at this
    exact this
  have k3:=Rat.le_trans (Rat.mul_le_mul_of_nonneg_left (arcQ_le (Rat.pow_nonneg (n:=2) x0) 39) x0) (arcQ_up x0 (grid_div (w:=w) ht) y1)
  have k4:=Rat.mul_le_mul_of_nonneg_right k3 (Rat.le_of_lt u0)
  have k5:=Rat.mul_le_mul_of_nonneg_right (Rat.le_trans k4 k1) (Rat.le_of_lt p0)
  rw[ew] at k2
  have k6:((arcL (botB w*2^64) (botB w*2^64) (w+64):Nat):Rat)≤((arcH a (hvH (hvH (2^w) w) w) w:Nat):Rat)*((2^64:Nat):Rat):=by
    refine Rat.le_trans k2 (Rat.le_trans ?_ k5)
    rw[Rat.mul_assoc _ ((2^w:Nat):Rat)]
    exact Rat.le_refl
  have k7:arcL (botB w*2^64) (botB w*2^64) (w+64)≤arcH a (hvH (hvH (2^w) w) w) w*2^64:=by exact_mod_cast k6
  have k8:piL w*2^64≤16*arcH a (hvH (hvH (2^w) w) w) w*2^64:=by
    rw[Nat.mul_assoc 16]
    exact Nat.le_trans t3 (Nat.mul_le_mul_left 16 k7)
  exact Nat.le_of_mul_le_mul_right k8 (Nat.pow_pos (by decide))
end Go.Q
namespace Go.Q
set_option maxRecDepth 100000
set_option maxHeartbeats 4000000
theorem sgn_dbl (n w:Nat):sgn false (n*2^1) (2^(w+1))=sgn false n (2^w)∧sgn false n (2^(w+1))*2=sgn false n (2^w):=by
  have e1:=sgn_u (n*2^1) (w+1)
  have e2:=sgn_u n w
  have e3:=sgn_u n (w+1)
  have u0:=u_pos w
  have eu:((2^(w+1):Nat):Rat)=((2^w:Nat):Rat)*2:=by rw[Nat.pow_succ,Rat.natCast_mul];rfl
  have en:((n*2^1:Nat):Rat)=(n:Rat)*2:=by rw[Rat.natCast_mul];rfl
  rw[eu] at e1 e3
  rw[en,←e2] at e1
  rw[←e2] at e3
  generalize sgn false (n*2^1) (2^(w+1))=a at*
  generalize sgn false n (2^(w+1))=b at*
  generalize sgn false n (2^w)=c at*
  generalize((2^w:Nat):Rat)=u at*
  have k1:(a - c)*u=0:=by grind
  have k2:(b*2 - c)*u=0:=by grind
  constructor
  · rcases Rat.mul_eq_zero.1 k1 with h |h<;>grind
  · rcases Rat.mul_eq_zero.1 k2 with h |h<;>grind
theorem pi_half (p:Nat):(piLo p+0) / 2≤sgn false (piL (p+32)) (2^(p+32+1))∧sgn false (piH (p+32)) (2^(p+32+1))≤(piHi p+0) / 2:=by
  have h1:piLo p≤sgn false (piL (p+32)) (2^(p+32)):=(out_32 _ p).1
  have h2:sgn false (piH (p+32)) (2^(p+32))≤piHi p:=(out_32 _ p).2
  rw[←(sgn_dbl _ _).2] at h1 h2
  constructor<;>grind
theorem asq_opp (x:Rat) (w:Nat):asL (-x) w=asL x w∧asU (-x) w=asU x w:=by
  have e2:∀u,asH u (-x) w=asH u x w:=fun u=>by unfold asH asG asR;rw[abQ_opp]
  unfold asL asU
  rw[e2,e2]
  exact⟨rfl,rfl⟩
theorem as_out {x:Rat} {p:Nat} (h:0 < x):asinLo x p≤sgn false (asL x (p+32)*2^1) (2^(p+32+1))∧sgn false (asU x (p+32)*2^1) (2^(p+32+1))≤asinHi x p:=by
  rw[(sgn_dbl _ _).1,(sgn_dbl _ _).1]
  unfold asinLo asinHi bkL bkH
  rw[decide_eq_false (num_pos0 h).1,if_neg (by decide),if_neg (by decide)]
  exact⟨(out_32 _ p).1,(out_32 _ p).2⟩
theorem root_zero (u:Bool) (w:Nat):rootg u 0 2 w=0:=by
  have r0:rtw 0 2 w=0:=by unfold rtw;simp
  have s0:sgn false 0 (2^w)=0:=by unfold sgn;simp
  have h0:rootg false 0 2 w=0:=by rw[rootg_dn Rat.le_refl,r0,irt_zero (by decide),s0]
  cases u
  · exact h0
  · have hx:rtx 0 2 w=true:=(root_exact Rat.le_refl 2 w).1 (by rw[h0];decide)
    rw[rootg_up Rat.le_refl,hx,if_pos rfl,r0,irt_zero (by decide),s0]
theorem asH_one (u:Bool) (w:Nat):asH u 1 w=1:=by
  have e1:abQ 1=1:=abQ_pos (by decide)
  have e2:asR 1=0:=by unfold asR;rw[e1];decide+kernel
  unfold asH asG
  rw[e1,e2,root_zero]
  decide+kernel
theorem g_one (w:Nat):glo 1 w=2^w∧ghi 1 w=2^w:=by
  constructor
  · show 1*2^w / 1=2^w
    rw[Nat.one_mul,Nat.div_one]
  · show(1*2^w+(1 - 1)) / 1=2^w
    rw[Nat.one_mul,Nat.div_one,Nat.sub_self,Nat.add_zero]
theorem an_bot {w:Nat} (h1:32≤w) (h2:w≤160):piL w≤anH (2^w) (2^w) w*2^1*2^1:=by
  have:=arcH_bot (a:=hvL (hvL (2^w) w) w) h1 h2 (hv_ord (hv_ord (Nat.le_refl _)))
  unfold anH
  omega
theorem an_top {w:Nat} (h1:32≤w) (h2:w≤160):anL (2^w) (2^w) w*2^1*2^1≤piH w:=by
  have:=arcL_top (a:=2^w) (b:=hvH (hvH (2^w) w) w) h1 h2 (Nat.le_refl _) (hv_ord (hv_ord (Nat.le_refl _))) (Nat.le_trans (hvH_le _ _) (hvH_le _ _))
  unfold anL
  omega
theorem right_as {x:Rat} {p:Nat} (hp:p≤128) (dx:x.num.natAbs≤x.den):
    (if x=0 then 0 else asinLo x p)+(if x=1 then 0 else acLo x p)≤(piHi p+0) / 2∧(piLo p+0) / 2≤(if x=0 then 0 else asinHi x p)+(if x=1 then 0 else acHi x p):=by
  obtain⟨q1,q2⟩:=pi_half p
  have pl:=piL_ge (w:=p+32) (by omega) (by omega)
  have s0:=sgn_le (p:=p+32+1) (show piL (p+32)≤piH (p+32) by omega)
  obtain⟨o1,o2⟩:=ac_out x p
  have lu:=sgn_le (p:=p+32+1) (Nat.mul_le_mul_right (2^1) (as_ord (w:=p+32) (by omega) dx dx Rat.le_refl))
  by_cases x0:x=0
  · rw[if_pos x0,if_pos x0,if_neg (by rw[x0];decide),if_neg (by rw[x0];decide)]
    unfold acA at o1
    unfold acB at o2
    rw[if_pos x0] at o1 o2
    constructor<;>grind
  · rw[if_neg x0,if_neg x0]
    by_cases x1:x=1
    · rw[if_pos x1,if_pos x1]
      have h0:0 < x:=by grind
      obtain⟨a1,a2⟩:=as_out (p:=p) h0
      have k1:=sgn_le (p:=p+32+1) (as_pi (x:=x) (w:=p+32) (by omega) (by omega) dx)
      have k2:piL (p+32)≤asU x (p+32)*2^1:=by
        rw[x1]
        unfold asU
        rw[asH_one,asH_one,(g_one _).1,(g_one _).2]
        exact an_bot (by omega) (by omega)
      have k3:=sgn_le (p:=p+32+1) k2
      constructor<;>grind
    · rw[if_neg x1,if_neg x1]
      unfold acA at o1
      unfold acB at o2
      rw[if_neg x0] at o1 o2
      by_cases xn:x.num < 0
      · rw[if_pos xn,sgn_sum] at o1 o2
        have hn:=num_lt0.1 xn
        obtain⟨a1,a2⟩:=as_out (x:=-x) (p:=p) (by grind)
        obtain⟨e1,e2⟩:=as_opp (x:=x) (p:=p) x0
        rw[(asq_opp x _).1] at a1
        rw[(asq_opp x _).2] at a2
        constructor<;>grind
      · rw[if_neg xn] at o1 o2
        have hn:0 < x:=by
          have:¬x < 0:=fun c=>xn (num_lt0.2 c)
          grind
        obtain⟨a1,a2⟩:=as_out (p:=p) hn
        constructor<;>grind
theorem inv_parts {x:Rat} (h:0 < x):(x⁻¹).num.natAbs=x.den∧(x⁻¹).den=x.num.natAbs∧0 < x⁻¹∧invQ x=x⁻¹∧invQ x⁻¹=x:=by
  have n0:=(num_pos0 h).2
  have hn:x.num≠0:=by omega
  have e2:(x⁻¹).num.natAbs=x.den:=by rw[Rat.num_inv,Int.natAbs_mul,Int.natAbs_sign_of_ne_zero hn,Nat.one_mul,Int.natAbs_natCast]
  have e3:(x⁻¹).den=x.num.natAbs:=by rw[Rat.den_inv,if_neg hn]
  have hp:0 < x⁻¹:=Rat.inv_pos.2 h
  have hpn:=Rat.num_nonneg.2 (Rat.le_of_lt hp)
  have hxn:=Rat.num_nonneg.2 (Rat.le_of_lt h)
  refine⟨e2,e3,hp,?_,?_⟩
  · obtain⟨i1,i2⟩:=invQ_parts n0
    refine Rat.ext ?_ (by rw[i2,e3])
    rw[i1,←e2,Int.natAbs_of_nonneg hpn]
  · obtain⟨i1,i2⟩:=invQ_parts (x:=x⁻¹) (by rw[e2];exact x.den_nz)
    refine Rat.ext ?_ (by rw[i2,e2])
    rw[i1,e3,Int.natAbs_of_nonneg hxn]
theorem at_out {x:Rat} {p:Nat} (h:0 < x):(x.den < x.num.natAbs→atLo x p≤sgn false (piL (p+32) - anH (glo (invQ x) (p+32)) (ghi (invQ x) (p+32)) (p+32)*2^1) (2^(p+32+1))∧sgn false (piH (p+32) - anL (glo (invQ x) (p+32)) (ghi (invQ x) (p+32)) (p+32)*2^1) (2^(p+32+1))≤atHi x p)∧(¬x.den < x.num.natAbs→atLo x p≤sgn false (anL (glo x (p+32)) (ghi x (p+32)) (p+32)*2^1) (2^(p+32+1))∧sgn false (anH (glo x (p+32)) (ghi x (p+32)) (p+32)*2^1) (2^(p+32+1))≤atHi x p):=by
  unfold atLo atHi bkL bkH
  rw[decide_eq_false (num_pos0 h).1,if_neg (by decide),if_neg (by decide)]
  constructor
  · intro c
    unfold atA atB atK
    rw[if_pos c,if_pos c,if_pos c]
    exact⟨(half_down _ p).1,(half_down _ p).2⟩
  · intro c
    unfold atA atB atK
    rw[if_neg c,if_neg c,if_neg c,(sgn_dbl _ _).1,(sgn_dbl _ _).1]
    exact⟨(out_32 _ p).1,(out_32 _ p).2⟩
theorem sgn_subN {a b w:Nat} (h:b≤a):sgn false (a - b) (2^w)=sgn false a (2^w) - sgn false b (2^w):=by
  have:=sgn_sum (a - b) b w
  rw[Nat.sub_add_cancel h] at this
  grind
theorem right_at1 {x:Rat} {p:Nat} (hp:p≤128) (h:0 < x) (c:x.den < x.num.natAbs):atLo x p+atLo x⁻¹ p≤(piHi p+0) / 2∧(piLo p+0) / 2≤atHi x p+atHi x⁻¹ p:=by
  obtain⟨q1,q2⟩:=pi_half p
  obtain⟨n1,n2,n3,n4,n5⟩:=inv_parts h
  have pl:=piL_ge (w:=p+32) (by omega) (by omega)
  have s0:=sgn_le (p:=p+32+1) (show piL (p+32)≤piH (p+32) by omega)
  have c':¬(x⁻¹).den < (x⁻¹).num.natAbs:=by rw[n1,n2];omega
  obtain⟨a1,a2⟩:=(at_out (p:=p) h).1 c
  obtain⟨b1,b2⟩:=(at_out (p:=p) n3).2 c'
  rw[n4] at a1 a2
  obtain⟨l1,l2⟩:=g_le (w:=p+32) c'
  obtain⟨m1,m2⟩:=an_le (w:=p+32) (by omega) l1 l2
  have u1:2^(p+32)=2^p*4294967296:=Nat.pow_add _ _ _
  have u2:=Nat.pos_of_ne_zero (pow2_ne p)
  have lu:=sgn_le (p:=p+32+1) (Nat.mul_le_mul_right (2^1) (an_ord (w:=p+32) (by omega) (glo_ghi x⁻¹ _) (glo_ghi x⁻¹ _) (glo_ghi x⁻¹ _) l2 l2))
  rw[sgn_subN (by omega)] at a1 a2
  constructor<;>grind
theorem right_at {x:Rat} {p:Nat} (hp:p≤128) (h:0 < x):atLo x p+atLo x⁻¹ p≤(piHi p+0) / 2∧(piLo p+0) / 2≤atHi x p+atHi x⁻¹ p:=by
  obtain⟨n1,n2,n3,n4,n5⟩:=inv_parts h
  by_cases c:x.den < x.num.natAbs
  · exact right_at1 hp h c
  · by_cases d:x.num.natAbs < x.den
    · have k:=right_at1 (x:=x⁻¹) hp n3 (by rw[n1,n2];exact d)
      rw[Rat.inv_inv] at k
      rw[Rat.add_comm,Rat.add_comm (atHi x p)]
      exact k
    · have x1:x=1:=one_eq (Rat.le_of_lt h) (by omega)
      have i1:x⁻¹=1:=by rw[x1];decide+kernel
      rw[i1,x1]
      obtain⟨q1,q2⟩:=pi_half p
      obtain⟨b1,b2⟩:=(at_out (x:=1) (p:=p) (by decide)).2 (by decide)
      rw[(g_one _).1,(g_one _).2] at b1 b2
      have t1:=sgn_le (p:=p+32+1) (an_top (w:=p+32) (by omega) (by omega))
      have t2:=sgn_le (p:=p+32+1) (an_bot (w:=p+32) (by omega) (by omega))
      have d1:=sgn_dbl (anL (2^(p+32)) (2^(p+32)) (p+32)*2^1) (p+32)
      have d2:=sgn_dbl (anH (2^(p+32)) (2^(p+32)) (p+32)*2^1) (p+32)
      rw[d1.1,←d1.2] at t1
      rw[d2.1,←d2.2] at t2
      have pl:=piL_ge (w:=p+32) (by omega) (by omega)
      have s0:=sgn_le (p:=p+32+1) (show piL (p+32)≤piH (p+32) by omega)
      constructor<;>grind
end Go.Q
namespace Go.Q
open Go.Proofs
set_option maxRecDepth 100000
set_option maxHeartbeats 16000000
def wideB (x:Rat):Prop:=1024 < sz x∨x.den*4294967296 < x.num.natAbs
instance (x:Rat):Decidable (wideB x):=inferInstanceAs (Decidable (_∨_))
end Go.Q
namespace Go.Q
open Go.Proofs
set_option maxRecDepth 100000
end Go.Q
namespace Go.Q
open Go.Proofs
set_option maxRecDepth 100000
set_option maxHeartbeats 8000000
end Go.Q
namespace Go.Q
open Go.Proofs
set_option maxRecDepth 100000
set_option maxHeartbeats 8000000
end Go.Q
namespace Go.Q
open Go.Proofs
set_option maxRecDepth 100000
set_option maxHeartbeats 8000000
theorem EReady_exp {h0 h:PH} [Le h0 h] {v:Value} {x:Rat} {p:Int} (hx:Rv h0 v x) (hp:0≤p∧p≤128) (hl:¬1024 < sz x) (hb:¬x.den*64 < x.num.natAbs):Spec mach 79 #[.int .i64 1,v,.int .i64 p] h (fun r h'=>∃b na nl nc da dl dc,r=.tuple #[.agg #[.bool b,.slice na nl nc,.slice da dl dc],.int .i64 0]∧Cn h' (.agg #[.bool b,.slice na nl nc,.slice da dl dc]) x) NP:=by
  have kK:=fun {h} [Le h0 h]=>EKnown_ok (h:=h) (fn:=1) hx (by decide)
  have bx:=hx.sz
  obtain⟨_,_,_,_,_,_,_,rfl,_⟩:=hx.sa
  have d1:defB 1 x=true:=rfl
  refine Spec.go [] Tryz.func79 rfl rfl (by kernel_rfl) fun C _=>?_
  try simp(disch:=omega) only[go_sem,Nat.reduceBEq,Nat.reduceAdd]
  refine caN (by exact kK) ?_;rintro v1 h1 s1 ⟨_,_,_,_,_,_,_,rfl,c⟩
  try simp(disch:=omega) only[go_sem,Nat.reduceBEq,Nat.reduceAdd]
  refine caN (by exact EDefined_spec (fn:=1) c) ?_;rintro v2 h2 s2 rfl
  try simp(disch:=omega) only[go_sem,Nat.reduceBEq,Nat.reduceAdd]
  rw[d1]
  try simp(disch:=omega) only[go_sem,Nat.reduceBEq,Nat.reduceAdd]
  refine caN (by exact TooLong_spec (c.to (h':=h2))) ?_;rintro v3 h3 s3 rfl
  try simp(disch:=omega) only[go_sem,Nat.reduceBEq,Nat.reduceAdd]
  try rw[decide_eq_false hl]
  try simp(disch:=omega) only[go_sem,Nat.reduceBEq,Nat.reduceAdd]
  refine caN (by exact Beyond_spec (n:=64) (c.to (h':=h3)) (by omega) (by decide)) ?_;rintro v4 h4 s4 rfl
  try simp(disch:=omega) only[go_sem,Nat.reduceBEq,Nat.reduceAdd]
  try rw[decide_eq_false hb]
  try simp(disch:=omega) only[go_sem,Nat.reduceBEq,Nat.reduceAdd]
  exact⟨_,_,_,_,_,_,_,rfl,c.to⟩
theorem EApply_exp {h0 h:PH} [Le h0 h] {v:Value} {x y z:Rat} {p:Int} {g:FuncId} (hx:Rv h0 v x) (hp:0≤p∧p≤128) (hl:¬1024 < sz x) (hb:¬x.den*64 < x.num.natAbs) (hx0:x≠0) (hg:∀{h0 h:PH} {a:Value} [Le h0 h],Cn h0 a x→Spec mach g #[a,.int .i64 p] h (fun r h'=>Be h' r y z) NP):
    Spec mach 34 #[.int .i64 1,v,.int .i64 p,.func (.func g) #[] #[]] h (fun r h'=>Be h' r y z) NP:=by
  have kK:=fun {h} [Le h0 h]=>EReady_exp (h:=h) hx hp hl hb
  have e1:exB 1 x=false:=by unfold exB;rw[if_neg (by decide)];exact decide_eq_false hx0
  have kE:=fun {h1 h:PH} {a:Value} [Le h1 h] (c:Cn h1 a x)=>EExact_spec (h:=h) (fn:=1) c
  rw[e1] at kE
  obtain⟨_,_,_,_,_,_,_,rfl,_⟩:=hx.sa
  refine Spec.go [] Tryz.func34 rfl rfl (by kernel_rfl) fun C _=>?_
  try simp(disch:=omega) only[go_sem,Nat.reduceBEq,Nat.reduceAdd]
  refine caN (by exact kK) ?_;rintro v1 h1 s1 ⟨_,_,_,_,_,_,_,rfl,c⟩
  try simp(disch:=omega) only[go_sem,Nat.reduceBEq,Nat.reduceAdd]
  refine caN (by exact kE c) ?_;rintro v2 h2 s2 ⟨_,_,_,_,_,_,_,rfl,_⟩
  try simp(disch:=omega) only[go_sem,Nat.reduceBEq,Nat.reduceAdd]
  refine caN (by exact hg (c.to (h':=h2))) ?_;rintro v3 h3 s3 ⟨_,_,_,_,_,_,_,_,_,_,_,_,_,_,rfl,q3⟩
  try simp(disch:=omega) only[go_sem,Nat.reduceBEq,Nat.reduceAdd]
  exact⟨_,_,_,_,_,_,_,_,_,_,_,_,_,_,rfl,q3⟩
theorem FExp_ok {h0 h:PH} [Le h0 h] {v:Value} {x:Rat} {p:Nat} (hx:Rv h0 v x) (hp:p≤128) (hl:¬1024 < sz x) (hb:¬x.den*64 < x.num.natAbs) (hx0:x≠0):Spec mach 35 #[v,.int .i64 p] h (fun r h'=>Be h' r (expLo x p) (expHi x p)) NP:=by
  have kA:=fun {h} [Le h0 h]=>EApply_exp (h:=h) (p:=p) (g:=25) hx (by omega) hl hb hx0 (fun {h0 h a} _ c=>EExp_spec c (by omega) hb hp)
  obtain⟨_,_,_,_,_,_,_,rfl,_⟩:=hx.sa
  clear hl hb
  refine Spec.go [] Tryz.func35 rfl rfl (by kernel_rfl) fun C _=>?_
  try simp(disch:=omega) only[go_sem,Nat.reduceBEq,Nat.reduceAdd]
  refine caN (by exact kA) ?_;rintro v1 h1 s1 ⟨_,_,_,_,_,_,_,_,_,_,_,_,_,_,rfl,r1,r2⟩
  try simp(disch:=omega) only[go_sem,Nat.reduceBEq,Nat.reduceAdd]
  exact⟨_,_,_,_,_,_,_,_,_,_,_,_,_,_,rfl,r1,r2⟩
end Go.Q
namespace Go.Q
open Go.Proofs
set_option maxRecDepth 100000
set_option maxHeartbeats 8000000
theorem RFrac2_spec {h:PH} {a b:Nat} (ha:a < 2^20) (hb:b < 2^20):Spec mach 37 #[.int .i64 a,.int .i64 b] h (fun v h'=>Qr h' v ((a:Rat) / (b:Rat))) NP:=by
  have S:∀{n:Nat},n < 2^20→sz (((n:Int)):Rat)≤2^35:=by
    intro n hn
    unfold sz
    have e1:bl ((((n:Int)):Rat).num.natAbs)≤64:=bl_le.2 (by simp;omega)
    have e2:bl ((((n:Int)):Rat).den)≤64:=bl_le.2 (by simp)
    omega
  have b1:=S ha
  have b2:=S hb
  have e:((((a:Int)):Rat) / (((b:Int)):Rat))=(a:Rat) / (b:Rat):=rfl
  refine Spec.go [] Tryz.func37 rfl rfl (by kernel_rfl) fun C _=>?_
  try simp(disch:=omega) only[go_sem,Nat.reduceBEq,Nat.reduceAdd]
  refine caN (by exact QInt_spec (n:=a) (by omega) (by omega)) ?_;rintro v1 g1 s1 q1;obtain⟨_,_,_,_,_,_,_,rfl,q1⟩:=q1.sa
  try simp(disch:=omega) only[go_sem,Nat.reduceBEq,Nat.reduceAdd]
  refine caN (by exact QInt_spec (n:=b) (by omega) (by omega)) ?_;rintro v2 g2 s2 q2;obtain⟨_,_,_,_,_,_,_,rfl,q2⟩:=q2.sa
  try simp(disch:=omega) only[go_sem,Nat.reduceBEq,Nat.reduceAdd]
  refine caN (by exact QDiv_spec (q1.to (h':=g2)) q2 b1 b2) ?_;rintro v3 g3 s3 q3;rw[e] at q3;obtain⟨_,_,_,_,_,_,_,rfl,q3⟩:=q3.sa
  try simp(disch:=omega) only[go_sem,Nat.reduceBEq,Nat.reduceAdd]
  exact q3
theorem exp_sane1:expLo 1 3=((21:Nat):Rat) / ((8:Nat):Rat):=by
  unfold expLo
  rw[if_neg (by decide),show expL 1 3 / 2^112=21 by decide+kernel]
  decide+kernel
theorem exp_sane2:expHi 1 3=((11:Nat):Rat) / ((4:Nat):Rat):=by
  unfold expHi
  rw[if_neg (by decide),show cdiv (expH 1 3) (2^112)=22 by decide+kernel]
  decide+kernel
theorem one_rv {h:PH} {b:Nat} (hb:h b=some #[.int .u32 1]):Rv h (.agg #[.bool false,.slice (some ⟨b,0,none⟩) 1 1,.slice none 0 0]) 1:=by
  have e:qof false 1 0=1:=by decide+kernel
  refine⟨false,1,0,⟨some ⟨b,0,none⟩,1,[1],none,0,[],rfl,Arr.of_row (fun _=>hb) (by decide) (by decide) (by decide),Arr.nil _,rfl,rfl,by decide,by decide⟩,?_,e⟩
  unfold lg
  rw[e]
  decide+kernel
theorem sane_spec {h:PH}:Spec mach 8 #[] h (fun r _=>r=.bool true) NP:=by
  have z1:sz (((21:Nat):Rat) / ((8:Nat):Rat))≤2^30:=by decide+kernel
  have z2:sz (((11:Nat):Rat) / ((4:Nat):Rat))≤2^30:=by decide+kernel
  have e1:decide (((21:Nat):Rat) / ((8:Nat):Rat)=((21:Nat):Rat) / ((8:Nat):Rat))=true:=decide_eq_true rfl
  have e2:decide (((11:Nat):Rat) / ((4:Nat):Rat)=((11:Nat):Rat) / ((4:Nat):Rat))=true:=decide_eq_true rfl
  have z1:=Hid.mk z1
  have z2:=Hid.mk z2
  refine Spec.go [(1,.t (.s [0] (.p 0 (.s [1,2,3,4,5,6,7,8] .d))))] Tryz.func8 rfl rfl (by kernel_rfl) fun C _=>?_
  try simp(disch:=omega) only[go_sem,Nat.reduceBEq,Nat.reduceAdd]
  intro b h1 st1 hb
  try simp(disch:=omega) only[go_sem,Nat.reduceBEq,Nat.reduceAdd]
  have hb:=hb (by simp[uw])
  try simp(disch:=omega) only[go_sem,Nat.reduceBEq,Nat.reduceAdd]
  refine caN (by exact FExp_ok (x:=1) (p:=3) (one_rv hb) (by decide) (by decide) (by decide) (by decide)) ?_;rintro v2 h2 s2 ⟨_,_,_,_,_,_,_,_,_,_,_,_,_,_,rfl,r1,r2⟩
  try simp(disch:=omega) only[go_sem,Nat.reduceBEq,Nat.reduceAdd]
  rw[exp_sane1] at r1
  rw[exp_sane2] at r2
  try simp(disch:=omega) only[go_sem,Nat.reduceBEq,Nat.reduceAdd]
  refine caN (by exact RFrac2_spec (a:=21) (b:=8) (by decide) (by decide)) ?_;rintro v3 h3 s3 q3;obtain⟨_,_,_,_,_,_,_,rfl,q3⟩:=q3.sa
  try simp(disch:=omega) only[go_sem,Nat.reduceBEq,Nat.reduceAdd]
  refine caN (by exact Right_spec (r1.to (h':=h3)) q3 z1.out z1.out) ?_;rintro v4 h4 s4 rfl
  try simp(disch:=omega) only[go_sem,Nat.reduceBEq,Nat.reduceAdd,e1,decide_true]
  refine caN (by exact RFrac2_spec (a:=11) (b:=4) (by decide) (by decide)) ?_;rintro v5 h5 s5 q5;obtain⟨_,_,_,_,_,_,_,rfl,q5⟩:=q5.sa
  try simp(disch:=omega) only[go_sem,Nat.reduceBEq,Nat.reduceAdd]
  refine caN (by exact Right_spec (r2.to (h':=h5)) q5 z2.out z2.out) ?_;rintro v6 h6 s6 rfl
  try simp(disch:=omega) only[go_sem,Nat.reduceBEq,Nat.reduceAdd,e2,decide_true]
end Go.Q
namespace Go.Q
open Go.Proofs
set_option maxRecDepth 100000
set_option maxHeartbeats 16000000
end Go.Q
namespace Go.Q
open Go.Proofs
set_option maxRecDepth 100000
set_option maxHeartbeats 8000000
theorem Rw.sz35 {h:PH} {v:Value} {neg:Bool} {n d:Nat} (r:Rw h v neg n d):sz (qof neg n d)≤2^35:=by
  obtain⟨a,c,xs,a',c',ys,rfl,ha,ha',en,ed,lx,ly⟩:=r
  have bn:=val_bl ha.lt
  have bd:=val_bl ha'.lt
  rw[en] at bn
  rw[ed] at bd
  have b:=sz_sgn neg n (dz_ne d)
  have b':bl (dz d)≤max (bl d) 1:=by unfold dz;split;exact Nat.le_max_right _ _;exact Nat.le_max_left _ _
  unfold qof
  omega
end Go.Q
