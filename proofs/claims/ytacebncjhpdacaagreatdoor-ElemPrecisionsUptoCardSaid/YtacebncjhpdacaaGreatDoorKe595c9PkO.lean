/-
  The logarithm on a grid: exponent, remainder, bounds. Plain. Conditions: the number is above 0.
  What log returns. Conditions: the number is above 0 and of at most 1024 binary digits; the precision is at most 128.
  Contracts of package elem: whole parts of quotients; numbers of a remainder modulo 4 in a range; Turns. Conditions: the sizes are those that the program uses.
  Intervals as plain sets: two ends, each a number or infinite, or empty; the operations on them. Conditions: none.
  Plain laws of intervals: membership, meets, hulls, grids. Conditions: ends in order (ok).
  The remainder of a number by quarter turns, plain: bounds. Conditions: the number's absolute value is at most 2^32; the working precision is from 64 to 192.
  Roots of numbers on a grid, plain; what package number returns for them. Conditions: the number is not large, the index from 2 to 8, the precision at most 256.
  What package number returns for roots on a grid: positive numbers. Conditions: the number is not large, the index from 2 to 8, the precision at most 256. (Printed by a program.)
  What package number returns for roots on a grid: negative numbers. Conditions: the number is not large, the index from 2 to 8, the precision at most 256. (Printed by a program.)
  What number.root returns, of any number. Conditions: the number is not large, the index from 2 to 8, the precision at most 256; no even root of a number below 0.
  Contracts of package number: roots rounded down and up. Conditions: the values are numbers of at most 2048 binary digits.
-/
import Derived.Test.YtacebncjhpdacaaGreatDoorK8c97aaPkF
import Derived.Test.YtacebncjhpdacaaGreatDoorK272729PkN
import Derived.Test.YtacebncjhpdacaaGreatDoorKfdb860PkL
import Derived.Test.YtacebncjhpdacaaGreatDoorK2e7ba5PkM
import Derived.Test.YtacebncjhpdacaaGreatDoorK1d945fPkH
import Derived.Test.YtacebncjhpdacaaGreatDoorK85bcfbPkI
set_option linter.unusedVariables false
set_option linter.unusedSimpArgs false
namespace Go.Q
open Go.Proofs
set_option maxRecDepth 100000
def lge0 (n d:Nat):Int:=(bl n:Int) - bl d
def lgn (n:Nat) (e:Int):Nat:=n*2^(max 0 (-e)).toNat
def lgd (d:Nat) (e:Int):Nat:=d*2^(max 0 e).toNat
def lge (n d:Nat):Int:=if lgn n (lge0 n d) < lgd d (lge0 n d) then lge0 n d - 1 else lge0 n d
theorem lg_below {n d:Nat} (hn:n≠0):lgd d (lge n d)≤lgn n (lge n d):=by
  unfold lge
  split
  · obtain⟨n1,n2⟩:=bl_pos hn
    have d2:d < 2^bl d:=bl_le.1 (Nat.le_refl _)
    unfold lgn lgd lge0
    by_cases h:1≤(bl n:Int) - bl d
    · obtain⟨k,hk⟩:∃k:Nat,bl n=bl d+1+k:=⟨bl n - bl d - 1,by omega⟩
      rw[show(max 0 (-((bl n:Int) - bl d - 1))).toNat=0 by omega,show(max 0 ((bl n:Int) - bl d - 1)).toNat=k by omega,Nat.pow_zero,Nat.mul_one]
      rw[show bl n - 1=bl d+k by omega,Nat.pow_add] at n2
      exact Nat.le_trans (Nat.mul_le_mul_right _ (Nat.le_of_lt d2)) n2
    · obtain⟨k,hk⟩:∃k:Nat,bl d=bl n+k:=⟨bl d - bl n,by omega⟩
      rw[show(max 0 (-((bl n:Int) - bl d - 1))).toNat=k+1 by omega,show(max 0 ((bl n:Int) - bl d - 1)).toNat=0 by omega,Nat.pow_zero,Nat.mul_one]
      have e:2^bl d=2^(bl n - 1)*2^(k+1):=by rw[←Nat.pow_add];congr 1;omega
      rw[e] at d2
      exact Nat.le_trans (Nat.le_of_lt d2) (Nat.mul_le_mul_right _ n2)
  · omega
theorem lge_abs {n d k:Nat} (hn:bl n≤k) (hd:bl d≤k): -((k:Int)+1)≤lge n d∧lge n d≤k∧ -(k:Int)≤lge0 n d∧lge0 n d≤k:=by
  unfold lge lge0
  split<;>omega
def lgT (n d w:Nat):Nat:=(lgn n (lge n d) - lgd d (lge n d))*2^w
def lgB (n d:Nat):Nat:=lgn n (lge n d)+lgd d (lge n d)
theorem lgB_ne {n d:Nat} (hn:n≠0):lgB n d≠0:=by
  have:lgn n (lge n d)≠0:=Nat.mul_ne_zero hn (pow2_ne _)
  unfold lgB
  omega
theorem lgT_le {n d w:Nat}:lgT n d w≤lgB n d*2^w:=Nat.mul_le_mul_right _ (by unfold lgB;omega)
def lgmL (n d w:Nat):Nat:=logL (lgT n d w / lgB n d) (cdiv (lgT n d w) (lgB n d)) w
def lgmH (n d w:Nat):Nat:=logH (lgT n d w / lgB n d) (cdiv (lgT n d w) (lgB n d)) w
def lg2L (w:Nat):Nat:=logL (2^w / 3) (cdiv (2^w) 3) w
def lg2H (w:Nat):Nat:=logH (2^w / 3) (cdiv (2^w) 3) w
theorem lgm_arg {n d w:Nat} (hn:n≠0):lgT n d w / lgB n d≤2^w∧cdiv (lgT n d w) (lgB n d)≤2^w:=
  ⟨Nat.div_le_of_le_mul lgT_le,(cdiv_le_iff (lgB_ne hn)).2 lgT_le⟩
theorem lg2_arg (w:Nat):2^w / 3≤2^w∧cdiv (2^w) 3≤2^w:=fif_le 3 (by decide)
def lnLo (n d p:Nat):Rat:=
  if 0≤lge n d then sgn false ((lg2L (p+32)*(lge n d).toNat+lgmL n d (p+32)) / 2^32) (2^p)
  else gdown (sgn false (lgmL n d (p+32)) (2^(p+32))+ -sgn false (lg2H (p+32)*(0 - lge n d).toNat) (2^(p+32))) p
def lnHi (n d p:Nat):Rat:=
  if 0≤lge n d then sgn false (cdiv (lg2H (p+32)*(lge n d).toNat+lgmH n d (p+32)) (2^32)) (2^p)
  else gup (sgn false (lgmH n d (p+32)) (2^(p+32))+ -sgn false (lg2L (p+32)*(0 - lge n d).toNat) (2^(p+32))) p
theorem ln_pos {n d p m:Nat} (h:lge n d=(m:Int)):lnLo n d p=sgn false ((lg2L (p+32)*m+lgmL n d (p+32)) / 2^32) (2^p)∧lnHi n d p=sgn false (cdiv (lg2H (p+32)*m+lgmH n d (p+32)) (2^32)) (2^p):=by
  unfold lnLo lnHi
  rw[if_pos (by omega),if_pos (by omega),h]
  exact⟨rfl,rfl⟩
theorem ln_neg {n d p m:Nat} (h:0 - lge n d=(m:Int)) (h':¬0≤lge n d):lnLo n d p=gdown (sgn false (lgmL n d (p+32)) (2^(p+32))+ -sgn false (lg2H (p+32)*m) (2^(p+32))) p∧lnHi n d p=gup (sgn false (lgmH n d (p+32)) (2^(p+32))+ -sgn false (lg2L (p+32)*m) (2^(p+32))) p:=by
  unfold lnLo lnHi
  rw[if_neg h',if_neg h',h]
  exact⟨rfl,rfl⟩
theorem bl_112 {n w:Nat} (h:n≤112*2^w):bl n≤w+8:=bl_pow' (k:=w+7) (by rw[Nat.pow_add];omega)
theorem sz_dif {a b w k:Nat} (ha:bl a≤k) (hb:bl b≤k) (hk:w+1≤k):sz (sgn false a (2^w)+ -sgn false b (2^w))≤2*k+1:=by
  have h1:=sz_sgn false a (pow2_ne w)
  have h2:=sz_sgn false b (pow2_ne w)
  have h3:=bl_pow2 w
  have h4:=sz_add (sgn false a (2^w)) (-sgn false b (2^w))
  rw[sz_neg] at h4
  omega
end Go.Q
namespace Go.Q
open Go.Proofs
set_option maxRecDepth 100000
set_option maxHeartbeats 8000000
theorem sz_gd (x:Rat) (p:Nat):sz (gdown x p)≤sz x+2*p+2:=by
  have h1:=sz_unscale ((x*2^p).floor:Rat) p
  have h2:=sz_floor (x*2^p)
  have h3:=sz_scale x p
  unfold gdown
  omega
theorem gup_gdown (x:Rat) (p:Nat):gup x p= -gdown (-x) p:=by
  unfold gup gdown
  rw[Rat.ceil_eq_neg_floor_neg,Rat.neg_mul,Rat.intCast_neg,Rat.div_def,Rat.div_def,Rat.neg_mul]
theorem sz_gu (x:Rat) (p:Nat):sz (gup x p)≤sz x+2*p+2:=by
  rw[gup_gdown,sz_neg]
  have:=sz_gd (-x) p
  rw[sz_neg] at this
  exact this
theorem ELog_spec {h0 h:PH} [Le h0 h] {v:Value} {x:Rat} {p:Nat} (hx:Cn h0 v x) (bx:sz x≤1024) (hp0:x.num.natAbs≠0) (hp:p≤128):Spec mach 26 #[v,.int .i64 p] h (fun r h'=>Be h' r (lnLo x.num.natAbs x.den p) (lnHi x.num.natAbs x.den p)) NP:=by
  have kW:=fun {h} [Le h0 h]=>EWhole_spec (h:=h) hx
  have bn:=Nat.le_trans (sz_num x) bx
  have bd:=Nat.le_trans (sz_den x) bx
  obtain⟨na,nl,nc,da,dl,dc,rfl,hn,hd,e1,e2⟩:=hx.parts
  have kO:=fun {h} [Le h0 h]=>Of_any (h:=h) hn
  clear hn hd e1 e2 hx bx
  generalize x.num.natAbs=N at*
  generalize x.den=D at*
  generalize decide (x.num < 0)=b at*
  obtain⟨a1,a2,a3,a4⟩:=lge_abs bn bd
  have e0:(bl N:Int) - bl D=lge0 N D:=rfl
  obtain⟨c,hc⟩:∃c,decide (lgn N (lge0 N D) < lgd D (lge0 N D))=c:=⟨_,rfl⟩
  obtain⟨k1,hk1,f1⟩:∃k:Nat,(if 0 - lge0 N D > 0 then 0 - lge0 N D else 0)=(k:Int)∧(max 0 (-lge0 N D)).toNat=k:=⟨_,by split<;>omega,rfl⟩
  obtain⟨k2,hk2,f2⟩:∃k:Nat,(if lge0 N D > 0 then lge0 N D else 0)=(k:Int)∧(max 0 (lge0 N D)).toNat=k:=⟨_,by split<;>omega,rfl⟩
  obtain⟨k3,hk3,f3⟩:∃k:Nat,(if 0 - lge N D > 0 then 0 - lge N D else 0)=(k:Int)∧(max 0 (-lge N D)).toNat=k:=⟨_,by split<;>omega,rfl⟩
  obtain⟨k4,hk4,f4⟩:∃k:Nat,(if lge N D > 0 then lge N D else 0)=(k:Int)∧(max 0 (lge N D)).toNat=k:=⟨_,by split<;>omega,rfl⟩
  have bk1:k1≤1024:=by omega
  have bk2:k2≤1024:=by omega
  have bk3:k3≤1025:=by omega
  have bk4:k4≤1024:=by omega
  have g1:Hid (lgn N (lge0 N D)=N*2^k1):=⟨by unfold lgn;rw[f1]⟩
  have g2:Hid (lgd D (lge0 N D)=D*2^k2):=⟨by unfold lgd;rw[f2]⟩
  have g3:Hid (lgn N (lge N D)=N*2^k3):=⟨by unfold lgn;rw[f3]⟩
  have g4:Hid (lgd D (lge N D)=D*2^k4):=⟨by unfold lgd;rw[f4]⟩
  clear f1 f2 f3 f4
  have b1:=bl_shl N k3
  have b2:=bl_shl D k4
  have b3:=bl_add (N*2^k3) (D*2^k4)
  have b4:bl (N*2^k3 - D*2^k4)≤_:=bl_mono (Nat.sub_le _ _)
  have b5:=bl_shl (N*2^k3 - D*2^k4) (p+32)
  have b6:=bl_shl N k1
  have b7:=bl_shl D k2
  have hs:Hid (D*2^k4≤N*2^k3):=⟨by rw[←g3.out,←g4.out];exact lg_below hp0⟩
  have hB:Hid (N*2^k3+D*2^k4≠0):=⟨by have:=Nat.mul_ne_zero hp0 (pow2_ne k3);omega⟩
  have ec:Hid (decide (cmp3 (N*2^k1) (D*2^k2) < 0)=c):=⟨by rw[←hc,g1.out,g2.out];unfold cmp3;grind⟩
  have hc:=Hid.mk hc
  have F:=Hid.mk (And.intro b1 (And.intro b2 (And.intro b3 (And.intro b4 (And.intro b5 (And.intro b6 b7))))));clear b1 b2 b3 b4 b5 b6 b7
  refine Spec.go [(2,.o [0,1,3,2,4,5,6]),(12,.o [0,1,2,4,5,7,8,9,11,12,15,16,3,6,10,13,14,17,18,19]),(14,.o [0,1,2,4,5,6,7,8,10,11,12,13,3,9,14,15,16])] Tryz.func26 rfl rfl (by kernel_rfl) fun C _=>?_
  try simp(disch:=omega) only[go_sem,Nat.reduceBEq,Nat.reduceAdd]
  refine caN (by exact kO) ?_;rintro _ h1 _ q1;obtain⟨_,_,_,rfl,q1⟩:=q1.sl
  try simp(disch:=omega) only[go_sem,Nat.reduceBEq,Nat.reduceAdd]
  refine caN (by exact kW) ?_;rintro _ h2 _ q2;obtain⟨_,_,_,rfl,q2⟩:=q2.sl
  try simp(disch:=omega) only[go_sem,Nat.reduceBEq,Nat.reduceAdd]
  refine caN (by exact Bits_spec (q1.to (h':=h2))) ?_;rintro v3 h3 s3 rfl
  try simp(disch:=omega) only[go_sem,Nat.reduceBEq,Nat.reduceAdd]
  refine caN (by exact Bits_spec (q2.to (h':=h3))) ?_;rintro v4 h4 s4 rfl
  try simp(disch:=omega) only[go_sem,Nat.reduceBEq,Nat.reduceAdd,e0,hk1,hk2]
  refine caN (by exact Shl_spec (n:=k1) (q1.to (h':=h4)) (by have:=F.out;omega)) ?_;rintro _ h5 _ q5;obtain⟨v5,_,_,rfl,q5⟩:=q5.sl
  try simp(disch:=omega) only[go_sem,Nat.reduceBEq,Nat.reduceAdd,hk2]
  refine caN (by exact Shl_spec (n:=k2) (q2.to (h':=h5)) (by have:=F.out;omega)) ?_;rintro _ h6 _ q6;obtain⟨v6,_,_,rfl,q6⟩:=q6.sl
  try simp(disch:=omega) only[go_sem,Nat.reduceBEq,Nat.reduceAdd]
  refine caN (by exact Cmp_spec (q5.to (h':=h6)) q6) ?_;rintro v7 h7 s7 rfl
  try simp(disch:=omega) only[go_sem,Nat.reduceBEq,Nat.reduceAdd,ec.out]
  have et:Hid (if c then lge0 N D - 1=lge N D else lge0 N D=lge N D):=⟨by
    have hc:=hc.out
    subst hc
    unfold lge
    by_cases hl:lgn N (lge0 N D) < lgd D (lge0 N D)
    · simp[hl]
    · simp[hl]⟩
  obtain⟨l1,l2⟩:=lgm_arg (n:=N) (d:=D) (w:=p+32) hp0
  obtain⟨l3,l4⟩:=lg2_arg (p+32)
  have l5:=Hid.mk (logL_le l1 l2)
  have l6:=Hid.mk (logL_le l3 l4)
  have l1:=Hid.mk l1
  have l2:=Hid.mk l2
  have l3:=Hid.mk l3
  have l4:=Hid.mk l4
  have gT:Hid (lgT N D (p+32)=(N*2^k3 - D*2^k4)*2^(p+32)):=⟨by unfold lgT;rw[g3.out,g4.out]⟩
  have gB:Hid (lgB N D=N*2^k3+D*2^k4):=⟨by unfold lgB;rw[g3.out,g4.out]⟩
  have u1:=bl_pow2 (p+32)
  have u2:bl 3=2:=by decide
  have F:=Hid.mk (And.intro F.out (And.intro u1 u2));clear u1 u2
  cases c
  · have et:lge0 N D=lge N D:=by simpa using et.out
    try simp(disch:=omega) only[go_sem,Nat.reduceBEq,Nat.reduceAdd,et,hk3]
    refine caN (by exact Shl_spec (n:=k3) (q1.to (h':=h7)) (by have:=F.out;omega)) ?_;rintro _ h8 _ q8;obtain⟨v8,_,_,rfl,q8⟩:=q8.sl
    try simp(disch:=omega) only[go_sem,Nat.reduceBEq,Nat.reduceAdd,et,hk4]
    refine caN (by exact Shl_spec (n:=k4) (q2.to (h':=h8)) (by have:=F.out;omega)) ?_;rintro _ h9 _ q9;obtain⟨v9,_,_,rfl,q9⟩:=q9.sl
    try simp(disch:=omega) only[go_sem,Nat.reduceBEq,Nat.reduceAdd]
    refine caN (by exact Sub_spec (q8.to (h':=h9)) q9 hs.out (by have:=F.out;omega)) ?_;rintro _ h10 _ q10;obtain⟨v10,_,_,rfl,q10⟩:=q10.sl
    try simp(disch:=omega) only[go_sem,Nat.reduceBEq,Nat.reduceAdd]
    refine caN (by exact Shl_spec (n:=p+32) q10 (show bl (N*2^k3 - D*2^k4)+(p+32)≤2^40 by have:=F.out;omega)) ?_;rintro _ h11 _ q11;obtain⟨v11,_,_,rfl,q11⟩:=q11.sl
    try simp(disch:=omega) only[go_sem,Nat.reduceBEq,Nat.reduceAdd]
    refine caN (by exact Add_spec (q8.to (h':=h11)) (q9.to (h':=h11)) (by have:=F.out;omega) (by have:=F.out;omega)) ?_;rintro _ h12 _ q12;obtain⟨v12,_,_,rfl,q12⟩:=q12.sl
    try simp(disch:=omega) only[go_sem,Nat.reduceBEq,Nat.reduceAdd]
    refine caN (by exact EOver_spec (c:=false) (q11.to (h':=h12)) q12 hB.out (show bl ((N*2^k3 - D*2^k4)*2^(p+32))≤2^36 by have:=F.out;omega) (show bl (N*2^k3+D*2^k4)≤2^36 by have:=F.out;omega)) ?_;rintro _ h13 _ q13;obtain⟨v13,v13_l,v13_c,rfl,q13⟩:=q13.sl
    try simp(disch:=omega) only[go_sem,Nat.reduceBEq,Nat.reduceAdd]
    refine caN (by exact EOver_spec (c:=true) (q11.to (h':=h13)) (q12.to (h':=h13)) hB.out (show bl ((N*2^k3 - D*2^k4)*2^(p+32))≤2^36 by have:=F.out;omega) (show bl (N*2^k3+D*2^k4)≤2^36 by have:=F.out;omega)) ?_;rintro _ h14 _ q14;obtain⟨v14,v14_l,v14_c,rfl,q14⟩:=q14.sl
    try simp(disch:=omega) only[go_sem,Nat.reduceBEq,Nat.reduceAdd]
    have q13:N32 h13 (.slice v13 v13_l v13_c) (lgT N D (p+32) / lgB N D):=by rw[gT.out,gB.out];exact q13
    have q14:N32 h14 (.slice v14 v14_l v14_c) (cdiv (lgT N D (p+32)) (lgB N D)):=by rw[gT.out,gB.out];exact q14
    refine caN (by exact ELogs_spec ⟨_,_,_,_,_,_,rfl,q13.to,q14⟩ l1.out l2.out (by have:=F.out;omega) (by have:=F.out;omega)) ?_;rintro v15 h15 s15 ⟨x1,m1,c1,y1,n1,d1,rfl,r1,r2⟩
    try simp(disch:=omega) only[go_sem,Nat.reduceBEq,Nat.reduceAdd]
    refine caN (by exact Unit_spec (w:=p+32) (by have:=F.out;omega)) ?_;rintro _ h16 _ q16;obtain⟨v16,_,_,rfl,q16⟩:=q16.sl
    try simp(disch:=omega) only[go_sem,Nat.reduceBEq,Nat.reduceAdd]
    refine caN (by exact Small_spec (n:=3) (by decide)) ?_;rintro _ h17 _ q17;obtain⟨_,_,_,rfl,q17⟩:=q17.sl
    try simp(disch:=omega) only[go_sem,Nat.reduceBEq,Nat.reduceAdd]
    refine caN (by exact EOver_spec (c:=false) (q16.to (h':=h17)) q17 (by decide) (by have:=F.out;omega) (by have:=F.out;omega)) ?_;rintro _ h18 _ q18;obtain⟨v18,v18_l,v18_c,rfl,q18⟩:=q18.sl
    try simp(disch:=omega) only[go_sem,Nat.reduceBEq,Nat.reduceAdd]
    refine caN (by exact Unit_spec (w:=p+32) (by have:=F.out;omega)) ?_;rintro _ h19 _ q19;obtain⟨v19,_,_,rfl,q19⟩:=q19.sl
    try simp(disch:=omega) only[go_sem,Nat.reduceBEq,Nat.reduceAdd]
    refine caN (by exact Small_spec (n:=3) (by decide)) ?_;rintro _ h20 _ q20;obtain⟨_,_,_,rfl,q20⟩:=q20.sl
    try simp(disch:=omega) only[go_sem,Nat.reduceBEq,Nat.reduceAdd]
    refine caN (by exact EOver_spec (c:=true) (q19.to (h':=h20)) q20 (by decide) (by have:=F.out;omega) (by have:=F.out;omega)) ?_;rintro _ h21 _ q21;obtain⟨v21,v21_l,v21_c,rfl,q21⟩:=q21.sl
    try simp(disch:=omega) only[go_sem,Nat.reduceBEq,Nat.reduceAdd]
    have q18:N32 h18 (.slice v18 v18_l v18_c) (2^(p+32) / 3):=q18
    have q21:N32 h21 (.slice v21 v21_l v21_c) (cdiv (2^(p+32)) 3):=q21
    refine caN (by exact ELogs_spec ⟨_,_,_,_,_,_,rfl,q18.to,q21⟩ l3.out l4.out (by have:=F.out;omega) (by have:=F.out;omega)) ?_;rintro v22 h22 s22 ⟨x2,m2,c2,y2,n2,d2,rfl,r3,r4⟩
    try simp(disch:=omega) only[go_sem,Nat.reduceBEq,Nat.reduceAdd]
    have r1:N32 h15 (.slice x1 m1 c1) (lgmL N D (p+32)):=r1
    have r2:N32 h15 (.slice y1 n1 d1) (lgmH N D (p+32)):=r2
    have r3:N32 h22 (.slice x2 m2 c2) (lg2L (p+32)):=r3
    have r4:N32 h22 (.slice y2 n2 d2) (lg2H (p+32)):=r4
    by_cases he:0≤lge N D
    · obtain⟨m,hm⟩:∃m:Nat,lge N D=(m:Int):=⟨_,(Int.toNat_of_nonneg he).symm⟩
      have bm:bl m≤11:=bl_le.2 (by have:=F.out;omega)
      have b10:=bl_112 l5.out.1
      have b11:=bl_112 l5.out.2
      have b12:=bl_112 l6.out.1
      have b13:=bl_112 l6.out.2
      have b14:=bl_mul (lg2L (p+32)) m
      have b15:=bl_mul (lg2H (p+32)) m
      have b16:=bl_add (lg2L (p+32)*m) (lgmL N D (p+32))
      have b17:=bl_add (lg2H (p+32)*m) (lgmH N D (p+32))
      have b18:=bl_div_le (lg2L (p+32)*m+lgmL N D (p+32)) (2^32)
      have b19:=bl_cdiv (lg2H (p+32)*m+lgmH N D (p+32)) (pow2_ne 32)
      have b10:bl (lgmL N D (p+32))≤p+32+8:=b10
      have b11:bl (lgmH N D (p+32))≤p+32+8:=b11
      have b12:bl (lg2L (p+32))≤p+32+8:=b12
      have b13:bl (lg2H (p+32))≤p+32+8:=b13
      have b20:bl (lg2L (p+32)*m+lgmL N D (p+32))≤2048:=by have:=F.out;omega
      have b21:bl (lg2H (p+32)*m+lgmH N D (p+32))≤2047:=by have:=F.out;omega
      have ep:p+32 - p=32:=by have:=F.out;omega
      have b22:Hid (bl ((lg2L (p+32)*m+lgmL N D (p+32)) / 2^(p+32 - p))≤2048):=⟨by rw[ep];exact Nat.le_trans b18 b20⟩
      have b23:Hid (bl (cdiv (lg2H (p+32)*m+lgmH N D (p+32)) (2^(p+32 - p)))≤2048):=⟨by rw[ep];omega⟩
      have eL:=Hid.mk (ln_pos (p:=p) hm)
      have ep:=Hid.mk ep
      clear b18 b19
      have hm2:m < 2^32:=by have:=F.out;omega
      have F:=Hid.mk (And.intro F.out (And.intro bm (And.intro b10 (And.intro b11 (And.intro b12 (And.intro b13 (And.intro b14 (And.intro b15 (And.intro b16 (And.intro b17 (And.intro b20 b21)))))))))));clear bm b10 b11 b12 b13 b14 b15 b16 b17 b20 b21
      try simp(disch:=omega) only[go_sem,Nat.reduceBEq,Nat.reduceAdd,et,hm]
      refine caN (by exact Small_spec (n:=m) (by have:=F.out;omega)) ?_;rintro _ g1 _ t1;obtain⟨w1,_,_,rfl,t1⟩:=t1.sl
      try simp(disch:=omega) only[go_sem,Nat.reduceBEq,Nat.reduceAdd]
      refine caN (by exact Mul_spec (r3.to (h':=g1)) t1 (show bl (lg2L (p+32))≤2^40 by have:=F.out;omega) (by have:=F.out;omega)) ?_;rintro _ g2 _ t2;obtain⟨w2,_,_,rfl,t2⟩:=t2.sl
      try simp(disch:=omega) only[go_sem,Nat.reduceBEq,Nat.reduceAdd]
      refine caN (by exact Add_spec t2 (r1.to (h':=g2)) (show bl (lg2L (p+32)*m)≤2^40 by have:=F.out;omega) (show bl (lgmL N D (p+32))≤2^40 by have:=F.out;omega)) ?_;rintro _ g3 _ t3;obtain⟨w3,_,_,rfl,t3⟩:=t3.sl
      try simp(disch:=omega) only[go_sem,Nat.reduceBEq,Nat.reduceAdd]
      refine caN (by exact Mul_spec (r4.to (h':=g3)) (t1.to (h':=g3)) (show bl (lg2H (p+32))≤2^40 by have:=F.out;omega) (by have:=F.out;omega)) ?_;rintro _ g4 _ t4;obtain⟨w4,_,_,rfl,t4⟩:=t4.sl
      try simp(disch:=omega) only[go_sem,Nat.reduceBEq,Nat.reduceAdd]
      refine caN (by exact Add_spec t4 (r2.to (h':=g4)) (show bl (lg2H (p+32)*m)≤2^40 by have:=F.out;omega) (show bl (lgmH N D (p+32))≤2^40 by have:=F.out;omega)) ?_;rintro _ g5 _ t5;obtain⟨w5,_,_,rfl,t5⟩:=t5.sl
      try simp(disch:=omega) only[go_sem,Nat.reduceBEq,Nat.reduceAdd]
      refine caN (by exact Bracket_spec (w:=p+32) (p:=p) (neg:=false) ⟨_,_,_,_,_,_,rfl,t3.to (h':=g5),t5⟩ (show bl (lg2L (p+32)*m+lgmL N D (p+32))≤2^30 by have:=F.out;omega) (show bl (lg2H (p+32)*m+lgmH N D (p+32))≤2^30 by have:=F.out;omega) (by have:=F.out;omega) (by have:=F.out;omega) (by have:=F.out;omega) b22.out b23.out) ?_;rintro w6 g6 z6 t6;obtain⟨_,_,_,_,_,_,_,_,_,_,_,_,_,_,rfl,t6,t7⟩:=t6
      try simp(disch:=omega) only[go_sem,Nat.reduceBEq,Nat.reduceAdd]
      rw[eL.out.1,eL.out.2]
      simp only[Bool.false_eq_true,if_false,ep.out] at t6 t7
      exact⟨_,_,_,_,_,_,_,_,_,_,_,_,_,_,rfl,t6,t7⟩
    · obtain⟨m,hm,hm'⟩:∃m:Nat,0 - lge N D=(m:Int)∧decide (0≤lge N D)=false:=⟨(0 - lge N D).toNat,by have:=F.out;omega,by simpa using he⟩
      have bm:bl m≤11:=bl_le.2 (by have:=F.out;omega)
      have b10:bl (lgmL N D (p+32))≤p+32+8:=bl_112 l5.out.1
      have b11:bl (lgmH N D (p+32))≤p+32+8:=bl_112 l5.out.2
      have b12:bl (lg2L (p+32))≤p+32+8:=bl_112 l6.out.1
      have b13:bl (lg2H (p+32))≤p+32+8:=bl_112 l6.out.2
      have b14:=bl_mul (lg2L (p+32)) m
      have b15:=bl_mul (lg2H (p+32)) m
      have y1':=sz_dif (a:=lgmL N D (p+32)) (b:=lg2H (p+32)*m) (w:=p+32) (k:=p+52) (by have:=F.out;omega) (by have:=F.out;omega) (by have:=F.out;omega)
      have y2':=sz_dif (a:=lgmH N D (p+32)) (b:=lg2L (p+32)*m) (w:=p+32) (k:=p+52) (by have:=F.out;omega) (by have:=F.out;omega) (by have:=F.out;omega)
      have y3':=sz_gd (sgn false (lgmL N D (p+32)) (2^(p+32))+ -sgn false (lg2H (p+32)*m) (2^(p+32))) p
      have y4':=sz_gu (sgn false (lgmH N D (p+32)) (2^(p+32))+ -sgn false (lg2L (p+32)*m) (2^(p+32))) p
      have y1:=Hid.mk (Nat.le_trans y1' (show 2*(p+52)+1≤2048 by have:=F.out;omega))
      have y2:=Hid.mk (Nat.le_trans y2' (show 2*(p+52)+1≤2048 by have:=F.out;omega))
      have y3:=Hid.mk (Nat.le_trans y3' (show _≤2048 by have:=F.out;omega))
      have y4:=Hid.mk (Nat.le_trans y4' (show _≤2048 by have:=F.out;omega))
      clear y1' y2' y3' y4'
      have eL:=Hid.mk (ln_neg (p:=p) hm he)
      have hm2:m < 2^32:=by have:=F.out;omega
      have F:=Hid.mk (And.intro F.out (And.intro bm (And.intro b10 (And.intro b11 (And.intro b12 (And.intro b13 (And.intro b14 b15)))))));clear bm b10 b11 b12 b13 b14 b15
      try simp(disch:=omega) only[go_sem,Nat.reduceBEq,Nat.reduceAdd,et,hm',hm]
      refine caN (by exact Small_spec (n:=m) (by have:=F.out;omega)) ?_;rintro _ g1 _ t1;obtain⟨w1,_,_,rfl,t1⟩:=t1.sl
      try simp(disch:=omega) only[go_sem,Nat.reduceBEq,Nat.reduceAdd]
      refine caN (by exact Mul_spec (r4.to (h':=g1)) t1 (show bl (lg2H (p+32))≤2^40 by have:=F.out;omega) (by have:=F.out;omega)) ?_;rintro _ g2 _ t2;obtain⟨w2,_,_,rfl,t2⟩:=t2.sl
      try simp(disch:=omega) only[go_sem,Nat.reduceBEq,Nat.reduceAdd]
      refine caN (by exact Mul_spec (r3.to (h':=g2)) (t1.to (h':=g2)) (show bl (lg2L (p+32))≤2^40 by have:=F.out;omega) (by have:=F.out;omega)) ?_;rintro _ g3 _ t3;obtain⟨w3,_,_,rfl,t3⟩:=t3.sl
      try simp(disch:=omega) only[go_sem,Nat.reduceBEq,Nat.reduceAdd]
      refine caN (by exact EBelow_spec (w:=p+32) (p:=p) (t2.to (h':=g3)) (r1.to (h':=g3)) t3 (r2.to (h':=g3)) (show bl (lg2H (p+32)*m)≤2048 by have:=F.out;omega) (show bl (lgmL N D (p+32))≤2048 by have:=F.out;omega) (show bl (lg2L (p+32)*m)≤2048 by have:=F.out;omega) (show bl (lgmH N D (p+32))≤2048 by have:=F.out;omega) (by have:=F.out;omega) (by have:=F.out;omega) y1.out y2.out y3.out y4.out) ?_;rintro w6 g6 z6 t6;obtain⟨_,_,_,_,_,_,_,_,_,_,_,_,_,_,rfl,t6,t7⟩:=t6
      try simp(disch:=omega) only[go_sem,Nat.reduceBEq,Nat.reduceAdd]
      rw[eL.out.1,eL.out.2]
      exact⟨_,_,_,_,_,_,_,_,_,_,_,_,_,_,rfl,t6,t7⟩
  · have et:lge0 N D - 1=lge N D:=by simpa using et.out
    try simp(disch:=omega) only[go_sem,Nat.reduceBEq,Nat.reduceAdd,et,hk3]
    refine caN (by exact Shl_spec (n:=k3) (q1.to (h':=h7)) (by have:=F.out;omega)) ?_;rintro _ h8 _ q8;obtain⟨v8,_,_,rfl,q8⟩:=q8.sl
    try simp(disch:=omega) only[go_sem,Nat.reduceBEq,Nat.reduceAdd,et,hk4]
    refine caN (by exact Shl_spec (n:=k4) (q2.to (h':=h8)) (by have:=F.out;omega)) ?_;rintro _ h9 _ q9;obtain⟨v9,_,_,rfl,q9⟩:=q9.sl
    try simp(disch:=omega) only[go_sem,Nat.reduceBEq,Nat.reduceAdd]
    refine caN (by exact Sub_spec (q8.to (h':=h9)) q9 hs.out (by have:=F.out;omega)) ?_;rintro _ h10 _ q10;obtain⟨v10,_,_,rfl,q10⟩:=q10.sl
    try simp(disch:=omega) only[go_sem,Nat.reduceBEq,Nat.reduceAdd]
    refine caN (by exact Shl_spec (n:=p+32) q10 (show bl (N*2^k3 - D*2^k4)+(p+32)≤2^40 by have:=F.out;omega)) ?_;rintro _ h11 _ q11;obtain⟨v11,_,_,rfl,q11⟩:=q11.sl
    try simp(disch:=omega) only[go_sem,Nat.reduceBEq,Nat.reduceAdd]
    refine caN (by exact Add_spec (q8.to (h':=h11)) (q9.to (h':=h11)) (by have:=F.out;omega) (by have:=F.out;omega)) ?_;rintro _ h12 _ q12;obtain⟨v12,_,_,rfl,q12⟩:=q12.sl
    try simp(disch:=omega) only[go_sem,Nat.reduceBEq,Nat.reduceAdd]
    refine caN (by exact EOver_spec (c:=false) (q11.to (h':=h12)) q12 hB.out (show bl ((N*2^k3 - D*2^k4)*2^(p+32))≤2^36 by have:=F.out;omega) (show bl (N*2^k3+D*2^k4)≤2^36 by have:=F.out;omega)) ?_;rintro _ h13 _ q13;obtain⟨v13,v13_l,v13_c,rfl,q13⟩:=q13.sl
    try simp(disch:=omega) only[go_sem,Nat.reduceBEq,Nat.reduceAdd]
    refine caN (by exact EOver_spec (c:=true) (q11.to (h':=h13)) (q12.to (h':=h13)) hB.out (show bl ((N*2^k3 - D*2^k4)*2^(p+32))≤2^36 by have:=F.out;omega) (show bl (N*2^k3+D*2^k4)≤2^36 by have:=F.out;omega)) ?_;rintro _ h14 _ q14;obtain⟨v14,v14_l,v14_c,rfl,q14⟩:=q14.sl
    try simp(disch:=omega) only[go_sem,Nat.reduceBEq,Nat.reduceAdd]
    have q13:N32 h13 (.slice v13 v13_l v13_c) (lgT N D (p+32) / lgB N D):=by rw[gT.out,gB.out];exact q13
    have q14:N32 h14 (.slice v14 v14_l v14_c) (cdiv (lgT N D (p+32)) (lgB N D)):=by rw[gT.out,gB.out];exact q14
    refine caN (by exact ELogs_spec ⟨_,_,_,_,_,_,rfl,q13.to,q14⟩ l1.out l2.out (by have:=F.out;omega) (by have:=F.out;omega)) ?_;rintro v15 h15 s15 ⟨x1,m1,c1,y1,n1,d1,rfl,r1,r2⟩
    try simp(disch:=omega) only[go_sem,Nat.reduceBEq,Nat.reduceAdd]
    refine caN (by exact Unit_spec (w:=p+32) (by have:=F.out;omega)) ?_;rintro _ h16 _ q16;obtain⟨v16,_,_,rfl,q16⟩:=q16.sl
    try simp(disch:=omega) only[go_sem,Nat.reduceBEq,Nat.reduceAdd]
    refine caN (by exact Small_spec (n:=3) (by decide)) ?_;rintro _ h17 _ q17;obtain⟨_,_,_,rfl,q17⟩:=q17.sl
    try simp(disch:=omega) only[go_sem,Nat.reduceBEq,Nat.reduceAdd]
    refine caN (by exact EOver_spec (c:=false) (q16.to (h':=h17)) q17 (by decide) (by have:=F.out;omega) (by have:=F.out;omega)) ?_;rintro _ h18 _ q18;obtain⟨v18,v18_l,v18_c,rfl,q18⟩:=q18.sl
    try simp(disch:=omega) only[go_sem,Nat.reduceBEq,Nat.reduceAdd]
    refine caN (by exact Unit_spec (w:=p+32) (by have:=F.out;omega)) ?_;rintro _ h19 _ q19;obtain⟨v19,_,_,rfl,q19⟩:=q19.sl
    try simp(disch:=omega) only[go_sem,Nat.reduceBEq,Nat.reduceAdd]
    refine caN (by exact Small_spec (n:=3) (by decide)) ?_;rintro _ h20 _ q20;obtain⟨_,_,_,rfl,q20⟩:=q20.sl
    try simp(disch:=omega) only[go_sem,Nat.reduceBEq,Nat.reduceAdd]
    refine caN (by exact EOver_spec (c:=true) (q19.to (h':=h20)) q20 (by decide) (by have:=F.out;omega) (by have:=F.out;omega)) ?_;rintro _ h21 _ q21;obtain⟨v21,v21_l,v21_c,rfl,q21⟩:=q21.sl
    try simp(disch:=omega) only[go_sem,Nat.reduceBEq,Nat.reduceAdd]
    have q18:N32 h18 (.slice v18 v18_l v18_c) (2^(p+32) / 3):=q18
    have q21:N32 h21 (.slice v21 v21_l v21_c) (cdiv (2^(p+32)) 3):=q21
    refine caN (by exact ELogs_spec ⟨_,_,_,_,_,_,rfl,q18.to,q21⟩ l3.out l4.out (by have:=F.out;omega) (by have:=F.out;omega)) ?_;rintro v22 h22 s22 ⟨x2,m2,c2,y2,n2,d2,rfl,r3,r4⟩
    try simp(disch:=omega) only[go_sem,Nat.reduceBEq,Nat.reduceAdd]
    have r1:N32 h15 (.slice x1 m1 c1) (lgmL N D (p+32)):=r1
    have r2:N32 h15 (.slice y1 n1 d1) (lgmH N D (p+32)):=r2
    have r3:N32 h22 (.slice x2 m2 c2) (lg2L (p+32)):=r3
    have r4:N32 h22 (.slice y2 n2 d2) (lg2H (p+32)):=r4
    by_cases he:0≤lge N D
    · obtain⟨m,hm⟩:∃m:Nat,lge N D=(m:Int):=⟨_,(Int.toNat_of_nonneg he).symm⟩
      have bm:bl m≤11:=bl_le.2 (by have:=F.out;omega)
      have b10:=bl_112 l5.out.1
      have b11:=bl_112 l5.out.2
      have b12:=bl_112 l6.out.1
      have b13:=bl_112 l6.out.2
      have b14:=bl_mul (lg2L (p+32)) m
      have b15:=bl_mul (lg2H (p+32)) m
      have b16:=bl_add (lg2L (p+32)*m) (lgmL N D (p+32))
      have b17:=bl_add (lg2H (p+32)*m) (lgmH N D (p+32))
      have b18:=bl_div_le (lg2L (p+32)*m+lgmL N D (p+32)) (2^32)
      have b19:=bl_cdiv (lg2H (p+32)*m+lgmH N D (p+32)) (pow2_ne 32)
      have b10:bl (lgmL N D (p+32))≤p+32+8:=b10
      have b11:bl (lgmH N D (p+32))≤p+32+8:=b11
      have b12:bl (lg2L (p+32))≤p+32+8:=b12
      have b13:bl (lg2H (p+32))≤p+32+8:=b13
      have b20:bl (lg2L (p+32)*m+lgmL N D (p+32))≤2048:=by have:=F.out;omega
      have b21:bl (lg2H (p+32)*m+lgmH N D (p+32))≤2047:=by have:=F.out;omega
      have ep:p+32 - p=32:=by have:=F.out;omega
      have b22:Hid (bl ((lg2L (p+32)*m+lgmL N D (p+32)) / 2^(p+32 - p))≤2048):=⟨by rw[ep];exact Nat.le_trans b18 b20⟩
      have b23:Hid (bl (cdiv (lg2H (p+32)*m+lgmH N D (p+32)) (2^(p+32 - p)))≤2048):=⟨by rw[ep];omega⟩
      have eL:=Hid.mk (ln_pos (p:=p) hm)
      have ep:=Hid.mk ep
      clear b18 b19
      have hm2:m < 2^32:=by have:=F.out;omega
      have F:=Hid.mk (And.intro F.out (And.intro bm (And.intro b10 (And.intro b11 (And.intro b12 (And.intro b13 (And.intro b14 (And.intro b15 (And.intro b16 (And.intro b17 (And.intro b20 b21)))))))))));clear bm b10 b11 b12 b13 b14 b15 b16 b17 b20 b21
      try simp(disch:=omega) only[go_sem,Nat.reduceBEq,Nat.reduceAdd,et,hm]
      refine caN (by exact Small_spec (n:=m) (by have:=F.out;omega)) ?_;rintro _ g1 _ t1;obtain⟨w1,_,_,rfl,t1⟩:=t1.sl
      try simp(disch:=omega) only[go_sem,Nat.reduceBEq,Nat.reduceAdd]
      refine caN (by exact Mul_spec (r3.to (h':=g1)) t1 (show bl (lg2L (p+32))≤2^40 by have:=F.out;omega) (by have:=F.out;omega)) ?_;rintro _ g2 _ t2;obtain⟨w2,_,_,rfl,t2⟩:=t2.sl
      try simp(disch:=omega) only[go_sem,Nat.reduceBEq,Nat.reduceAdd]
      refine caN (by exact Add_spec t2 (r1.to (h':=g2)) (show bl (lg2L (p+32)*m)≤2^40 by have:=F.out;omega) (show bl (lgmL N D (p+32))≤2^40 by have:=F.out;omega)) ?_;rintro _ g3 _ t3;obtain⟨w3,_,_,rfl,t3⟩:=t3.sl
      try simp(disch:=omega) only[go_sem,Nat.reduceBEq,Nat.reduceAdd]
      refine caN (by exact Mul_spec (r4.to (h':=g3)) (t1.to (h':=g3)) (show bl (lg2H (p+32))≤2^40 by have:=F.out;omega) (by have:=F.out;omega)) ?_;rintro _ g4 _ t4;obtain⟨w4,_,_,rfl,t4⟩:=t4.sl
      try simp(disch:=omega) only[go_sem,Nat.reduceBEq,Nat.reduceAdd]
      refine caN (by exact Add_spec t4 (r2.to (h':=g4)) (show bl (lg2H (p+32)*m)≤2^40 by have:=F.out;omega) (show bl (lgmH N D (p+32))≤2^40 by have:=F.out;omega)) ?_;rintro _ g5 _ t5;obtain⟨w5,_,_,rfl,t5⟩:=t5.sl
      try simp(disch:=omega) only[go_sem,Nat.reduceBEq,Nat.reduceAdd]
      refine caN (by exact Bracket_spec (w:=p+32) (p:=p) (neg:=false) ⟨_,_,_,_,_,_,rfl,t3.to (h':=g5),t5⟩ (show bl (lg2L (p+32)*m+lgmL N D (p+32))≤2^30 by have:=F.out;omega) (show bl (lg2H (p+32)*m+lgmH N D (p+32))≤2^30 by have:=F.out;omega) (by have:=F.out;omega) (by have:=F.out;omega) (by have:=F.out;omega) b22.out b23.out) ?_;rintro w6 g6 z6 t6;obtain⟨_,_,_,_,_,_,_,_,_,_,_,_,_,_,rfl,t6,t7⟩:=t6
      try simp(disch:=omega) only[go_sem,Nat.reduceBEq,Nat.reduceAdd]
      rw[eL.out.1,eL.out.2]
      simp only[Bool.false_eq_true,if_false,ep.out] at t6 t7
      exact⟨_,_,_,_,_,_,_,_,_,_,_,_,_,_,rfl,t6,t7⟩
    · obtain⟨m,hm,hm'⟩:∃m:Nat,0 - lge N D=(m:Int)∧decide (0≤lge N D)=false:=⟨(0 - lge N D).toNat,by have:=F.out;omega,by simpa using he⟩
      have bm:bl m≤11:=bl_le.2 (by have:=F.out;omega)
      have b10:bl (lgmL N D (p+32))≤p+32+8:=bl_112 l5.out.1
      have b11:bl (lgmH N D (p+32))≤p+32+8:=bl_112 l5.out.2
      have b12:bl (lg2L (p+32))≤p+32+8:=bl_112 l6.out.1
      have b13:bl (lg2H (p+32))≤p+32+8:=bl_112 l6.out.2
      have b14:=bl_mul (lg2L (p+32)) m
      have b15:=bl_mul (lg2H (p+32)) m
      have y1':=sz_dif (a:=lgmL N D (p+32)) (b:=lg2H (p+32)*m) (w:=p+32) (k:=p+52) (by have:=F.out;omega) (by have:=F.out;omega) (by have:=F.out;omega)
      have y2':=sz_dif (a:=lgmH N D (p+32)) (b:=lg2L (p+32)*m) (w:=p+32) (k:=p+52) (by have:=F.out;omega) (by have:=F.out;omega) (by have:=F.out;omega)
      have y3':=sz_gd (sgn false (lgmL N D (p+32)) (2^(p+32))+ -sgn false (lg2H (p+32)*m) (2^(p+32))) p
      have y4':=sz_gu (sgn false (lgmH N D (p+32)) (2^(p+32))+ -sgn false (lg2L (p+32)*m) (2^(p+32))) p
      have y1:=Hid.mk (Nat.le_trans y1' (show 2*(p+52)+1≤2048 by have:=F.out;omega))
      have y2:=Hid.mk (Nat.le_trans y2' (show 2*(p+52)+1≤2048 by have:=F.out;omega))
      have y3:=Hid.mk (Nat.le_trans y3' (show _≤2048 by have:=F.out;omega))
      have y4:=Hid.mk (Nat.le_trans y4' (show _≤2048 by have:=F.out;omega))
      clear y1' y2' y3' y4'
      have eL:=Hid.mk (ln_neg (p:=p) hm he)
      have hm2:m < 2^32:=by have:=F.out;omega
      have F:=Hid.mk (And.intro F.out (And.intro bm (And.intro b10 (And.intro b11 (And.intro b12 (And.intro b13 (And.intro b14 b15)))))));clear bm b10 b11 b12 b13 b14 b15
      try simp(disch:=omega) only[go_sem,Nat.reduceBEq,Nat.reduceAdd,et,hm',hm]
      refine caN (by exact Small_spec (n:=m) (by have:=F.out;omega)) ?_;rintro _ g1 _ t1;obtain⟨w1,_,_,rfl,t1⟩:=t1.sl
      try simp(disch:=omega) only[go_sem,Nat.reduceBEq,Nat.reduceAdd]
      refine caN (by exact Mul_spec (r4.to (h':=g1)) t1 (show bl (lg2H (p+32))≤2^40 by have:=F.out;omega) (by have:=F.out;omega)) ?_;rintro _ g2 _ t2;obtain⟨w2,_,_,rfl,t2⟩:=t2.sl
      try simp(disch:=omega) only[go_sem,Nat.reduceBEq,Nat.reduceAdd]
      refine caN (by exact Mul_spec (r3.to (h':=g2)) (t1.to (h':=g2)) (show bl (lg2L (p+32))≤2^40 by have:=F.out;omega) (by have:=F.out;omega)) ?_;rintro _ g3 _ t3;obtain⟨w3,_,_,rfl,t3⟩:=t3.sl
      try simp(disch:=omega) only[go_sem,Nat.reduceBEq,Nat.reduceAdd]
      refine caN (by exact EBelow_spec (w:=p+32) (p:=p) (t2.to (h':=g3)) (r1.to (h':=g3)) t3 (r2.to (h':=g3)) (show bl (lg2H (p+32)*m)≤2048 by have:=F.out;omega) (show bl (lgmL N D (p+32))≤2048 by have:=F.out;omega) (show bl (lg2L (p+32)*m)≤2048 by have:=F.out;omega) (show bl (lgmH N D (p+32))≤2048 by have:=F.out;omega) (by have:=F.out;omega) (by have:=F.out;omega) y1.out y2.out y3.out y4.out) ?_;rintro w6 g6 z6 t6;obtain⟨_,_,_,_,_,_,_,_,_,_,_,_,_,_,rfl,t6,t7⟩:=t6
      try simp(disch:=omega) only[go_sem,Nat.reduceBEq,Nat.reduceAdd]
      rw[eL.out.1,eL.out.2]
      exact⟨_,_,_,_,_,_,_,_,_,_,_,_,_,_,rfl,t6,t7⟩
end Go.Q
namespace Go.Q
open Go.Proofs
set_option maxRecDepth 100000
set_option maxHeartbeats 8000000
theorem W_1 {m:Nat} (h0:m≠0) (h:m < 4294967296):W 4294967296 m=[m]:=by
  rw[W_pos (by decide) h0,Nat.mod_eq_of_lt h,Nat.div_eq_of_lt h,W_zero]
theorem N32.one {h:PH} {a:Option Addr} {l c m:Nat} (r:N32 h (.slice a l c) m) (h0:m≠0) (hm:m < 4294967296):∃ad,a=some ad∧l=1∧h.at (ad.add 0)=some (.int .u32 m):=by
  obtain⟨a',c',e,r⟩:=r
  cases e
  rw[W_1 h0 hm] at r ⊢
  obtain⟨ad,rfl,e⟩:=r.get (i:=0) (by simp)
  exact⟨ad,rfl,rfl,e⟩
def mt (a b r:Int):Bool:=decide (a+(r - a) % 4≤b)
theorem num_bd {x:Rat} (h:¬x.den*4294967296 < x.num.natAbs): -4294967296≤x∧x≤4294967296:=by
  have e:x=mkRat x.num x.den:=(Rat.mkRat_self x).symm
  have hd:(0:Rat) < (x.den:Rat):=by exact_mod_cast x.den_pos
  have e2:x*(x.den:Rat)=(x.num:Rat):=by
    have key:∀(d n y:Rat),d≠0→y=n / d→y*d=n:=fun d n y hd hy=>by rw[hy];exact Rat.div_mul_cancel hd
    have:=Rat.mkRat_eq_div x.num x.den
    rw[←e] at this
    exact key _ _ _ (Rat.ne_of_gt hd) this
  have k1:(x.num:Rat)≤4294967296*(x.den:Rat):=by
    have h1:x.num≤4294967296*(x.den:Int):=by omega
    have h2:=Rat.intCast_le_intCast.2 h1
    rw[Rat.intCast_mul] at h2
    exact h2
  have k2: -(4294967296*(x.den:Rat))≤(x.num:Rat):=by
    have h1: -(4294967296*(x.den:Int))≤x.num:=by omega
    have h2:=Rat.intCast_le_intCast.2 h1
    rw[Rat.intCast_neg,Rat.intCast_mul] at h2
    exact h2
  rw[←e2] at k1 k2
  constructor
  · refine Decidable.byContradiction fun hc=>?_
    have:=Rat.mul_lt_mul_of_pos_right (show x < -4294967296 by grind) hd
    grind
  · refine Decidable.byContradiction fun hc=>?_
    have:=Rat.mul_lt_mul_of_pos_right (show 4294967296 < x by grind) hd
    grind
theorem quo_bd {x y:Rat} (hx: -4294967296≤x∧x≤4294967296) (hy:3 / 2≤y): -2863311531≤x*y⁻¹∧x*y⁻¹≤2863311531:=by
  have y0:y≠0:=by grind
  have e:x*y⁻¹*y=x:=by rw[Rat.mul_assoc,Rat.inv_mul_cancel _ y0,Rat.mul_one]
  generalize x*y⁻¹=q at*
  have key:∀p:Rat,2863311531 < p→¬p*y≤4294967296:=by
    intro p hp hc
    have h1:p*(3 / 2)≤p*y:=Rat.mul_le_mul_of_nonneg_left hy (by grind)
    have h2:2863311531*(3 / 2)≤p*(3 / 2):=Rat.mul_le_mul_of_nonneg_right (by grind) (by decide+kernel)
    grind
  constructor
  · refine Decidable.byContradiction fun hc=>key (-q) (by grind) (by rw[Rat.neg_mul,e];grind)
  · refine Decidable.byContradiction fun hc=>key q (by grind) (by rw[e];exact hx.2)
theorem floor_bd {q:Rat} {c:Int} (h: -(c:Rat)≤q∧q≤(c:Rat)): -c≤q.floor∧q.floor≤c:=by
  constructor
  · rw[Rat.le_floor_iff]
    exact_mod_cast h.1
  · have:=Rat.le_trans (Rat.floor_le q) h.2
    exact_mod_cast this
end Go.Q
namespace Go.Q
inductive NS where
  |e
  |i (lo hi:Option Rat)
def ordO:Option Rat→Option Rat→Bool
  |some x,some y=>!decide (y < x)
  |_,_=>true
namespace NS
def void:NS→Bool
  |.e=>true
  |_=>false
def ok:NS→Prop
  |.e=>True
  |.i a b=>ordO a b=true
def all (f:Rat→Bool):NS→Bool
  |.e=>true
  |.i a b=>a.all f && b.all f
def le (k:Nat) (x:NS):Prop:=x.all (fun q=>decide (sz q≤k))=true
instance (k:Nat) (x:NS):Decidable (x.le k):=by unfold le;infer_instance
def slo:NS→Int
  |.e=>0
  | .i a _=>match a with
    |none=>-1
    |some q=>sgn3 q
def shi:NS→Int
  |.e=>0
  | .i _ b=>match b with
    |none=>1
    |some q=>sgn3 q
def zero (x:NS):Bool:=!x.void && decide (x.slo≤0) && decide (0≤x.shi)
def lowIn:Option Rat→Option Rat→Bool
  |none,_=>true
  |some _,none=>false
  |some c,some a=>!decide (a < c)
def highIn:Option Rat→Option Rat→Bool
  |none,_=>true
  |some _,none=>false
  |some d,some b=>!decide (d < b)
def within:NS→NS→Bool
  |.e,_=>true
  |_,.e=>false
  |.i a b,.i c d=>lowIn c a && highIn d b
def has:NS→Rat→Bool
  |.e,_=>false
  |.i a b,q=>a.all (fun x=>!decide (q < x)) && b.all (fun x=>!decide (x < q))
end NS
end Go.Q
namespace Go.Q
namespace NS
theorem has_i {a b:Option Rat} {q:Rat}:(NS.i a b).has q=true↔(∀x,a=some x→x≤q)∧(∀x,b=some x→q≤x):=by
  cases a<;>cases b<;>simp[has]<;>grind
theorem ne_has {a b:Option Rat} (h:ordO a b=true):∃q,(NS.i a b).has q=true:=by
  cases a with
  | none=>cases b with
    |none=>exact⟨0,by simp[has]⟩
    |some b=>exact⟨b,by simp[has]<;>grind⟩
  | some a=>cases b with
    |none=>exact⟨a,by simp[has]<;>grind⟩
    |some b=>exact⟨a,by simp[ordO] at h;simp[has];grind⟩
theorem low_has {b:Option Rat} (c:Rat):∃q,q < c∧(NS.i none b).has q=true:=by
  cases b with
  |none=>exact⟨c - 1,by grind,by simp[has]⟩
  |some b=>exact⟨min (c - 1) b,by grind,by simp[has]<;>grind⟩
theorem high_has {a:Option Rat} (c:Rat):∃q,c < q∧(NS.i a none).has q=true:=by
  cases a with
  |none=>exact⟨c+1,by grind,by simp[has]⟩
  |some a=>exact⟨max (c+1) a,by grind,by simp[has]<;>grind⟩
theorem lo_has {a:Rat} {b:Option Rat} (h:ordO (some a) b=true):(NS.i (some a) b).has a=true:=by
  cases b with
  |none=>simp[has]<;>grind
  |some b=>simp[ordO] at h;simp[has];grind
theorem hi_has {a:Option Rat} {b:Rat} (h:ordO a (some b)=true):(NS.i a (some b)).has b=true:=by
  cases a with
  |none=>simp[has]<;>grind
  |some a=>simp[ordO] at h;simp[has];grind
theorem within_iff {x y:NS} (hx:x.ok):x.within y=true↔∀q,x.has q=true→y.has q=true:=by
  cases x with
  |e=>simp[within,has]
  | i a b =>
    cases y with
    | e=>
      obtain⟨q,hq⟩:=ne_has hx
      simp only[within,has,Bool.false_eq_true,false_iff]
      exact fun h=>h q hq
    | i c d =>
      constructor
      · intro h q hq
        rw[has_i] at hq ⊢
        cases a<;>cases b<;>cases c<;>cases d<;>simp[within,lowIn,highIn] at h hq ⊢<;>grind
      · intro h
        have h1:lowIn c a=true:=by
          cases c with
          |none=>rfl
          | some c=>cases a with
            | none=>
              obtain⟨q,hc,hq⟩:=low_has (b:=b) c
              have:=has_i.1 (h q hq)
              have:=this.1 c rfl
              grind
            | some a=>
              have:=has_i.1 (h a (lo_has hx))
              have:=this.1 c rfl
              simp[lowIn,highIn];grind
        have h2:highIn d b=true:=by
          cases d with
          |none=>rfl
          | some d=>cases b with
            | none=>
              obtain⟨q,hc,hq⟩:=high_has (a:=a) d
              have:=has_i.1 (h q hq)
              have:=this.2 d rfl
              grind
            | some b=>
              have:=has_i.1 (h b (hi_has hx))
              have:=this.2 d rfl
              simp[lowIn,highIn];grind
        simp only[within,h1,h2,Bool.and_self]
theorem anti {x y:NS} (hx:x.ok) (hy:y.ok) (h1:x.within y=true) (h2:y.within x=true):x=y:=by
  cases x with
  | e=>cases y with
    |e=>rfl
    |i c d=>cases h2
  | i a b=>cases y with
    |e=>cases h1
    | i c d=>
      cases a<;>cases b<;>cases c<;>cases d<;>simp[within,lowIn,highIn] at h1 h2 ⊢<;>grind
theorem ext {x y:NS} (hx:x.ok) (hy:y.ok) (h:∀q,x.has q=y.has q):x=y:=
  anti hx hy ((within_iff hx).2 fun q k=>by rw[←h];exact k) ((within_iff hy).2 fun q k=>by rw[h];exact k)
end NS
theorem pow2_pos (p:Nat):(0:Rat) < 2^p:=Rat.pow_pos (by decide)
theorem div_le' {a b c:Rat} (hb:0 < b):a / b≤c↔a≤c*b:=by
  have:=Rat.lt_div_iff (a:=c) (b:=a) hb
  grind
theorem gdown_le (x:Rat) (p:Nat):gdown x p≤x:=by
  unfold gdown
  have h:=Rat.floor_le (x*2^p)
  rw[div_le' (pow2_pos p)]
  exact h
theorem gdown_mono {x y:Rat} (p:Nat) (h:x≤y):gdown x p≤gdown y p:=by
  unfold gdown
  have h1:x*2^p≤y*2^p:=Rat.mul_le_mul_of_nonneg_right h (Rat.le_of_lt (pow2_pos p))
  have h2:(x*2^p).floor≤(y*2^p).floor:=Rat.le_floor_iff.2 (Rat.le_trans (Rat.floor_le _) h1)
  rw[div_le' (pow2_pos p),Rat.div_mul_cancel (by have:=pow2_pos p;grind)]
  exact_mod_cast h2
theorem gup_neg (x:Rat) (p:Nat):gup (-x) p= -gdown x p:=by
  unfold gup gdown
  rw[Rat.neg_mul,Rat.ceil_eq_neg_floor_neg,Rat.neg_neg,Rat.intCast_neg,Rat.div_def,Rat.neg_mul,←Rat.div_def]
theorem gdown_neg (x:Rat) (p:Nat):gdown (-x) p= -gup x p:=by
  have:=gup_neg (-x) p
  rw[Rat.neg_neg] at this
  rw[this,Rat.neg_neg]
theorem gup_eq (x:Rat) (p:Nat):gup x p= -gdown (-x) p:=by rw[gdown_neg,Rat.neg_neg]
theorem le_gup (x:Rat) (p:Nat):x≤gup x p:=by
  have:=gdown_le (-x) p
  rw[gup_eq];grind
namespace NS
end NS
end Go.Q
namespace Go.Q
open Go.Proofs
set_option maxRecDepth 100000
set_option maxHeartbeats 8000000
def piFine (w:Nat):Bool:=Nat.ble (piH w*5) (16*2^w) && Nat.ble (piH w) (piL w+1024)
theorem piFine_all:((List.range 129).all fun i=>piFine (i+64))=true:=by decide+kernel
theorem pi_fine {w:Nat} (h1:64≤w) (h2:w≤192):piH w*5≤16*2^w∧piH w≤piL w+1024:=by
  have h:=List.all_eq_true.1 piFine_all (w - 64) (List.mem_range.2 (by omega))
  rw[show w - 64+64=w by omega] at h
  simpa[piFine] using h
def fW (w:Nat):Rat:=sgn false (piL w) (2^(w+1))
def gW (w:Nat):Rat:=sgn false (piH w) (2^(w+1))
theorem sgn_u (n w:Nat):sgn false n (2^w)*((2^w:Nat):Rat)=(n:Rat):=by
  have hd:((2^w:Nat):Rat)≠0:=by exact_mod_cast pow2_ne w
  unfold sgn
  rw[Rat.mkRat_eq_div]
  show((n:Int):Rat) / ((2^w:Nat):Rat)*((2^w:Nat):Rat)=_
  rw[Rat.div_mul_cancel hd]
  rfl
theorem u_pos (w:Nat):(0:Rat) < ((2^w:Nat):Rat):=by exact_mod_cast Nat.pow_pos (by decide)
theorem fW_bd {w:Nat} (h1:64≤w) (h2:w≤192):3 / 2≤fW w∧fW w≤gW w∧gW w≤8 / 5∧(gW w - fW w)*18014398509481984≤1:=by
  obtain⟨a1,a2,a3⟩:=piL_ge (w:=w) (by omega) h2
  obtain⟨a4,a5⟩:=pi_fine h1 h2
  have e1:=sgn_u (piL w) (w+1)
  have e2:=sgn_u (piH w) (w+1)
  have hp:=u_pos (w+1)
  have eu:((2^(w+1):Nat):Rat)=((2^w:Nat):Rat)*2:=by rw[Nat.pow_succ];push_cast;rfl
  have b1:(3:Rat)*((2^w:Nat):Rat)≤(piL w:Rat):=by exact_mod_cast a1
  have b2:(piL w:Rat)≤(piH w:Rat):=by exact_mod_cast Nat.le_of_lt a2
  have b3:(piH w:Rat)*5≤16*((2^w:Nat):Rat):=by exact_mod_cast a4
  have b4:(piH w:Rat)≤(piL w:Rat)+1024:=by exact_mod_cast a5
  have b5:(18446744073709551616:Rat)≤((2^w:Nat):Rat):=by
    have:2^64≤2^w:=Nat.pow_le_pow_right (by decide) h1
    exact_mod_cast this
  unfold fW gW
  generalize sgn false (piL w) (2^(w+1))=f at*
  generalize sgn false (piH w) (2^(w+1))=g at*
  rw[←e1] at b1 b2 b4
  rw[←e2] at b2 b3 b4
  rw[eu] at e1 e2 b1 b2 b3 b4 hp
  generalize((2^w:Nat):Rat)=u at*
  clear e1 e2 eu a1 a2 a3 a4 a5
  have hu:(0:Rat) < u:=by grind
  refine⟨?_,?_,?_,?_⟩
  · exact Rat.le_of_mul_le_mul_right (by grind) hu
  · exact Rat.le_of_mul_le_mul_right (by grind) hp
  · exact Rat.le_of_mul_le_mul_right (by grind) hp
  · have:(g - f)*(u*2)≤1024:=by grind
    have h0:0≤g - f:=by
      have:f≤g:=Rat.le_of_mul_le_mul_right (by grind) hp
      grind
    have:=Rat.mul_le_mul_of_nonneg_left b5 h0
    grind
def rsK (x:Rat) (w:Nat):Int:=(x*(fW w)⁻¹+1 / 2).floor
def rsA (x:Rat) (w:Nat):Rat:=gdown (x+ -((rsK x w:Rat)*(if rsK x w < 0 then fW w else gW w))) w
def rsB (x:Rat) (w:Nat):Rat:=gup (x+ -((rsK x w:Rat)*(if rsK x w < 0 then gW w else fW w))) w
theorem rsK_bd {x:Rat} {w:Nat} (h1:64≤w) (h2:w≤192) (hx: -4294967296≤x∧x≤4294967296): -2863311532≤rsK x w∧rsK x w≤2863311532:=by
  obtain⟨a1,_,_,_⟩:=fW_bd h1 h2
  obtain⟨b1,b2⟩:=quo_bd hx a1
  have e:((2863311532:Int):Rat)=2863311532:=rfl
  exact floor_bd (c:=2863311532) (by rw[e];constructor<;>grind)
theorem gd_ge_int {x:Rat} {z:Int} {w:Nat} (h:(z:Rat)≤x):(z:Rat)≤gdown x w:=by
  have e:gdown (z:Rat) w=(z:Rat):=by
    unfold gdown
    have hp:=pow2_pos w
    rw[show(z:Rat)*2^w=((z*2^w:Int):Rat) by push_cast;rfl,Rat.floor_intCast]
    push_cast
    rw[Rat.div_def,Rat.mul_assoc,Rat.mul_inv_cancel _ (by grind),Rat.mul_one]
  rw[←e]
  exact gdown_mono w h
theorem gu_le_int {x:Rat} {z:Int} {w:Nat} (h:x≤(z:Rat)):gup x w≤(z:Rat):=by
  rw[gup_eq]
  have:=gd_ge_int (x:=-x) (z:=-z) (w:=w) (by push_cast;grind)
  push_cast at this
  grind
theorem rs_mid {x:Rat} {w:Nat} (h1:64≤w) (h2:w≤192) (hx: -4294967296≤x∧x≤4294967296):
    -1≤x+ -((rsK x w:Rat)*(if rsK x w < 0 then fW w else gW w))∧x+ -((rsK x w:Rat)*(if rsK x w < 0 then fW w else gW w))≤x+ -((rsK x w:Rat)*(if rsK x w < 0 then gW w else fW w))∧x+ -((rsK x w:Rat)*(if rsK x w < 0 then gW w else fW w))≤1:=by
  obtain⟨a1,a2,a3,a4⟩:=fW_bd h1 h2
  obtain⟨k1,k2⟩:=rsK_bd h1 h2 hx
  have l1:=Rat.floor_le (x*(fW w)⁻¹+1 / 2)
  have l2:=Rat.lt_floor_add_one (x*(fW w)⁻¹+1 / 2)
  have e:x*(fW w)⁻¹*fW w=x:=by rw[Rat.mul_assoc,Rat.inv_mul_cancel _ (by grind),Rat.mul_one]
  have k1':(-2863311532:Rat)≤(rsK x w:Rat):=Rat.intCast_le_intCast.2 k1
  have k2':(rsK x w:Rat)≤(2863311532:Rat):=Rat.intCast_le_intCast.2 k2
  have ks:rsK x w < 0↔(rsK x w:Rat) < 0:=by
    have:=@Rat.intCast_lt_intCast (rsK x w) 0
    simpa using this.symm
  unfold rsK at*
  generalize hk:(x*(fW w)⁻¹+1 / 2).floor=k at*
  clear hk
  generalize(fW w)⁻¹=i at*
  generalize fW w=f at*
  generalize gW w=g at*
  have m1:x≤((k:Rat)+1 / 2)*f:=by
    have:x*i≤(k:Rat)+1 / 2:=by grind
    have:=Rat.mul_le_mul_of_nonneg_right this (show 0≤f by grind)
    grind
  have m2:((k:Rat) - 1 / 2)*f≤x:=by
    have:(k:Rat) - 1 / 2≤x*i:=by grind
    have:=Rat.mul_le_mul_of_nonneg_right this (show 0≤f by grind)
    grind
  have d0:0≤g - f:=by grind
  clear e l1 l2
  by_cases hk:k < 0
  · have hk':=ks.1 hk
    simp only[if_pos hk]
    have n1:=Rat.mul_le_mul_of_nonneg_right k1' d0
    have n2:=Rat.mul_le_mul_of_nonneg_right (Rat.le_of_lt hk') d0
    clear ks k1 k2
    refine⟨?_,?_,?_⟩<;>grind
  · have hk':(0:Rat)≤(k:Rat):=Rat.not_lt.1 fun c=>hk (ks.2 c)
    simp only[if_neg hk]
    have n1:=Rat.mul_le_mul_of_nonneg_right k2' d0
    have n2:=Rat.mul_le_mul_of_nonneg_right hk' d0
    clear ks k1 k2
    refine⟨?_,?_,?_⟩<;>grind
theorem rs_bd {x:Rat} {w:Nat} (h1:64≤w) (h2:w≤192) (hx: -4294967296≤x∧x≤4294967296): -1≤rsA x w∧rsA x w≤rsB x w∧rsB x w≤1:=by
  obtain⟨a1,a2,a3⟩:=rs_mid h1 h2 hx
  unfold rsA rsB
  refine⟨?_,Rat.le_trans (gdown_le _ _) (Rat.le_trans a2 (le_gup _ _)),?_⟩
  · exact_mod_cast gd_ge_int (z:=-1) (w:=w) (by exact_mod_cast a1)
  · exact_mod_cast gu_le_int (z:=1) (w:=w) (by exact_mod_cast a3)
theorem q_den (q:Rat):q*(q.den:Rat)=(q.num:Rat):=by
  have hd:(q.den:Rat)≠0:=by exact_mod_cast q.den_nz
  have e:=Rat.mkRat_self q
  rw[Rat.mkRat_eq_div] at e
  generalize(q.den:Rat)=d at*
  generalize(q.num:Rat)=n at*
  rw[←e,Rat.div_mul_cancel hd]
theorem abs_num {q:Rat} (h1: -1≤q) (h2:q≤1):¬q.den < q.num.natAbs:=by
  have hd:(0:Rat) < (q.den:Rat):=by exact_mod_cast q.den_pos
  have e:=q_den q
  have m1:=Rat.mul_le_mul_of_nonneg_right h1 (Rat.le_of_lt hd)
  have m2:=Rat.mul_le_mul_of_nonneg_right h2 (Rat.le_of_lt hd)
  rw[e] at m1 m2
  have n1: -(q.den:Int)≤q.num:=by
    have:((-(q.den:Int):Int):Rat)≤(q.num:Rat):=by push_cast;grind
    exact_mod_cast this
  have n2:q.num≤(q.den:Int):=by
    have:(q.num:Rat)≤((q.den:Int):Rat):=by push_cast;grind
    exact_mod_cast this
  omega
end Go.Q
namespace Go.Q
open Go.Proofs
set_option maxRecDepth 100000
set_option maxHeartbeats 8000000
def rtw (q:Rat) (n p:Nat):Nat:=q.num.natAbs*2^(p*n) / q.den
def rtx (q:Rat) (n p:Nat):Bool:=decide (irt n (rtw q n p)^n=rtw q n p) && decide (q.num.natAbs*2^(p*n) % q.den=0)
def rtm (up:Bool) (q:Rat) (n p:Nat):Nat:=if (up != decide (q.num < 0))=true∧rtx q n p=false then irt n (rtw q n p)+1 else irt n (rtw q n p)
def rootg (up:Bool) (q:Rat) (n p:Nat):Rat:=sgn (decide (q.num < 0)) (rtm up q n p) (2^p)
theorem irt_bl {n a k:Nat} (hn:n≠0) (h:bl a≤n*k):bl (irt n a)≤k:=by
  have h1:a < 2^bl a:=bl_le.1 (Nat.le_refl _)
  have h2:(2:Nat)^bl a≤2^(n*k):=Nat.pow_le_pow_right (by decide) h
  exact bl_le.2 (irt_lt_pow hn (Nat.lt_of_lt_of_le h1 h2))
theorem rtw_bl {q:Rat} {n p:Nat} (hs:sz q≤2048) (hn:2≤n):bl (rtw q n p)≤n*(1024+p):=by
  have h1:=bl_div_le (q.num.natAbs*2^(p*n)) q.den
  have h2:=bl_shl q.num.natAbs (p*n)
  have h3:=sz_num q
  have h4:2*1024≤n*1024:=Nat.mul_le_mul_right _ hn
  have h5:n*(1024+p)=n*1024+p*n:=by rw[Nat.mul_add,Nat.mul_comm n p]
  unfold rtw
  omega
theorem rtm_bl {up:Bool} {q:Rat} {n p:Nat} (hs:sz q≤2048) (hn:2≤n):bl (rtm up q n p)≤1025+p:=by
  have h1:=irt_bl (n:=n) (by omega) (rtw_bl (p:=p) hs hn)
  unfold rtm
  split
  · have h2:=bl_add (irt n (rtw q n p)) 1
    rw[bl_one] at h2
    omega
  · omega
theorem rootg_sz {up:Bool} {q:Rat} {n p:Nat} (hs:sz q≤2048) (hn:2≤n) (hp:p≤256):sz (rootg up q n p)≤2048:=by
  have h1:=sz_sgn (decide (q.num < 0)) (rtm up q n p) (d:=2^p) (Nat.ne_of_gt (Nat.pow_pos (by decide)))
  have h2:=rtm_bl (up:=up) (p:=p) hs hn
  have h3:=bl_pow2 p
  unfold rootg
  omega
end Go.Q
namespace Go.Q
open Go.Proofs
set_option maxRecDepth 100000
set_option maxHeartbeats 8000000
theorem root_pos {h0 h:PH} [Le h0 h] {v:Value} {neg:Bool} {a d n p:Nat} {u:Bool} (hv:Rw h0 v neg a d) (hl:¬lg neg a d) (hn:2≤n) (hn8:n≤8) (hp:p≤256) (hd:¬((qof neg a d).num < 0∧n % 2=0)) (en:decide ((qof neg a d).num < 0)=false):
    Spec mach 141 #[v,.int .i64 n,.int .i64 p,.bool u] h (fun r h'=>∃w,r=.tuple #[w,.int .i64 0]∧Cn h' w (rootg u (qof neg a d) n p)) NP:=by
  have kR:=fun {h} [Le h0 h]=>Read_ok (h:=h) hv hl
  have hz:sz (qof neg a d)≤2048:=by unfold Go.Q.lg at hl;omega
  obtain⟨_,_,_,_,_,_,_,rfl,_⟩:=hv.sa
  generalize qof neg a d=x at*
  have b1:=sz_num x
  have b2:=sz_den x
  have hpn:p*n≤2048:=Nat.mul_le_mul hp hn8
  have b3:=bl_shl x.num.natAbs (p*n)
  have bw:=rtw_bl (p:=p) hz hn
  have bw':n*(1024+p)≤8*1280:=Nat.mul_le_mul hn8 (by omega)
  have bi:=irt_bl (n:=n) (by omega) bw
  have bi2:=bl_add (irt n (rtw x n p)) 1
  rw[bl_one] at bi2
  have b6:=bl_pow2 p
  have b0:=bl_one
  have hsz:=rootg_sz (up:=u) (p:=p) hz hn hp
  have m1:¬(n:Int) < 2:=by omega
  have m2:¬(8:Int) < n:=by omega
  have m3:¬(p:Int) < 0:=by omega
  have m4:¬(256:Int) < p:=by omega
  have hr:rootg u x n p=sgn (decide (x.num < 0)) (rtm u x n p) (2^p):=rfl
  have hm:rtm u x n p=if (u != decide (x.num < 0))=true∧rtx x n p=false then irt n (rtw x n p)+1 else irt n (rtw x n p):=rfl
  have hx0:rtx x n p=(decide (irt n (rtw x n p)^n=rtw x n p) && decide (x.num.natAbs*2^(p*n) % x.den=0)):=rfl
  have hw0:x.num.natAbs*2^(p*n) / x.den=rtw x n p:=rfl
  have hdn:=x.den_nz
  have b4:bl (x.num.natAbs*2^(p*n))≤8192:=by omega
  generalize hk:p*n=k at*
  have kS:=fun {h1 h:PH} [Le h1 h] {v:Value} (y:N32 h1 v x.num.natAbs)=>Shl_spec (h:=h) (n:=k) y (by omega)
  have kD:=fun {h1 h:PH} [Le h1 h] {v w:Value} (y:N32 h1 v (x.num.natAbs*2^k)) (l:N32 h1 w x.den)=>Div_spec (h:=h) y l hdn (by omega) (by omega)
  rw[hw0] at kD
  have hbw:bl (rtw x n p)≤2^20:=by omega
  have hi1:bl (irt n (rtw x n p))≤2^38:=by omega
  have hi2:bl (irt n (rtw x n p)+1)≤2^38:=by omega
  have hp2:bl (2^p)≤2^38:=by omega
  have hb1:bl 1≤1:=by omega
  clear b0 b1 b2 b3 b4 b6 bw bw' bi bi2 hz hw0
  rw[en] at hr hm
  cases u with
  | false=>
    generalize eB:decide (irt n (rtw x n p)^n=rtw x n p)=B
    have hr0:rootg false x n p=sgn false (irt n (rtw x n p)) (2^p):=by rw[hr,hm,if_neg (by intro k;cases k.1)]
    clear hm hr hx0
    refine Spec.go [(8,.o [0,1,2,3,4,6,7,5,8,9,10,11,12,13]),(12,.o [0,1,2,4,3,5,6,7,8,9,10,11])] Tryz.func141 rfl rfl (by kernel_rfl) fun C _=>?_
    try simp(disch:=omega) only[go_sem,Nat.reduceBEq,Nat.reduceAdd]
    refine caN (by exact kR) ?_;rintro v1 h1 s1 ⟨f,rfl,hf⟩;obtain⟨na,nl,nc,da,dl,dc,rfl,hnn,hdd⟩:=hf.sl
    try simp(disch:=omega) only[go_sem,Nat.reduceBEq,Nat.reduceAdd]
    rw[en]
    try simp(disch:=omega) only[go_sem,Nat.reduceBEq,Nat.reduceAdd]
    rw[hk]
    refine caN (by exact kS hnn) ?_;rintro v2 h2 s2 q2
    try simp(disch:=omega) only[go_sem,Nat.reduceBEq,Nat.reduceAdd]
    refine caN (by exact kD q2 (hdd.to (h':=h2))) ?_;rintro v3 h3 s3 ⟨q,r,rfl,hq,hr⟩
    try simp(disch:=omega) only[go_sem,Nat.reduceBEq,Nat.reduceAdd]
    refine caN (by exact NRoot_spec (n:=n) hq hn hn8 (by omega)) ?_;rintro v4 h4 s4 ⟨t,rfl,ht⟩
    try simp(disch:=omega) only[go_sem,Nat.reduceBEq,Nat.reduceAdd]
    rw[eB]
    try simp(disch:=omega) only[go_sem,Nat.reduceBEq,Nat.reduceAdd]
    refine caN (by exact Small_spec (n:=1) (by decide)) ?_;rintro _ g1 _ t1;obtain⟨_,_,_,rfl,t1⟩:=t1.sl
    try simp(disch:=omega) only[go_sem,Nat.reduceBEq,Nat.reduceAdd]
    refine caN (by exact Shl_spec (n:=p) t1 (by omega)) ?_;rintro _ g2 _ t2;obtain⟨_,_,_,rfl,t2⟩:=t2.sl
    try simp(disch:=omega) only[go_sem,Nat.reduceBEq,Nat.reduceAdd]
    rw[Nat.one_mul] at t2
    refine caN (by exact Reduce_spec (neg:=false) (ht.to (h':=g2)) t2 (Nat.ne_of_gt (Nat.pow_pos (by decide))) (by omega) (by omega)) ?_;rintro _ g3 _ t3;obtain⟨_,_,_,_,_,_,_,rfl,t3⟩:=t3.sa
    try simp(disch:=omega) only[go_sem,Nat.reduceBEq,Nat.reduceAdd]
    rw[←hr0] at t3
    refine caN (by exact Give_ok t3 hsz) ?_;rintro w4 g4 s4' ⟨z,rfl,hz4⟩;obtain⟨_,_,_,_,_,_,_,rfl,hz5⟩:=hz4.sa
    try simp(disch:=omega) only[go_sem,Nat.reduceBEq,Nat.reduceAdd]
    exact⟨_,rfl,hz5⟩
  | true=>
    cases eB:decide (irt n (rtw x n p)^n=rtw x n p) with
    | false=>
      have hr0:rootg true x n p=sgn false (irt n (rtw x n p)+1) (2^p):=by rw[hr,hm,if_pos ⟨rfl,by rw[hx0,eB];rfl⟩]
      clear hm hr hx0
      refine Spec.go [(8,.o [0,1,2,3,4,6,7,5,8,9,10,11,12,13]),(12,.o [0,1,2,4,3,5,6,7,8,9,10,11])] Tryz.func141 rfl rfl (by kernel_rfl) fun C _=>?_
      try simp(disch:=omega) only[go_sem,Nat.reduceBEq,Nat.reduceAdd]
      refine caN (by exact kR) ?_;rintro v1 h1 s1 ⟨f,rfl,hf⟩;obtain⟨na,nl,nc,da,dl,dc,rfl,hnn,hdd⟩:=hf.sl
      try simp(disch:=omega) only[go_sem,Nat.reduceBEq,Nat.reduceAdd]
      rw[en]
      try simp(disch:=omega) only[go_sem,Nat.reduceBEq,Nat.reduceAdd]
      rw[hk]
      refine caN (by exact kS hnn) ?_;rintro v2 h2 s2 q2
      try simp(disch:=omega) only[go_sem,Nat.reduceBEq,Nat.reduceAdd]
      refine caN (by exact kD q2 (hdd.to (h':=h2))) ?_;rintro v3 h3 s3 ⟨q,r,rfl,hq,hr⟩
      try simp(disch:=omega) only[go_sem,Nat.reduceBEq,Nat.reduceAdd]
      refine caN (by exact NRoot_spec (n:=n) hq hn hn8 (by omega)) ?_;rintro v4 h4 s4 ⟨t,rfl,ht⟩
      try simp(disch:=omega) only[go_sem,Nat.reduceBEq,Nat.reduceAdd]
      rw[eB]
      try simp(disch:=omega) only[go_sem,Nat.reduceBEq,Nat.reduceAdd]
      refine caN (by exact Small_spec (n:=1) (by decide)) ?_;rintro _ k1 _ y1;obtain⟨_,_,_,rfl,y1⟩:=y1.sl
      try simp(disch:=omega) only[go_sem,Nat.reduceBEq,Nat.reduceAdd]
      refine caN (by exact Add_spec (ht.to (h':=k1)) y1 (by omega) (by omega)) ?_;rintro _ k2 _ y2;obtain⟨_,_,_,rfl,y2⟩:=y2.sl
      try simp(disch:=omega) only[go_sem,Nat.reduceBEq,Nat.reduceAdd]
      refine caN (by exact Small_spec (n:=1) (by decide)) ?_;rintro _ g1 _ t1;obtain⟨_,_,_,rfl,t1⟩:=t1.sl
      try simp(disch:=omega) only[go_sem,Nat.reduceBEq,Nat.reduceAdd]
      refine caN (by exact Shl_spec (n:=p) t1 (by omega)) ?_;rintro _ g2 _ t2;obtain⟨_,_,_,rfl,t2⟩:=t2.sl
      try simp(disch:=omega) only[go_sem,Nat.reduceBEq,Nat.reduceAdd]
      rw[Nat.one_mul] at t2
      refine caN (by exact Reduce_spec (neg:=false) (y2.to (h':=g2)) t2 (Nat.ne_of_gt (Nat.pow_pos (by decide))) (by omega) (by omega)) ?_;rintro _ g3 _ t3;obtain⟨_,_,_,_,_,_,_,rfl,t3⟩:=t3.sa
      try simp(disch:=omega) only[go_sem,Nat.reduceBEq,Nat.reduceAdd]
      rw[←hr0] at t3
      refine caN (by exact Give_ok t3 hsz) ?_;rintro w4 g4 s4' ⟨z,rfl,hz4⟩;obtain⟨_,_,_,_,_,_,_,rfl,hz5⟩:=hz4.sa
      try simp(disch:=omega) only[go_sem,Nat.reduceBEq,Nat.reduceAdd]
      exact⟨_,rfl,hz5⟩
    | true=>
      by_cases hrm:x.num.natAbs*2^k % x.den=0
      · have hr0:rootg true x n p=sgn false (irt n (rtw x n p)) (2^p):=by rw[hr,hm,if_neg (by rw[hx0,eB,decide_eq_true hrm];intro k;cases k.2)]
        clear hm hr hx0
        refine Spec.go [(8,.o [0,1,2,3,4,6,7,5,8,9,10,11,12,13]),(12,.o [0,1,2,4,3,5,6,7,8,9,10,11])] Tryz.func141 rfl rfl (by kernel_rfl) fun C _=>?_
        try simp(disch:=omega) only[go_sem,Nat.reduceBEq,Nat.reduceAdd]
        refine caN (by exact kR) ?_;rintro v1 h1 s1 ⟨f,rfl,hf⟩;obtain⟨na,nl,nc,da,dl,dc,rfl,hnn,hdd⟩:=hf.sl
        try simp(disch:=omega) only[go_sem,Nat.reduceBEq,Nat.reduceAdd]
        rw[en]
        try simp(disch:=omega) only[go_sem,Nat.reduceBEq,Nat.reduceAdd]
        rw[hk]
        refine caN (by exact kS hnn) ?_;rintro v2 h2 s2 q2
        try simp(disch:=omega) only[go_sem,Nat.reduceBEq,Nat.reduceAdd]
        refine caN (by exact kD q2 (hdd.to (h':=h2))) ?_;rintro v3 h3 s3 ⟨q,r,rfl,hq,hr⟩
        try simp(disch:=omega) only[go_sem,Nat.reduceBEq,Nat.reduceAdd]
        refine caN (by exact NRoot_spec (n:=n) hq hn hn8 (by omega)) ?_;rintro v4 h4 s4 ⟨t,rfl,ht⟩
        try simp(disch:=omega) only[go_sem,Nat.reduceBEq,Nat.reduceAdd]
        rw[eB]
        try simp(disch:=omega) only[go_sem,Nat.reduceBEq,Nat.reduceAdd]
        refine caN (by exact Zero_spec (hr.to (h':=h4))) ?_;rintro v5 h5 s5 rfl
        try simp(disch:=omega) only[go_sem,Nat.reduceBEq,Nat.reduceAdd]
        refine caN (by exact Small_spec (n:=1) (by decide)) ?_;rintro _ g1 _ t1;obtain⟨_,_,_,rfl,t1⟩:=t1.sl
        try simp(disch:=omega) only[go_sem,Nat.reduceBEq,Nat.reduceAdd]
        refine caN (by exact Shl_spec (n:=p) t1 (by omega)) ?_;rintro _ g2 _ t2;obtain⟨_,_,_,rfl,t2⟩:=t2.sl
        try simp(disch:=omega) only[go_sem,Nat.reduceBEq,Nat.reduceAdd]
        rw[Nat.one_mul] at t2
        refine caN (by exact Reduce_spec (neg:=false) (ht.to (h':=g2)) t2 (Nat.ne_of_gt (Nat.pow_pos (by decide))) (by omega) (by omega)) ?_;rintro _ g3 _ t3;obtain⟨_,_,_,_,_,_,_,rfl,t3⟩:=t3.sa
        try simp(disch:=omega) only[go_sem,Nat.reduceBEq,Nat.reduceAdd]
        rw[←hr0] at t3
        refine caN (by exact Give_ok t3 hsz) ?_;rintro w4 g4 s4' ⟨z,rfl,hz4⟩;obtain⟨_,_,_,_,_,_,_,rfl,hz5⟩:=hz4.sa
        try simp(disch:=omega) only[go_sem,Nat.reduceBEq,Nat.reduceAdd]
        exact⟨_,rfl,hz5⟩
      · have hr0:rootg true x n p=sgn false (irt n (rtw x n p)+1) (2^p):=by rw[hr,hm,if_pos ⟨rfl,by rw[hx0,eB,decide_eq_false hrm];rfl⟩]
        clear hm hr hx0
        refine Spec.go [(8,.o [0,1,2,3,4,6,7,5,8,9,10,11,12,13]),(12,.o [0,1,2,4,3,5,6,7,8,9,10,11])] Tryz.func141 rfl rfl (by kernel_rfl) fun C _=>?_
        try simp(disch:=omega) only[go_sem,Nat.reduceBEq,Nat.reduceAdd]
        refine caN (by exact kR) ?_;rintro v1 h1 s1 ⟨f,rfl,hf⟩;obtain⟨na,nl,nc,da,dl,dc,rfl,hnn,hdd⟩:=hf.sl
        try simp(disch:=omega) only[go_sem,Nat.reduceBEq,Nat.reduceAdd]
        rw[en]
        try simp(disch:=omega) only[go_sem,Nat.reduceBEq,Nat.reduceAdd]
        rw[hk]
        refine caN (by exact kS hnn) ?_;rintro v2 h2 s2 q2
        try simp(disch:=omega) only[go_sem,Nat.reduceBEq,Nat.reduceAdd]
        refine caN (by exact kD q2 (hdd.to (h':=h2))) ?_;rintro v3 h3 s3 ⟨q,r,rfl,hq,hr⟩
        try simp(disch:=omega) only[go_sem,Nat.reduceBEq,Nat.reduceAdd]
        refine caN (by exact NRoot_spec (n:=n) hq hn hn8 (by omega)) ?_;rintro v4 h4 s4 ⟨t,rfl,ht⟩
        try simp(disch:=omega) only[go_sem,Nat.reduceBEq,Nat.reduceAdd]
        rw[eB]
        try simp(disch:=omega) only[go_sem,Nat.reduceBEq,Nat.reduceAdd]
        refine caN (by exact Zero_spec (hr.to (h':=h4))) ?_;rintro v5 h5 s5 rfl
        try simp(disch:=omega) only[go_sem,Nat.reduceBEq,Nat.reduceAdd]
        refine caN (by exact Small_spec (n:=1) (by decide)) ?_;rintro _ k1 _ y1;obtain⟨_,_,_,rfl,y1⟩:=y1.sl
        try simp(disch:=omega) only[go_sem,Nat.reduceBEq,Nat.reduceAdd]
        refine caN (by exact Add_spec (ht.to (h':=k1)) y1 (by omega) (by omega)) ?_;rintro _ k2 _ y2;obtain⟨_,_,_,rfl,y2⟩:=y2.sl
        try simp(disch:=omega) only[go_sem,Nat.reduceBEq,Nat.reduceAdd]
        refine caN (by exact Small_spec (n:=1) (by decide)) ?_;rintro _ g1 _ t1;obtain⟨_,_,_,rfl,t1⟩:=t1.sl
        try simp(disch:=omega) only[go_sem,Nat.reduceBEq,Nat.reduceAdd]
        refine caN (by exact Shl_spec (n:=p) t1 (by omega)) ?_;rintro _ g2 _ t2;obtain⟨_,_,_,rfl,t2⟩:=t2.sl
        try simp(disch:=omega) only[go_sem,Nat.reduceBEq,Nat.reduceAdd]
        rw[Nat.one_mul] at t2
        refine caN (by exact Reduce_spec (neg:=false) (y2.to (h':=g2)) t2 (Nat.ne_of_gt (Nat.pow_pos (by decide))) (by omega) (by omega)) ?_;rintro _ g3 _ t3;obtain⟨_,_,_,_,_,_,_,rfl,t3⟩:=t3.sa
        try simp(disch:=omega) only[go_sem,Nat.reduceBEq,Nat.reduceAdd]
        rw[←hr0] at t3
        refine caN (by exact Give_ok t3 hsz) ?_;rintro w4 g4 s4' ⟨z,rfl,hz4⟩;obtain⟨_,_,_,_,_,_,_,rfl,hz5⟩:=hz4.sa
        try simp(disch:=omega) only[go_sem,Nat.reduceBEq,Nat.reduceAdd]
        exact⟨_,rfl,hz5⟩
end Go.Q
namespace Go.Q
open Go.Proofs
set_option maxRecDepth 100000
set_option maxHeartbeats 8000000
theorem root_neg {h0 h:PH} [Le h0 h] {v:Value} {neg:Bool} {a d n p:Nat} {u:Bool} (hv:Rw h0 v neg a d) (hl:¬lg neg a d) (hn:2≤n) (hn8:n≤8) (hp:p≤256) (hd:¬((qof neg a d).num < 0∧n % 2=0)) (en:decide ((qof neg a d).num < 0)=true):
    Spec mach 141 #[v,.int .i64 n,.int .i64 p,.bool u] h (fun r h'=>∃w,r=.tuple #[w,.int .i64 0]∧Cn h' w (rootg u (qof neg a d) n p)) NP:=by
  have kR:=fun {h} [Le h0 h]=>Read_ok (h:=h) hv hl
  have hz:sz (qof neg a d)≤2048:=by unfold Go.Q.lg at hl;omega
  obtain⟨_,_,_,_,_,_,_,rfl,_⟩:=hv.sa
  generalize qof neg a d=x at*
  have b1:=sz_num x
  have b2:=sz_den x
  have hpn:p*n≤2048:=Nat.mul_le_mul hp hn8
  have b3:=bl_shl x.num.natAbs (p*n)
  have bw:=rtw_bl (p:=p) hz hn
  have bw':n*(1024+p)≤8*1280:=Nat.mul_le_mul hn8 (by omega)
  have bi:=irt_bl (n:=n) (by omega) bw
  have bi2:=bl_add (irt n (rtw x n p)) 1
  rw[bl_one] at bi2
  have b6:=bl_pow2 p
  have b0:=bl_one
  have hsz:=rootg_sz (up:=u) (p:=p) hz hn hp
  have m1:¬(n:Int) < 2:=by omega
  have m2:¬(8:Int) < n:=by omega
  have m3:¬(p:Int) < 0:=by omega
  have m4:¬(256:Int) < p:=by omega
  have hr:rootg u x n p=sgn (decide (x.num < 0)) (rtm u x n p) (2^p):=rfl
  have hm:rtm u x n p=if (u != decide (x.num < 0))=true∧rtx x n p=false then irt n (rtw x n p)+1 else irt n (rtw x n p):=rfl
  have hx0:rtx x n p=(decide (irt n (rtw x n p)^n=rtw x n p) && decide (x.num.natAbs*2^(p*n) % x.den=0)):=rfl
  have hw0:x.num.natAbs*2^(p*n) / x.den=rtw x n p:=rfl
  have hdn:=x.den_nz
  have b4:bl (x.num.natAbs*2^(p*n))≤8192:=by omega
  generalize hk:p*n=k at*
  have kS:=fun {h1 h:PH} [Le h1 h] {v:Value} (y:N32 h1 v x.num.natAbs)=>Shl_spec (h:=h) (n:=k) y (by omega)
  have kD:=fun {h1 h:PH} [Le h1 h] {v w:Value} (y:N32 h1 v (x.num.natAbs*2^k)) (l:N32 h1 w x.den)=>Div_spec (h:=h) y l hdn (by omega) (by omega)
  rw[hw0] at kD
  have hbw:bl (rtw x n p)≤2^20:=by omega
  have hi1:bl (irt n (rtw x n p))≤2^38:=by omega
  have hi2:bl (irt n (rtw x n p)+1)≤2^38:=by omega
  have hp2:bl (2^p)≤2^38:=by omega
  have hb1:bl 1≤1:=by omega
  clear b0 b1 b2 b3 b4 b6 bw bw' bi bi2 hz hw0
  rw[en] at hr hm
  have hodd:n % 2=1:=by
    have:x.num < 0:=of_decide_eq_true en
    have:=fun k=>hd ⟨this,k⟩
    omega
  cases u with
  | false=>
    cases eB:decide (irt n (rtw x n p)^n=rtw x n p) with
    | false=>
      have hr0:rootg false x n p=sgn true (irt n (rtw x n p)+1) (2^p):=by rw[hr,hm,if_pos ⟨rfl,by rw[hx0,eB];rfl⟩]
      clear hm hr hx0
      refine Spec.go [(8,.o [0,1,2,3,4,6,7,5,8,9,10,11,12,13]),(12,.o [0,1,2,4,3,5,6,7,8,9,10,11])] Tryz.func141 rfl rfl (by kernel_rfl) fun C _=>?_
      try simp(disch:=omega) only[go_sem,Nat.reduceBEq,Nat.reduceAdd]
      refine caN (by exact kR) ?_;rintro v1 h1 s1 ⟨f,rfl,hf⟩;obtain⟨na,nl,nc,da,dl,dc,rfl,hnn,hdd⟩:=hf.sl
      try simp(disch:=omega) only[go_sem,Nat.reduceBEq,Nat.reduceAdd]
      rw[en]
      try simp(disch:=omega) only[go_sem,Nat.reduceBEq,Nat.reduceAdd]
      rw[hk]
      refine caN (by exact kS hnn) ?_;rintro v2 h2 s2 q2
      try simp(disch:=omega) only[go_sem,Nat.reduceBEq,Nat.reduceAdd]
      refine caN (by exact kD q2 (hdd.to (h':=h2))) ?_;rintro v3 h3 s3 ⟨q,r,rfl,hq,hr⟩
      try simp(disch:=omega) only[go_sem,Nat.reduceBEq,Nat.reduceAdd]
      refine caN (by exact NRoot_spec (n:=n) hq hn hn8 (by omega)) ?_;rintro v4 h4 s4 ⟨t,rfl,ht⟩
      try simp(disch:=omega) only[go_sem,Nat.reduceBEq,Nat.reduceAdd]
      rw[eB]
      try simp(disch:=omega) only[go_sem,Nat.reduceBEq,Nat.reduceAdd]
      refine caN (by exact Small_spec (n:=1) (by decide)) ?_;rintro _ k1 _ y1;obtain⟨_,_,_,rfl,y1⟩:=y1.sl
      try simp(disch:=omega) only[go_sem,Nat.reduceBEq,Nat.reduceAdd]
      refine caN (by exact Add_spec (ht.to (h':=k1)) y1 (by omega) (by omega)) ?_;rintro _ k2 _ y2;obtain⟨_,_,_,rfl,y2⟩:=y2.sl
      try simp(disch:=omega) only[go_sem,Nat.reduceBEq,Nat.reduceAdd]
      refine caN (by exact Small_spec (n:=1) (by decide)) ?_;rintro _ g1 _ t1;obtain⟨_,_,_,rfl,t1⟩:=t1.sl
      try simp(disch:=omega) only[go_sem,Nat.reduceBEq,Nat.reduceAdd]
      refine caN (by exact Shl_spec (n:=p) t1 (by omega)) ?_;rintro _ g2 _ t2;obtain⟨_,_,_,rfl,t2⟩:=t2.sl
      try simp(disch:=omega) only[go_sem,Nat.reduceBEq,Nat.reduceAdd]
      rw[Nat.one_mul] at t2
      refine caN (by exact Reduce_spec (neg:=true) (y2.to (h':=g2)) t2 (Nat.ne_of_gt (Nat.pow_pos (by decide))) (by omega) (by omega)) ?_;rintro _ g3 _ t3;obtain⟨_,_,_,_,_,_,_,rfl,t3⟩:=t3.sa
      try simp(disch:=omega) only[go_sem,Nat.reduceBEq,Nat.reduceAdd]
      rw[←hr0] at t3
      refine caN (by exact Give_ok t3 hsz) ?_;rintro w4 g4 s4' ⟨z,rfl,hz4⟩;obtain⟨_,_,_,_,_,_,_,rfl,hz5⟩:=hz4.sa
      try simp(disch:=omega) only[go_sem,Nat.reduceBEq,Nat.reduceAdd]
      exact⟨_,rfl,hz5⟩
    | true=>
      by_cases hrm:x.num.natAbs*2^k % x.den=0
      · have hr0:rootg false x n p=sgn true (irt n (rtw x n p)) (2^p):=by rw[hr,hm,if_neg (by rw[hx0,eB,decide_eq_true hrm];intro k;cases k.2)]
        clear hm hr hx0
        refine Spec.go [(8,.o [0,1,2,3,4,6,7,5,8,9,10,11,12,13]),(12,.o [0,1,2,4,3,5,6,7,8,9,10,11])] Tryz.func141 rfl rfl (by kernel_rfl) fun C _=>?_
        try simp(disch:=omega) only[go_sem,Nat.reduceBEq,Nat.reduceAdd]
        refine caN (by exact kR) ?_;rintro v1 h1 s1 ⟨f,rfl,hf⟩;obtain⟨na,nl,nc,da,dl,dc,rfl,hnn,hdd⟩:=hf.sl
        try simp(disch:=omega) only[go_sem,Nat.reduceBEq,Nat.reduceAdd]
        rw[en]
        try simp(disch:=omega) only[go_sem,Nat.reduceBEq,Nat.reduceAdd]
        rw[hk]
        refine caN (by exact kS hnn) ?_;rintro v2 h2 s2 q2
        try simp(disch:=omega) only[go_sem,Nat.reduceBEq,Nat.reduceAdd]
        refine caN (by exact kD q2 (hdd.to (h':=h2))) ?_;rintro v3 h3 s3 ⟨q,r,rfl,hq,hr⟩
        try simp(disch:=omega) only[go_sem,Nat.reduceBEq,Nat.reduceAdd]
        refine caN (by exact NRoot_spec (n:=n) hq hn hn8 (by omega)) ?_;rintro v4 h4 s4 ⟨t,rfl,ht⟩
        try simp(disch:=omega) only[go_sem,Nat.reduceBEq,Nat.reduceAdd]
        rw[eB]
        try simp(disch:=omega) only[go_sem,Nat.reduceBEq,Nat.reduceAdd]
        refine caN (by exact Zero_spec (hr.to (h':=h4))) ?_;rintro v5 h5 s5 rfl
        try simp(disch:=omega) only[go_sem,Nat.reduceBEq,Nat.reduceAdd]
        refine caN (by exact Small_spec (n:=1) (by decide)) ?_;rintro _ g1 _ t1;obtain⟨_,_,_,rfl,t1⟩:=t1.sl
        try simp(disch:=omega) only[go_sem,Nat.reduceBEq,Nat.reduceAdd]
        refine caN (by exact Shl_spec (n:=p) t1 (by omega)) ?_;rintro _ g2 _ t2;obtain⟨_,_,_,rfl,t2⟩:=t2.sl
        try simp(disch:=omega) only[go_sem,Nat.reduceBEq,Nat.reduceAdd]
        rw[Nat.one_mul] at t2
        refine caN (by exact Reduce_spec (neg:=true) (ht.to (h':=g2)) t2 (Nat.ne_of_gt (Nat.pow_pos (by decide))) (by omega) (by omega)) ?_;rintro _ g3 _ t3;obtain⟨_,_,_,_,_,_,_,rfl,t3⟩:=t3.sa
        try simp(disch:=omega) only[go_sem,Nat.reduceBEq,Nat.reduceAdd]
        rw[←hr0] at t3
        refine caN (by exact Give_ok t3 hsz) ?_;rintro w4 g4 s4' ⟨z,rfl,hz4⟩;obtain⟨_,_,_,_,_,_,_,rfl,hz5⟩:=hz4.sa
        try simp(disch:=omega) only[go_sem,Nat.reduceBEq,Nat.reduceAdd]
        exact⟨_,rfl,hz5⟩
      · have hr0:rootg false x n p=sgn true (irt n (rtw x n p)+1) (2^p):=by rw[hr,hm,if_pos ⟨rfl,by rw[hx0,eB,decide_eq_false hrm];rfl⟩]
        clear hm hr hx0
        refine Spec.go [(8,.o [0,1,2,3,4,6,7,5,8,9,10,11,12,13]),(12,.o [0,1,2,4,3,5,6,7,8,9,10,11])] Tryz.func141 rfl rfl (by kernel_rfl) fun C _=>?_
        try simp(disch:=omega) only[go_sem,Nat.reduceBEq,Nat.reduceAdd]
        refine caN (by exact kR) ?_;rintro v1 h1 s1 ⟨f,rfl,hf⟩;obtain⟨na,nl,nc,da,dl,dc,rfl,hnn,hdd⟩:=hf.sl
        try simp(disch:=omega) only[go_sem,Nat.reduceBEq,Nat.reduceAdd]
        rw[en]
        try simp(disch:=omega) only[go_sem,Nat.reduceBEq,Nat.reduceAdd]
        rw[hk]
        refine caN (by exact kS hnn) ?_;rintro v2 h2 s2 q2
        try simp(disch:=omega) only[go_sem,Nat.reduceBEq,Nat.reduceAdd]
        refine caN (by exact kD q2 (hdd.to (h':=h2))) ?_;rintro v3 h3 s3 ⟨q,r,rfl,hq,hr⟩
        try simp(disch:=omega) only[go_sem,Nat.reduceBEq,Nat.reduceAdd]
        refine caN (by exact NRoot_spec (n:=n) hq hn hn8 (by omega)) ?_;rintro v4 h4 s4 ⟨t,rfl,ht⟩
        try simp(disch:=omega) only[go_sem,Nat.reduceBEq,Nat.reduceAdd]
        rw[eB]
        try simp(disch:=omega) only[go_sem,Nat.reduceBEq,Nat.reduceAdd]
        refine caN (by exact Zero_spec (hr.to (h':=h4))) ?_;rintro v5 h5 s5 rfl
        try simp(disch:=omega) only[go_sem,Nat.reduceBEq,Nat.reduceAdd]
        refine caN (by exact Small_spec (n:=1) (by decide)) ?_;rintro _ k1 _ y1;obtain⟨_,_,_,rfl,y1⟩:=y1.sl
        try simp(disch:=omega) only[go_sem,Nat.reduceBEq,Nat.reduceAdd]
        refine caN (by exact Add_spec (ht.to (h':=k1)) y1 (by omega) (by omega)) ?_;rintro _ k2 _ y2;obtain⟨_,_,_,rfl,y2⟩:=y2.sl
        try simp(disch:=omega) only[go_sem,Nat.reduceBEq,Nat.reduceAdd]
        refine caN (by exact Small_spec (n:=1) (by decide)) ?_;rintro _ g1 _ t1;obtain⟨_,_,_,rfl,t1⟩:=t1.sl
        try simp(disch:=omega) only[go_sem,Nat.reduceBEq,Nat.reduceAdd]
        refine caN (by exact Shl_spec (n:=p) t1 (by omega)) ?_;rintro _ g2 _ t2;obtain⟨_,_,_,rfl,t2⟩:=t2.sl
        try simp(disch:=omega) only[go_sem,Nat.reduceBEq,Nat.reduceAdd]
        rw[Nat.one_mul] at t2
        refine caN (by exact Reduce_spec (neg:=true) (y2.to (h':=g2)) t2 (Nat.ne_of_gt (Nat.pow_pos (by decide))) (by omega) (by omega)) ?_;rintro _ g3 _ t3;obtain⟨_,_,_,_,_,_,_,rfl,t3⟩:=t3.sa
        try simp(disch:=omega) only[go_sem,Nat.reduceBEq,Nat.reduceAdd]
        rw[←hr0] at t3
        refine caN (by exact Give_ok t3 hsz) ?_;rintro w4 g4 s4' ⟨z,rfl,hz4⟩;obtain⟨_,_,_,_,_,_,_,rfl,hz5⟩:=hz4.sa
        try simp(disch:=omega) only[go_sem,Nat.reduceBEq,Nat.reduceAdd]
        exact⟨_,rfl,hz5⟩
  | true=>
    generalize eB:decide (irt n (rtw x n p)^n=rtw x n p)=B
    have hr0:rootg true x n p=sgn true (irt n (rtw x n p)) (2^p):=by rw[hr,hm,if_neg (by intro k;cases k.1)]
    clear hm hr hx0
    refine Spec.go [(8,.o [0,1,2,3,4,6,7,5,8,9,10,11,12,13]),(12,.o [0,1,2,4,3,5,6,7,8,9,10,11])] Tryz.func141 rfl rfl (by kernel_rfl) fun C _=>?_
    try simp(disch:=omega) only[go_sem,Nat.reduceBEq,Nat.reduceAdd]
    refine caN (by exact kR) ?_;rintro v1 h1 s1 ⟨f,rfl,hf⟩;obtain⟨na,nl,nc,da,dl,dc,rfl,hnn,hdd⟩:=hf.sl
    try simp(disch:=omega) only[go_sem,Nat.reduceBEq,Nat.reduceAdd]
    rw[en]
    try simp(disch:=omega) only[go_sem,Nat.reduceBEq,Nat.reduceAdd]
    rw[hk]
    refine caN (by exact kS hnn) ?_;rintro v2 h2 s2 q2
    try simp(disch:=omega) only[go_sem,Nat.reduceBEq,Nat.reduceAdd]
    refine caN (by exact kD q2 (hdd.to (h':=h2))) ?_;rintro v3 h3 s3 ⟨q,r,rfl,hq,hr⟩
    try simp(disch:=omega) only[go_sem,Nat.reduceBEq,Nat.reduceAdd]
    refine caN (by exact NRoot_spec (n:=n) hq hn hn8 (by omega)) ?_;rintro v4 h4 s4 ⟨t,rfl,ht⟩
    try simp(disch:=omega) only[go_sem,Nat.reduceBEq,Nat.reduceAdd]
    rw[eB]
    try simp(disch:=omega) only[go_sem,Nat.reduceBEq,Nat.reduceAdd]
    refine caN (by exact Small_spec (n:=1) (by decide)) ?_;rintro _ g1 _ t1;obtain⟨_,_,_,rfl,t1⟩:=t1.sl
    try simp(disch:=omega) only[go_sem,Nat.reduceBEq,Nat.reduceAdd]
    refine caN (by exact Shl_spec (n:=p) t1 (by omega)) ?_;rintro _ g2 _ t2;obtain⟨_,_,_,rfl,t2⟩:=t2.sl
    try simp(disch:=omega) only[go_sem,Nat.reduceBEq,Nat.reduceAdd]
    rw[Nat.one_mul] at t2
    refine caN (by exact Reduce_spec (neg:=true) (ht.to (h':=g2)) t2 (Nat.ne_of_gt (Nat.pow_pos (by decide))) (by omega) (by omega)) ?_;rintro _ g3 _ t3;obtain⟨_,_,_,_,_,_,_,rfl,t3⟩:=t3.sa
    try simp(disch:=omega) only[go_sem,Nat.reduceBEq,Nat.reduceAdd]
    rw[←hr0] at t3
    refine caN (by exact Give_ok t3 hsz) ?_;rintro w4 g4 s4' ⟨z,rfl,hz4⟩;obtain⟨_,_,_,_,_,_,_,rfl,hz5⟩:=hz4.sa
    try simp(disch:=omega) only[go_sem,Nat.reduceBEq,Nat.reduceAdd]
    exact⟨_,rfl,hz5⟩
end Go.Q
namespace Go.Q
open Go.Proofs
set_option maxRecDepth 100000
set_option maxHeartbeats 8000000
theorem root_any {h0 h:PH} [Le h0 h] {v:Value} {neg:Bool} {a d n p:Nat} {u:Bool} (hv:Rw h0 v neg a d) (hl:¬lg neg a d) (hn:2≤n) (hn8:n≤8) (hp:p≤256) (hd:¬((qof neg a d).num < 0∧n % 2=0)):
    Spec mach 141 #[v,.int .i64 n,.int .i64 p,.bool u] h (fun r h'=>∃w,r=.tuple #[w,.int .i64 0]∧Cn h' w (rootg u (qof neg a d) n p)) NP:=by
  cases en:decide ((qof neg a d).num < 0) with
  |false=>exact root_pos hv hl hn hn8 hp hd en
  |true=>exact root_neg hv hl hn hn8 hp hd en
end Go.Q
namespace Go.Q
open Go.Proofs
set_option maxRecDepth 100000
set_option maxHeartbeats 8000000
theorem NumRoot {h0 h:PH} [Le h0 h] {v:Value} {x:Rat} {n p:Nat} {u:Bool} (hv:Rv h0 v x) (hn:2≤n) (hn8:n≤8) (hp:p≤256) (hd:¬(x < 0∧n % 2=0)):Spec mach 141 #[v,.int .i64 n,.int .i64 p,.bool u] h (fun r h'=>∃b na nl nc da dl dc,r=.tuple #[.agg #[.bool b,.slice na nl nc,.slice da dl dc],.int .i64 0]∧Rv h' (.agg #[.bool b,.slice na nl nc,.slice da dl dc]) (rootg u x n p)) NP:=by
  have sr:=rootg_sz (up:=u) hv.sz hn hp
  obtain⟨_,_,_,h1,h2,rfl⟩:=hv
  refine(root_any (u:=u) (p:=p) h1 h2 hn hn8 hp (by rw[num_neg];exact hd)).mono (fun r h' _ k=>?_) (fun _ _ _ k=>k)
  obtain⟨w,rfl,c⟩:=k
  obtain⟨_,_,_,_,_,_,_,rfl,c⟩:=c.sa
  exact⟨_,_,_,_,_,_,_,rfl,Rv.of c sr⟩
theorem NumDown {h0 h:PH} [Le h0 h] {v:Value} {x:Rat} {n p:Nat} (hv:Rv h0 v x) (hn:2≤n) (hn8:n≤8) (hp:p≤256) (hd:¬(x < 0∧n % 2=0)):Spec mach 108 #[v,.int .i64 n,.int .i64 p] h (fun r h'=>∃b na nl nc da dl dc,r=.tuple #[.agg #[.bool b,.slice na nl nc,.slice da dl dc],.int .i64 0]∧Rv h' (.agg #[.bool b,.slice na nl nc,.slice da dl dc]) (rootg false x n p)) NP:=by
  have kR:=fun {h} [Le h0 h]=>NumRoot (h:=h) (u:=false) hv hn hn8 hp hd
  obtain⟨_,_,_,_,_,_,_,rfl,_⟩:=hv.sa
  refine Spec.go [] Tryz.func108 rfl rfl (by kernel_rfl) fun C _=>?_
  try simp(disch:=omega) only[go_sem,Nat.reduceBEq,Nat.reduceAdd]
  refine caN (by exact kR) ?_;rintro v1 h1 s1 ⟨_,_,_,_,_,_,_,rfl,q1⟩
  try simp(disch:=omega) only[go_sem,Nat.reduceBEq,Nat.reduceAdd]
  exact⟨_,_,_,_,_,_,_,rfl,q1⟩
theorem NumUp {h0 h:PH} [Le h0 h] {v:Value} {x:Rat} {n p:Nat} (hv:Rv h0 v x) (hn:2≤n) (hn8:n≤8) (hp:p≤256) (hd:¬(x < 0∧n % 2=0)):Spec mach 107 #[v,.int .i64 n,.int .i64 p] h (fun r h'=>∃b na nl nc da dl dc,r=.tuple #[.agg #[.bool b,.slice na nl nc,.slice da dl dc],.int .i64 0]∧Rv h' (.agg #[.bool b,.slice na nl nc,.slice da dl dc]) (rootg true x n p)) NP:=by
  have kR:=fun {h} [Le h0 h]=>NumRoot (h:=h) (u:=true) hv hn hn8 hp hd
  obtain⟨_,_,_,_,_,_,_,rfl,_⟩:=hv.sa
  refine Spec.go [] Tryz.func107 rfl rfl (by kernel_rfl) fun C _=>?_
  try simp(disch:=omega) only[go_sem,Nat.reduceBEq,Nat.reduceAdd]
  refine caN (by exact kR) ?_;rintro v1 h1 s1 ⟨_,_,_,_,_,_,_,rfl,q1⟩
  try simp(disch:=omega) only[go_sem,Nat.reduceBEq,Nat.reduceAdd]
  exact⟨_,_,_,_,_,_,_,rfl,q1⟩
end Go.Q
