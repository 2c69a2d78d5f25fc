/-
  What log returns. Conditions: the number is above 0 and of at most 1024 binary digits; the precision is at most 128.
  Contracts of package elem: whole parts of quotients; numbers of a remainder modulo 4 in a range; Turns. Conditions: the sizes are those that the program uses.
  Intervals as plain sets: two ends, each a number or infinite, or empty; the operations on them. Conditions: none.
  Plain laws of intervals: membership, meets, hulls, grids. Conditions: ends in order (ok).
  The remainder of a number by quarter turns, plain: bounds. Conditions: the number's absolute value is at most 2^32; the working precision is from 64 to 192.
  Roots of numbers on a grid, plain; what package number returns for them. Conditions: the number is not large, the index from 2 to 8, the precision at most 256.
  What package number returns for roots on a grid: positive numbers. Conditions: the number is not large, the index from 2 to 8, the precision at most 256. (Printed by a program.)
  What package number returns for roots on a grid: negative numbers. Conditions: the number is not large, the index from 2 to 8, the precision at most 256. (Printed by a program.)
  What number.root returns, of any number. Conditions: the number is not large, the index from 2 to 8, the precision at most 256; no even root of a number below 0.
  Contracts of package number: roots rounded down and up. Conditions: the values are numbers of at most 2048 binary digits.
  What arcsine, asin and acos return. Conditions: the number's absolute value is at most 1, of at most 1024 binary digits; the precision is at most 128.
  What sine and cosine return. Conditions: the numbers' absolute values are at most 1, of at most 2048 binary digits; the working precision is from 20 to 200.
  What modulo, rest and both return. Conditions: the number's absolute value is at most 2^32, of at most 1024 binary digits; the working precision is from 64 to 192.
  What both, sin and cos return. Conditions: the number's absolute value is at most 2^32, of at most 1024 binary digits; the precision is at most 128.
  What ready returns: the first error of an argument. Conditions: the argument is a number as it comes in that is not large.
  What tan returns. Conditions: the number's absolute value is at most 2^32, of at most 1024 binary digits; the precision is at most 128.
  What tan returns: the walk. Conditions: the number's absolute value is at most 2^32, of at most 1024 binary digits; the precision is at most 128.
  What Apply and the functions of their own names return, for every function, number and precision. Conditions: the argument is a number as it comes in.
  The brackets of a number and of its opposite: no program. Conditions: the numbers of quarter turns are opposite (no tie).
-/
import Derived.Test.YtclajmpjcojhaaaGreatDoorKeed6f3PkF
import Derived.Test.YtclajmpjcojhaaaGreatDoorK5f5312PkM
import Derived.Test.YtclajmpjcojhaaaGreatDoorK94fcb0PkL
import Derived.Test.YtclajmpjcojhaaaGreatDoorKb15cb1PkH
import Derived.Test.YtclajmpjcojhaaaGreatDoorKc98a41PkI
set_option linter.unusedVariables false
set_option linter.unusedSimpArgs false
namespace Go.Q
open Go.Proofs
set_option maxRecDepth 100000
set_option maxHeartbeats 8000000
theorem sz_gd (x:Rat) (p:Nat):sz (gdown x p)≤sz x+2*p+2:=by
  have h1:=sz_unscale ((x*2^p).floor:Rat) p
  have h2:=sz_floor (x*2^p)
  have h3:=sz_scale x p
  unfold gdown
  omega
theorem gup_gdown (x:Rat) (p:Nat):gup x p= -gdown (-x) p:=by
  unfold gup gdown
  rw[Rat.ceil_eq_neg_floor_neg,Rat.neg_mul,Rat.intCast_neg,Rat.div_def,Rat.div_def,Rat.neg_mul]
theorem sz_gu (x:Rat) (p:Nat):sz (gup x p)≤sz x+2*p+2:=by
  rw[gup_gdown,sz_neg]
  have:=sz_gd (-x) p
  rw[sz_neg] at this
  exact this
theorem ELog_spec {h0 h:PH} [Le h0 h] {v:Value} {x:Rat} {p:Nat} (hx:Cn h0 v x) (bx:sz x≤1024) (hp0:x.num.natAbs≠0) (hp:p≤128):Spec mach 38 #[v,.int .i64 p] h (fun r h'=>Be h' r (lnLo x.num.natAbs x.den p) (lnHi x.num.natAbs x.den p)) NP:=by
  have kW:=fun {h} [Le h0 h]=>EWhole_spec (h:=h) hx
  have bn:=Nat.le_trans (sz_num x) bx
  have bd:=Nat.le_trans (sz_den x) bx
  obtain⟨na,nl,nc,da,dl,dc,rfl,hn,hd,e1,e2⟩:=hx.parts
  have kO:=fun {h} [Le h0 h]=>Of_any (h:=h) hn
  clear hn hd e1 e2 hx bx
  generalize x.num.natAbs=N at*
  generalize x.den=D at*
  generalize decide (x.num < 0)=b at*
  obtain⟨a1,a2,a3,a4⟩:=lge_abs bn bd
  have e0:(bl N:Int) - bl D=lge0 N D:=rfl
  obtain⟨c,hc⟩:∃c,decide (lgn N (lge0 N D) < lgd D (lge0 N D))=c:=⟨_,rfl⟩
  obtain⟨k1,hk1,f1⟩:∃k:Nat,(if 0 - lge0 N D > 0 then 0 - lge0 N D else 0)=(k:Int)∧(max 0 (-lge0 N D)).toNat=k:=⟨_,by split<;>omega,rfl⟩
  obtain⟨k2,hk2,f2⟩:∃k:Nat,(if lge0 N D > 0 then lge0 N D else 0)=(k:Int)∧(max 0 (lge0 N D)).toNat=k:=⟨_,by split<;>omega,rfl⟩
  obtain⟨k3,hk3,f3⟩:∃k:Nat,(if 0 - lge N D > 0 then 0 - lge N D else 0)=(k:Int)∧(max 0 (-lge N D)).toNat=k:=⟨_,by split<;>omega,rfl⟩
  obtain⟨k4,hk4,f4⟩:∃k:Nat,(if lge N D > 0 then lge N D else 0)=(k:Int)∧(max 0 (lge N D)).toNat=k:=⟨_,by split<;>omega,rfl⟩
  have bk1:k1≤1024:=by omega
  have bk2:k2≤1024:=by omega
  have bk3:k3≤1025:=by omega
  have bk4:k4≤1024:=by omega
  have g1:Hid (lgn N (lge0 N D)=N*2^k1):=⟨by unfold lgn;rw[f1]⟩
  have g2:Hid (lgd D (lge0 N D)=D*2^k2):=⟨by unfold lgd;rw[f2]⟩
  have g3:Hid (lgn N (lge N D)=N*2^k3):=⟨by unfold lgn;rw[f3]⟩
  have g4:Hid (lgd D (lge N D)=D*2^k4):=⟨by unfold lgd;rw[f4]⟩
  clear f1 f2 f3 f4
  have b1:=bl_shl N k3
  have b2:=bl_shl D k4
  have b3:=bl_add (N*2^k3) (D*2^k4)
  have b4:bl (N*2^k3 - D*2^k4)≤_:=bl_mono (Nat.sub_le _ _)
  have b5:=bl_shl (N*2^k3 - D*2^k4) (p+32)
  have b6:=bl_shl N k1
  have b7:=bl_shl D k2
  have hs:Hid (D*2^k4≤N*2^k3):=⟨by rw[←g3.out,←g4.out];exact lg_below hp0⟩
  have hB:Hid (N*2^k3+D*2^k4≠0):=⟨by have:=Nat.mul_ne_zero hp0 (pow2_ne k3);omega⟩
  have ec:Hid (decide (cmp3 (N*2^k1) (D*2^k2) < 0)=c):=⟨by rw[←hc,g1.out,g2.out];unfold cmp3;grind⟩
  have hc:=Hid.mk hc
  have F:=Hid.mk (And.intro b1 (And.intro b2 (And.intro b3 (And.intro b4 (And.intro b5 (And.intro b6 b7))))));clear b1 b2 b3 b4 b5 b6 b7
  refine Spec.go [(2,.o [0,1,3,2,4,5,6]),(12,.o [0,1,2,4,5,7,8,9,11,12,15,16,3,6,10,13,14,17,18,19]),(14,.o [0,1,2,4,5,6,7,8,10,11,12,13,3,9,14,15,16])] Tryz.func38 rfl rfl (by kernel_rfl) fun C _=>?_
  try simp(disch:=omega) only[go_sem,Nat.reduceBEq,Nat.reduceAdd]
  refine caN (by exact kO) ?_;rintro _ h1 _ q1;obtain⟨_,_,_,rfl,q1⟩:=q1.sl
  try simp(disch:=omega) only[go_sem,Nat.reduceBEq,Nat.reduceAdd]
  refine caN (by exact kW) ?_;rintro _ h2 _ q2;obtain⟨_,_,_,rfl,q2⟩:=q2.sl
  try simp(disch:=omega) only[go_sem,Nat.reduceBEq,Nat.reduceAdd]
  refine caN (by exact Bits_spec (q1.to (h':=h2))) ?_;rintro v3 h3 s3 rfl
  try simp(disch:=omega) only[go_sem,Nat.reduceBEq,Nat.reduceAdd]
  refine caN (by exact Bits_spec (q2.to (h':=h3))) ?_;rintro v4 h4 s4 rfl
  try simp(disch:=omega) only[go_sem,Nat.reduceBEq,Nat.reduceAdd,e0,hk1,hk2]
  refine caN (by exact Shl_spec (n:=k1) (q1.to (h':=h4)) (by have:=F.out;omega)) ?_;rintro _ h5 _ q5;obtain⟨v5,_,_,rfl,q5⟩:=q5.sl
  try simp(disch:=omega) only[go_sem,Nat.reduceBEq,Nat.reduceAdd,hk2]
  refine caN (by exact Shl_spec (n:=k2) (q2.to (h':=h5)) (by have:=F.out;omega)) ?_;rintro _ h6 _ q6;obtain⟨v6,_,_,rfl,q6⟩:=q6.sl
  try simp(disch:=omega) only[go_sem,Nat.reduceBEq,Nat.reduceAdd]
  refine caN (by exact Cmp_spec (q5.to (h':=h6)) q6) ?_;rintro v7 h7 s7 rfl
  try simp(disch:=omega) only[go_sem,Nat.reduceBEq,Nat.reduceAdd,ec.out]
  have et:Hid (if c then lge0 N D - 1=lge N D else lge0 N D=lge N D):=⟨by
    have hc:=hc.out
    subst hc
    unfold lge
    by_cases hl:lgn N (lge0 N D) < lgd D (lge0 N D)
    · simp[hl]
    · simp[hl]⟩
  obtain⟨l1,l2⟩:=lgm_arg (n:=N) (d:=D) (w:=p+32) hp0
  obtain⟨l3,l4⟩:=lg2_arg (p+32)
  have l5:=Hid.mk (logL_le l1 l2)
  have l6:=Hid.mk (logL_le l3 l4)
  have l1:=Hid.mk l1
  have l2:=Hid.mk l2
  have l3:=Hid.mk l3
  have l4:=Hid.mk l4
  have gT:Hid (lgT N D (p+32)=(N*2^k3 - D*2^k4)*2^(p+32)):=⟨by unfold lgT;rw[g3.out,g4.out]⟩
  have gB:Hid (lgB N D=N*2^k3+D*2^k4):=⟨by unfold lgB;rw[g3.out,g4.out]⟩
  have u1:=bl_pow2 (p+32)
  have u2:bl 3=2:=by decide
  have F:=Hid.mk (And.intro F.out (And.intro u1 u2));clear u1 u2
  cases c
  · have et:lge0 N D=lge N D:=by simpa using et.out
    try simp(disch:=omega) only[go_sem,Nat.reduceBEq,Nat.reduceAdd,et,hk3]
    refine caN (by exact Shl_spec (n:=k3) (q1.to (h':=h7)) (by have:=F.out;omega)) ?_;rintro _ h8 _ q8;obtain⟨v8,_,_,rfl,q8⟩:=q8.sl
    try simp(disch:=omega) only[go_sem,Nat.reduceBEq,Nat.reduceAdd,et,hk4]
    refine caN (by exact Shl_spec (n:=k4) (q2.to (h':=h8)) (by have:=F.out;omega)) ?_;rintro _ h9 _ q9;obtain⟨v9,_,_,rfl,q9⟩:=q9.sl
    try simp(disch:=omega) only[go_sem,Nat.reduceBEq,Nat.reduceAdd]
    refine caN (by exact Sub_spec (q8.to (h':=h9)) q9 hs.out (by have:=F.out;omega)) ?_;rintro _ h10 _ q10;obtain⟨v10,_,_,rfl,q10⟩:=q10.sl
    try simp(disch:=omega) only[go_sem,Nat.reduceBEq,Nat.reduceAdd]
    refine caN (by exact Shl_spec (n:=p+32) q10 (show bl (N*2^k3 - D*2^k4)+(p+32)≤2^40 by have:=F.out;omega)) ?_;rintro _ h11 _ q11;obtain⟨v11,_,_,rfl,q11⟩:=q11.sl
    try simp(disch:=omega) only[go_sem,Nat.reduceBEq,Nat.reduceAdd]
    refine caN (by exact Add_spec (q8.to (h':=h11)) (q9.to (h':=h11)) (by have:=F.out;omega) (by have:=F.out;omega)) ?_;rintro _ h12 _ q12;obtain⟨v12,_,_,rfl,q12⟩:=q12.sl
    try simp(disch:=omega) only[go_sem,Nat.reduceBEq,Nat.reduceAdd]
    refine caN (by exact EOver_spec (c:=false) (q11.to (h':=h12)) q12 hB.out (show bl ((N*2^k3 - D*2^k4)*2^(p+32))≤2^36 by have:=F.out;omega) (show bl (N*2^k3+D*2^k4)≤2^36 by have:=F.out;omega)) ?_;rintro _ h13 _ q13;obtain⟨v13,v13_l,v13_c,rfl,q13⟩:=q13.sl
    try simp(disch:=omega) only[go_sem,Nat.reduceBEq,Nat.reduceAdd]
    refine caN (by exact EOver_spec (c:=true) (q11.to (h':=h13)) (q12.to (h':=h13)) hB.out (show bl ((N*2^k3 - D*2^k4)*2^(p+32))≤2^36 by have:=F.out;omega) (show bl (N*2^k3+D*2^k4)≤2^36 by have:=F.out;omega)) ?_;rintro _ h14 _ q14;obtain⟨v14,v14_l,v14_c,rfl,q14⟩:=q14.sl
    try simp(disch:=omega) only[go_sem,Nat.reduceBEq,Nat.reduceAdd]
    have q13:N32 h13 (.slice v13 v13_l v13_c) (lgT N D (p+32) / lgB N D):=by rw[gT.out,gB.out];exact q13
    have q14:N32 h14 (.slice v14 v14_l v14_c) (cdiv (lgT N D (p+32)) (lgB N D)):=by rw[gT.out,gB.out];exact q14
    refine caN (by exact ELogs_spec ⟨_,_,_,_,_,_,rfl,q13.to,q14⟩ l1.out l2.out (by have:=F.out;omega) (by have:=F.out;omega)) ?_;rintro v15 h15 s15 ⟨x1,m1,c1,y1,n1,d1,rfl,r1,r2⟩
    try simp(disch:=omega) only[go_sem,Nat.reduceBEq,Nat.reduceAdd]
    refine caN (by exact Unit_spec (w:=p+32) (by have:=F.out;omega)) ?_;rintro _ h16 _ q16;obtain⟨v16,_,_,rfl,q16⟩:=q16.sl
    try simp(disch:=omega) only[go_sem,Nat.reduceBEq,Nat.reduceAdd]
    refine caN (by exact Small_spec (n:=3) (by decide)) ?_;rintro _ h17 _ q17;obtain⟨_,_,_,rfl,q17⟩:=q17.sl
    try simp(disch:=omega) only[go_sem,Nat.reduceBEq,Nat.reduceAdd]
    refine caN (by exact EOver_spec (c:=false) (q16.to (h':=h17)) q17 (by decide) (by have:=F.out;omega) (by have:=F.out;omega)) ?_;rintro _ h18 _ q18;obtain⟨v18,v18_l,v18_c,rfl,q18⟩:=q18.sl
    try simp(disch:=omega) only[go_sem,Nat.reduceBEq,Nat.reduceAdd]
    refine caN (by exact Unit_spec (w:=p+32) (by have:=F.out;omega)) ?_;rintro _ h19 _ q19;obtain⟨v19,_,_,rfl,q19⟩:=q19.sl
    try simp(disch:=omega) only[go_sem,Nat.reduceBEq,Nat.reduceAdd]
    refine caN (by exact Small_spec (n:=3) (by decide)) ?_;rintro _ h20 _ q20;obtain⟨_,_,_,rfl,q20⟩:=q20.sl
    try simp(disch:=omega) only[go_sem,Nat.reduceBEq,Nat.reduceAdd]
    refine caN (by exact EOver_spec (c:=true) (q19.to (h':=h20)) q20 (by decide) (by have:=F.out;omega) (by have:=F.out;omega)) ?_;rintro _ h21 _ q21;obtain⟨v21,v21_l,v21_c,rfl,q21⟩:=q21.sl
    try simp(disch:=omega) only[go_sem,Nat.reduceBEq,Nat.reduceAdd]
    have q18:N32 h18 (.slice v18 v18_l v18_c) (2^(p+32) / 3):=q18
    have q21:N32 h21 (.slice v21 v21_l v21_c) (cdiv (2^(p+32)) 3):=q21
    refine caN (by exact ELogs_spec ⟨_,_,_,_,_,_,rfl,q18.to,q21⟩ l3.out l4.out (by have:=F.out;omega) (by have:=F.out;omega)) ?_;rintro v22 h22 s22 ⟨x2,m2,c2,y2,n2,d2,rfl,r3,r4⟩
    try simp(disch:=omega) only[go_sem,Nat.reduceBEq,Nat.reduceAdd]
    have r1:N32 h15 (.slice x1 m1 c1) (lgmL N D (p+32)):=r1
    have r2:N32 h15 (.slice y1 n1 d1) (lgmH N D (p+32)):=r2
    have r3:N32 h22 (.slice x2 m2 c2) (lg2L (p+32)):=r3
    have r4:N32 h22 (.slice y2 n2 d2) (lg2H (p+32)):=r4
    by_cases he:0≤lge N D
    · obtain⟨m,hm⟩:∃m:Nat,lge N D=(m:Int):=⟨_,(Int.toNat_of_nonneg he).symm⟩
      have bm:bl m≤11:=bl_le.2 (by have:=F.out;omega)
      have b10:=bl_112 l5.out.1
      have b11:=bl_112 l5.out.2
      have b12:=bl_112 l6.out.1
      have b13:=bl_112 l6.out.2
      have b14:=bl_mul (lg2L (p+32)) m
      have b15:=bl_mul (lg2H (p+32)) m
      have b16:=bl_add (lg2L (p+32)*m) (lgmL N D (p+32))
      have b17:=bl_add (lg2H (p+32)*m) (lgmH N D (p+32))
      have b18:=bl_div_le (lg2L (p+32)*m+lgmL N D (p+32)) (2^32)
      have b19:=bl_cdiv (lg2H (p+32)*m+lgmH N D (p+32)) (pow2_ne 32)
      have b10:bl (lgmL N D (p+32))≤p+32+8:=b10
      have b11:bl (lgmH N D (p+32))≤p+32+8:=b11
      have b12:bl (lg2L (p+32))≤p+32+8:=b12
      have b13:bl (lg2H (p+32))≤p+32+8:=b13
      have b20:bl (lg2L (p+32)*m+lgmL N D (p+32))≤2048:=by have:=F.out;omega
      have b21:bl (lg2H (p+32)*m+lgmH N D (p+32))≤2047:=by have:=F.out;omega
      have ep:p+32 - p=32:=by have:=F.out;omega
      have b22:Hid (bl ((lg2L (p+32)*m+lgmL N D (p+32)) / 2^(p+32 - p))≤2048):=⟨by rw[ep];exact Nat.le_trans b18 b20⟩
      have b23:Hid (bl (cdiv (lg2H (p+32)*m+lgmH N D (p+32)) (2^(p+32 - p)))≤2048):=⟨by rw[ep];omega⟩
      have eL:=Hid.mk (ln_pos (p:=p) hm)
      have ep:=Hid.mk ep
      clear b18 b19
      have hm2:m < 2^32:=by have:=F.out;omega
      have F:=Hid.mk (And.intro F.out (And.intro bm (And.intro b10 (And.intro b11 (And.intro b12 (And.intro b13 (And.intro b14 (And.intro b15 (And.intro b16 (And.intro b17 (And.intro b20 b21)))))))))));clear bm b10 b11 b12 b13 b14 b15 b16 b17 b20 b21
      try simp(disch:=omega) only[go_sem,Nat.reduceBEq,Nat.reduceAdd,et,hm]
      refine caN (by exact Small_spec (n:=m) (by have:=F.out;omega)) ?_;rintro _ g1 _ t1;obtain⟨w1,_,_,rfl,t1⟩:=t1.sl
      try simp(disch:=omega) only[go_sem,Nat.reduceBEq,Nat.reduceAdd]
      refine caN (by exact Mul_spec (r3.to (h':=g1)) t1 (show bl (lg2L (p+32))≤2^40 by have:=F.out;omega) (by have:=F.out;omega)) ?_;rintro _ g2 _ t2;obtain⟨w2,_,_,rfl,t2⟩:=t2.sl
      try simp(disch:=omega) only[go_sem,Nat.reduceBEq,Nat.reduceAdd]
      refine caN (by exact Add_spec t2 (r1.to (h':=g2)) (show bl (lg2L (p+32)*m)≤2^40 by have:=F.out;omega) (show bl (lgmL N D (p+32))≤2^40 by have:=F.out;omega)) ?_;rintro _ g3 _ t3;obtain⟨w3,_,_,rfl,t3⟩:=t3.sl
      try simp(disch:=omega) only[go_sem,Nat.reduceBEq,Nat.reduceAdd]
      refine caN (by exact Mul_spec (r4.to (h':=g3)) (t1.to (h':=g3)) (show bl (lg2H (p+32))≤2^40 by have:=F.out;omega) (by have:=F.out;omega)) ?_;rintro _ g4 _ t4;obtain⟨w4,_,_,rfl,t4⟩:=t4.sl
      try simp(disch:=omega) only[go_sem,Nat.reduceBEq,Nat.reduceAdd]
      refine caN (by exact Add_spec t4 (r2.to (h':=g4)) (show bl (lg2H (p+32)*m)≤2^40 by have:=F.out;omega) (show bl (lgmH N D (p+32))≤2^40 by have:=F.out;omega)) ?_;rintro _ g5 _ t5;obtain⟨w5,_,_,rfl,t5⟩:=t5.sl
      try simp(disch:=omega) only[go_sem,Nat.reduceBEq,Nat.reduceAdd]
      refine caN (by exact Bracket_spec (w:=p+32) (p:=p) (neg:=false) ⟨_,_,_,_,_,_,rfl,t3.to (h':=g5),t5⟩ (show bl (lg2L (p+32)*m+lgmL N D (p+32))≤2^30 by have:=F.out;omega) (show bl (lg2H (p+32)*m+lgmH N D (p+32))≤2^30 by have:=F.out;omega) (by have:=F.out;omega) (by have:=F.out;omega) (by have:=F.out;omega) b22.out b23.out) ?_;rintro w6 g6 z6 t6;obtain⟨_,_,_,_,_,_,_,_,_,_,_,_,_,_,rfl,t6,t7⟩:=t6
      try simp(disch:=omega) only[go_sem,Nat.reduceBEq,Nat.reduceAdd]
      rw[eL.out.1,eL.out.2]
      simp only[Bool.false_eq_true,if_false,ep.out] at t6 t7
      exact⟨_,_,_,_,_,_,_,_,_,_,_,_,_,_,rfl,t6,t7⟩
    · obtain⟨m,hm,hm'⟩:∃m:Nat,0 - lge N D=(m:Int)∧decide (0≤lge N D)=false:=⟨(0 - lge N D).toNat,by have:=F.out;omega,by simpa using he⟩
      have bm:bl m≤11:=bl_le.2 (by have:=F.out;omega)
      have b10:bl (lgmL N D (p+32))≤p+32+8:=bl_112 l5.out.1
      have b11:bl (lgmH N D (p+32))≤p+32+8:=bl_112 l5.out.2
      have b12:bl (lg2L (p+32))≤p+32+8:=bl_112 l6.out.1
      have b13:bl (lg2H (p+32))≤p+32+8:=bl_112 l6.out.2
      have b14:=bl_mul (lg2L (p+32)) m
      have b15:=bl_mul (lg2H (p+32)) m
      have y1':=sz_dif (a:=lgmL N D (p+32)) (b:=lg2H (p+32)*m) (w:=p+32) (k:=p+52) (by have:=F.out;omega) (by have:=F.out;omega) (by have:=F.out;omega)
      have y2':=sz_dif (a:=lgmH N D (p+32)) (b:=lg2L (p+32)*m) (w:=p+32) (k:=p+52) (by have:=F.out;omega) (by have:=F.out;omega) (by have:=F.out;omega)
      have y3':=sz_gd (sgn false (lgmL N D (p+32)) (2^(p+32))+ -sgn false (lg2H (p+32)*m) (2^(p+32))) p
      have y4':=sz_gu (sgn false (lgmH N D (p+32)) (2^(p+32))+ -sgn false (lg2L (p+32)*m) (2^(p+32))) p
      have y1:=Hid.mk (Nat.le_trans y1' (show 2*(p+52)+1≤2048 by have:=F.out;omega))
      have y2:=Hid.mk (Nat.le_trans y2' (show 2*(p+52)+1≤2048 by have:=F.out;omega))
      have y3:=Hid.mk (Nat.le_trans y3' (show _≤2048 by have:=F.out;omega))
      have y4:=Hid.mk (Nat.le_trans y4' (show _≤2048 by have:=F.out;omega))
      clear y1' y2' y3' y4'
      have eL:=Hid.mk (ln_neg (p:=p) hm he)
      have hm2:m < 2^32:=by have:=F.out;omega
      have F:=Hid.mk (And.intro F.out (And.intro bm (And.intro b10 (And.intro b11 (And.intro b12 (And.intro b13 (And.intro b14 b15)))))));clear bm b10 b11 b12 b13 b14 b15
      try simp(disch:=omega) only[go_sem,Nat.reduceBEq,Nat.reduceAdd,et,hm',hm]
      refine caN (by exact Small_spec (n:=m) (by have:=F.out;omega)) ?_;rintro _ g1 _ t1;obtain⟨w1,_,_,rfl,t1⟩:=t1.sl
      try simp(disch:=omega) only[go_sem,Nat.reduceBEq,Nat.reduceAdd]
      refine caN (by exact Mul_spec (r4.to (h':=g1)) t1 (show bl (lg2H (p+32))≤2^40 by have:=F.out;omega) (by have:=F.out;omega)) ?_;rintro _ g2 _ t2;obtain⟨w2,_,_,rfl,t2⟩:=t2.sl
      try simp(disch:=omega) only[go_sem,Nat.reduceBEq,Nat.reduceAdd]
      refine caN (by exact Mul_spec (r3.to (h':=g2)) (t1.to (h':=g2)) (show bl (lg2L (p+32))≤2^40 by have:=F.out;omega) (by have:=F.out;omega)) ?_;rintro _ g3 _ t3;obtain⟨w3,_,_,rfl,t3⟩:=t3.sl
      try simp(disch:=omega) only[go_sem,Nat.reduceBEq,Nat.reduceAdd]
      refine caN (by exact EBelow_spec (w:=p+32) (p:=p) (t2.to (h':=g3)) (r1.to (h':=g3)) t3 (r2.to (h':=g3)) (show bl (lg2H (p+32)*m)≤2048 by have:=F.out;omega) (show bl (lgmL N D (p+32))≤2048 by have:=F.out;omega) (show bl (lg2L (p+32)*m)≤2048 by have:=F.out;omega) (show bl (lgmH N D (p+32))≤2048 by have:=F.out;omega) (by have:=F.out;omega) (by have:=F.out;omega) y1.out y2.out y3.out y4.out) ?_;rintro w6 g6 z6 t6;obtain⟨_,_,_,_,_,_,_,_,_,_,_,_,_,_,rfl,t6,t7⟩:=t6
      try simp(disch:=omega) only[go_sem,Nat.reduceBEq,Nat.reduceAdd]
      rw[eL.out.1,eL.out.2]
      exact⟨_,_,_,_,_,_,_,_,_,_,_,_,_,_,rfl,t6,t7⟩
  · have et:lge0 N D - 1=lge N D:=by simpa using et.out
    try simp(disch:=omega) only[go_sem,Nat.reduceBEq,Nat.reduceAdd,et,hk3]
    refine caN (by exact Shl_spec (n:=k3) (q1.to (h':=h7)) (by have:=F.out;omega)) ?_;rintro _ h8 _ q8;obtain⟨v8,_,_,rfl,q8⟩:=q8.sl
    try simp(disch:=omega) only[go_sem,Nat.reduceBEq,Nat.reduceAdd,et,hk4]
    refine caN (by exact Shl_spec (n:=k4) (q2.to (h':=h8)) (by have:=F.out;omega)) ?_;rintro _ h9 _ q9;obtain⟨v9,_,_,rfl,q9⟩:=q9.sl
    try simp(disch:=omega) only[go_sem,Nat.reduceBEq,Nat.reduceAdd]
    refine caN (by exact Sub_spec (q8.to (h':=h9)) q9 hs.out (by have:=F.out;omega)) ?_;rintro _ h10 _ q10;obtain⟨v10,_,_,rfl,q10⟩:=q10.sl
    try simp(disch:=omega) only[go_sem,Nat.reduceBEq,Nat.reduceAdd]
    refine caN (by exact Shl_spec (n:=p+32) q10 (show bl (N*2^k3 - D*2^k4)+(p+32)≤2^40 by have:=F.out;omega)) ?_;rintro _ h11 _ q11;obtain⟨v11,_,_,rfl,q11⟩:=q11.sl
    try simp(disch:=omega) only[go_sem,Nat.reduceBEq,Nat.reduceAdd]
    refine caN (by exact Add_spec (q8.to (h':=h11)) (q9.to (h':=h11)) (by have:=F.out;omega) (by have:=F.out;omega)) ?_;rintro _ h12 _ q12;obtain⟨v12,_,_,rfl,q12⟩:=q12.sl
    try simp(disch:=omega) only[go_sem,Nat.reduceBEq,Nat.reduceAdd]
    refine caN (by exact EOver_spec (c:=false) (q11.to (h':=h12)) q12 hB.out (show bl ((N*2^k3 - D*2^k4)*2^(p+32))≤2^36 by have:=F.out;omega) (show bl (N*2^k3+D*2^k4)≤2^36 by have:=F.out;omega)) ?_;rintro _ h13 _ q13;obtain⟨v13,v13_l,v13_c,rfl,q13⟩:=q13.sl
    try simp(disch:=omega) only[go_sem,Nat.reduceBEq,Nat.reduceAdd]
    refine caN (by exact EOver_spec (c:=true) (q11.to (h':=h13)) (q12.to (h':=h13)) hB.out (show bl ((N*2^k3 - D*2^k4)*2^(p+32))≤2^36 by have:=F.out;omega) (show bl (N*2^k3+D*2^k4)≤2^36 by have:=F.out;omega)) ?_;rintro _ h14 _ q14;obtain⟨v14,v14_l,v14_c,rfl,q14⟩:=q14.sl
    try simp(disch:=omega) only[go_sem,Nat.reduceBEq,Nat.reduceAdd]
    have q13:N32 h13 (.slice v13 v13_l v13_c) (lgT N D (p+32) / lgB N D):=by rw[gT.out,gB.out];exact q13
    have q14:N32 h14 (.slice v14 v14_l v14_c) (cdiv (lgT N D (p+32)) (lgB N D)):=by rw[gT.out,gB.out];exact q14
    refine caN (by exact ELogs_spec ⟨_,_,_,_,_,_,rfl,q13.to,q14⟩ l1.out l2.out (by have:=F.out;omega) (by have:=F.out;omega)) ?_;rintro v15 h15 s15 ⟨x1,m1,c1,y1,n1,d1,rfl,r1,r2⟩
    try simp(disch:=omega) only[go_sem,Nat.reduceBEq,Nat.reduceAdd]
    refine caN (by exact Unit_spec (w:=p+32) (by have:=F.out;omega)) ?_;rintro _ h16 _ q16;obtain⟨v16,_,_,rfl,q16⟩:=q16.sl
    try simp(disch:=omega) only[go_sem,Nat.reduceBEq,Nat.reduceAdd]
    refine caN (by exact Small_spec (n:=3) (by decide)) ?_;rintro _ h17 _ q17;obtain⟨_,_,_,rfl,q17⟩:=q17.sl
    try simp(disch:=omega) only[go_sem,Nat.reduceBEq,Nat.reduceAdd]
    refine caN (by exact EOver_spec (c:=false) (q16.to (h':=h17)) q17 (by decide) (by have:=F.out;omega) (by have:=F.out;omega)) ?_;rintro _ h18 _ q18;obtain⟨v18,v18_l,v18_c,rfl,q18⟩:=q18.sl
    try simp(disch:=omega) only[go_sem,Nat.reduceBEq,Nat.reduceAdd]
    refine caN (by exact Unit_spec (w:=p+32) (by have:=F.out;omega)) ?_;rintro _ h19 _ q19;obtain⟨v19,_,_,rfl,q19⟩:=q19.sl
    try simp(disch:=omega) only[go_sem,Nat.reduceBEq,Nat.reduceAdd]
    refine caN (by exact Small_spec (n:=3) (by decide)) ?_;rintro _ h20 _ q20;obtain⟨_,_,_,rfl,q20⟩:=q20.sl
    try simp(disch:=omega) only[go_sem,Nat.reduceBEq,Nat.reduceAdd]
    refine caN (by exact EOver_spec (c:=true) (q19.to (h':=h20)) q20 (by decide) (by have:=F.out;omega) (by have:=F.out;omega)) ?_;rintro _ h21 _ q21;obtain⟨v21,v21_l,v21_c,rfl,q21⟩:=q21.sl
    try simp(disch:=omega) only[go_sem,Nat.reduceBEq,Nat.reduceAdd]
    have q18:N32 h18 (.slice v18 v18_l v18_c) (2^(p+32) / 3):=q18
    have q21:N32 h21 (.slice v21 v21_l v21_c) (cdiv (2^(p+32)) 3):=q21
    refine caN (by exact ELogs_spec ⟨_,_,_,_,_,_,rfl,q18.to,q21⟩ l3.out l4.out (by have:=F.out;omega) (by have:=F.out;omega)) ?_;rintro v22 h22 s22 ⟨x2,m2,c2,y2,n2,d2,rfl,r3,r4⟩
    try simp(disch:=omega) only[go_sem,Nat.reduceBEq,Nat.reduceAdd]
    have r1:N32 h15 (.slice x1 m1 c1) (lgmL N D (p+32)):=r1
    have r2:N32 h15 (.slice y1 n1 d1) (lgmH N D (p+32)):=r2
    have r3:N32 h22 (.slice x2 m2 c2) (lg2L (p+32)):=r3
    have r4:N32 h22 (.slice y2 n2 d2) (lg2H (p+32)):=r4
    by_cases he:0≤lge N D
    · obtain⟨m,hm⟩:∃m:Nat,lge N D=(m:Int):=⟨_,(Int.toNat_of_nonneg he).symm⟩
      have bm:bl m≤11:=bl_le.2 (by have:=F.out;omega)
      have b10:=bl_112 l5.out.1
      have b11:=bl_112 l5.out.2
      have b12:=bl_112 l6.out.1
      have b13:=bl_112 l6.out.2
      have b14:=bl_mul (lg2L (p+32)) m
      have b15:=bl_mul (lg2H (p+32)) m
      have b16:=bl_add (lg2L (p+32)*m) (lgmL N D (p+32))
      have b17:=bl_add (lg2H (p+32)*m) (lgmH N D (p+32))
      have b18:=bl_div_le (lg2L (p+32)*m+lgmL N D (p+32)) (2^32)
      have b19:=bl_cdiv (lg2H (p+32)*m+lgmH N D (p+32)) (pow2_ne 32)
      have b10:bl (lgmL N D (p+32))≤p+32+8:=b10
      have b11:bl (lgmH N D (p+32))≤p+32+8:=b11
      have b12:bl (lg2L (p+32))≤p+32+8:=b12
      have b13:bl (lg2H (p+32))≤p+32+8:=b13
      have b20:bl (lg2L (p+32)*m+lgmL N D (p+32))≤2048:=by have:=F.out;omega
      have b21:bl (lg2H (p+32)*m+lgmH N D (p+32))≤2047:=by have:=F.out;omega
      have ep:p+32 - p=32:=by have:=F.out;omega
      have b22:Hid (bl ((lg2L (p+32)*m+lgmL N D (p+32)) / 2^(p+32 - p))≤2048):=⟨by rw[ep];exact Nat.le_trans b18 b20⟩
      have b23:Hid (bl (cdiv (lg2H (p+32)*m+lgmH N D (p+32)) (2^(p+32 - p)))≤2048):=⟨by rw[ep];omega⟩
      have eL:=Hid.mk (ln_pos (p:=p) hm)
      have ep:=Hid.mk ep
      clear b18 b19
      have hm2:m < 2^32:=by have:=F.out;omega
      have F:=Hid.mk (And.intro F.out (And.intro bm (And.intro b10 (And.intro b11 (And.intro b12 (And.intro b13 (And.intro b14 (And.intro b15 (And.intro b16 (And.intro b17 (And.intro b20 b21)))))))))));clear bm b10 b11 b12 b13 b14 b15 b16 b17 b20 b21
      try simp(disch:=omega) only[go_sem,Nat.reduceBEq,Nat.reduceAdd,et,hm]
      refine caN (by exact Small_spec (n:=m) (by have:=F.out;omega)) ?_;rintro _ g1 _ t1;obtain⟨w1,_,_,rfl,t1⟩:=t1.sl
      try simp(disch:=omega) only[go_sem,Nat.reduceBEq,Nat.reduceAdd]
      refine caN (by exact Mul_spec (r3.to (h':=g1)) t1 (show bl (lg2L (p+32))≤2^40 by have:=F.out;omega) (by have:=F.out;omega)) ?_;rintro _ g2 _ t2;obtain⟨w2,_,_,rfl,t2⟩:=t2.sl
      try simp(disch:=omega) only[go_sem,Nat.reduceBEq,Nat.reduceAdd]
      refine caN (by exact Add_spec t2 (r1.to (h':=g2)) (show bl (lg2L (p+32)*m)≤2^40 by have:=F.out;omega) (show bl (lgmL N D (p+32))≤2^40 by have:=F.out;omega)) ?_;rintro _ g3 _ t3;obtain⟨w3,_,_,rfl,t3⟩:=t3.sl
      try simp(disch:=omega) only[go_sem,Nat.reduceBEq,Nat.reduceAdd]
      refine caN (by exact Mul_spec (r4.to (h':=g3)) (t1.to (h':=g3)) (show bl (lg2H (p+32))≤2^40 by have:=F.out;omega) (by have:=F.out;omega)) ?_;rintro _ g4 _ t4;obtain⟨w4,_,_,rfl,t4⟩:=t4.sl
      try simp(disch:=omega) only[go_sem,Nat.reduceBEq,Nat.reduceAdd]
      refine caN (by exact Add_spec t4 (r2.to (h':=g4)) (show bl (lg2H (p+32)*m)≤2^40 by have:=F.out;omega) (show bl (lgmH N D (p+32))≤2^40 by have:=F.out;omega)) ?_;rintro _ g5 _ t5;obtain⟨w5,_,_,rfl,t5⟩:=t5.sl
      try simp(disch:=omega) only[go_sem,Nat.reduceBEq,Nat.reduceAdd]
      refine caN (by exact Bracket_spec (w:=p+32) (p:=p) (neg:=false) ⟨_,_,_,_,_,_,rfl,t3.to (h':=g5),t5⟩ (show bl (lg2L (p+32)*m+lgmL N D (p+32))≤2^30 by have:=F.out;omega) (show bl (lg2H (p+32)*m+lgmH N D (p+32))≤2^30 by have:=F.out;omega) (by have:=F.out;omega) (by have:=F.out;omega) (by have:=F.out;omega) b22.out b23.out) ?_;rintro w6 g6 z6 t6;obtain⟨_,_,_,_,_,_,_,_,_,_,_,_,_,_,rfl,t6,t7⟩:=t6
      try simp(disch:=omega) only[go_sem,Nat.reduceBEq,Nat.reduceAdd]
      rw[eL.out.1,eL.out.2]
      simp only[Bool.false_eq_true,if_false,ep.out] at t6 t7
      exact⟨_,_,_,_,_,_,_,_,_,_,_,_,_,_,rfl,t6,t7⟩
    · obtain⟨m,hm,hm'⟩:∃m:Nat,0 - lge N D=(m:Int)∧decide (0≤lge N D)=false:=⟨(0 - lge N D).toNat,by have:=F.out;omega,by simpa using he⟩
      have bm:bl m≤11:=bl_le.2 (by have:=F.out;omega)
      have b10:bl (lgmL N D (p+32))≤p+32+8:=bl_112 l5.out.1
      have b11:bl (lgmH N D (p+32))≤p+32+8:=bl_112 l5.out.2
      have b12:bl (lg2L (p+32))≤p+32+8:=bl_112 l6.out.1
      have b13:bl (lg2H (p+32))≤p+32+8:=bl_112 l6.out.2
      have b14:=bl_mul (lg2L (p+32)) m
      have b15:=bl_mul (lg2H (p+32)) m
      have y1':=sz_dif (a:=lgmL N D (p+32)) (b:=lg2H (p+32)*m) (w:=p+32) (k:=p+52) (by have:=F.out;omega) (by have:=F.out;omega) (by have:=F.out;omega)
      have y2':=sz_dif (a:=lgmH N D (p+32)) (b:=lg2L (p+32)*m) (w:=p+32) (k:=p+52) (by have:=F.out;omega) (by have:=F.out;omega) (by have:=F.out;omega)
      have y3':=sz_gd (sgn false (lgmL N D (p+32)) (2^(p+32))+ -sgn false (lg2H (p+32)*m) (2^(p+32))) p
      have y4':=sz_gu (sgn false (lgmH N D (p+32)) (2^(p+32))+ -sgn false (lg2L (p+32)*m) (2^(p+32))) p
      have y1:=Hid.mk (Nat.le_trans y1' (show 2*(p+52)+1≤2048 by have:=F.out;omega))
      have y2:=Hid.mk (Nat.le_trans y2' (show 2*(p+52)+1≤2048 by have:=F.out;omega))
      have y3:=Hid.mk (Nat.le_trans y3' (show _≤2048 by have:=F.out;omega))
      have y4:=Hid.mk (Nat.le_trans y4' (show _≤2048 by have:=F.out;omega))
      clear y1' y2' y3' y4'
      have eL:=Hid.mk (ln_neg (p:=p) hm he)
      have hm2:m < 2^32:=by have:=F.out;omega
      have F:=Hid.mk (And.intro F.out (And.intro bm (And.intro b10 (And.intro b11 (And.intro b12 (And.intro b13 (And.intro b14 b15)))))));clear bm b10 b11 b12 b13 b14 b15
      try simp(disch:=omega) only[go_sem,Nat.reduceBEq,Nat.reduceAdd,et,hm',hm]
      refine caN (by exact Small_spec (n:=m) (by have:=F.out;omega)) ?_;rintro _ g1 _ t1;obtain⟨w1,_,_,rfl,t1⟩:=t1.sl
      try simp(disch:=omega) only[go_sem,Nat.reduceBEq,Nat.reduceAdd]
      refine caN (by exact Mul_spec (r4.to (h':=g1)) t1 (show bl (lg2H (p+32))≤2^40 by have:=F.out;omega) (by have:=F.out;omega)) ?_;rintro _ g2 _ t2;obtain⟨w2,_,_,rfl,t2⟩:=t2.sl
      try simp(disch:=omega) only[go_sem,Nat.reduceBEq,Nat.reduceAdd]
      refine caN (by exact Mul_spec (r3.to (h':=g2)) (t1.to (h':=g2)) (show bl (lg2L (p+32))≤2^40 by have:=F.out;omega) (by have:=F.out;omega)) ?_;rintro _ g3 _ t3;obtain⟨w3,_,_,rfl,t3⟩:=t3.sl
      try simp(disch:=omega) only[go_sem,Nat.reduceBEq,Nat.reduceAdd]
      refine caN (by exact EBelow_spec (w:=p+32) (p:=p) (t2.to (h':=g3)) (r1.to (h':=g3)) t3 (r2.to (h':=g3)) (show bl (lg2H (p+32)*m)≤2048 by have:=F.out;omega) (show bl (lgmL N D (p+32))≤2048 by have:=F.out;omega) (show bl (lg2L (p+32)*m)≤2048 by have:=F.out;omega) (show bl (lgmH N D (p+32))≤2048 by have:=F.out;omega) (by have:=F.out;omega) (by have:=F.out;omega) y1.out y2.out y3.out y4.out) ?_;rintro w6 g6 z6 t6;obtain⟨_,_,_,_,_,_,_,_,_,_,_,_,_,_,rfl,t6,t7⟩:=t6
      try simp(disch:=omega) only[go_sem,Nat.reduceBEq,Nat.reduceAdd]
      rw[eL.out.1,eL.out.2]
      exact⟨_,_,_,_,_,_,_,_,_,_,_,_,_,_,rfl,t6,t7⟩
end Go.Q
namespace Go.Q
open Go.Proofs
set_option maxRecDepth 100000
set_option maxHeartbeats 8000000
theorem W_1 {m:Nat} (h0:m≠0) (h:m < 4294967296):W 4294967296 m=[m]:=by
  rw[W_pos (by decide) h0,Nat.mod_eq_of_lt h,Nat.div_eq_of_lt h,W_zero]
theorem N32.one {h:PH} {a:Option Addr} {l c m:Nat} (r:N32 h (.slice a l c) m) (h0:m≠0) (hm:m < 4294967296):∃ad,a=some ad∧l=1∧h.at (ad.add 0)=some (.int .u32 m):=by
  obtain⟨a',c',e,r⟩:=r
  cases e
  rw[W_1 h0 hm] at r ⊢
  obtain⟨ad,rfl,e⟩:=r.get (i:=0) (by simp)
  exact⟨ad,rfl,rfl,e⟩
def mt (a b r:Int):Bool:=decide (a+(r - a) % 4≤b)
theorem num_bd {x:Rat} (h:¬x.den*4294967296 < x.num.natAbs): -4294967296≤x∧x≤4294967296:=by
  have e:x=mkRat x.num x.den:=(Rat.mkRat_self x).symm
  have hd:(0:Rat) < (x.den:Rat):=by exact_mod_cast x.den_pos
  have e2:x*(x.den:Rat)=(x.num:Rat):=by
    have key:∀(d n y:Rat),d≠0→y=n / d→y*d=n:=fun d n y hd hy=>by rw[hy];exact Rat.div_mul_cancel hd
    have:=Rat.mkRat_eq_div x.num x.den
    rw[←e] at this
    exact key _ _ _ (Rat.ne_of_gt hd) this
  have k1:(x.num:Rat)≤4294967296*(x.den:Rat):=by
    have h1:x.num≤4294967296*(x.den:Int):=by omega
    have h2:=Rat.intCast_le_intCast.2 h1
    rw[Rat.intCast_mul] at h2
    exact h2
  have k2: -(4294967296*(x.den:Rat))≤(x.num:Rat):=by
    have h1: -(4294967296*(x.den:Int))≤x.num:=by omega
    have h2:=Rat.intCast_le_intCast.2 h1
    rw[Rat.intCast_neg,Rat.intCast_mul] at h2
    exact h2
  rw[←e2] at k1 k2
  constructor
  · refine Decidable.byContradiction fun hc=>?_
    have:=Rat.mul_lt_mul_of_pos_right (show x < -4294967296 by grind) hd
    grind
  · refine Decidable.byContradiction fun hc=>?_
    have:=Rat.mul_lt_mul_of_pos_right (show 4294967296 < x by grind) hd
    grind
theorem quo_bd {x y:Rat} (hx: -4294967296≤x∧x≤4294967296) (hy:3 / 2≤y): -2863311531≤x*y⁻¹∧x*y⁻¹≤2863311531:=by
  have y0:y≠0:=by grind
  have e:x*y⁻¹*y=x:=by rw[Rat.mul_assoc,Rat.inv_mul_cancel _ y0,Rat.mul_one]
  generalize x*y⁻¹=q at*
  have key:∀p:Rat,2863311531 < p→¬p*y≤4294967296:=by
    intro p hp hc
    have h1:p*(3 / 2)≤p*y:=Rat.mul_le_mul_of_nonneg_left hy (by grind)
    have h2:2863311531*(3 / 2)≤p*(3 / 2):=Rat.mul_le_mul_of_nonneg_right (by grind) (by decide+kernel)
    grind
  constructor
  · refine Decidable.byContradiction fun hc=>key (-q) (by grind) (by rw[Rat.neg_mul,e];grind)
  · refine Decidable.byContradiction fun hc=>key q (by grind) (by rw[e];exact hx.2)
theorem floor_bd {q:Rat} {c:Int} (h: -(c:Rat)≤q∧q≤(c:Rat)): -c≤q.floor∧q.floor≤c:=by
  constructor
  · rw[Rat.le_floor_iff]
    exact_mod_cast h.1
  · have:=Rat.le_trans (Rat.floor_le q) h.2
    exact_mod_cast this
end Go.Q
namespace Go.Q
inductive NS where
  |e
  |i (lo hi:Option Rat)
def ordO:Option Rat→Option Rat→Bool
  |some x,some y=>!decide (y < x)
  |_,_=>true
namespace NS
def void:NS→Bool
  |.e=>true
  |_=>false
def ok:NS→Prop
  |.e=>True
  |.i a b=>ordO a b=true
def all (f:Rat→Bool):NS→Bool
  |.e=>true
  |.i a b=>a.all f && b.all f
def le (k:Nat) (x:NS):Prop:=x.all (fun q=>decide (sz q≤k))=true
instance (k:Nat) (x:NS):Decidable (x.le k):=by unfold le;infer_instance
def slo:NS→Int
  |.e=>0
  | .i a _=>match a with
    |none=>-1
    |some q=>sgn3 q
def shi:NS→Int
  |.e=>0
  | .i _ b=>match b with
    |none=>1
    |some q=>sgn3 q
def zero (x:NS):Bool:=!x.void && decide (x.slo≤0) && decide (0≤x.shi)
def lowIn:Option Rat→Option Rat→Bool
  |none,_=>true
  |some _,none=>false
  |some c,some a=>!decide (a < c)
def highIn:Option Rat→Option Rat→Bool
  |none,_=>true
  |some _,none=>false
  |some d,some b=>!decide (d < b)
def within:NS→NS→Bool
  |.e,_=>true
  |_,.e=>false
  |.i a b,.i c d=>lowIn c a && highIn d b
def has:NS→Rat→Bool
  |.e,_=>false
  |.i a b,q=>a.all (fun x=>!decide (q < x)) && b.all (fun x=>!decide (x < q))
end NS
end Go.Q
namespace Go.Q
namespace NS
theorem has_i {a b:Option Rat} {q:Rat}:(NS.i a b).has q=true↔(∀x,a=some x→x≤q)∧(∀x,b=some x→q≤x):=by
  cases a<;>cases b<;>simp[has]<;>grind
theorem ne_has {a b:Option Rat} (h:ordO a b=true):∃q,(NS.i a b).has q=true:=by
  cases a with
  | none=>cases b with
    |none=>exact⟨0,by simp[has]⟩
    |some b=>exact⟨b,by simp[has]<;>grind⟩
  | some a=>cases b with
    |none=>exact⟨a,by simp[has]<;>grind⟩
    |some b=>exact⟨a,by simp[ordO] at h;simp[has];grind⟩
theorem low_has {b:Option Rat} (c:Rat):∃q,q < c∧(NS.i none b).has q=true:=by
  cases b with
  |none=>exact⟨c - 1,by grind,by simp[has]⟩
  |some b=>exact⟨min (c - 1) b,by grind,by simp[has]<;>grind⟩
theorem high_has {a:Option Rat} (c:Rat):∃q,c < q∧(NS.i a none).has q=true:=by
  cases a with
  |none=>exact⟨c+1,by grind,by simp[has]⟩
  |some a=>exact⟨max (c+1) a,by grind,by simp[has]<;>grind⟩
theorem lo_has {a:Rat} {b:Option Rat} (h:ordO (some a) b=true):(NS.i (some a) b).has a=true:=by
  cases b with
  |none=>simp[has]<;>grind
  |some b=>simp[ordO] at h;simp[has];grind
theorem hi_has {a:Option Rat} {b:Rat} (h:ordO a (some b)=true):(NS.i a (some b)).has b=true:=by
  cases a with
  |none=>simp[has]<;>grind
  |some a=>simp[ordO] at h;simp[has];grind
theorem within_iff {x y:NS} (hx:x.ok):x.within y=true↔∀q,x.has q=true→y.has q=true:=by
  cases x with
  |e=>simp[within,has]
  | i a b =>
    cases y with
    | e=>
      obtain⟨q,hq⟩:=ne_has hx
      simp only[within,has,Bool.false_eq_true,false_iff]
      exact fun h=>h q hq
    | i c d =>
      constructor
      · intro h q hq
        rw[has_i] at hq ⊢
        cases a<;>cases b<;>cases c<;>cases d<;>simp[within,lowIn,highIn] at h hq ⊢<;>grind
      · intro h
        have h1:lowIn c a=true:=by
          cases c with
          |none=>rfl
          | some c=>cases a with
            | none=>
              obtain⟨q,hc,hq⟩:=low_has (b:=b) c
              have:=has_i.1 (h q hq)
              have:=this.1 c rfl
              grind
            | some a=>
              have:=has_i.1 (h a (lo_has hx))
              have:=this.1 c rfl
              simp[lowIn,highIn];grind
        have h2:highIn d b=true:=by
          cases d with
          |none=>rfl
          | some d=>cases b with
            | none=>
              obtain⟨q,hc,hq⟩:=high_has (a:=a) d
              have:=has_i.1 (h q hq)
              have:=this.2 d rfl
              grind
            | some b=>
              have:=has_i.1 (h b (hi_has hx))
              have:=this.2 d rfl
              simp[lowIn,highIn];grind
        simp only[within,h1,h2,Bool.and_self]
theorem anti {x y:NS} (hx:x.ok) (hy:y.ok) (h1:x.within y=true) (h2:y.within x=true):x=y:=by
  cases x with
  | e=>cases y with
    |e=>rfl
    |i c d=>cases h2
  | i a b=>cases y with
    |e=>cases h1
    | i c d=>
      cases a<;>cases b<;>cases c<;>cases d<;>simp[within,lowIn,highIn] at h1 h2 ⊢<;>grind
theorem ext {x y:NS} (hx:x.ok) (hy:y.ok) (h:∀q,x.has q=y.has q):x=y:=
  anti hx hy ((within_iff hx).2 fun q k=>by rw[←h];exact k) ((within_iff hy).2 fun q k=>by rw[h];exact k)
end NS
theorem pow2_pos (p:Nat):(0:Rat) < 2^p:=Rat.pow_pos (by decide)
theorem div_le' {a b c:Rat} (hb:0 < b):a / b≤c↔a≤c*b:=by
  have:=Rat.lt_div_iff (a:=c) (b:=a) hb
  grind
theorem gdown_le (x:Rat) (p:Nat):gdown x p≤x:=by
  unfold gdown
  have h:=Rat.floor_le (x*2^p)
  rw[div_le' (pow2_pos p)]
  exact h
theorem gdown_mono {x y:Rat} (p:Nat) (h:x≤y):gdown x p≤gdown y p:=by
  unfold gdown
  have h1:x*2^p≤y*2^p:=Rat.mul_le_mul_of_nonneg_right h (Rat.le_of_lt (pow2_pos p))
  have h2:(x*2^p).floor≤(y*2^p).floor:=Rat.le_floor_iff.2 (Rat.le_trans (Rat.floor_le _) h1)
  rw[div_le' (pow2_pos p),Rat.div_mul_cancel (by have:=pow2_pos p;grind)]
  exact_mod_cast h2
theorem gup_neg (x:Rat) (p:Nat):gup (-x) p= -gdown x p:=by
  unfold gup gdown
  rw[Rat.neg_mul,Rat.ceil_eq_neg_floor_neg,Rat.neg_neg,Rat.intCast_neg,Rat.div_def,Rat.neg_mul,←Rat.div_def]
theorem gdown_neg (x:Rat) (p:Nat):gdown (-x) p= -gup x p:=by
  have:=gup_neg (-x) p
  rw[Rat.neg_neg] at this
  rw[this,Rat.neg_neg]
theorem gup_eq (x:Rat) (p:Nat):gup x p= -gdown (-x) p:=by rw[gdown_neg,Rat.neg_neg]
theorem le_gup (x:Rat) (p:Nat):x≤gup x p:=by
  have:=gdown_le (-x) p
  rw[gup_eq];grind
namespace NS
end NS
end Go.Q
namespace Go.Q
open Go.Proofs
set_option maxRecDepth 100000
set_option maxHeartbeats 8000000
def piFine (w:Nat):Bool:=Nat.ble (piH w*5) (16*2^w) && Nat.ble (piH w) (piL w+1024)
theorem piFine_all:((List.range 129).all fun i=>piFine (i+64))=true:=by decide+kernel
theorem pi_fine {w:Nat} (h1:64≤w) (h2:w≤192):piH w*5≤16*2^w∧piH w≤piL w+1024:=by
  have h:=List.all_eq_true.1 piFine_all (w - 64) (List.mem_range.2 (by omega))
  rw[show w - 64+64=w by omega] at h
  simpa[piFine] using h
def fW (w:Nat):Rat:=sgn false (piL w) (2^(w+1))
def gW (w:Nat):Rat:=sgn false (piH w) (2^(w+1))
theorem sgn_u (n w:Nat):sgn false n (2^w)*((2^w:Nat):Rat)=(n:Rat):=by
  have hd:((2^w:Nat):Rat)≠0:=by exact_mod_cast pow2_ne w
  unfold sgn
  rw[Rat.mkRat_eq_div]
  show((n:Int):Rat) / ((2^w:Nat):Rat)*((2^w:Nat):Rat)=_
  rw[Rat.div_mul_cancel hd]
  rfl
theorem u_pos (w:Nat):(0:Rat) < ((2^w:Nat):Rat):=by exact_mod_cast Nat.pow_pos (by decide)
theorem fW_bd {w:Nat} (h1:64≤w) (h2:w≤192):3 / 2≤fW w∧fW w≤gW w∧gW w≤8 / 5∧(gW w - fW w)*18014398509481984≤1:=by
  obtain⟨a1,a2,a3⟩:=piL_ge (w:=w) (by omega) h2
  obtain⟨a4,a5⟩:=pi_fine h1 h2
  have e1:=sgn_u (piL w) (w+1)
  have e2:=sgn_u (piH w) (w+1)
  have hp:=u_pos (w+1)
  have eu:((2^(w+1):Nat):Rat)=((2^w:Nat):Rat)*2:=by rw[Nat.pow_succ];push_cast;rfl
  have b1:(3:Rat)*((2^w:Nat):Rat)≤(piL w:Rat):=by exact_mod_cast a1
  have b2:(piL w:Rat)≤(piH w:Rat):=by exact_mod_cast Nat.le_of_lt a2
  have b3:(piH w:Rat)*5≤16*((2^w:Nat):Rat):=by exact_mod_cast a4
  have b4:(piH w:Rat)≤(piL w:Rat)+1024:=by exact_mod_cast a5
  have b5:(18446744073709551616:Rat)≤((2^w:Nat):Rat):=by
    have:2^64≤2^w:=Nat.pow_le_pow_right (by decide) h1
    exact_mod_cast this
  unfold fW gW
  generalize sgn false (piL w) (2^(w+1))=f at*
  generalize sgn false (piH w) (2^(w+1))=g at*
  rw[←e1] at b1 b2 b4
  rw[←e2] at b2 b3 b4
  rw[eu] at e1 e2 b1 b2 b3 b4 hp
  generalize((2^w:Nat):Rat)=u at*
  clear e1 e2 eu a1 a2 a3 a4 a5
  have hu:(0:Rat) < u:=by grind
  refine⟨?_,?_,?_,?_⟩
  · exact Rat.le_of_mul_le_mul_right (by grind) hu
  · exact Rat.le_of_mul_le_mul_right (by grind) hp
  · exact Rat.le_of_mul_le_mul_right (by grind) hp
  · have:(g - f)*(u*2)≤1024:=by grind
    have h0:0≤g - f:=by
      have:f≤g:=Rat.le_of_mul_le_mul_right (by grind) hp
      grind
    have:=Rat.mul_le_mul_of_nonneg_left b5 h0
    grind
def rsK (x:Rat) (w:Nat):Int:=(x*(fW w)⁻¹+1 / 2).floor
def rsA (x:Rat) (w:Nat):Rat:=gdown (x+ -((rsK x w:Rat)*(if rsK x w < 0 then fW w else gW w))) w
def rsB (x:Rat) (w:Nat):Rat:=gup (x+ -((rsK x w:Rat)*(if rsK x w < 0 then gW w else fW w))) w
theorem rsK_bd {x:Rat} {w:Nat} (h1:64≤w) (h2:w≤192) (hx: -4294967296≤x∧x≤4294967296): -2863311532≤rsK x w∧rsK x w≤2863311532:=by
  obtain⟨a1,_,_,_⟩:=fW_bd h1 h2
  obtain⟨b1,b2⟩:=quo_bd hx a1
  have e:((2863311532:Int):Rat)=2863311532:=rfl
  exact floor_bd (c:=2863311532) (by rw[e];constructor<;>grind)
theorem gd_ge_int {x:Rat} {z:Int} {w:Nat} (h:(z:Rat)≤x):(z:Rat)≤gdown x w:=by
  have e:gdown (z:Rat) w=(z:Rat):=by
    unfold gdown
    have hp:=pow2_pos w
    rw[show(z:Rat)*2^w=((z*2^w:Int):Rat) by push_cast;rfl,Rat.floor_intCast]
    push_cast
    rw[Rat.div_def,Rat.mul_assoc,Rat.mul_inv_cancel _ (by grind),Rat.mul_one]
  rw[←e]
  exact gdown_mono w h
theorem gu_le_int {x:Rat} {z:Int} {w:Nat} (h:x≤(z:Rat)):gup x w≤(z:Rat):=by
  rw[gup_eq]
  have:=gd_ge_int (x:=-x) (z:=-z) (w:=w) (by push_cast;grind)
  push_cast at this
  grind
theorem rs_mid {x:Rat} {w:Nat} (h1:64≤w) (h2:w≤192) (hx: -4294967296≤x∧x≤4294967296):
    -1≤x+ -((rsK x w:Rat)*(if rsK x w < 0 then fW w else gW w))∧x+ -((rsK x w:Rat)*(if rsK x w < 0 then fW w else gW w))≤x+ -((rsK x w:Rat)*(if rsK x w < 0 then gW w else fW w))∧x+ -((rsK x w:Rat)*(if rsK x w < 0 then gW w else fW w))≤1:=by
  obtain⟨a1,a2,a3,a4⟩:=fW_bd h1 h2
  obtain⟨k1,k2⟩:=rsK_bd h1 h2 hx
  have l1:=Rat.floor_le (x*(fW w)⁻¹+1 / 2)
  have l2:=Rat.lt_floor_add_one (x*(fW w)⁻¹+1 / 2)
  have e:x*(fW w)⁻¹*fW w=x:=by rw[Rat.mul_assoc,Rat.inv_mul_cancel _ (by grind),Rat.mul_one]
  have k1':(-2863311532:Rat)≤(rsK x w:Rat):=Rat.intCast_le_intCast.2 k1
  have k2':(rsK x w:Rat)≤(2863311532:Rat):=Rat.intCast_le_intCast.2 k2
  have ks:rsK x w < 0↔(rsK x w:Rat) < 0:=by
    have:=@Rat.intCast_lt_intCast (rsK x w) 0
    simpa using this.symm
  unfold rsK at*
  generalize hk:(x*(fW w)⁻¹+1 / 2).floor=k at*
  clear hk
  generalize(fW w)⁻¹=i at*
  generalize fW w=f at*
  generalize gW w=g at*
  have m1:x≤((k:Rat)+1 / 2)*f:=by
    have:x*i≤(k:Rat)+1 / 2:=by grind
    have:=Rat.mul_le_mul_of_nonneg_right this (show 0≤f by grind)
    grind
  have m2:((k:Rat) - 1 / 2)*f≤x:=by
    have:(k:Rat) - 1 / 2≤x*i:=by grind
    have:=Rat.mul_le_mul_of_nonneg_right this (show 0≤f by grind)
    grind
  have d0:0≤g - f:=by grind
  clear e l1 l2
  by_cases hk:k < 0
  · have hk':=ks.1 hk
    simp only[if_pos hk]
    have n1:=Rat.mul_le_mul_of_nonneg_right k1' d0
    have n2:=Rat.mul_le_mul_of_nonneg_right (Rat.le_of_lt hk') d0
    clear ks k1 k2
    refine⟨?_,?_,?_⟩<;>grind
  · have hk':(0:Rat)≤(k:Rat):=Rat.not_lt.1 fun c=>hk (ks.2 c)
    simp only[if_neg hk]
    have n1:=Rat.mul_le_mul_of_nonneg_right k2' d0
    have n2:=Rat.mul_le_mul_of_nonneg_right hk' d0
    clear ks k1 k2
    refine⟨?_,?_,?_⟩<;>grind
theorem rs_bd {x:Rat} {w:Nat} (h1:64≤w) (h2:w≤192) (hx: -4294967296≤x∧x≤4294967296): -1≤rsA x w∧rsA x w≤rsB x w∧rsB x w≤1:=by
  obtain⟨a1,a2,a3⟩:=rs_mid h1 h2 hx
  unfold rsA rsB
  refine⟨?_,Rat.le_trans (gdown_le _ _) (Rat.le_trans a2 (le_gup _ _)),?_⟩
  · exact_mod_cast gd_ge_int (z:=-1) (w:=w) (by exact_mod_cast a1)
  · exact_mod_cast gu_le_int (z:=1) (w:=w) (by exact_mod_cast a3)
theorem q_den (q:Rat):q*(q.den:Rat)=(q.num:Rat):=by
  have hd:(q.den:Rat)≠0:=by exact_mod_cast q.den_nz
  have e:=Rat.mkRat_self q
  rw[Rat.mkRat_eq_div] at e
  generalize(q.den:Rat)=d at*
  generalize(q.num:Rat)=n at*
  rw[←e,Rat.div_mul_cancel hd]
theorem abs_num {q:Rat} (h1: -1≤q) (h2:q≤1):¬q.den < q.num.natAbs:=by
  have hd:(0:Rat) < (q.den:Rat):=by exact_mod_cast q.den_pos
  have e:=q_den q
  have m1:=Rat.mul_le_mul_of_nonneg_right h1 (Rat.le_of_lt hd)
  have m2:=Rat.mul_le_mul_of_nonneg_right h2 (Rat.le_of_lt hd)
  rw[e] at m1 m2
  have n1: -(q.den:Int)≤q.num:=by
    have:((-(q.den:Int):Int):Rat)≤(q.num:Rat):=by push_cast;grind
    exact_mod_cast this
  have n2:q.num≤(q.den:Int):=by
    have:(q.num:Rat)≤((q.den:Int):Rat):=by push_cast;grind
    exact_mod_cast this
  omega
end Go.Q
namespace Go.Q
open Go.Proofs
set_option maxRecDepth 100000
set_option maxHeartbeats 8000000
def rtw (q:Rat) (n p:Nat):Nat:=q.num.natAbs*2^(p*n) / q.den
def rtx (q:Rat) (n p:Nat):Bool:=decide (irt n (rtw q n p)^n=rtw q n p) && decide (q.num.natAbs*2^(p*n) % q.den=0)
def rtm (up:Bool) (q:Rat) (n p:Nat):Nat:=if (up != decide (q.num < 0))=true∧rtx q n p=false then irt n (rtw q n p)+1 else irt n (rtw q n p)
def rootg (up:Bool) (q:Rat) (n p:Nat):Rat:=sgn (decide (q.num < 0)) (rtm up q n p) (2^p)
end Go.Q
namespace Go.Q
open Go.Proofs
set_option maxRecDepth 100000
set_option maxHeartbeats 8000000
end Go.Q
namespace Go.Q
open Go.Proofs
set_option maxRecDepth 100000
set_option maxHeartbeats 8000000
end Go.Q
namespace Go.Q
open Go.Proofs
set_option maxRecDepth 100000
set_option maxHeartbeats 8000000
end Go.Q
namespace Go.Q
open Go.Proofs
set_option maxRecDepth 100000
set_option maxHeartbeats 8000000
end Go.Q
namespace Go.Q
open Go.Proofs
set_option maxRecDepth 100000
set_option maxHeartbeats 8000000
def abQ (x:Rat):Rat:=sgn false x.num.natAbs x.den
def asR (x:Rat):Rat:=1+ -(abQ x*abQ x)
def asG (u:Bool) (x:Rat) (w:Nat):Rat:=rootg u (asR x) 2 w
def asH (u:Bool) (x:Rat) (w:Nat):Rat:=abQ x*(1+asG u x w)⁻¹
def asL (x:Rat) (w:Nat):Nat:=anL (glo (asH true x w) w) (ghi (asH false x w) w) w*2^1
def asU (x:Rat) (w:Nat):Nat:=anH (glo (asH true x w) w) (ghi (asH false x w) w) w*2^1
theorem abQ_parts (x:Rat):(abQ x).num=(x.num.natAbs:Int)∧(abQ x).den=x.den:=by
  have:=sgn_num (neg:=false) (n:=x.num.natAbs) (d:=x.den) x.den_nz x.reduced
  simpa[abQ] using this
theorem abQ_bd {x:Rat} (h:x.num.natAbs≤x.den):0≤abQ x∧abQ x≤1:=by
  obtain⟨e1,e2⟩:=abQ_parts x
  have hd:(0:Rat) < (x.den:Rat):=by exact_mod_cast x.den_pos
  have e:abQ x*(x.den:Rat)=(x.num.natAbs:Rat):=by
    have:=q_den (abQ x)
    rw[e1,e2] at this
    exact_mod_cast this
  have h':(x.num.natAbs:Rat)≤(x.den:Rat):=by exact_mod_cast h
  have h0:(0:Rat)≤(x.num.natAbs:Rat):=by exact_mod_cast Nat.zero_le _
  generalize(x.num.natAbs:Rat)=n at*
  generalize(x.den:Rat)=d at*
  exact⟨Rat.le_of_mul_le_mul_right (by grind) hd,Rat.le_of_mul_le_mul_right (by grind) hd⟩
theorem asR_bd {x:Rat} (h:x.num.natAbs≤x.den):0≤asR x∧asR x≤1:=by
  obtain⟨h1,h2⟩:=abQ_bd h
  have m1:=Rat.mul_le_mul_of_nonneg_left h2 h1
  have m2:=Rat.mul_nonneg h1 h1
  unfold asR
  generalize abQ x=a at*
  constructor<;>grind
theorem rtw_le {q:Rat} {w:Nat} (h0:0≤q) (h1:q≤1):rtw q 2 w≤2^(w*2):=by
  have:=abs_num (q:=q) (by grind) h1
  unfold rtw
  exact Nat.div_le_of_le_mul (Nat.mul_le_mul_right _ (by omega))
theorem asG_m {u:Bool} {q:Rat} {w:Nat} (h0:0≤q) (h1:q≤1):∃m,rootg u q 2 w=sgn false m (2^w)∧m≤2^w+1:=by
  have hw:=rtw_le (w:=w) h0 h1
  have hi:irt 2 (rtw q 2 w)≤2^w:=by
    have h2:=irt_le (n:=2) (a:=rtw q 2 w) (by decide)
    have h3:irt 2 (rtw q 2 w)^2≤(2^w)^2:=by rw[←Nat.pow_mul];exact Nat.le_trans h2 hw
    exact(Nat.pow_le_pow_iff_left (by decide)).1 h3
  refine⟨rtm u q 2 w,?_,?_⟩
  · unfold rootg
    rw[show decide (q.num < 0)=false from decide_eq_false (by rw[num_neg];grind)]
  · unfold rtm
    split<;>omega
theorem one_sgn (m w:Nat):1+sgn false m (2^w)=sgn false (2^w+m) (2^w):=by
  have hd:((2^w:Nat):Rat)≠0:=by exact_mod_cast pow2_ne w
  have e1:=sgn_u m w
  have e2:=sgn_u (2^w+m) w
  have e3:((2^w+m:Nat):Rat)=((2^w:Nat):Rat)+(m:Rat):=by push_cast;rfl
  rw[e3] at e2
  generalize sgn false m (2^w)=a at*
  generalize sgn false (2^w+m) (2^w)=b at*
  generalize((2^w:Nat):Rat)=u at*
  have:(1+a)*u=b*u:=by grind
  grind
theorem asG_bd {u:Bool} {x:Rat} {w:Nat} (h:x.num.natAbs≤x.den):0≤asG u x w∧sz (1+asG u x w)≤w+3:=by
  obtain⟨h0,h1⟩:=asR_bd h
  obtain⟨m,e,hm⟩:=asG_m (u:=u) (w:=w) h0 h1
  unfold asG
  rw[e]
  constructor
  · have:=sgn_u m w
    have hp:=u_pos w
    have hm0:(0:Rat)≤(m:Rat):=by exact_mod_cast Nat.zero_le _
    exact Rat.le_of_mul_le_mul_right (by grind) hp
  · rw[one_sgn]
    have b1:=sz_sgn false (2^w+m) (pow2_ne w)
    have b2:bl (2^w+m)≤w+3:=bl_le.2 (by
      have:2^(w+3)=2^w*8:=Nat.pow_add _ _ _
      have:=Nat.pos_of_ne_zero (pow2_ne w)
      omega)
    have b3:=bl_pow2 w
    omega
theorem asH_bd {u:Bool} {x:Rat} {w:Nat} (h:x.num.natAbs≤x.den):0≤asH u x w∧asH u x w≤1:=by
  obtain⟨h0,h1⟩:=abQ_bd h
  obtain⟨g0,_⟩:=asG_bd (u:=u) (w:=w) h
  unfold asH
  generalize asG u x w=g at*
  generalize abQ x=a at*
  have hp:(0:Rat) < 1+g:=by grind
  have e:(1+g)*(1+g)⁻¹=1:=Rat.mul_inv_cancel _ (by grind)
  have hi:0≤(1+g)⁻¹:=Rat.le_of_lt (Rat.inv_pos.2 hp)
  constructor
  · exact Rat.mul_nonneg h0 hi
  · have:=Rat.mul_le_mul_of_nonneg_right (show a≤1+g by grind) hi
    grind
theorem as_arg {x:Rat} {w:Nat} (h:x.num.natAbs≤x.den):glo (asH true x w) w≤2^w∧ghi (asH false x w) w≤2^w:=by
  obtain⟨a1,a2⟩:=asH_bd (u:=true) (w:=w) h
  obtain⟨b1,b2⟩:=asH_bd (u:=false) (w:=w) h
  exact⟨(g_le (abs_num (by grind) a2)).1,(g_le (abs_num (by grind) b2)).2⟩
def asinLo (x:Rat) (p:Nat):Rat:=bkL (decide (x.num < 0)) (asL x (p+32)) (asU x (p+32)) 32 p
def asinHi (x:Rat) (p:Nat):Rat:=bkH (decide (x.num < 0)) (asL x (p+32)) (asU x (p+32)) 32 p
theorem bl_as {x:Rat} {w:Nat} (hw:2≤w) (h:x.num.natAbs≤x.den):bl (asL x w)≤w+4∧bl (asU x w)≤w+4:=by
  obtain⟨l1,l2⟩:=as_arg (w:=w) h
  obtain⟨m1,m2⟩:=an_le hw l1 l2
  have b1:=bl_w3 hw m1
  have b2:=bl_w3 hw m2
  have b3:=bl_shl (anL (glo (asH true x w) w) (ghi (asH false x w) w) w) 1
  have b4:=bl_shl (anH (glo (asH true x w) w) (ghi (asH false x w) w) w) 1
  unfold asL asU
  omega
def acLo (x:Rat) (p:Nat):Rat:=if x=0 then bkL false (piL (p+32)) (piH (p+32)) 33 p else if x.num < 0 then bkL false (piL (p+32)+asL x (p+32)*2^1) (piH (p+32)+asU x (p+32)*2^1) 33 p else gdown (sgn false (piL (p+32)) (2^(p+32+1))+ -sgn false (asU x (p+32)*2^1) (2^(p+32+1))) p
def acHi (x:Rat) (p:Nat):Rat:=if x=0 then bkH false (piL (p+32)) (piH (p+32)) 33 p else if x.num < 0 then bkH false (piL (p+32)+asL x (p+32)*2^1) (piH (p+32)+asU x (p+32)*2^1) 33 p else gup (sgn false (piH (p+32)) (2^(p+32+1))+ -sgn false (asL x (p+32)*2^1) (2^(p+32+1))) p
end Go.Q
namespace Go.Q
open Go.Proofs
set_option maxRecDepth 100000
set_option maxHeartbeats 8000000
def snAt (x:Rat) (w:Nat) (low:Bool):Rat:=if (!(low == decide (x.num < 0)))=true then sgn (decide (x.num < 0)) (glo x w*wvL (glo x w) w 2 / 2^w) (2^w) else sgn (decide (x.num < 0)) (cdiv (glo x w*wvH (glo x w) w 2) (2^w)) (2^w)
theorem sn_n {y w:Nat} (hy:y≤2^w):y*wvL y w 2 / 2^w≤2^w∧cdiv (y*wvH y w 2) (2^w)≤2^w:=by
  obtain⟨h1,h2⟩:=waV_le (w:=w) (f:=2) (s:=sqL y w) (t:=sqH y w) (by decide) 24
  exact⟨Nat.div_le_of_le_mul (Nat.mul_le_mul hy h2),(cdiv_le_iff (pow2_ne w)).2 (Nat.mul_le_mul hy h1)⟩
theorem snAt_sz {x:Rat} {w:Nat} {low:Bool} (hy:glo x w≤2^w):sz (snAt x w low)≤w+2:=by
  obtain⟨h1,h2⟩:=sn_n hy
  have b0:=bl_pow2 w
  unfold snAt
  split
  · have:=sz_sgn (decide (x.num < 0)) (glo x w*wvL (glo x w) w 2 / 2^w) (pow2_ne w)
    have:=bl_pow_le (n:=glo x w*wvL (glo x w) w 2 / 2^w) (w:=w) (by omega)
    omega
  · have:=sz_sgn (decide (x.num < 0)) (cdiv (glo x w*wvH (glo x w) w 2) (2^w)) (pow2_ne w)
    have:=bl_pow_le (n:=cdiv (glo x w*wvH (glo x w) w 2) (2^w)) (w:=w) (by omega)
    omega
def csX (x y:Rat) (w:Nat):Nat:=max (glo x w) (glo y w)
def csN (x y:Rat) (w:Nat):Nat:=if (x.num < 0∧¬y.num < 0)∨x=0∨y=0 then 0 else min (glo x w) (glo y w)
end Go.Q
namespace Go.Q
open Go.Proofs
set_option maxRecDepth 100000
set_option maxHeartbeats 8000000
end Go.Q
namespace Go.Q
open Go.Proofs
set_option maxRecDepth 100000
set_option maxHeartbeats 8000000
def snl (x:Rat) (w:Nat):Rat:=snAt (rsA x w) w true
def snh (x:Rat) (w:Nat):Rat:=snAt (rsB x w) w false
def csl (x:Rat) (w:Nat):Rat:=sgn false (wvL (csX (rsA x w) (rsB x w) w) w 1) (2^w)
def csh (x:Rat) (w:Nat):Rat:=sgn false (wvH (csN (rsA x w) (rsB x w) w) w 1) (2^w)
def siL (x:Rat) (w:Nat):Rat:=if rsK x w % 4=1 then csl x w else if rsK x w % 4=2 then -snh x w else if rsK x w % 4=3 then -csh x w else snl x w
def siH (x:Rat) (w:Nat):Rat:=if rsK x w % 4=1 then csh x w else if rsK x w % 4=2 then -snl x w else if rsK x w % 4=3 then -csl x w else snh x w
def coL (x:Rat) (w:Nat):Rat:=if rsK x w % 4=1 then -snh x w else if rsK x w % 4=2 then -csh x w else if rsK x w % 4=3 then snl x w else csl x w
def coH (x:Rat) (w:Nat):Rat:=if rsK x w % 4=1 then -snl x w else if rsK x w % 4=2 then -csl x w else if rsK x w % 4=3 then snh x w else csh x w
theorem rs_glo {x:Rat} {w:Nat} (h1:64≤w) (h2:w≤192) (hb:¬x.den*4294967296 < x.num.natAbs):glo (rsA x w) w≤2^w∧glo (rsB x w) w≤2^w:=by
  obtain⟨a1,a2,a3⟩:=rs_bd h1 h2 (num_bd hb)
  exact⟨(g_le (abs_num a1 (by grind))).1,(g_le (abs_num (by grind) a3)).1⟩
theorem cs_sz {y w:Nat}:sz (sgn false (wvL y w 1) (2^w))≤w+2∧sz (sgn false (wvH y w 1) (2^w))≤w+2:=by
  obtain⟨w1,w2⟩:=waV_le (w:=w) (f:=1) (s:=sqL y w) (t:=sqH y w) (by decide) 24
  have h0:=bl_pow2 w
  have h1:=bl_pow_le (n:=wvL y w 1) (w:=w) (by unfold wvL;omega)
  have h2:=bl_pow_le (n:=wvH y w 1) (w:=w) (by unfold wvH;omega)
  have h3:=sz_sgn false (wvL y w 1) (pow2_ne w)
  have h4:=sz_sgn false (wvH y w 1) (pow2_ne w)
  omega
theorem sc_sz {x:Rat} {w:Nat} (hb:¬x.den*4294967296 < x.num.natAbs) (hw:64≤w) (hw':w≤192):sz (siL x w)≤w+2∧sz (siH x w)≤w+2∧sz (coL x w)≤w+2∧sz (coH x w)≤w+2:=by
  obtain⟨l1,l2⟩:=rs_glo hw hw' hb
  obtain⟨c1,_⟩:=cs_sz (y:=csX (rsA x w) (rsB x w) w) (w:=w)
  obtain⟨_,c2⟩:=cs_sz (y:=csN (rsA x w) (rsB x w) w) (w:=w)
  have c1:sz (csl x w)≤w+2:=c1
  have c2:sz (csh x w)≤w+2:=c2
  have n1:sz (snl x w)≤w+2:=snAt_sz l1
  have n2:sz (snh x w)≤w+2:=snAt_sz l2
  have e1:=sz_neg (snl x w)
  have e2:=sz_neg (snh x w)
  have e3:=sz_neg (csl x w)
  have e4:=sz_neg (csh x w)
  unfold siL siH coL coH
  refine⟨?_,?_,?_,?_⟩<;>(repeat' split)<;>omega
end Go.Q
namespace Go.Q
open Go.Proofs
set_option maxRecDepth 100000
set_option maxHeartbeats 8000000
def eErr (fn:Int) (x:Rat) (p:Int):Int:=if ¬(1≤fn∧fn≤8)∨p < 0∨128 < p then 2 else if defB fn x=false then 5 else if 1024 < sz x∨(fn=1∧x.den*64 < x.num.natAbs)∨((fn=3∨fn=4∨fn=5)∧x.den*4294967296 < x.num.natAbs) then 20 else 0
theorem eErr_2 {fn:Int} {x:Rat} {p:Int} (h:¬(1≤fn∧fn≤8)∨p < 0∨128 < p):eErr fn x p=2:=if_pos h
theorem eErr_5 {fn:Int} {x:Rat} {p:Int} (h:¬(¬(1≤fn∧fn≤8)∨p < 0∨128 < p)) (hd:defB fn x=false):eErr fn x p=5:=by unfold eErr;rw[if_neg h,if_pos hd]
theorem eErr_20 {fn:Int} {x:Rat} {p:Int} (h:¬(¬(1≤fn∧fn≤8)∨p < 0∨128 < p)) (hd:defB fn x=true) (hb:1024 < sz x∨(fn=1∧x.den*64 < x.num.natAbs)∨((fn=3∨fn=4∨fn=5)∧x.den*4294967296 < x.num.natAbs)):eErr fn x p=20:=by unfold eErr;rw[if_neg h,hd,if_neg (by decide),if_pos hb]
theorem eErr_0 {fn:Int} {x:Rat} {p:Int} (h:¬(¬(1≤fn∧fn≤8)∨p < 0∨128 < p)) (hd:defB fn x=true) (hb:¬(1024 < sz x∨(fn=1∧x.den*64 < x.num.natAbs)∨((fn=3∨fn=4∨fn=5)∧x.den*4294967296 < x.num.natAbs))):eErr fn x p=0:=by unfold eErr;rw[if_neg h,hd,if_neg (by decide),if_neg hb]
def Re0 (h:PH) (r:Value) (e:Int) (x:Rat):Prop:=∃b na nl nc da dl dc,r=.tuple #[.agg #[.bool b,.slice na nl nc,.slice da dl dc],.int .i64 e]∧(e=0→Cn h (.agg #[.bool b,.slice na nl nc,.slice da dl dc]) x)
theorem EReady_spec {h0 h:PH} [Le h0 h] {v:Value} {x:Rat} {fn p:Int} (hx:Rv h0 v x):Spec mach 84 #[.int .i64 fn,v,.int .i64 p] h (fun r h'=>Re0 h' r (eErr fn x p) x) NP:=by
  have bx:=hx.sz
  by_cases hf:1≤fn∧fn≤8
  case neg=>
    have kK:=fun {h} [Le h0 h]=>EKnown_arg (h:=h) hx hf
    rw[eErr_2 (.inl hf)]
    obtain⟨_,_,_,_,_,_,_,rfl,_⟩:=hx.sa
    refine Spec.go [] Tryz.func84 rfl rfl (by kernel_rfl) fun C _=>?_
    try simp(disch:=omega) only[go_sem,Nat.reduceBEq,Nat.reduceAdd]
    refine caN (by exact kK) ?_;rintro v1 h1 s1 rfl
    try simp(disch:=omega) only[go_sem,Nat.reduceBEq,Nat.reduceAdd]
    exact⟨_,_,_,_,_,_,_,rfl,fun e=>by cases e⟩
  have kK:=fun {h} [Le h0 h]=>EKnown_ok (h:=h) (fn:=fn) hx hf
  by_cases hp0:p < 0
  · rw[eErr_2 (.inr (.inl hp0))]
    obtain⟨_,_,_,_,_,_,_,rfl,_⟩:=hx.sa
    refine Spec.go [] Tryz.func84 rfl rfl (by kernel_rfl) fun C _=>?_
    try simp(disch:=omega) only[go_sem,Nat.reduceBEq,Nat.reduceAdd]
    refine caN (by exact kK) ?_;rintro v1 h1 s1 ⟨_,_,_,_,_,_,_,rfl,c⟩
    try simp(disch:=omega) only[go_sem,Nat.reduceBEq,Nat.reduceAdd]
    exact⟨_,_,_,_,_,_,_,rfl,fun e=>by cases e⟩
  by_cases hp1:128 < p
  · rw[eErr_2 (.inr (.inr hp1))]
    obtain⟨_,_,_,_,_,_,_,rfl,_⟩:=hx.sa
    refine Spec.go [] Tryz.func84 rfl rfl (by kernel_rfl) fun C _=>?_
    try simp(disch:=omega) only[go_sem,Nat.reduceBEq,Nat.reduceAdd]
    refine caN (by exact kK) ?_;rintro v1 h1 s1 ⟨_,_,_,_,_,_,_,rfl,c⟩
    try simp(disch:=omega) only[go_sem,Nat.reduceBEq,Nat.reduceAdd]
    exact⟨_,_,_,_,_,_,_,rfl,fun e=>by cases e⟩
  have hA:¬(¬(1≤fn∧fn≤8)∨p < 0∨128 < p):=by omega
  obtain⟨_,_,_,_,_,_,_,rfl,_⟩:=hx.sa
  cases hd:defB fn x with
  | false=>
    rw[eErr_5 hA hd]
    clear hA
    refine Spec.go [] Tryz.func84 rfl rfl (by kernel_rfl) fun C _=>?_
    try simp(disch:=omega) only[go_sem,Nat.reduceBEq,Nat.reduceAdd]
    refine caN (by exact kK) ?_;rintro v1 h1 s1 ⟨_,_,_,_,_,_,_,rfl,c⟩
    try simp(disch:=omega) only[go_sem,Nat.reduceBEq,Nat.reduceAdd]
    refine caN (by exact EDefined_spec (fn:=fn) c) ?_;rintro v2 h2 s2 rfl
    try simp(disch:=omega) only[go_sem,Nat.reduceBEq,Nat.reduceAdd]
    try rw[hd]
    try simp(disch:=omega) only[go_sem,Nat.reduceBEq,Nat.reduceAdd]
    exact⟨_,_,_,_,_,_,_,rfl,fun e=>by cases e⟩
  | true=>
    by_cases hl:1024 < sz x
    · rw[eErr_20 hA hd (.inl hl)]
      have hl:=decide_eq_true hl
      clear hA
      refine Spec.go [] Tryz.func84 rfl rfl (by kernel_rfl) fun C _=>?_
      try simp(disch:=omega) only[go_sem,Nat.reduceBEq,Nat.reduceAdd]
      refine caN (by exact kK) ?_;rintro v1 h1 s1 ⟨_,_,_,_,_,_,_,rfl,c⟩
      try simp(disch:=omega) only[go_sem,Nat.reduceBEq,Nat.reduceAdd]
      refine caN (by exact EDefined_spec (fn:=fn) c) ?_;rintro v2 h2 s2 rfl
      try simp(disch:=omega) only[go_sem,Nat.reduceBEq,Nat.reduceAdd]
      try rw[hd]
      try simp(disch:=omega) only[go_sem,Nat.reduceBEq,Nat.reduceAdd]
      refine caN (by exact TooLong_spec (c.to (h':=h2))) ?_;rintro v3 h3 s3 rfl
      try simp(disch:=omega) only[go_sem,Nat.reduceBEq,Nat.reduceAdd]
      try rw[hl]
      try simp(disch:=omega) only[go_sem,Nat.reduceBEq,Nat.reduceAdd]
      exact⟨_,_,_,_,_,_,_,rfl,fun e=>by cases e⟩
    have hl':=decide_eq_false hl
    by_cases h1:fn=1
    · subst h1
      by_cases hb:x.den*64 < x.num.natAbs
      · rw[eErr_20 hA hd (.inr (.inl ⟨rfl,hb⟩))]
        have hb':=decide_eq_true hb
        clear hA
        refine Spec.go [] Tryz.func84 rfl rfl (by kernel_rfl) fun C _=>?_
        try simp(disch:=omega) only[go_sem,Nat.reduceBEq,Nat.reduceAdd]
        refine caN (by exact kK) ?_;rintro v1 h1 s1 ⟨_,_,_,_,_,_,_,rfl,c⟩
        try simp(disch:=omega) only[go_sem,Nat.reduceBEq,Nat.reduceAdd]
        refine caN (by exact EDefined_spec (fn:=1) c) ?_;rintro v2 h2 s2 rfl
        try simp(disch:=omega) only[go_sem,Nat.reduceBEq,Nat.reduceAdd]
        try rw[hd]
        try simp(disch:=omega) only[go_sem,Nat.reduceBEq,Nat.reduceAdd]
        refine caN (by exact TooLong_spec (c.to (h':=h2))) ?_;rintro v3 h3 s3 rfl
        try simp(disch:=omega) only[go_sem,Nat.reduceBEq,Nat.reduceAdd]
        try rw[hl']
        try simp(disch:=omega) only[go_sem,Nat.reduceBEq,Nat.reduceAdd]
        refine caN (by exact Beyond_spec (n:=64) (c.to (h':=h3)) (by omega) (by decide)) ?_;rintro v4 h4 s4 rfl
        try simp(disch:=omega) only[go_sem,Nat.reduceBEq,Nat.reduceAdd]
        try rw[hb']
        try simp(disch:=omega) only[go_sem,Nat.reduceBEq,Nat.reduceAdd]
        exact⟨_,_,_,_,_,_,_,rfl,fun e=>by cases e⟩
      · rw[eErr_0 hA hd (by rintro(k |k |k);exact hl k;exact hb k.2;exact absurd k.1 (by decide))]
        have hb':=decide_eq_false hb
        clear hA
        refine Spec.go [] Tryz.func84 rfl rfl (by kernel_rfl) fun C _=>?_
        try simp(disch:=omega) only[go_sem,Nat.reduceBEq,Nat.reduceAdd]
        refine caN (by exact kK) ?_;rintro v1 h1 s1 ⟨_,_,_,_,_,_,_,rfl,c⟩
        try simp(disch:=omega) only[go_sem,Nat.reduceBEq,Nat.reduceAdd]
        refine caN (by exact EDefined_spec (fn:=1) c) ?_;rintro v2 h2 s2 rfl
        try simp(disch:=omega) only[go_sem,Nat.reduceBEq,Nat.reduceAdd]
        try rw[hd]
        try simp(disch:=omega) only[go_sem,Nat.reduceBEq,Nat.reduceAdd]
        refine caN (by exact TooLong_spec (c.to (h':=h2))) ?_;rintro v3 h3 s3 rfl
        try simp(disch:=omega) only[go_sem,Nat.reduceBEq,Nat.reduceAdd]
        try rw[hl']
        try simp(disch:=omega) only[go_sem,Nat.reduceBEq,Nat.reduceAdd]
        refine caN (by exact Beyond_spec (n:=64) (c.to (h':=h3)) (by omega) (by decide)) ?_;rintro v4 h4 s4 rfl
        try simp(disch:=omega) only[go_sem,Nat.reduceBEq,Nat.reduceAdd]
        try rw[hb']
        try simp(disch:=omega) only[go_sem,Nat.reduceBEq,Nat.reduceAdd]
        exact⟨_,_,_,_,_,_,_,rfl,fun _=>c.to⟩
    by_cases h3:fn=3∨fn=4∨fn=5
    · have hb:(x.den*4294967296 < x.num.natAbs)∨¬(x.den*4294967296 < x.num.natAbs):=Decidable.em _
      rcases hb with hb |hb
      · rw[eErr_20 hA hd (.inr (.inr ⟨h3,hb⟩))]
        have hb':=decide_eq_true hb
        have kB:∀{h1 h:PH} {v:Value} [Le h1 h],Cn h1 v x→Spec mach 81 #[v,.int .u64 (4294967296:Nat)] h (fun v _=>v=.bool true) NP:=fun c=>by
          rw[←hb']
          exact Beyond_spec (n:=4294967296) c (Nat.le_trans bx (by decide)) (by decide)
        clear hA hb hb' h1
        rcases h3 with rfl |rfl |rfl
        all_goals
          refine Spec.go [] Tryz.func84 rfl rfl (by kernel_rfl) fun C _=>?_
          try simp(disch:=omega) only[go_sem,Nat.reduceBEq,Nat.reduceAdd]
          refine caN (by exact kK) ?_;rintro v1 h1 s1 ⟨_,_,_,_,_,_,_,rfl,c⟩
          try simp(disch:=omega) only[go_sem,Nat.reduceBEq,Nat.reduceAdd]
          refine caN (by exact EDefined_spec c) ?_;rintro v2 h2 s2 rfl
          try rw[hd]
          try simp(disch:=omega) only[go_sem,Nat.reduceBEq,Nat.reduceAdd]
          refine caN (by exact TooLong_spec (c.to (h':=h2))) ?_;rintro v3 h3 s3 rfl
          try simp(disch:=omega) only[go_sem,Nat.reduceBEq,Nat.reduceAdd]
          try rw[hl']
          try simp(disch:=omega) only[go_sem,Nat.reduceBEq,Nat.reduceAdd]
          refine caN (by exact kB (c.to (h':=h3))) ?_;rintro v4 h4 s4 rfl
          try simp(disch:=omega) only[go_sem,Nat.reduceBEq,Nat.reduceAdd]
          exact⟨_,_,_,_,_,_,_,rfl,fun e=>by cases e⟩
      · rw[eErr_0 hA hd (by rintro(k |k |k);exact hl k;exact h1 k.1;exact hb k.2)]
        have hb':=decide_eq_false hb
        have kB:∀{h1 h:PH} {v:Value} [Le h1 h],Cn h1 v x→Spec mach 81 #[v,.int .u64 (4294967296:Nat)] h (fun v _=>v=.bool false) NP:=fun c=>by
          rw[←hb']
          exact Beyond_spec (n:=4294967296) c (Nat.le_trans bx (by decide)) (by decide)
        clear hA hb hb' h1
        rcases h3 with rfl |rfl |rfl
        all_goals
          refine Spec.go [] Tryz.func84 rfl rfl (by kernel_rfl) fun C _=>?_
          try simp(disch:=omega) only[go_sem,Nat.reduceBEq,Nat.reduceAdd]
          refine caN (by exact kK) ?_;rintro v1 h1 s1 ⟨_,_,_,_,_,_,_,rfl,c⟩
          try simp(disch:=omega) only[go_sem,Nat.reduceBEq,Nat.reduceAdd]
          refine caN (by exact EDefined_spec c) ?_;rintro v2 h2 s2 rfl
          try rw[hd]
          try simp(disch:=omega) only[go_sem,Nat.reduceBEq,Nat.reduceAdd]
          refine caN (by exact TooLong_spec (c.to (h':=h2))) ?_;rintro v3 h3 s3 rfl
          try simp(disch:=omega) only[go_sem,Nat.reduceBEq,Nat.reduceAdd]
          try rw[hl']
          try simp(disch:=omega) only[go_sem,Nat.reduceBEq,Nat.reduceAdd]
          refine caN (by exact kB (c.to (h':=h3))) ?_;rintro v4 h4 s4 rfl
          try simp(disch:=omega) only[go_sem,Nat.reduceBEq,Nat.reduceAdd]
          exact⟨_,_,_,_,_,_,_,rfl,fun _=>c.to⟩
    · rw[eErr_0 hA hd (by rintro(k |k |k);exact hl k;exact h1 k.1;exact h3 k.1)]
      have f1:(fn == 1)=false:=by simpa using h1
      have f3:(fn == 3)=false:=by simp;omega
      have f4:(fn == 4)=false:=by simp;omega
      have f5:(fn == 5)=false:=by simp;omega
      clear hA h1 h3
      refine Spec.go [] Tryz.func84 rfl rfl (by kernel_rfl) fun C _=>?_
      try simp(disch:=omega) only[go_sem,Nat.reduceBEq,Nat.reduceAdd]
      refine caN (by exact kK) ?_;rintro v1 h1 s1 ⟨_,_,_,_,_,_,_,rfl,c⟩
      try simp(disch:=omega) only[go_sem,Nat.reduceBEq,Nat.reduceAdd]
      refine caN (by exact EDefined_spec (fn:=fn) c) ?_;rintro v2 h2 s2 rfl
      try simp(disch:=omega) only[go_sem,Nat.reduceBEq,Nat.reduceAdd]
      try rw[hd]
      try simp(disch:=omega) only[go_sem,Nat.reduceBEq,Nat.reduceAdd]
      refine caN (by exact TooLong_spec (c.to (h':=h2))) ?_;rintro v3 h3 s3 rfl
      try simp(disch:=omega) only[go_sem,Nat.reduceBEq,Nat.reduceAdd]
      try rw[hl']
      try simp(disch:=omega) only[go_sem,Nat.reduceBEq,Nat.reduceAdd,f1,f3,f4,f5]
      exact⟨_,_,_,_,_,_,_,rfl,fun _=>c.to⟩
def Ber (h:PH) (r:Value) (e:Int) (x y:Rat):Prop:=∃b1 a1 m1 c1 a2 m2 c2 b2 a3 m3 c3 a4 m4 c4,r=.tuple #[.agg #[.bool b1,.slice a1 m1 c1,.slice a2 m2 c2,.bool b2,.slice a3 m3 c3,.slice a4 m4 c4],.int .i64 e]∧Cn h (.agg #[.bool b1,.slice a1 m1 c1,.slice a2 m2 c2]) x∧Cn h (.agg #[.bool b2,.slice a3 m3 c3,.slice a4 m4 c4]) y
theorem Ber.no (h:PH) (e:Int):Ber h (.tuple #[.agg #[.bool false,.slice none 0 0,.slice none 0 0,.bool false,.slice none 0 0,.slice none 0 0],.int .i64 e]) e 0 0:=⟨_,_,_,_,_,_,_,_,_,_,_,_,_,_,rfl,Cn.nul h,Cn.nul h⟩
theorem EApply_err {h0 h:PH} [Le h0 h] {v:Value} {x:Rat} {fn p:Int} {g:FuncId} (hx:Rv h0 v x) (he:eErr fn x p≠0):Spec mach 46 #[.int .i64 fn,v,.int .i64 p,.func (.func g) #[] #[]] h (fun r h'=>Ber h' r (eErr fn x p) 0 0) NP:=by
  have kR:=fun {h} [Le h0 h]=>EReady_spec (h:=h) (fn:=fn) (p:=p) hx
  obtain⟨_,_,_,_,_,_,_,rfl,_⟩:=hx.sa
  have f0:(eErr fn x p != 0)=true:=by simpa using he
  generalize eErr fn x p=e at*
  refine Spec.go [] Tryz.func46 rfl rfl (by kernel_rfl) fun C _=>?_
  try simp(disch:=omega) only[go_sem,Nat.reduceBEq,Nat.reduceAdd]
  refine caN (by exact kR) ?_;rintro v1 h1 s1 ⟨_,_,_,_,_,_,_,rfl,c⟩
  try simp(disch:=omega) only[go_sem,Nat.reduceBEq,Nat.reduceAdd,f0]
  exact Ber.no _ _
theorem EApply_exact {h0 h:PH} [Le h0 h] {v:Value} {x:Rat} {fn p:Int} {g:FuncId} (hx:Rv h0 v x) (he:eErr fn x p=0) (hb:exB fn x=true):Spec mach 46 #[.int .i64 fn,v,.int .i64 p,.func (.func g) #[] #[]] h (fun r h'=>Ber h' r 0 (exV fn x) (exV fn x)) NP:=by
  have kR:=fun {h} [Le h0 h]=>EReady_spec (h:=h) (fn:=fn) (p:=p) hx
  rw[he] at kR
  have kE:=fun {h1 h:PH} {a:Value} [Le h1 h] (c:Cn h1 a x)=>EExact_spec (h:=h) (fn:=fn) c
  rw[hb] at kE
  have sv:sz (exV fn x)≤2048:=by unfold exV;split<;>decide
  obtain⟨_,_,_,_,_,_,_,rfl,_⟩:=hx.sa
  refine Spec.go [] Tryz.func46 rfl rfl (by kernel_rfl) fun C _=>?_
  try simp(disch:=omega) only[go_sem,Nat.reduceBEq,Nat.reduceAdd]
  refine caN (by exact kR) ?_;rintro v1 h1 s1 ⟨_,_,_,_,_,_,_,rfl,c⟩
  try simp(disch:=omega) only[go_sem,Nat.reduceBEq,Nat.reduceAdd]
  refine caN (by exact kE (c rfl)) ?_;rintro v2 h2 s2 ⟨_,_,_,_,_,_,_,rfl,c2⟩
  try simp(disch:=omega) only[go_sem,Nat.reduceBEq,Nat.reduceAdd]
  refine caN (by exact NumCanon (Rv.of c2 sv)) ?_;rintro v3 h3 s3 ⟨_,_,_,_,_,_,_,rfl,c3⟩
  try simp(disch:=omega) only[go_sem,Nat.reduceBEq,Nat.reduceAdd]
  exact⟨_,_,_,_,_,_,_,_,_,_,_,_,_,_,rfl,c2.to,c3⟩
theorem EApply_ser {h0 h:PH} [Le h0 h] {v:Value} {x y z:Rat} {fn p e:Int} {g:FuncId} (hx:Rv h0 v x) (he:eErr fn x p=0) (hb:exB fn x=false) (hg:∀{h0 h:PH} {a:Value} [Le h0 h],Cn h0 a x→Spec mach g #[a,.int .i64 p] h (fun r h'=>Ber h' r e y z) NP):
    Spec mach 46 #[.int .i64 fn,v,.int .i64 p,.func (.func g) #[] #[]] h (fun r h'=>Ber h' r e y z) NP:=by
  have kR:=fun {h} [Le h0 h]=>EReady_spec (h:=h) (fn:=fn) (p:=p) hx
  rw[he] at kR
  have kE:=fun {h1 h:PH} {a:Value} [Le h1 h] (c:Cn h1 a x)=>EExact_spec (h:=h) (fn:=fn) c
  rw[hb] at kE
  obtain⟨_,_,_,_,_,_,_,rfl,_⟩:=hx.sa
  refine Spec.go [] Tryz.func46 rfl rfl (by kernel_rfl) fun C _=>?_
  try simp(disch:=omega) only[go_sem,Nat.reduceBEq,Nat.reduceAdd]
  refine caN (by exact kR) ?_;rintro v1 h1 s1 ⟨_,_,_,_,_,_,_,rfl,c⟩
  try simp(disch:=omega) only[go_sem,Nat.reduceBEq,Nat.reduceAdd]
  refine caN (by exact kE (c rfl)) ?_;rintro v2 h2 s2 ⟨_,_,_,_,_,_,_,rfl,_⟩
  try simp(disch:=omega) only[go_sem,Nat.reduceBEq,Nat.reduceAdd]
  refine caN (by exact hg ((c rfl).to (h':=h2))) ?_;rintro v3 h3 s3 ⟨_,_,_,_,_,_,_,_,_,_,_,_,_,_,rfl,q3⟩
  try simp(disch:=omega) only[go_sem,Nat.reduceBEq,Nat.reduceAdd]
  exact⟨_,_,_,_,_,_,_,_,_,_,_,_,_,_,rfl,q3⟩
theorem EReady_no {h0 h:PH} [Le h0 h] {v:Value} {neg:Bool} {n d:Nat} {fn p:Int} (hv:Rw h0 v neg n d) (hl:lg neg n d):Spec mach 84 #[.int .i64 fn,v,.int .i64 p] h (fun r _=>r=.tuple #[.agg #[.bool false,.slice none 0 0,.slice none 0 0],.int .i64 1]) NP:=by
  have kK:=fun {h} [Le h0 h]=>EKnown_no (h:=h) (fn:=fn) hv hl
  obtain⟨_,_,_,_,_,_,_,rfl,_⟩:=hv.sa
  refine Spec.go [] Tryz.func84 rfl rfl (by kernel_rfl) fun C _=>?_
  try simp(disch:=omega) only[go_sem,Nat.reduceBEq,Nat.reduceAdd]
  refine caN (by exact kK) ?_;rintro v1 h1 s1 rfl
  try simp(disch:=omega) only[go_sem,Nat.reduceBEq,Nat.reduceAdd]
theorem EApply_no {h0 h:PH} [Le h0 h] {v:Value} {neg:Bool} {n d:Nat} {fn p:Int} {g:FuncId} (hv:Rw h0 v neg n d) (hl:lg neg n d):Spec mach 46 #[.int .i64 fn,v,.int .i64 p,.func (.func g) #[] #[]] h (fun r h'=>Ber h' r 1 0 0) NP:=by
  have kR:=fun {h} [Le h0 h]=>EReady_no (h:=h) (fn:=fn) (p:=p) hv hl
  obtain⟨_,_,_,_,_,_,_,rfl,_⟩:=hv.sa
  refine Spec.go [] Tryz.func46 rfl rfl (by kernel_rfl) fun C _=>?_
  try simp(disch:=omega) only[go_sem,Nat.reduceBEq,Nat.reduceAdd]
  refine caN (by exact kR) ?_;rintro v1 h1 s1 rfl
  try simp(disch:=omega) only[go_sem,Nat.reduceBEq,Nat.reduceAdd]
  exact Ber.no _ _
end Go.Q
namespace Go.Q
open Go.Proofs
set_option maxRecDepth 100000
set_option maxHeartbeats 16000000
theorem sgn_sg (neg:Bool) (n d:Nat):sgn neg n d=if neg=true then -sgn false n d else sgn false n d:=by
  cases neg
  · rfl
  · unfold sgn
    simp only[if_true,Bool.false_eq_true,if_false]
    rw[Rat.neg_mkRat]
def tq (x:Rat) (w:Nat):Nat→Rat
  |0=>siL x w*(coL x w)⁻¹
  |1=>siL x w*(coH x w)⁻¹
  |2=>siH x w*(coL x w)⁻¹
  |_=>siH x w*(coH x w)⁻¹
def tqL (x:Rat) (w:Nat):Nat→Rat
  |0=>tq x w 0
  |n+1=>if tq x w (n+1) < tqL x w n then tq x w (n+1) else tqL x w n
def tqH (x:Rat) (w:Nat):Nat→Rat
  |0=>tq x w 0
  |n+1=>if tqH x w n < tq x w (n+1) then tq x w (n+1) else tqH x w n
theorem tq_sz {x:Rat} {w:Nat} (hb:¬x.den*4294967296 < x.num.natAbs) (hw:64≤w) (hw':w≤192):∀n,sz (tq x w n)≤2*w+4:=by
  obtain⟨z1,z2,z3,z4⟩:=sc_sz hb hw hw'
  have i1:=sz_inv (coL x w)
  have i2:=sz_inv (coH x w)
  have m1:=sz_mul (siL x w) (coL x w)⁻¹
  have m2:=sz_mul (siL x w) (coH x w)⁻¹
  have m3:=sz_mul (siH x w) (coL x w)⁻¹
  have m4:=sz_mul (siH x w) (coH x w)⁻¹
  intro n
  unfold tq
  split<;>omega
theorem tqL_sz {x:Rat} {w:Nat} (hb:¬x.den*4294967296 < x.num.natAbs) (hw:64≤w) (hw':w≤192):∀n,sz (tqL x w n)≤2*w+4∧sz (tqH x w n)≤2*w+4
  |0=>⟨tq_sz hb hw hw' 0,tq_sz hb hw hw' 0⟩
  | n+1=>by
    obtain⟨h1,h2⟩:=tqL_sz hb hw hw' n
    have h3:=tq_sz hb hw hw' (n+1)
    unfold tqL tqH
    constructor<;>split<;>assumption
end Go.Q
namespace Go.Q
open Go.Proofs
set_option maxRecDepth 100000
set_option maxHeartbeats 16000000
end Go.Q
namespace Go.Q
open Go.Proofs
set_option maxRecDepth 100000
set_option maxHeartbeats 8000000
def tanLo (x:Rat) (p:Nat):Rat:=gdown (tqL x (p+64) 3) p
def tanHi (x:Rat) (p:Nat):Rat:=gup (tqH x (p+64) 3) p
def pole (x:Rat) (p:Nat):Prop:=coL x (p+64)≤0∧0≤coH x (p+64)
instance (x:Rat) (p:Nat):Decidable (pole x p):=inferInstanceAs (Decidable (_∧_))
def serL (fn:Int) (x:Rat) (p:Nat):Rat:=if fn=1 then expLo x p else if fn=2 then lnLo x.num.natAbs x.den p else if fn=3 then gdown (siL x (p+64)) p else if fn=4 then gdown (coL x (p+64)) p else if fn=5 then tanLo x p else if fn=6 then asinLo x p else if fn=7 then acLo x p else atLo x p
def serH (fn:Int) (x:Rat) (p:Nat):Rat:=if fn=1 then expHi x p else if fn=2 then lnHi x.num.natAbs x.den p else if fn=3 then gup (siH x (p+64)) p else if fn=4 then gup (coH x (p+64)) p else if fn=5 then tanHi x p else if fn=6 then asinHi x p else if fn=7 then acHi x p else atHi x p
def elE (fn:Int) (x:Rat) (p:Int):Int:=if eErr fn x p≠0 then eErr fn x p else if exB fn x=true then 0 else if fn=5∧pole x p.toNat then 20 else 0
def elL (fn:Int) (x:Rat) (p:Int):Rat:=if elE fn x p≠0 then 0 else if exB fn x=true then exV fn x else serL fn x p.toNat
def elH (fn:Int) (x:Rat) (p:Int):Rat:=if elE fn x p≠0 then 0 else if exB fn x=true then exV fn x else serH fn x p.toNat
theorem eErr_p {fn:Int} {x:Rat} {p:Int} (he:eErr fn x p=0):(1≤fn∧fn≤8)∧0≤p∧p≤128∧defB fn x=true∧sz x≤1024∧(fn=1→¬x.den*64 < x.num.natAbs)∧(fn=3∨fn=4∨fn=5→¬x.den*4294967296 < x.num.natAbs):=by
  by_cases h:¬(1≤fn∧fn≤8)∨p < 0∨128 < p
  · rw[eErr_2 h] at he;cases he
  cases hd:defB fn x with
  |false=>rw[eErr_5 h hd] at he;cases he
  | true=>
    by_cases hb:1024 < sz x∨(fn=1∧x.den*64 < x.num.natAbs)∨((fn=3∨fn=4∨fn=5)∧x.den*4294967296 < x.num.natAbs)
    · rw[eErr_20 h hd hb] at he;cases he
    · refine⟨by omega,by omega,by omega,rfl,by omega,fun k c=>hb (.inr (.inl ⟨k,c⟩)),fun k c=>hb (.inr (.inr ⟨k,c⟩))⟩
theorem EApply_all {h0 h:PH} [Le h0 h] {v:Value} {x:Rat} {fn p:Int} {g:FuncId} (hx:Rv h0 v x)
    (hg:eErr fn x p=0→exB fn x=false→∀{h0 h:PH} {a:Value} [Le h0 h],Cn h0 a x→Spec mach g #[a,.int .i64 (p.toNat:Nat)] h (fun r h'=>Ber h' r (elE fn x p) (if elE fn x p≠0 then 0 else serL fn x p.toNat) (if elE fn x p≠0 then 0 else serH fn x p.toNat)) NP):
    Spec mach 46 #[.int .i64 fn,v,.int .i64 p,.func (.func g) #[] #[]] h (fun r h'=>Ber h' r (elE fn x p) (elL fn x p) (elH fn x p)) NP:=by
  by_cases he:eErr fn x p=0
  · have hp:((p.toNat:Nat):Int)=p:=by have:=eErr_p he;omega
    cases hb:exB fn x with
    | true=>
      have e1:elE fn x p=0:=by unfold elE;rw[if_neg (by simp[he]),if_pos hb]
      have e2:elL fn x p=exV fn x:=by unfold elL;rw[if_neg (by simp[e1]),if_pos hb]
      have e3:elH fn x p=exV fn x:=by unfold elH;rw[if_neg (by simp[e1]),if_pos hb]
      rw[e1,e2,e3]
      exact EApply_exact hx he hb
    | false=>
      have e2:elL fn x p=if elE fn x p≠0 then 0 else serL fn x p.toNat:=by unfold elL;split;rfl;rw[hb,if_neg (by decide)]
      have e3:elH fn x p=if elE fn x p≠0 then 0 else serH fn x p.toNat:=by unfold elH;split;rfl;rw[hb,if_neg (by decide)]
      rw[e2,e3]
      have hg:=@hg he hb
      rw[hp] at hg
      exact EApply_ser hx he hb hg
  · have e1:elE fn x p=eErr fn x p:=by unfold elE;rw[if_pos he]
    have e2:elL fn x p=0:=by unfold elL;rw[if_pos (by rw[e1];exact he)]
    have e3:elH fn x p=0:=by unfold elH;rw[if_pos (by rw[e1];exact he)]
    rw[e1,e2,e3]
    exact EApply_err hx he
theorem elE_0 {fn:Int} {x:Rat} {p:Int} (he:eErr fn x p=0) (hb:exB fn x=false) (h5:fn≠5):elE fn x p=0:=by
  unfold elE
  rw[if_neg (by simp[he]),hb,if_neg (by decide),if_neg (fun k=>h5 k.1)]
theorem ser2 {h0 h:PH} {a:Value} {x:Rat} {p:Int} (he:eErr 2 x p=0) (hb:exB 2 x=false) [Le h0 h] (c:Cn h0 a x):Spec mach 38 #[a,.int .i64 (p.toNat:Nat)] h (fun r h'=>Ber h' r (elE 2 x p) (if elE 2 x p≠0 then 0 else serL 2 x p.toNat) (if elE 2 x p≠0 then 0 else serH 2 x p.toNat)) NP:=by
  obtain⟨_,p0,p1,hd,bx,_,_⟩:=eErr_p he
  rw[elE_0 he hb (by decide)]
  have hx:0 < x:=by simpa[defB] using hd
  refine ELog_spec c bx (fun e=>?_) (by omega)
  have:=Rat.num_eq_zero.1 (Int.natAbs_eq_zero.1 e)
  rw[this] at hx
  exact absurd hx (by decide)
theorem abs_1 {x:Rat} (hd:decide (x.num.natAbs≤x.den)=true):x.num.natAbs≤x.den:=of_decide_eq_true hd
theorem Ber.sp {h:PH} {r:Value} {e:Int} {x y:Rat} (k:Ber h r e x y):∃b1 a1 m1 c1 a2 m2 c2 b2 a3 m3 c3 a4 m4 c4,r=.tuple #[.agg #[.bool b1,.slice a1 m1 c1,.slice a2 m2 c2,.bool b2,.slice a3 m3 c3,.slice a4 m4 c4],.int .i64 e]∧Ber h (.tuple #[.agg #[.bool b1,.slice a1 m1 c1,.slice a2 m2 c2,.bool b2,.slice a3 m3 c3,.slice a4 m4 c4],.int .i64 e]) e x y:=by
  obtain⟨b1,a1,m1,c1,a2,m2,c2,b2,a3,m3,c3,a4,m4,c4,rfl,k1,k2⟩:=k
  exact⟨b1,a1,m1,c1,a2,m2,c2,b2,a3,m3,c3,a4,m4,c4,rfl,_,_,_,_,_,_,_,_,_,_,_,_,_,_,rfl,k1,k2⟩
theorem Apply_e2 {h0 h:PH} [Le h0 h] {v:Value} {x:Rat} {p:Int} (hx:Rv h0 v x):Spec mach 19 #[.int .i64 2,v,.int .i64 p] h (fun r h'=>Ber h' r (elE 2 x p) (elL 2 x p) (elH 2 x p)) NP:=by
  have kA:=fun {h} [Le h0 h]=>EApply_all (h:=h) (fn:=2) (p:=p) (g:=38) hx (fun he hb {_ _ _} _ c=>ser2 he hb c)
  obtain⟨_,_,_,_,_,_,_,rfl,_⟩:=hx.sa
  refine Spec.go [] Tryz.func19 rfl rfl (by kernel_rfl) fun C _=>?_
  try simp(disch:=omega) only[go_sem,Nat.reduceBEq,Nat.reduceAdd]
  change op2 (some (Value.func (.func 38) #[] #[])) _
  try simp(disch:=omega) only[go_sem,Nat.reduceBEq,Nat.reduceAdd]
  refine caN (by exact kA) ?_;rintro v1 h1 s1 q1;obtain⟨_,_,_,_,_,_,_,_,_,_,_,_,_,_,rfl,q1⟩:=q1.sp
  try simp(disch:=omega) only[go_sem,Nat.reduceBEq,Nat.reduceAdd]
  exact q1
theorem Apply_no {h0 h:PH} [Le h0 h] {v:Value} {neg:Bool} {n d:Nat} {fn p:Int} (hv:Rw h0 v neg n d) (hl:lg neg n d):Spec mach 19 #[.int .i64 fn,v,.int .i64 p] h (fun r h'=>Ber h' r 1 0 0) NP:=by
  by_cases hf:1≤fn∧fn≤8
  · have hc:fn=1∨fn=2∨fn=3∨fn=4∨fn=5∨fn=6∨fn=7∨fn=8:=by omega
    clear hf
    have kA:=fun {h} {g:FuncId} [Le h0 h]=>EApply_no (h:=h) (fn:=fn) (p:=p) (g:=g) hv hl
    obtain⟨_,_,_,_,_,_,_,rfl,_⟩:=hv.sa
    rcases hc with rfl |rfl |rfl |rfl |rfl |rfl |rfl |rfl
    all_goals
      refine Spec.go [] Tryz.func19 rfl rfl (by kernel_rfl) fun C _=>?_
      try simp(disch:=omega) only[go_sem,Nat.reduceBEq,Nat.reduceAdd]
    · change op2 (some (Value.func (.func 37) #[] #[])) _
      try simp(disch:=omega) only[go_sem,Nat.reduceBEq,Nat.reduceAdd]
      refine caN (by exact kA) ?_;rintro v1 h1 s1 q1;obtain⟨_,_,_,_,_,_,_,_,_,_,_,_,_,_,rfl,q1⟩:=q1.sp
      try simp(disch:=omega) only[go_sem,Nat.reduceBEq,Nat.reduceAdd]
      exact q1
    · change op2 (some (Value.func (.func 38) #[] #[])) _
      try simp(disch:=omega) only[go_sem,Nat.reduceBEq,Nat.reduceAdd]
      refine caN (by exact kA) ?_;rintro v1 h1 s1 q1;obtain⟨_,_,_,_,_,_,_,_,_,_,_,_,_,_,rfl,q1⟩:=q1.sp
      try simp(disch:=omega) only[go_sem,Nat.reduceBEq,Nat.reduceAdd]
      exact q1
    · change op2 (some (Value.func (.func 39) #[] #[])) _
      try simp(disch:=omega) only[go_sem,Nat.reduceBEq,Nat.reduceAdd]
      refine caN (by exact kA) ?_;rintro v1 h1 s1 q1;obtain⟨_,_,_,_,_,_,_,_,_,_,_,_,_,_,rfl,q1⟩:=q1.sp
      try simp(disch:=omega) only[go_sem,Nat.reduceBEq,Nat.reduceAdd]
      exact q1
    · change op2 (some (Value.func (.func 40) #[] #[])) _
      try simp(disch:=omega) only[go_sem,Nat.reduceBEq,Nat.reduceAdd]
      refine caN (by exact kA) ?_;rintro v1 h1 s1 q1;obtain⟨_,_,_,_,_,_,_,_,_,_,_,_,_,_,rfl,q1⟩:=q1.sp
      try simp(disch:=omega) only[go_sem,Nat.reduceBEq,Nat.reduceAdd]
      exact q1
    · change op2 (some (Value.func (.func 41) #[] #[])) _
      try simp(disch:=omega) only[go_sem,Nat.reduceBEq,Nat.reduceAdd]
      refine caN (by exact kA) ?_;rintro v1 h1 s1 q1;obtain⟨_,_,_,_,_,_,_,_,_,_,_,_,_,_,rfl,q1⟩:=q1.sp
      try simp(disch:=omega) only[go_sem,Nat.reduceBEq,Nat.reduceAdd]
      exact q1
    · change op2 (some (Value.func (.func 42) #[] #[])) _
      try simp(disch:=omega) only[go_sem,Nat.reduceBEq,Nat.reduceAdd]
      refine caN (by exact kA) ?_;rintro v1 h1 s1 q1;obtain⟨_,_,_,_,_,_,_,_,_,_,_,_,_,_,rfl,q1⟩:=q1.sp
      try simp(disch:=omega) only[go_sem,Nat.reduceBEq,Nat.reduceAdd]
      exact q1
    · change op2 (some (Value.func (.func 43) #[] #[])) _
      try simp(disch:=omega) only[go_sem,Nat.reduceBEq,Nat.reduceAdd]
      refine caN (by exact kA) ?_;rintro v1 h1 s1 q1;obtain⟨_,_,_,_,_,_,_,_,_,_,_,_,_,_,rfl,q1⟩:=q1.sp
      try simp(disch:=omega) only[go_sem,Nat.reduceBEq,Nat.reduceAdd]
      exact q1
    · change op2 (some (Value.func (.func 44) #[] #[])) _
      try simp(disch:=omega) only[go_sem,Nat.reduceBEq,Nat.reduceAdd]
      refine caN (by exact kA) ?_;rintro v1 h1 s1 q1;obtain⟨_,_,_,_,_,_,_,_,_,_,_,_,_,_,rfl,q1⟩:=q1.sp
      try simp(disch:=omega) only[go_sem,Nat.reduceBEq,Nat.reduceAdd]
      exact q1
  · have kK:=fun {h} [Le h0 h]=>EKnown_no (h:=h) (fn:=fn) hv hl
    obtain⟨_,_,_,_,_,_,_,rfl,_⟩:=hv.sa
    rcases Int.lt_or_le fn 1 with f1 |f1
    · refine Spec.go [] Tryz.func19 rfl rfl (by kernel_rfl) fun C _=>?_
      try simp(disch:=omega) only[go_sem,Nat.reduceBEq,Nat.reduceAdd]
      refine caN (by exact kK) ?_;rintro v1 h1 s1 rfl
      try simp(disch:=omega) only[go_sem,Nat.reduceBEq,Nat.reduceAdd]
      exact Ber.no _ _
    · have f8:fn > 8:=by omega
      refine Spec.go [] Tryz.func19 rfl rfl (by kernel_rfl) fun C _=>?_
      try simp(disch:=omega) only[go_sem,Nat.reduceBEq,Nat.reduceAdd]
      refine caN (by exact kK) ?_;rintro v1 h1 s1 rfl
      try simp(disch:=omega) only[go_sem,Nat.reduceBEq,Nat.reduceAdd]
      exact Ber.no _ _
end Go.Q
namespace Go.Q
set_option maxRecDepth 100000
set_option maxHeartbeats 4000000
end Go.Q
