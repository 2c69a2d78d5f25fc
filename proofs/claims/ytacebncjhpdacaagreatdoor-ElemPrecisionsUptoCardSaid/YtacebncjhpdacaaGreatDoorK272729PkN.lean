/-
  What arctan, pi and Pi return. Conditions: the numbers are at most 1 of the grid; the precisions are those that the program uses.
  What waves returns: the alternating series of sine and cosine on a grid. Conditions: the number is at most 1 of the grid; the precisions are those that the program uses.
  The series of the logarithm on a grid, and what logs returns. Conditions: the numbers are at most 1 of the grid; the precisions are those that the program uses.
  What halve and angle return. Conditions: the numbers are at most 1 of the grid; the precisions are those that the program uses.
  What atan returns. Conditions: the number is of at most 1024 binary digits; the precision is at most 128.
  Contracts of package number: sums, products, quotients, comparison, whole parts, rounding, opposites. Conditions: the values are numbers of at most 2048 binary digits.
  What number.Down, Up, elem.rounded and elem.below return. Conditions: the numbers stay in range.
-/
import Derived.Test.YtacebncjhpdacaaGreatDoorK8c97aaPkF
import Derived.Test.YtacebncjhpdacaaGreatDoorK2e7ba5PkM
import Derived.Test.YtacebncjhpdacaaGreatDoorKfdb860PkL
import Derived.Test.YtacebncjhpdacaaGreatDoorK1d945fPkH
set_option linter.unusedVariables false
set_option linter.unusedSimpArgs false
namespace Go.Q
open Go.Proofs
set_option maxRecDepth 100000
set_option maxHeartbeats 8000000
theorem at1 {h:PH} {b:Nat} {v:Value} (hb:h b=some #[v]):h.at ⟨b,0,none⟩=some v:=by simp[PH.at,hb]
theorem pow_2w (w:Nat):2^(2*w)=2^w*2^w:=by rw[Nat.two_mul,Nat.pow_add]
theorem EArctan_spec {h0 h:PH} [Le h0 h] {v:Value} {a b w:Nat} (hv:Pr h0 v a b) (la:a≤2^w) (lb:b≤2^w) (hw:20≤w) (hw':w≤1000):Spec mach 87 #[v,.int .i64 w] h (fun v h'=>Pr h' v (arcL a b w) (arcH a b w)) NP:=by
  have hv0:=hv
  obtain⟨x,m,c,y,n,d,rfl,k1,k2⟩:=hv
  have ba:bl a≤w+2:=bl_pow_le (by omega)
  have bb:bl b≤w+2:=bl_pow_le (by omega)
  obtain⟨bs,bt⟩:=bl_sq (a:=a) la
  obtain⟨bs',bt'⟩:=bl_sq (a:=b) lb
  have hs:=sqL_le la
  have ht:=sqH_le lb
  have u1:=bl_pow2 w
  have u2:=bl_pow2 (2*w)
  have u3:=bl_mul (2^w) 81
  have u4:=bl_mul (sqH b w) 79
  have u5:bl (2^w*81 - sqH b w*79)≤bl (2^w*81):=bl_mono (Nat.sub_le _ _)
  have u6:bl 81=7:=by decide
  have u7:bl 79=7:=by decide
  have u8:bl 6399=13:=by decide
  have bA:∀{j c},j≤39→bl (arcV w (sqL a w) (sqH b w) c j)≤w+2:=fun hj=>bl_arcV hj
  have sA:∀{j},j < 39→_:=fun {j} hj=>arcV_sub (j:=j) hw hs ht hj
  have h79:sqH b w*79≤2^w*81:=by omega
  clear hs la lb
  have F:=Hid.mk (And.intro ba (And.intro bb (And.intro bs (And.intro bt (And.intro bs' (And.intro bt' (And.intro ht (And.intro u1 (And.intro u2 (And.intro u3 (And.intro u4 (And.intro u5 (And.intro u6 (And.intro u7 (And.intro u8 h79)))))))))))))));clear ba bb bs bt bs' bt' ht u1 u2 u3 u4 u5 u6 u7 u8 h79
  refine Spec.go [(3,.o [0,4,5,6,1,2,3,7,8,9]),(9,.o [0,1,3,4,5,7,2,6,8,9,10]),(10,.o [0,1,3,4,5,7,2,6,8,9,10]),(12,.o [0,1,2,4,6,7,8,10,3,5,9,11,12,13])] Tryz.func87 rfl rfl (by kernel_rfl) fun C _=>?_
  try simp(disch:=omega) only[go_sem,Nat.reduceBEq,Nat.reduceAdd]
  refine caN (by exact PSquare_spec hv0 (by have:=F.out;omega) (by have:=F.out;omega) (by have:=F.out;omega)) ?_;rintro v1 h1 s1 ⟨x1,m1,c1,y1,n1,d1,rfl,q1,q2⟩;have q1:N32 h1 (.slice x1 m1 c1) (sqL a w):=q1;have q2:N32 h1 (.slice y1 n1 d1) (sqH b w):=q2
  try simp(disch:=omega) only[go_sem,Nat.reduceBEq,Nat.reduceAdd]
  refine caN (by exact Small_spec (n:=79) (by decide)) ?_;rintro _ h2 _ q3;obtain⟨v2,_,_,rfl,q3⟩:=q3.sl
  try simp(disch:=omega) only[go_sem,Nat.reduceBEq,Nat.reduceAdd]
  refine caN (by exact Unit_spec (w:=w) (by have:=F.out;omega)) ?_;rintro _ h3 _ q4;obtain⟨v3,_,_,rfl,q4⟩:=q4.sl
  try simp(disch:=omega) only[go_sem,Nat.reduceBEq,Nat.reduceAdd]
  refine caN (by exact Small_spec (n:=81) (by decide)) ?_;rintro _ h4 _ q5;obtain⟨v4,_,_,rfl,q5⟩:=q5.sl
  try simp(disch:=omega) only[go_sem,Nat.reduceBEq,Nat.reduceAdd]
  refine caN (by exact Mul_spec (q4.to (h':=h4)) q5 (by have:=F.out;omega) (by have:=F.out;omega)) ?_;rintro _ h5 _ q6;obtain⟨v5,_,_,rfl,q6⟩:=q6.sl
  try simp(disch:=omega) only[go_sem,Nat.reduceBEq,Nat.reduceAdd]
  refine caN (by exact Mul_spec (q2.to (h':=h5)) (q3.to (h':=h5)) (show bl (sqH b w)≤2^40 by have:=F.out;omega) (by have:=F.out;omega)) ?_;rintro _ h6 _ q7;obtain⟨v6,_,_,rfl,q7⟩:=q7.sl
  try simp(disch:=omega) only[go_sem,Nat.reduceBEq,Nat.reduceAdd]
  refine caN (by exact Sub_spec (q6.to (h':=h6)) q7 (show sqH b w*79≤2^w*81 by have:=F.out;omega) (by have:=F.out;omega)) ?_;rintro _ h7 _ q8;obtain⟨v7,_,_,rfl,q8⟩:=q8.sl
  try simp(disch:=omega) only[go_sem,Nat.reduceBEq,Nat.reduceAdd]
  refine caN (by exact Small_spec (n:=6399) (by decide)) ?_;rintro _ h8 _ q9;obtain⟨_,_,_,rfl,q9⟩:=q9.sl
  try simp(disch:=omega) only[go_sem,Nat.reduceBEq,Nat.reduceAdd]
  refine caN (by exact EOver_spec (c:=false) (q8.to (h':=h8)) q9 (by decide) (show bl (2^w*81 - sqH b w*79)≤2^36 by have:=F.out;omega) (by have:=F.out;omega)) ?_;rintro _ h9 _ q10;obtain⟨v9,v9_l,v9_c,rfl,q10⟩:=q10.sl
  try simp(disch:=omega) only[go_sem,Nat.reduceBEq,Nat.reduceAdd]
  refine caN (by exact Unit_spec (w:=w) (by have:=F.out;omega)) ?_;rintro _ h10 _ q11;obtain⟨v10,_,_,rfl,q11⟩:=q11.sl
  try simp(disch:=omega) only[go_sem,Nat.reduceBEq,Nat.reduceAdd]
  refine caN (by exact EOver_spec (c:=true) q11 (q3.to (h':=h10)) (by decide) (by have:=F.out;omega) (by have:=F.out;omega)) ?_;rintro _ h11 _ q12;obtain⟨v11,v11_l,v11_c,rfl,q12⟩:=q12.sl
  try simp(disch:=omega) only[go_sem,Nat.reduceBEq,Nat.reduceAdd]
  refine lp [(3,.o [0,4,5,6,1,2,3,7,8,9]),(9,.o [0,1,3,4,5,7,2,6,8,9,10]),(10,.o [0,1,3,4,5,7,2,6,8,9,10]),(12,.o [0,1,2,4,6,7,8,10,3,5,9,11,12,13])] (fun x':Value×Value×Nat=>⟨[(1,.v (.int .i64 w)),(2,.p 0 0),(4,.p 1 0),(5,.p 2 0),(8,.v x'.1),(9,.v x'.2.1),(10,.v (.int .i64 ((x'.2.2:Int) - 1)))],[[.slice x m c,.slice y n d],[.slice none 0 0,.slice none 0 0],[.slice x1 m1 c1,.slice y1 n1 d1]]⟩) (fun x' h'=>Le h1 h'∧x'.2.2≤39∧N32 h' x'.1 (arcV w (sqL a w) (sqH b w) false (39 - x'.2.2))∧N32 h' x'.2.1 (arcV w (sqL a w) (sqH b w) true (39 - x'.2.2))) (fun x'=>x'.2.2) (.slice v9 v9_l v9_c,.slice v11 v11_l v11_c,39) ?_ ⟨inferInstance,Nat.le_refl _,by show N32 _ _ (arcV _ _ _ _ (39 - 39));rw[Nat.sub_self,arcV_0];exact q10.to,by show N32 _ _ (arcV _ _ _ _ (39 - 39));rw[Nat.sub_self,arcV_0'];exact q12⟩ (by kernel_rfl) ?_
  · try simp(disch:=omega) only[go_sem,Nat.reduceBEq,Nat.reduceAdd]
    all_goals rfl
  rintro⟨va,vb,i⟩ g0 ⟨le0,hi,hl,hh⟩
  dsimp only at hi hl hh ⊢
  cases i with
  | zero=>
    rw[Nat.sub_zero] at hl hh
    have b1:=bA (j:=39) (c:=false) (Nat.le_refl _)
    have b2:=bA (j:=39) (c:=true) (Nat.le_refl _)
    have b3:=bl_mul a (arcV w (sqL a w) (sqH b w) false 39)
    have b4:=bl_mul b (arcV w (sqL a w) (sqH b w) true 39)
    have le1:Le h0 g0:=Le.trn inferInstance le0
    obtain⟨_,_,_,rfl,hl⟩:=hl.sl
    obtain⟨_,_,_,rfl,hh⟩:=hh.sl
    have F:=Hid.mk (And.intro F.out (And.intro b1 (And.intro b2 (And.intro b3 b4))));clear b1 b2 b3 b4
    try simp(disch:=omega) only[go_sem,Nat.reduceBEq,Nat.reduceAdd]
    refine caN (by exact Mul_spec (k1.to (h':=g0)) hl (by have:=F.out;omega) (show bl (arcV w (sqL a w) (sqH b w) false 39)≤2^40 by have:=F.out;omega)) ?_;rintro _ g1 _ r1;obtain⟨w1,_,_,rfl,r1⟩:=r1.sl
    try simp(disch:=omega) only[go_sem,Nat.reduceBEq,Nat.reduceAdd]
    refine caN (by exact Shr_spec (n:=w) r1 (show bl (a*arcV w (sqL a w) (sqH b w) false 39)≤2^40 by have:=F.out;omega) (by have:=F.out;omega)) ?_;rintro _ g2 _ r2;obtain⟨w2,_,_,rfl,r2⟩:=r2.sl
    try simp(disch:=omega) only[go_sem,Nat.reduceBEq,Nat.reduceAdd]
    refine caN (by exact Mul_spec (k2.to (h':=g2)) (hh.to (h':=g2)) (by have:=F.out;omega) (show bl (arcV w (sqL a w) (sqH b w) true 39)≤2^40 by have:=F.out;omega)) ?_;rintro _ g3 _ r3;obtain⟨w3,_,_,rfl,r3⟩:=r3.sl
    try simp(disch:=omega) only[go_sem,Nat.reduceBEq,Nat.reduceAdd]
    refine caN (by exact EUp_spec (n:=w) r3 (show bl (b*arcV w (sqL a w) (sqH b w) true 39)≤2^39 by have:=F.out;omega) (by have:=F.out;omega)) ?_;rintro _ g4 _ r4;obtain⟨w4,_,_,rfl,r4⟩:=r4.sl
    try simp(disch:=omega) only[go_sem,Nat.reduceBEq,Nat.reduceAdd]
    exact⟨_,_,_,_,_,_,rfl,r2.to,r4⟩
  | succ i=>
    obtain⟨j,hj,ej⟩:∃j,j < 39∧39 - (i+1)=j:=⟨_,by have:=F.out;omega,rfl⟩
    have en:39 - i=j+1:=by have:=F.out;omega
    have eo:77 - 2*j=2*i+1:=by have:=F.out;omega
    rw[ej] at hl hh
    obtain⟨s1',s2'⟩:=sA hj
    rw[eo] at s1' s2'
    have b1:=bA (j:=j) (c:=false) (by have:=F.out;omega)
    have b2:=bA (j:=j) (c:=true) (by have:=F.out;omega)
    have b3:bl (2*i+1)≤7:=bl_le.2 (by have:=F.out;omega)
    have b4:=bl_mul (sqH b w) (arcV w (sqL a w) (sqH b w) true j)
    have b5:=bl_mul (sqL a w) (arcV w (sqL a w) (sqH b w) false j)
    have b6:=bl_mul (sqH b w*arcV w (sqL a w) (sqH b w) true j) (2*i+1)
    have b7:=bl_mul (sqL a w*arcV w (sqL a w) (sqH b w) false j) (2*i+1)
    have b8:bl (2^(2*w) - sqH b w*arcV w (sqL a w) (sqH b w) true j*(2*i+1))≤_:=bl_mono (Nat.sub_le _ _)
    have b9:bl (2^(2*w) - sqL a w*arcV w (sqL a w) (sqH b w) false j*(2*i+1))≤_:=bl_mono (Nat.sub_le _ _)
    have b10:=bl_shl (2*i+1) w
    have n0:Hid ((2*i+1)*2^w≠0):=⟨Nat.mul_ne_zero (by have:=F.out;omega) (pow2_ne w)⟩
    have s1':=Hid.mk s1'
    have s2':=Hid.mk s2'
    have eo:=Hid.mk eo
    have en:=Hid.mk en
    clear ej hj
    have F:=Hid.mk (And.intro F.out (And.intro b1 (And.intro b2 (And.intro b3 (And.intro b4 (And.intro b5 (And.intro b6 (And.intro b7 (And.intro b8 (And.intro b9 b10))))))))));clear b1 b2 b3 b4 b5 b6 b7 b8 b9 b10
    try simp(disch:=omega) only[go_sem,Nat.reduceBEq,Nat.reduceAdd]
    refine caN (by exact Small_spec (n:=2*i+1) (by have:=F.out;omega)) ?_;rintro _ g1 _ r1;obtain⟨w1,_,_,rfl,r1⟩:=r1.sl
    try simp(disch:=omega) only[go_sem,Nat.reduceBEq,Nat.reduceAdd]
    refine caN (by exact Unit_spec (w:=2*w) (by have:=F.out;omega)) ?_;rintro _ g2 _ r2;obtain⟨w2,_,_,rfl,r2⟩:=r2.sl
    try simp(disch:=omega) only[go_sem,Nat.reduceBEq,Nat.reduceAdd]
    refine caN (by exact Mul_spec (q2.to (h':=g2)) (hh.to (h':=g2)) (show bl (sqH b w)≤2^40 by have:=F.out;omega) (by have:=F.out;omega)) ?_;rintro _ g3 _ r3;obtain⟨w3,_,_,rfl,r3⟩:=r3.sl
    try simp(disch:=omega) only[go_sem,Nat.reduceBEq,Nat.reduceAdd]
    refine caN (by exact Mul_spec r3 (r1.to (h':=g3)) (show bl (sqH b w*arcV w (sqL a w) (sqH b w) true j)≤2^40 by have:=F.out;omega) (by have:=F.out;omega)) ?_;rintro _ g4 _ r4;obtain⟨w4,_,_,rfl,r4⟩:=r4.sl
    try simp(disch:=omega) only[go_sem,Nat.reduceBEq,Nat.reduceAdd]
    refine caN (by exact Sub_spec (r2.to (h':=g4)) r4 (by rw[pow_2w];exact s1'.out) (by have:=F.out;omega)) ?_;rintro _ g5 _ r5;obtain⟨w5,_,_,rfl,r5⟩:=r5.sl
    try simp(disch:=omega) only[go_sem,Nat.reduceBEq,Nat.reduceAdd]
    refine caN (by exact Unit_spec (w:=2*w) (by have:=F.out;omega)) ?_;rintro _ g6 _ r6;obtain⟨w6,_,_,rfl,r6⟩:=r6.sl
    try simp(disch:=omega) only[go_sem,Nat.reduceBEq,Nat.reduceAdd]
    refine caN (by exact Mul_spec (q1.to (h':=g6)) (hl.to (h':=g6)) (show bl (sqL a w)≤2^40 by have:=F.out;omega) (by have:=F.out;omega)) ?_;rintro _ g7 _ r7;obtain⟨w7,_,_,rfl,r7⟩:=r7.sl
    try simp(disch:=omega) only[go_sem,Nat.reduceBEq,Nat.reduceAdd]
    refine caN (by exact Mul_spec r7 (r1.to (h':=g7)) (show bl (sqL a w*arcV w (sqL a w) (sqH b w) false j)≤2^40 by have:=F.out;omega) (by have:=F.out;omega)) ?_;rintro _ g8 _ r8;obtain⟨w8,_,_,rfl,r8⟩:=r8.sl
    try simp(disch:=omega) only[go_sem,Nat.reduceBEq,Nat.reduceAdd]
    refine caN (by exact Sub_spec (r6.to (h':=g8)) r8 (by rw[pow_2w];exact s2'.out) (by have:=F.out;omega)) ?_;rintro _ g9 _ r9;obtain⟨w9,_,_,rfl,r9⟩:=r9.sl
    try simp(disch:=omega) only[go_sem,Nat.reduceBEq,Nat.reduceAdd]
    refine caN (by exact Shl_spec (n:=w) (r1.to (h':=g9)) (by have:=F.out;omega)) ?_;rintro _ g10 _ r10;obtain⟨w10,_,_,rfl,r10⟩:=r10.sl
    try simp(disch:=omega) only[go_sem,Nat.reduceBEq,Nat.reduceAdd]
    refine caN (by exact EOver_spec (c:=false) (r5.to (h':=g10)) r10 n0.out (show bl (2^(2*w) - sqH b w*arcV w (sqL a w) (sqH b w) true j*(2*i+1))≤2^36 by have:=F.out;omega) (by have:=F.out;omega)) ?_;rintro _ g11 _ r11;obtain⟨w11,w11_l,w11_c,rfl,r11⟩:=r11.sl
    try simp(disch:=omega) only[go_sem,Nat.reduceBEq,Nat.reduceAdd]
    refine caN (by exact Shl_spec (n:=w) (r1.to (h':=g11)) (by have:=F.out;omega)) ?_;rintro _ g12 _ r12;obtain⟨w12,_,_,rfl,r12⟩:=r12.sl
    try simp(disch:=omega) only[go_sem,Nat.reduceBEq,Nat.reduceAdd]
    refine caN (by exact EOver_spec (c:=true) (r9.to (h':=g12)) r12 n0.out (show bl (2^(2*w) - sqL a w*arcV w (sqL a w) (sqH b w) false j*(2*i+1))≤2^36 by have:=F.out;omega) (by have:=F.out;omega)) ?_;rintro _ g13 _ r13;obtain⟨w13,w13_l,w13_c,rfl,r13⟩:=r13.sl
    try simp(disch:=omega) only[go_sem,Nat.reduceBEq,Nat.reduceAdd]
    dsimp only[lpE];refine⟨(.slice w11 w11_l w11_c,.slice w13 w13_l w13_c,i),?_,⟨Le.trn le0 inferInstance,(show i≤39 by have:=F.out;omega),?_,?_⟩,(show i < i+1 by have:=F.out;omega)⟩
    · try simp(disch:=omega) only[go_sem,Nat.reduceBEq,Nat.reduceAdd]
      all_goals rfl
    · show N32 _ _ (arcV _ _ _ false (39 - i))
      rw[en.out,arcV_s,eo.out,←pow_2w]
      exact r11.to
    · show N32 _ _ (arcV _ _ _ true (39 - i))
      rw[en.out,arcV_s',eo.out,←pow_2w]
      exact r13
theorem Pi1_spec {h:PH} {n w b:Nat} (hb:h b=some #[.int .i64 w]) (hn:n≠0) (hn':n < 2^60) (hw:20≤w) (hw':w≤1000):Spec mach 86 #[.int .u64 n,.pointer (some ⟨b,0,none⟩)] h (fun v h'=>Pr h' v (fifL n w) (fifH n w)) NP:=by
  obtain⟨l1,l2⟩:=fif_le n (w:=w) hn
  have u1:=bl_pow2 w
  have u2:bl n≤60:=bl_le.2 hn'
  have l1:=Hid.mk l1
  have l2:=Hid.mk l2
  have hn:=Hid.mk hn
  have F:=Hid.mk (And.intro u1 u2);clear u1 u2
  refine Spec.go [(1,.o [0,2,5,7,11,1,3,4,6,8,9,10,12,13])] Tryz.func86 rfl rfl (by kernel_rfl) fun C _=>?_
  try simp(disch:=omega) only[go_sem,Nat.reduceBEq,Nat.reduceAdd]
  refine ld1_of (at1 hb) ?_
  try simp(disch:=omega) only[go_sem,Nat.reduceBEq,Nat.reduceAdd]
  refine ld1_of (at1 hb) ?_
  try simp(disch:=omega) only[go_sem,Nat.reduceBEq,Nat.reduceAdd]
  refine ld1_of (at1 hb) ?_
  try simp(disch:=omega) only[go_sem,Nat.reduceBEq,Nat.reduceAdd]
  refine caN (by exact Unit_spec (w:=w) (by have:=F.out;omega)) ?_;rintro _ h1 _ q1;obtain⟨v1,_,_,rfl,q1⟩:=q1.sl
  try simp(disch:=omega) only[go_sem,Nat.reduceBEq,Nat.reduceAdd]
  refine caN (by exact Small_spec (n:=n) (by have:=F.out;omega)) ?_;rintro _ h2 _ q2;obtain⟨v2,_,_,rfl,q2⟩:=q2.sl
  try simp(disch:=omega) only[go_sem,Nat.reduceBEq,Nat.reduceAdd]
  refine caN (by exact EOver_spec (c:=false) (q1.to (h':=h2)) q2 hn.out (by have:=F.out;omega) (by have:=F.out;omega)) ?_;rintro _ h3 _ q3;obtain⟨v3,_,_,rfl,q3⟩:=q3.sl
  try simp(disch:=omega) only[go_sem,Nat.reduceBEq,Nat.reduceAdd]
  refine caN (by exact Unit_spec (w:=w) (by have:=F.out;omega)) ?_;rintro _ h4 _ q4;obtain⟨v4,_,_,rfl,q4⟩:=q4.sl
  try simp(disch:=omega) only[go_sem,Nat.reduceBEq,Nat.reduceAdd]
  refine caN (by exact Small_spec (n:=n) (by have:=F.out;omega)) ?_;rintro _ h5 _ q5;obtain⟨v5,_,_,rfl,q5⟩:=q5.sl
  try simp(disch:=omega) only[go_sem,Nat.reduceBEq,Nat.reduceAdd]
  refine caN (by exact EOver_spec (c:=true) (q4.to (h':=h5)) q5 hn.out (by have:=F.out;omega) (by have:=F.out;omega)) ?_;rintro _ h6 _ q6;obtain⟨v6,_,_,rfl,q6⟩:=q6.sl
  try simp(disch:=omega) only[go_sem,Nat.reduceBEq,Nat.reduceAdd]
  refine caN (by exact EArctan_spec (a:=2^w / n) (b:=cdiv (2^w) n) (w:=w) ⟨_,_,_,_,_,_,rfl,q3.to (h':=h6),q6⟩ l1.out l2.out hw hw') ?_;rintro v7 h7 s7 ⟨_,_,_,_,_,_,rfl,r1,r2⟩
  try simp(disch:=omega) only[go_sem,Nat.reduceBEq,Nat.reduceAdd]
  exact⟨_,_,_,_,_,_,rfl,r1,r2⟩
theorem EPi_spec {h:PH} {w:Nat} (hw:32≤w) (hw':w≤192):Spec mach 46 #[.int .i64 w] h (fun v h'=>Pr h' v (piL w) (piH w)) NP:=by
  obtain⟨z1,z2,_,_⟩:=pi_sub hw hw'
  obtain⟨b1,b2⟩:=bl_fif (n:=5) (w:=w) (by decide)
  obtain⟨b3,b4⟩:=bl_fif (n:=239) (w:=w) (by decide)
  have b5:=bl_shl (fifL 5 w) 4
  have b6:=bl_shl (fifH 5 w) 4
  have F:=Hid.mk (And.intro z1 (And.intro z2 (And.intro b1 (And.intro b2 (And.intro b3 (And.intro b4 (And.intro b5 b6)))))));clear z1 z2 b1 b2 b3 b4 b5 b6
  refine Spec.go [(3,.o [0,1,2,3,5,6,7,8,4,9,10,11]),(1,.t (.p 0 (.s [0,1] .d)))] Tryz.func46 rfl rfl (by kernel_rfl) fun C _=>?_
  try simp(disch:=omega) only[go_sem,Nat.reduceBEq,Nat.reduceAdd]
  intro b h1 st1 hb
  try simp(disch:=omega) only[go_sem,Nat.reduceBEq,Nat.reduceAdd]
  have hb:=hb (by simp)
  try simp(disch:=omega) only[go_sem,Nat.reduceBEq,Nat.reduceAdd]
  refine caN (by exact Pi1_spec (n:=5) (w:=w) hb (by decide) (by decide) (by have:=F.out;omega) (by have:=F.out;omega)) ?_;rintro v2 h2 st2 ⟨_,_,_,_,_,_,rfl,q1,q2⟩
  try simp(disch:=omega) only[go_sem,Nat.reduceBEq,Nat.reduceAdd]
  refine caN (by exact PTimes_spec (n:=4) ⟨_,_,_,_,_,_,rfl,q1,q2⟩ (by have:=F.out;omega) (by have:=F.out;omega) (by decide)) ?_;rintro v3 h3 st3 ⟨_,_,_,_,_,_,rfl,q3,q4⟩
  try simp(disch:=omega) only[go_sem,Nat.reduceBEq,Nat.reduceAdd]
  refine caN (by exact Pi1_spec (n:=239) (w:=w) (st3.sub _ _ (st2.sub _ _ hb)) (by decide) (by decide) (by have:=F.out;omega) (by have:=F.out;omega)) ?_;rintro v4 h4 st4 ⟨_,_,_,_,_,_,rfl,q5,q6⟩
  try simp(disch:=omega) only[go_sem,Nat.reduceBEq,Nat.reduceAdd]
  refine caN (by exact PTimes_spec (n:=2) ⟨_,_,_,_,_,_,rfl,q5,q6⟩ (by have:=F.out;omega) (by have:=F.out;omega) (by decide)) ?_;rintro v5 h5 st5 ⟨_,_,_,_,_,_,rfl,q7,q8⟩
  try simp(disch:=omega) only[go_sem,Nat.reduceBEq,Nat.reduceAdd]
  refine caN (by exact Sub_spec (q3.to (h':=h5)) q8 (by have:=F.out;omega) (by have:=F.out;omega)) ?_;rintro _ h6 _ q9;obtain⟨v6,_,_,rfl,q9⟩:=q9.sl
  try simp(disch:=omega) only[go_sem,Nat.reduceBEq,Nat.reduceAdd]
  refine caN (by exact Sub_spec (q4.to (h':=h6)) (q7.to (h':=h6)) (by have:=F.out;omega) (by have:=F.out;omega)) ?_;rintro _ h7 _ q10;obtain⟨v7,_,_,rfl,q10⟩:=q10.sl
  try simp(disch:=omega) only[go_sem,Nat.reduceBEq,Nat.reduceAdd]
  exact⟨_,_,_,_,_,_,rfl,q9.to,q10⟩
end Go.Q
namespace Go.Q
open Go.Proofs
set_option maxRecDepth 100000
set_option maxHeartbeats 8000000
def wav (f i:Nat):Nat:=(2*i+f)*(2*i+f+1)
def waV (w f s t:Nat):Bool→Nat→Nat
  |false,0=>0
  |true,0=>2^w
  |false,j+1=>(2^w*2^w*wav f (23 - j) - t*waV w f s t true j) / (wav f (23 - j)*2^w)
  |true,j+1=>cdiv (2^w*2^w*wav f (23 - j) - s*waV w f s t false j) (wav f (23 - j)*2^w)
theorem waV_0 (w f s t:Nat):waV w f s t false 0=0:=rfl
theorem waV_0' (w f s t:Nat):waV w f s t true 0=2^w:=rfl
theorem waV_s (w f s t j:Nat):waV w f s t false (j+1)=(2^w*2^w*wav f (23 - j) - t*waV w f s t true j) / (wav f (23 - j)*2^w):=rfl
theorem waV_s' (w f s t j:Nat):waV w f s t true (j+1)=cdiv (2^w*2^w*wav f (23 - j) - s*waV w f s t false j) (wav f (23 - j)*2^w):=rfl
def wvL (y w f:Nat):Nat:=waV w f (sqL y w) (sqH y w) false 24
def wvH (y w f:Nat):Nat:=waV w f (sqL y w) (sqH y w) true 24
theorem wav_pos {f i:Nat} (hf:1≤f):wav f i≠0:=Nat.mul_ne_zero (by omega) (by omega)
theorem wav_lt {f i:Nat} (hf:f≤2) (hi:i≤23):wav f i≤48*49:=Nat.mul_le_mul (by omega) (by omega)
theorem waV_le {w f s t:Nat} (hf:1≤f):∀j,waV w f s t true j≤2^w∧waV w f s t false j≤2^w
  |0=>⟨Nat.le_refl _,Nat.zero_le _⟩
  | j+1=>by
    have hn:wav f (23 - j)*2^w≠0:=Nat.mul_ne_zero (wav_pos hf) (pow2_ne w)
    have e:2^w*2^w*wav f (23 - j)=wav f (23 - j)*2^w*2^w:=by rw[Nat.mul_comm,Nat.mul_assoc]
    rw[waV_s,waV_s',e]
    exact⟨(cdiv_le_iff hn).2 (Nat.sub_le _ _),Nat.div_le_of_le_mul (Nat.sub_le _ _)⟩
theorem waV_sub {w f s t j:Nat} (hf:1≤f) (hs:s≤2^w) (ht:t≤2^w):t*waV w f s t true j≤2^w*2^w*wav f (23 - j)∧s*waV w f s t false j≤2^w*2^w*wav f (23 - j):=by
  obtain⟨h1,h2⟩:=waV_le (w:=w) (s:=s) (t:=t) hf j
  have:=Nat.le_mul_of_pos_right (2^w*2^w) (Nat.pos_of_ne_zero (wav_pos (i:=23 - j) hf))
  exact⟨Nat.le_trans (Nat.mul_le_mul ht h1) this,Nat.le_trans (Nat.mul_le_mul hs h2) this⟩
theorem bl_waV {w f s t j:Nat} {c:Bool} (hf:1≤f):bl (waV w f s t c j)≤w+2:=by
  obtain⟨h1,h2⟩:=waV_le (w:=w) (s:=s) (t:=t) hf j
  cases c<;>exact bl_pow_le (by omega)
theorem EWaves_spec {h0 h:PH} [Le h0 h] {v:Value} {y w f:Nat} (hv:N32 h0 v y) (la:y≤2^w) (hf:1≤f) (hf':f≤2) (hw:20≤w) (hw':w≤1000):Spec mach 132 #[v,.int .i64 w,.int .i64 f] h (fun v h'=>Pr h' v (wvL y w f) (wvH y w f)) NP:=by
  obtain⟨x,m,c,rfl,hv⟩:=hv.sl
  have by_:bl y≤w+2:=bl_pow_le (by omega)
  obtain⟨bs,bt⟩:=bl_sq (a:=y) la
  have hs:=sqL_le la
  have ht:=sqH_le la
  have u1:=bl_pow2 w
  have u2:=bl_pow2 (2*w)
  have bA:∀{j c},bl (waV w f (sqL y w) (sqH y w) c j)≤w+2:=fun {j c}=>bl_waV hf
  have sA:∀{j},_:=fun {j}=>waV_sub (w:=w) (j:=j) hf hs ht
  clear hs la ht
  have F:=Hid.mk (And.intro by_ (And.intro bs (And.intro bt (And.intro u1 u2))));clear by_ bs bt u1 u2
  refine Spec.go [(8,.o [0,1,2,3,6,7,8,9,4,5,10,11,12,13])] Tryz.func132 rfl rfl (by kernel_rfl) fun C _=>?_
  try simp(disch:=omega) only[go_sem,Nat.reduceBEq,Nat.reduceAdd]
  refine caN (by exact PSquare_spec ⟨_,_,_,_,_,_,rfl,hv,hv⟩ (by have:=F.out;omega) (by have:=F.out;omega) (by have:=F.out;omega)) ?_;rintro v1 h1 s1 ⟨x1,m1,c1,y1,n1,d1,rfl,q1,q2⟩;have q1:N32 h1 (.slice x1 m1 c1) (sqL y w):=q1;have q2:N32 h1 (.slice y1 n1 d1) (sqH y w):=q2
  try simp(disch:=omega) only[go_sem,Nat.reduceBEq,Nat.reduceAdd]
  refine caN (by exact Unit_spec (w:=w) (by have:=F.out;omega)) ?_;rintro _ h3 _ q3;obtain⟨v3,v3_l,v3_c,rfl,q3⟩:=q3.sl
  try simp(disch:=omega) only[go_sem,Nat.reduceBEq,Nat.reduceAdd]
  refine lp [(8,.o [0,1,2,3,6,7,8,9,4,5,10,11,12,13])] (fun x':Value×Value×Nat=>⟨[(1,.v (.int .i64 w)),(2,.v (.int .i64 f)),(6,.p 0 0),(7,.p 1 0),(8,.v x'.1),(9,.v x'.2.1),(10,.v (.int .i64 ((x'.2.2:Int) - 1)))],[[.slice none 0 0,.slice none 0 0],[.slice x1 m1 c1,.slice y1 n1 d1]]⟩) (fun x' h'=>Le h1 h'∧x'.2.2≤24∧N32 h' x'.1 (waV w f (sqL y w) (sqH y w) false (24 - x'.2.2))∧N32 h' x'.2.1 (waV w f (sqL y w) (sqH y w) true (24 - x'.2.2))) (fun x'=>x'.2.2) (.slice none 0 0,.slice v3 v3_l v3_c,24) ?_ ⟨inferInstance,Nat.le_refl _,by show N32 _ _ (waV _ _ _ _ _ (24 - 24));rw[Nat.sub_self,waV_0];exact N32.zero _,by show N32 _ _ (waV _ _ _ _ _ (24 - 24));rw[Nat.sub_self,waV_0'];exact q3⟩ (by kernel_rfl) ?_
  · try simp(disch:=omega) only[go_sem,Nat.reduceBEq,Nat.reduceAdd]
    all_goals rfl
  rintro⟨va,vb,i⟩ g0 ⟨le0,hi,hl,hh⟩
  dsimp only at hi hl hh ⊢
  obtain⟨_,_,_,rfl,hl⟩:=hl.sl
  obtain⟨_,_,_,rfl,hh⟩:=hh.sl
  cases i with
  | zero=>
    rw[Nat.sub_zero] at hl hh
    try simp(disch:=omega) only[go_sem,Nat.reduceBEq,Nat.reduceAdd]
    exact⟨_,_,_,_,_,_,rfl,hl,hh⟩
  | succ i=>
    obtain⟨j,hj,ej⟩:∃j,j < 24∧24 - (i+1)=j:=⟨_,by have:=F.out;omega,rfl⟩
    have en:24 - i=j+1:=by have:=F.out;omega
    have eo:23 - j=i:=by have:=F.out;omega
    rw[ej] at hl hh
    have lw:=wav_lt (f:=f) (i:=i) hf' (by have:=F.out;omega)
    obtain⟨s1',s2'⟩:=sA (j:=j)
    rw[eo] at s1' s2'
    have b1:=bA (j:=j) (c:=false)
    have b2:=bA (j:=j) (c:=true)
    have b3:bl (wav f i)≤12:=bl_le.2 (by have:=F.out;omega)
    have b4:=bl_mul (sqH y w) (waV w f (sqL y w) (sqH y w) true j)
    have b5:=bl_mul (sqL y w) (waV w f (sqL y w) (sqH y w) false j)
    have b6:=bl_mul (2^(2*w)) (wav f i)
    have b7:bl (2^(2*w)*wav f i - sqH y w*waV w f (sqL y w) (sqH y w) true j)≤_:=bl_mono (Nat.sub_le _ _)
    have b8:bl (2^(2*w)*wav f i - sqL y w*waV w f (sqL y w) (sqH y w) false j)≤_:=bl_mono (Nat.sub_le _ _)
    have b9:=bl_shl (wav f i) w
    have n0:Hid (wav f i*2^w≠0):=⟨Nat.mul_ne_zero (wav_pos hf) (pow2_ne w)⟩
    have s1':=Hid.mk s1'
    have s2':=Hid.mk s2'
    have eo:=Hid.mk eo
    have en:=Hid.mk en
    have lw':=lw
    have ew:IntKind.i64.wrap (((2*i+f)*(2*i+f+1):Nat):Int)=(wav f i:Nat):=by
      unfold wav at lw ⊢
      exact wi64 (by have:=F.out;omega) (by have:=F.out;omega)
    have ew':IntKind.u64.wrap ((wav f i:Nat):Int)=(wav f i:Nat):=by
      generalize wav f i=z at lw'
      simp(disch:=omega) only[go_sem]
    have lw:=Hid.mk lw'
    clear ej hj lw'
    have F:=Hid.mk (And.intro F.out (And.intro b1 (And.intro b2 (And.intro b3 (And.intro b4 (And.intro b5 (And.intro b6 (And.intro b7 (And.intro b8 b9)))))))));clear b1 b2 b3 b4 b5 b6 b7 b8 b9
    try simp(disch:=omega) only[go_sem,Nat.reduceBEq,Nat.reduceAdd,ew,ew']
    refine caN (by exact Small_spec (n:=wav f i) (Nat.lt_of_le_of_lt lw.out (by decide))) ?_;rintro _ g1 _ r1;obtain⟨_,_,_,rfl,r1⟩:=r1.sl
    try simp(disch:=omega) only[go_sem,Nat.reduceBEq,Nat.reduceAdd]
    refine caN (by exact Unit_spec (w:=2*w) (by have:=F.out;omega)) ?_;rintro _ g2 _ r2;obtain⟨w2,_,_,rfl,r2⟩:=r2.sl
    try simp(disch:=omega) only[go_sem,Nat.reduceBEq,Nat.reduceAdd]
    refine caN (by exact Mul_spec r2 (r1.to (h':=g2)) (by have:=F.out;omega) (by have:=F.out;omega)) ?_;rintro _ g3 _ r3;obtain⟨w3,_,_,rfl,r3⟩:=r3.sl
    try simp(disch:=omega) only[go_sem,Nat.reduceBEq,Nat.reduceAdd]
    refine caN (by exact Mul_spec (q2.to (h':=g3)) (hh.to (h':=g3)) (show bl (sqH y w)≤2^40 by have:=F.out;omega) (by have:=F.out;omega)) ?_;rintro _ g4 _ r4;obtain⟨w4,_,_,rfl,r4⟩:=r4.sl
    try simp(disch:=omega) only[go_sem,Nat.reduceBEq,Nat.reduceAdd]
    refine caN (by exact Sub_spec (r3.to (h':=g4)) r4 (by rw[pow_2w];exact s1'.out) (show bl (2^(2*w)*wav f i)≤2^40 by have:=F.out;omega)) ?_;rintro _ g5 _ r5;obtain⟨w5,_,_,rfl,r5⟩:=r5.sl
    try simp(disch:=omega) only[go_sem,Nat.reduceBEq,Nat.reduceAdd]
    refine caN (by exact Mul_spec (q1.to (h':=g5)) (hl.to (h':=g5)) (show bl (sqL y w)≤2^40 by have:=F.out;omega) (by have:=F.out;omega)) ?_;rintro _ g6 _ r6;obtain⟨w6,_,_,rfl,r6⟩:=r6.sl
    try simp(disch:=omega) only[go_sem,Nat.reduceBEq,Nat.reduceAdd]
    refine caN (by exact Sub_spec (r3.to (h':=g6)) r6 (by rw[pow_2w];exact s2'.out) (show bl (2^(2*w)*wav f i)≤2^40 by have:=F.out;omega)) ?_;rintro _ g7 _ r7;obtain⟨w7,_,_,rfl,r7⟩:=r7.sl
    try simp(disch:=omega) only[go_sem,Nat.reduceBEq,Nat.reduceAdd]
    refine caN (by exact Shl_spec (n:=w) (r1.to (h':=g7)) (by have:=F.out;omega)) ?_;rintro _ g8 _ r8;obtain⟨w8,_,_,rfl,r8⟩:=r8.sl
    try simp(disch:=omega) only[go_sem,Nat.reduceBEq,Nat.reduceAdd]
    refine caN (by exact EOver_spec (c:=false) (r5.to (h':=g8)) r8 n0.out (show bl (2^(2*w)*wav f i - sqH y w*waV w f (sqL y w) (sqH y w) true j)≤2^36 by have:=F.out;omega) (by have:=F.out;omega)) ?_;rintro _ g9 _ r9;obtain⟨w9,w9_l,w9_c,rfl,r9⟩:=r9.sl
    try simp(disch:=omega) only[go_sem,Nat.reduceBEq,Nat.reduceAdd]
    refine caN (by exact Shl_spec (n:=w) (r1.to (h':=g9)) (by have:=F.out;omega)) ?_;rintro _ g10 _ r10;obtain⟨w10,_,_,rfl,r10⟩:=r10.sl
    try simp(disch:=omega) only[go_sem,Nat.reduceBEq,Nat.reduceAdd]
    refine caN (by exact EOver_spec (c:=true) (r7.to (h':=g10)) r10 n0.out (show bl (2^(2*w)*wav f i - sqL y w*waV w f (sqL y w) (sqH y w) false j)≤2^36 by have:=F.out;omega) (by have:=F.out;omega)) ?_;rintro _ g11 _ r11;obtain⟨w11,w11_l,w11_c,rfl,r11⟩:=r11.sl
    try simp(disch:=omega) only[go_sem,Nat.reduceBEq,Nat.reduceAdd]
    dsimp only[lpE];refine⟨(.slice w9 w9_l w9_c,.slice w11 w11_l w11_c,i),?_,⟨Le.trn le0 inferInstance,(show i≤24 by have:=F.out;omega),?_,?_⟩,(show i < i+1 by have:=F.out;omega)⟩
    · try simp(disch:=omega) only[go_sem,Nat.reduceBEq,Nat.reduceAdd]
      all_goals rfl
    · show N32 _ _ (waV _ _ _ _ false (24 - i))
      rw[en.out,waV_s,eo.out,←pow_2w]
      exact r9.to
    · show N32 _ _ (waV _ _ _ _ true (24 - i))
      rw[en.out,waV_s',eo.out,←pow_2w]
      exact r11
end Go.Q
namespace Go.Q
open Go.Proofs
set_option maxRecDepth 100000
set_option maxHeartbeats 8000000
def logV (w s t:Nat):Bool→Nat→Nat
  |false,0=>2^w / 111
  |true,0=>cdiv (2^w*100+t*111) 11100
  |false,j+1=>(2^w*2^w+s*logV w s t false j*(109 - 2*j)) / ((109 - 2*j)*2^w)
  |true,j+1=>cdiv (2^w*2^w+t*logV w s t true j*(109 - 2*j)) ((109 - 2*j)*2^w)
theorem logV_0 (w s t:Nat):logV w s t false 0=2^w / 111:=rfl
theorem logV_0' (w s t:Nat):logV w s t true 0=cdiv (2^w*100+t*111) 11100:=rfl
theorem logV_s (w s t j:Nat):logV w s t false (j+1)=(2^w*2^w+s*logV w s t false j*(109 - 2*j)) / ((109 - 2*j)*2^w):=rfl
theorem logV_s' (w s t j:Nat):logV w s t true (j+1)=cdiv (2^w*2^w+t*logV w s t true j*(109 - 2*j)) ((109 - 2*j)*2^w):=rfl
def logL (a b w:Nat):Nat:=a*logV w (sqL a w) (sqH b w) false 55*2^1 / 2^w
def logH (a b w:Nat):Nat:=cdiv (b*logV w (sqL a w) (sqH b w) true 55*2^1) (2^w)
theorem log_fit {u k s v m:Nat} (hk:0 < k) (hs:s≤u) (hv:v≤m*u):u*u+s*v*k≤k*u*((m+1)*u):=by
  have h1:s*v*k≤u*(m*u)*k:=Nat.mul_le_mul_right k (Nat.mul_le_mul hs hv)
  have h2:u*u≤k*(u*u):=Nat.le_mul_of_pos_left _ hk
  have e:k*u*((m+1)*u)=u*(m*u)*k+k*(u*u):=by
    rw[Nat.add_mul,Nat.one_mul,Nat.mul_add,Nat.mul_comm k u,Nat.mul_assoc u k,Nat.mul_assoc u k,Nat.mul_left_comm k,Nat.mul_assoc u,Nat.mul_comm (m*u) k,Nat.mul_left_comm k m u,Nat.mul_left_comm u k u]
  omega
theorem logV_le {w s t:Nat} (hs:s≤2^w) (ht:t≤2^w):∀{j:Nat},j≤55→logV w s t true j≤(j+1)*2^w∧logV w s t false j≤(j+1)*2^w
  | 0,_=>by
    rw[logV_0,logV_0']
    refine⟨(cdiv_le_iff (by decide)).2 (by omega),?_⟩
    have:=Nat.div_le_self (2^w) 111
    omega
  | j+1,h=>by
    obtain⟨h1,h2⟩:=logV_le hs ht (j:=j) (by omega)
    have hk:0 < 109 - 2*j:=by omega
    have hn:(109 - 2*j)*2^w≠0:=Nat.mul_ne_zero (by omega) (pow2_ne w)
    rw[logV_s,logV_s']
    exact⟨(cdiv_le_iff hn).2 (log_fit hk ht h1),Nat.div_le_of_le_mul (log_fit hk hs h2)⟩
theorem bl_logV {w s t j:Nat} {c:Bool} (hs:s≤2^w) (ht:t≤2^w) (hj:j≤55):bl (logV w s t c j)≤w+7:=by
  obtain⟨h1,h2⟩:=logV_le hs ht hj
  have:(j+1)*2^w≤64*2^w:=Nat.mul_le_mul_right _ (by omega)
  cases c
  · exact bl_64 (Nat.le_trans h2 this)
  · exact bl_64 (Nat.le_trans h1 this)
theorem logL_le {a b w:Nat} (ha:a≤2^w) (hb:b≤2^w):logL a b w≤112*2^w∧logH a b w≤112*2^w:=by
  obtain⟨h1,h2⟩:=logV_le (sqL_le ha) (sqH_le hb) (Nat.le_refl 55)
  unfold logL logH
  refine⟨Nat.div_le_of_le_mul ?_,(cdiv_le_iff (pow2_ne w)).2 ?_⟩
  · have:=Nat.mul_le_mul ha h2
    rw[show 2^w*(112*2^w)=2^w*((55+1)*2^w)*2^1 by rw[Nat.mul_assoc,Nat.mul_comm ((55+1)*2^w) (2^1),←Nat.mul_assoc (2^1)]]
    exact Nat.mul_le_mul_right _ this
  · have:=Nat.mul_le_mul hb h1
    rw[show 2^w*(112*2^w)=2^w*((55+1)*2^w)*2^1 by rw[Nat.mul_assoc,Nat.mul_comm ((55+1)*2^w) (2^1),←Nat.mul_assoc (2^1)]]
    exact Nat.mul_le_mul_right _ this
theorem ELogs_spec {h0 h:PH} [Le h0 h] {v:Value} {a b w:Nat} (hv:Pr h0 v a b) (la:a≤2^w) (lb:b≤2^w) (hw:20≤w) (hw':w≤1000):Spec mach 68 #[v,.int .i64 w] h (fun v h'=>Pr h' v (logL a b w) (logH a b w)) NP:=by
  have hv0:=hv
  obtain⟨x,m,c,y,n,d,rfl,k1,k2⟩:=hv
  have ba:bl a≤w+2:=bl_pow_le (by omega)
  have bb:bl b≤w+2:=bl_pow_le (by omega)
  obtain⟨bs,bt⟩:=bl_sq (a:=a) la
  obtain⟨bs',bt'⟩:=bl_sq (a:=b) lb
  have hs:=sqL_le la
  have ht:=sqH_le lb
  have u1:=bl_pow2 w
  have u2:=bl_pow2 (2*w)
  have u3:=bl_mul (2^w) 100
  have u4:=bl_mul (sqH b w) 111
  have u5:=bl_add (2^w*100) (sqH b w*111)
  have u6:bl 100=7:=by decide
  have u7:bl 111=7:=by decide
  have u8:bl 11100=14:=by decide
  have bA:∀{j c},j≤55→bl (logV w (sqL a w) (sqH b w) c j)≤w+7:=fun hj=>bl_logV hs ht hj
  clear hs la lb ht
  have F:=Hid.mk (And.intro ba (And.intro bb (And.intro bs (And.intro bt (And.intro bs' (And.intro bt' (And.intro u1 (And.intro u2 (And.intro u3 (And.intro u4 (And.intro u5 (And.intro u6 (And.intro u7 u8)))))))))))));clear ba bb bs bt bs' bt' u1 u2 u3 u4 u5 u6 u7 u8
  refine Spec.go [(4,.o [0,4,5,6,1,2,3,7,8,9,10,11]),(9,.o [0,1,3,4,5,7,2,6,8,9,10]),(10,.o [0,1,3,4,5,7,2,6,8,9,10]),(12,.o [0,1,2,5,7,8,9,12,3,4,6,10,11,13,14,15])] Tryz.func68 rfl rfl (by kernel_rfl) fun C _=>?_
  try simp(disch:=omega) only[go_sem,Nat.reduceBEq,Nat.reduceAdd]
  refine caN (by exact PSquare_spec hv0 (by have:=F.out;omega) (by have:=F.out;omega) (by have:=F.out;omega)) ?_;rintro v1 h1 s1 ⟨x1,m1,c1,y1,n1,d1,rfl,q1,q2⟩;have q1:N32 h1 (.slice x1 m1 c1) (sqL a w):=q1;have q2:N32 h1 (.slice y1 n1 d1) (sqH b w):=q2
  try simp(disch:=omega) only[go_sem,Nat.reduceBEq,Nat.reduceAdd]
  refine caN (by exact Small_spec (n:=111) (by decide)) ?_;rintro _ h2 _ q3;obtain⟨_,_,_,rfl,q3⟩:=q3.sl
  try simp(disch:=omega) only[go_sem,Nat.reduceBEq,Nat.reduceAdd]
  refine caN (by exact Unit_spec (w:=w) (by have:=F.out;omega)) ?_;rintro _ h3 _ q4;obtain⟨v3,_,_,rfl,q4⟩:=q4.sl
  try simp(disch:=omega) only[go_sem,Nat.reduceBEq,Nat.reduceAdd]
  refine caN (by exact EOver_spec (c:=false) q4 (q3.to (h':=h3)) (by decide) (by have:=F.out;omega) (by have:=F.out;omega)) ?_;rintro _ h4 _ q5;obtain⟨v4,v4_l,v4_c,rfl,q5⟩:=q5.sl
  try simp(disch:=omega) only[go_sem,Nat.reduceBEq,Nat.reduceAdd]
  refine caN (by exact Unit_spec (w:=w) (by have:=F.out;omega)) ?_;rintro _ h5 _ q6;obtain⟨v5,_,_,rfl,q6⟩:=q6.sl
  try simp(disch:=omega) only[go_sem,Nat.reduceBEq,Nat.reduceAdd]
  refine caN (by exact Small_spec (n:=100) (by decide)) ?_;rintro _ h6 _ q7;obtain⟨_,_,_,rfl,q7⟩:=q7.sl
  try simp(disch:=omega) only[go_sem,Nat.reduceBEq,Nat.reduceAdd]
  refine caN (by exact Mul_spec (q6.to (h':=h6)) q7 (by have:=F.out;omega) (by have:=F.out;omega)) ?_;rintro _ h7 _ q8;obtain⟨v7,_,_,rfl,q8⟩:=q8.sl
  try simp(disch:=omega) only[go_sem,Nat.reduceBEq,Nat.reduceAdd]
  refine caN (by exact Mul_spec (q2.to (h':=h7)) (q3.to (h':=h7)) (show bl (sqH b w)≤2^40 by have:=F.out;omega) (by have:=F.out;omega)) ?_;rintro _ h8 _ q9;obtain⟨v8,_,_,rfl,q9⟩:=q9.sl
  try simp(disch:=omega) only[go_sem,Nat.reduceBEq,Nat.reduceAdd]
  refine caN (by exact Add_spec (q8.to (h':=h8)) q9 (by have:=F.out;omega) (show bl (sqH b w*111)≤2^40 by have:=F.out;omega)) ?_;rintro _ h9 _ q10;obtain⟨v9,_,_,rfl,q10⟩:=q10.sl
  try simp(disch:=omega) only[go_sem,Nat.reduceBEq,Nat.reduceAdd]
  refine caN (by exact Small_spec (n:=11100) (by decide)) ?_;rintro _ h10 _ q11;obtain⟨_,_,_,rfl,q11⟩:=q11.sl
  try simp(disch:=omega) only[go_sem,Nat.reduceBEq,Nat.reduceAdd]
  refine caN (by exact EOver_spec (c:=true) (q10.to (h':=h10)) q11 (by decide) (show bl (2^w*100+sqH b w*111)≤2^36 by have:=F.out;omega) (by have:=F.out;omega)) ?_;rintro _ h11 _ q12;obtain⟨v11,v11_l,v11_c,rfl,q12⟩:=q12.sl
  try simp(disch:=omega) only[go_sem,Nat.reduceBEq,Nat.reduceAdd]
  refine lp [(4,.o [0,4,5,6,1,2,3,7,8,9,10,11]),(9,.o [0,1,3,4,5,7,2,6,8,9,10]),(10,.o [0,1,3,4,5,7,2,6,8,9,10]),(12,.o [0,1,2,5,7,8,9,12,3,4,6,10,11,13,14,15])] (fun x':Value×Value×Nat=>⟨[(1,.v (.int .i64 w)),(2,.p 0 0),(4,.p 1 0),(5,.p 2 0),(7,.v x'.1),(8,.v x'.2.1),(9,.v (.int .i64 ((x'.2.2:Int) - 1)))],[[.slice x m c,.slice y n d],[.slice none 0 0,.slice none 0 0],[.slice x1 m1 c1,.slice y1 n1 d1]]⟩) (fun x' h'=>Le h1 h'∧x'.2.2≤55∧N32 h' x'.1 (logV w (sqL a w) (sqH b w) false (55 - x'.2.2))∧N32 h' x'.2.1 (logV w (sqL a w) (sqH b w) true (55 - x'.2.2))) (fun x'=>x'.2.2) (.slice v4 v4_l v4_c,.slice v11 v11_l v11_c,55) ?_ ⟨inferInstance,Nat.le_refl _,by show N32 _ _ (logV _ _ _ _ (55 - 55));rw[Nat.sub_self,logV_0];exact q5.to,by show N32 _ _ (logV _ _ _ _ (55 - 55));rw[Nat.sub_self,logV_0'];exact q12⟩ (by kernel_rfl) ?_
  · try simp(disch:=omega) only[go_sem,Nat.reduceBEq,Nat.reduceAdd]
    all_goals rfl
  rintro⟨va,vb,i⟩ g0 ⟨le0,hi,hl,hh⟩
  dsimp only at hi hl hh ⊢
  cases i with
  | zero=>
    rw[Nat.sub_zero] at hl hh
    have b1:=bA (j:=55) (c:=false) (Nat.le_refl _)
    have b2:=bA (j:=55) (c:=true) (Nat.le_refl _)
    have b3:=bl_mul a (logV w (sqL a w) (sqH b w) false 55)
    have b4:=bl_mul b (logV w (sqL a w) (sqH b w) true 55)
    have b5:=bl_shl (a*logV w (sqL a w) (sqH b w) false 55) 1
    have b6:=bl_shl (b*logV w (sqL a w) (sqH b w) true 55) 1
    have le1:Le h0 g0:=Le.trn inferInstance le0
    obtain⟨_,_,_,rfl,hl⟩:=hl.sl
    obtain⟨_,_,_,rfl,hh⟩:=hh.sl
    have F:=Hid.mk (And.intro F.out (And.intro b1 (And.intro b2 (And.intro b3 (And.intro b4 (And.intro b5 b6))))));clear b1 b2 b3 b4 b5 b6
    try simp(disch:=omega) only[go_sem,Nat.reduceBEq,Nat.reduceAdd]
    refine caN (by exact Mul_spec (k1.to (h':=g0)) hl (by have:=F.out;omega) (show bl (logV w (sqL a w) (sqH b w) false 55)≤2^40 by have:=F.out;omega)) ?_;rintro _ g1 _ r1;obtain⟨w1,_,_,rfl,r1⟩:=r1.sl
    try simp(disch:=omega) only[go_sem,Nat.reduceBEq,Nat.reduceAdd]
    refine caN (by exact Shl_spec (n:=1) r1 (show bl (a*logV w (sqL a w) (sqH b w) false 55)+1≤2^40 by have:=F.out;omega)) ?_;rintro _ g2 _ r2;obtain⟨w2,_,_,rfl,r2⟩:=r2.sl
    try simp(disch:=omega) only[go_sem,Nat.reduceBEq,Nat.reduceAdd]
    refine caN (by exact Shr_spec (n:=w) r2 (show bl (a*logV w (sqL a w) (sqH b w) false 55*2^1)≤2^40 by have:=F.out;omega) (by have:=F.out;omega)) ?_;rintro _ g3 _ r3;obtain⟨w3,_,_,rfl,r3⟩:=r3.sl
    try simp(disch:=omega) only[go_sem,Nat.reduceBEq,Nat.reduceAdd]
    refine caN (by exact Mul_spec (k2.to (h':=g3)) (hh.to (h':=g3)) (by have:=F.out;omega) (show bl (logV w (sqL a w) (sqH b w) true 55)≤2^40 by have:=F.out;omega)) ?_;rintro _ g4 _ r4;obtain⟨w4,_,_,rfl,r4⟩:=r4.sl
    try simp(disch:=omega) only[go_sem,Nat.reduceBEq,Nat.reduceAdd]
    refine caN (by exact Shl_spec (n:=1) r4 (show bl (b*logV w (sqL a w) (sqH b w) true 55)+1≤2^40 by have:=F.out;omega)) ?_;rintro _ g5 _ r5;obtain⟨w5,_,_,rfl,r5⟩:=r5.sl
    try simp(disch:=omega) only[go_sem,Nat.reduceBEq,Nat.reduceAdd]
    refine caN (by exact EUp_spec (n:=w) r5 (show bl (b*logV w (sqL a w) (sqH b w) true 55*2^1)≤2^39 by have:=F.out;omega) (by have:=F.out;omega)) ?_;rintro _ g6 _ r6;obtain⟨w6,_,_,rfl,r6⟩:=r6.sl
    try simp(disch:=omega) only[go_sem,Nat.reduceBEq,Nat.reduceAdd]
    exact⟨_,_,_,_,_,_,rfl,r3.to,r6⟩
  | succ i=>
    obtain⟨j,hj,ej⟩:∃j,j < 55∧55 - (i+1)=j:=⟨_,by have:=F.out;omega,rfl⟩
    have en:55 - i=j+1:=by have:=F.out;omega
    have eo:109 - 2*j=2*i+1:=by have:=F.out;omega
    rw[ej] at hl hh
    have b1:=bA (j:=j) (c:=false) (by have:=F.out;omega)
    have b2:=bA (j:=j) (c:=true) (by have:=F.out;omega)
    have b3:bl (2*i+1)≤7:=bl_le.2 (by have:=F.out;omega)
    have b4:=bl_mul (sqH b w) (logV w (sqL a w) (sqH b w) true j)
    have b5:=bl_mul (sqL a w) (logV w (sqL a w) (sqH b w) false j)
    have b6:=bl_mul (sqH b w*logV w (sqL a w) (sqH b w) true j) (2*i+1)
    have b7:=bl_mul (sqL a w*logV w (sqL a w) (sqH b w) false j) (2*i+1)
    have b8:=bl_add (2^(2*w)) (sqH b w*logV w (sqL a w) (sqH b w) true j*(2*i+1))
    have b9:=bl_add (2^(2*w)) (sqL a w*logV w (sqL a w) (sqH b w) false j*(2*i+1))
    have b10:=bl_shl (2*i+1) w
    have n0:Hid ((2*i+1)*2^w≠0):=⟨Nat.mul_ne_zero (by have:=F.out;omega) (pow2_ne w)⟩
    have eo:=Hid.mk eo
    have en:=Hid.mk en
    clear ej hj
    have F:=Hid.mk (And.intro F.out (And.intro b1 (And.intro b2 (And.intro b3 (And.intro b4 (And.intro b5 (And.intro b6 (And.intro b7 (And.intro b8 (And.intro b9 b10))))))))));clear b1 b2 b3 b4 b5 b6 b7 b8 b9 b10
    try simp(disch:=omega) only[go_sem,Nat.reduceBEq,Nat.reduceAdd]
    refine caN (by exact Small_spec (n:=2*i+1) (by have:=F.out;omega)) ?_;rintro _ g1 _ r1;obtain⟨w1,_,_,rfl,r1⟩:=r1.sl
    try simp(disch:=omega) only[go_sem,Nat.reduceBEq,Nat.reduceAdd]
    refine caN (by exact Unit_spec (w:=2*w) (by have:=F.out;omega)) ?_;rintro _ g2 _ r2;obtain⟨w2,_,_,rfl,r2⟩:=r2.sl
    try simp(disch:=omega) only[go_sem,Nat.reduceBEq,Nat.reduceAdd]
    refine caN (by exact Mul_spec (q1.to (h':=g2)) (hl.to (h':=g2)) (show bl (sqL a w)≤2^40 by have:=F.out;omega) (by have:=F.out;omega)) ?_;rintro _ g3 _ r3;obtain⟨w3,_,_,rfl,r3⟩:=r3.sl
    try simp(disch:=omega) only[go_sem,Nat.reduceBEq,Nat.reduceAdd]
    refine caN (by exact Mul_spec r3 (r1.to (h':=g3)) (show bl (sqL a w*logV w (sqL a w) (sqH b w) false j)≤2^40 by have:=F.out;omega) (by have:=F.out;omega)) ?_;rintro _ g4 _ r4;obtain⟨w4,_,_,rfl,r4⟩:=r4.sl
    try simp(disch:=omega) only[go_sem,Nat.reduceBEq,Nat.reduceAdd]
    refine caN (by exact Add_spec (r2.to (h':=g4)) r4 (by have:=F.out;omega) (show bl (sqL a w*logV w (sqL a w) (sqH b w) false j*(2*i+1))≤2^40 by have:=F.out;omega)) ?_;rintro _ g5 _ r5;obtain⟨w5,_,_,rfl,r5⟩:=r5.sl
    try simp(disch:=omega) only[go_sem,Nat.reduceBEq,Nat.reduceAdd]
    refine caN (by exact Unit_spec (w:=2*w) (by have:=F.out;omega)) ?_;rintro _ g6 _ r6;obtain⟨w6,_,_,rfl,r6⟩:=r6.sl
    try simp(disch:=omega) only[go_sem,Nat.reduceBEq,Nat.reduceAdd]
    refine caN (by exact Mul_spec (q2.to (h':=g6)) (hh.to (h':=g6)) (show bl (sqH b w)≤2^40 by have:=F.out;omega) (by have:=F.out;omega)) ?_;rintro _ g7 _ r7;obtain⟨w7,_,_,rfl,r7⟩:=r7.sl
    try simp(disch:=omega) only[go_sem,Nat.reduceBEq,Nat.reduceAdd]
    refine caN (by exact Mul_spec r7 (r1.to (h':=g7)) (show bl (sqH b w*logV w (sqL a w) (sqH b w) true j)≤2^40 by have:=F.out;omega) (by have:=F.out;omega)) ?_;rintro _ g8 _ r8;obtain⟨w8,_,_,rfl,r8⟩:=r8.sl
    try simp(disch:=omega) only[go_sem,Nat.reduceBEq,Nat.reduceAdd]
    refine caN (by exact Add_spec (r6.to (h':=g8)) r8 (by have:=F.out;omega) (show bl (sqH b w*logV w (sqL a w) (sqH b w) true j*(2*i+1))≤2^40 by have:=F.out;omega)) ?_;rintro _ g9 _ r9;obtain⟨w9,_,_,rfl,r9⟩:=r9.sl
    try simp(disch:=omega) only[go_sem,Nat.reduceBEq,Nat.reduceAdd]
    refine caN (by exact Shl_spec (n:=w) (r1.to (h':=g9)) (by have:=F.out;omega)) ?_;rintro _ g10 _ r10;obtain⟨w10,_,_,rfl,r10⟩:=r10.sl
    try simp(disch:=omega) only[go_sem,Nat.reduceBEq,Nat.reduceAdd]
    refine caN (by exact EOver_spec (c:=false) (r5.to (h':=g10)) r10 n0.out (show bl (2^(2*w)+sqL a w*logV w (sqL a w) (sqH b w) false j*(2*i+1))≤2^36 by have:=F.out;omega) (by have:=F.out;omega)) ?_;rintro _ g11 _ r11;obtain⟨w11,w11_l,w11_c,rfl,r11⟩:=r11.sl
    try simp(disch:=omega) only[go_sem,Nat.reduceBEq,Nat.reduceAdd]
    refine caN (by exact Shl_spec (n:=w) (r1.to (h':=g11)) (by have:=F.out;omega)) ?_;rintro _ g12 _ r12;obtain⟨w12,_,_,rfl,r12⟩:=r12.sl
    try simp(disch:=omega) only[go_sem,Nat.reduceBEq,Nat.reduceAdd]
    refine caN (by exact EOver_spec (c:=true) (r9.to (h':=g12)) r12 n0.out (show bl (2^(2*w)+sqH b w*logV w (sqL a w) (sqH b w) true j*(2*i+1))≤2^36 by have:=F.out;omega) (by have:=F.out;omega)) ?_;rintro _ g13 _ r13;obtain⟨w13,w13_l,w13_c,rfl,r13⟩:=r13.sl
    try simp(disch:=omega) only[go_sem,Nat.reduceBEq,Nat.reduceAdd]
    dsimp only[lpE];refine⟨(.slice w11 w11_l w11_c,.slice w13 w13_l w13_c,i),?_,⟨Le.trn le0 inferInstance,(show i≤55 by have:=F.out;omega),?_,?_⟩,(show i < i+1 by have:=F.out;omega)⟩
    · try simp(disch:=omega) only[go_sem,Nat.reduceBEq,Nat.reduceAdd]
      all_goals rfl
    · show N32 _ _ (logV _ _ _ false (55 - i))
      rw[en.out,logV_s,eo.out,←pow_2w]
      exact r11.to
    · show N32 _ _ (logV _ _ _ true (55 - i))
      rw[en.out,logV_s',eo.out,←pow_2w]
      exact r13
end Go.Q
namespace Go.Q
open Go.Proofs
set_option maxRecDepth 100000
set_option maxHeartbeats 8000000
def rtUp (n:Nat):Nat:=if irt 2 n^2=n then irt 2 n else irt 2 n+1
def hvL (a w:Nat):Nat:=a*2^w / (2^w+rtUp (2^(2*w)+a*a))
def hvH (b w:Nat):Nat:=cdiv (b*2^w) (2^w+irt 2 (2^(2*w)+b*b))
def anL (a b w:Nat):Nat:=arcL (hvL (hvL a w) w) (hvH (hvH b w) w) w*2^2
def anH (a b w:Nat):Nat:=arcH (hvL (hvL a w) w) (hvH (hvH b w) w) w*2^2
theorem Pr.sp {h:PH} {v:Value} {a b:Nat} (r:Pr h v a b):∃x m c y n d,v=.agg #[.slice x m c,.slice y n d]∧Pr h (.agg #[.slice x m c,.slice y n d]) a b:=by
  obtain⟨x,m,c,y,n,d,rfl,h1,h2⟩:=r
  exact⟨x,m,c,y,n,d,rfl,_,_,_,_,_,_,rfl,h1,h2⟩
theorem hvL_le (a w:Nat):hvL a w≤a:=by
  unfold hvL
  exact Nat.div_le_of_le_mul (by rw[Nat.add_mul,Nat.mul_comm (2^w) a];exact Nat.le_add_right _ _)
theorem hvH_le (b w:Nat):hvH b w≤b:=by
  unfold hvH
  exact(cdiv_le_iff (Nat.ne_of_gt (Nat.add_pos_left (Nat.pos_of_ne_zero (pow2_ne w)) _))).2 (by rw[Nat.add_mul,Nat.mul_comm (2^w) b];exact Nat.le_add_right _ _)
theorem irt2_le (n:Nat):irt 2 n≤n:=by
  have h:=irt_le (n:=2) (a:=n) (by decide)
  rw[Nat.pow_two] at h
  exact Nat.le_trans (Nat.le_mul_self _) h
theorem bl_rt (n:Nat):bl (irt 2 n)≤bl n:=bl_mono (irt2_le n)
theorem Root2_spec {h0 h:PH} [Le h0 h] {v:Value} {a:Nat} {e:Bool} (hv:N32 h0 v a) (ba:bl a≤2^20) (he:decide (irt 2 a^2=a)=e):Spec mach 142 #[v,.int .i64 2] h (fun v h'=>∃r,v=.tuple #[r,.bool e]∧N32 h' r (irt 2 a)) NP:=by
  subst he
  exact NRoot_spec (n:=2) hv (by decide) (by decide) ba
theorem EHalve_spec {h0 h:PH} [Le h0 h] {v:Value} {a b w:Nat} (hv:Pr h0 v a b) (la:a≤2^w) (lb:b≤2^w) (hw:20≤w) (hw':w≤1000):Spec mach 111 #[v,.int .i64 w] h (fun v h'=>Pr h' v (hvL a w) (hvH b w)) NP:=by
  obtain⟨x,m,c,y,n,d,rfl,k1,k2⟩:=hv
  have ba:bl a≤w+2:=bl_pow_le (by omega)
  have bb:bl b≤w+2:=bl_pow_le (by omega)
  have n1:Hid (2^w+rtUp (2^(2*w)+a*a)≠0):=⟨by have:=pow2_ne w;omega⟩
  have n2:Hid (2^w+irt 2 (2^(2*w)+b*b)≠0):=⟨by have:=pow2_ne w;omega⟩
  clear la lb
  have u0:=bl_pow2 w
  have u1:=bl_pow2 (2*w)
  have u2:=bl_mul a a
  have u3:=bl_mul b b
  have u4:=bl_add (2^(2*w)) (a*a)
  have u5:=bl_add (2^(2*w)) (b*b)
  have u6:=bl_rt (2^(2*w)+a*a)
  have u7:=bl_rt (2^(2*w)+b*b)
  have u8:=bl_add (irt 2 (2^(2*w)+a*a)) 1
  have u9:=bl_one
  have u10:bl (rtUp (2^(2*w)+a*a))≤2*w+10:=by
    unfold rtUp
    split<;>omega
  have u11:=bl_add (2^w) (rtUp (2^(2*w)+a*a))
  have u12:=bl_add (2^w) (irt 2 (2^(2*w)+b*b))
  have u13:=bl_shl a w
  have u14:=bl_shl b w
  obtain⟨e,he⟩:∃e,decide (irt 2 (2^(2*w)+a*a)^2=2^(2*w)+a*a)=e:=⟨_,rfl⟩
  obtain⟨e',he'⟩:∃e,decide (irt 2 (2^(2*w)+b*b)^2=2^(2*w)+b*b)=e:=⟨_,rfl⟩
  have hr:Hid (rtUp (2^(2*w)+a*a)=if e then irt 2 (2^(2*w)+a*a) else irt 2 (2^(2*w)+a*a)+1):=⟨by
    subst he
    unfold rtUp
    simp only[decide_eq_true_eq]⟩
  have he:=Hid.mk he
  have he':=Hid.mk he'
  have F:=Hid.mk (And.intro ba (And.intro bb (And.intro u0 (And.intro u1 (And.intro u2 (And.intro u3 (And.intro u4 (And.intro u5 (And.intro u6 (And.intro u7 (And.intro u8 (And.intro u9 (And.intro u10 (And.intro u11 (And.intro u12 (And.intro u13 u14))))))))))))))));clear ba bb u0 u1 u2 u3 u4 u5 u6 u7 u8 u9 u10 u11 u12 u13 u14
  cases e
  all_goals
    refine Spec.go [(1,.o [0,1,3,4,5,6,2,7,8,9,10,11,12,13,14]),(4,.o [0,1,3,4,5,6,2,7,8,9,10,11,12,13,14]),(5,.o [0,1,2,4,6,9,10,11,13,15,3,5,7,8,12,14,16,17,18,19])] Tryz.func111 rfl rfl (by kernel_rfl) fun C _=>?_
    try simp(disch:=omega) only[go_sem,Nat.reduceBEq,Nat.reduceAdd]
    refine caN (by exact Unit_spec (w:=2*w) (by have:=F.out;omega)) ?_;rintro _ h1 _ q1;obtain⟨v1,_,_,rfl,q1⟩:=q1.sl
    try simp(disch:=omega) only[go_sem,Nat.reduceBEq,Nat.reduceAdd]
    refine caN (by exact Mul_spec k1 k1 (by have:=F.out;omega) (by have:=F.out;omega)) ?_;rintro _ h2 _ q2;obtain⟨v2,_,_,rfl,q2⟩:=q2.sl
    try simp(disch:=omega) only[go_sem,Nat.reduceBEq,Nat.reduceAdd]
    refine caN (by exact Add_spec (q1.to (h':=h2)) q2 (by have:=F.out;omega) (show bl (a*a)≤2^40 by have:=F.out;omega)) ?_;rintro _ h3 _ q3;obtain⟨v3,_,_,rfl,q3⟩:=q3.sl
    try simp(disch:=omega) only[go_sem,Nat.reduceBEq,Nat.reduceAdd]
    refine caN (by exact Root2_spec q3 (show bl (2^(2*w)+a*a)≤2^20 by have:=F.out;omega) he.out) ?_;rintro v4 h4 s4 ⟨t,rfl,q4⟩;obtain⟨t4,t4l,t4c,rfl,q4⟩:=q4.sl
    try simp(disch:=omega) only[go_sem,Nat.reduceBEq,Nat.reduceAdd]
  · refine caN (by exact Small_spec (n:=1) (by decide)) ?_;rintro _ h5 _ q5;obtain⟨_,_,_,rfl,q5⟩:=q5.sl
    try simp(disch:=omega) only[go_sem,Nat.reduceBEq,Nat.reduceAdd]
    refine caN (by exact Add_spec (q4.to (h':=h5)) q5 (show bl (irt 2 (2^(2*w)+a*a))≤2^40 by have:=F.out;omega) (by have:=F.out;omega)) ?_;rintro _ h6 _ q6;obtain⟨v6,v6_l,v6_c,rfl,q6⟩:=q6.sl
    try simp(disch:=omega) only[go_sem,Nat.reduceBEq,Nat.reduceAdd]
    have q6:N32 h6 (.slice v6 v6_l v6_c) (rtUp (2^(2*w)+a*a)):=by rw[hr.out];exact q6
    refine caN (by exact Unit_spec (w:=2*w) (by have:=F.out;omega)) ?_;rintro _ g1 _ r1;obtain⟨w1,_,_,rfl,r1⟩:=r1.sl
    try simp(disch:=omega) only[go_sem,Nat.reduceBEq,Nat.reduceAdd]
    refine caN (by exact Mul_spec (k2.to (h':=g1)) (k2.to (h':=g1)) (by have:=F.out;omega) (by have:=F.out;omega)) ?_;rintro _ g2 _ r2;obtain⟨w2,_,_,rfl,r2⟩:=r2.sl
    try simp(disch:=omega) only[go_sem,Nat.reduceBEq,Nat.reduceAdd]
    refine caN (by exact Add_spec (r1.to (h':=g2)) r2 (by have:=F.out;omega) (show bl (b*b)≤2^40 by have:=F.out;omega)) ?_;rintro _ g3 _ r3;obtain⟨w3,_,_,rfl,r3⟩:=r3.sl
    try simp(disch:=omega) only[go_sem,Nat.reduceBEq,Nat.reduceAdd]
    refine caN (by exact Root2_spec r3 (show bl (2^(2*w)+b*b)≤2^20 by have:=F.out;omega) he'.out) ?_;rintro w4 g4 s4' ⟨t,rfl,r4⟩;obtain⟨_,_,_,rfl,r4⟩:=r4.sl
    try simp(disch:=omega) only[go_sem,Nat.reduceBEq,Nat.reduceAdd]
    refine caN (by exact Shl_spec (n:=w) (k1.to (h':=g4)) (by have:=F.out;omega)) ?_;rintro _ g5 _ r5;obtain⟨w5,_,_,rfl,r5⟩:=r5.sl
    try simp(disch:=omega) only[go_sem,Nat.reduceBEq,Nat.reduceAdd]
    refine caN (by exact Unit_spec (w:=w) (by have:=F.out;omega)) ?_;rintro _ g6 _ r6;obtain⟨w6,_,_,rfl,r6⟩:=r6.sl
    try simp(disch:=omega) only[go_sem,Nat.reduceBEq,Nat.reduceAdd]
    refine caN (by exact Add_spec r6 (q6.to (h':=g6)) (by have:=F.out;omega) (show bl (rtUp (2^(2*w)+a*a))≤2^40 by have:=F.out;omega)) ?_;rintro _ g7 _ r7;obtain⟨w7,_,_,rfl,r7⟩:=r7.sl
    try simp(disch:=omega) only[go_sem,Nat.reduceBEq,Nat.reduceAdd]
    refine caN (by exact EOver_spec (c:=false) (r5.to (h':=g7)) r7 n1.out (by have:=F.out;omega) (show bl (2^w+rtUp (2^(2*w)+a*a))≤2^36 by have:=F.out;omega)) ?_;rintro _ g8 _ r8;obtain⟨w8,_,_,rfl,r8⟩:=r8.sl
    try simp(disch:=omega) only[go_sem,Nat.reduceBEq,Nat.reduceAdd]
    refine caN (by exact Shl_spec (n:=w) (k2.to (h':=g8)) (by have:=F.out;omega)) ?_;rintro _ g9 _ r9;obtain⟨w9,_,_,rfl,r9⟩:=r9.sl
    try simp(disch:=omega) only[go_sem,Nat.reduceBEq,Nat.reduceAdd]
    refine caN (by exact Unit_spec (w:=w) (by have:=F.out;omega)) ?_;rintro _ g10 _ r10;obtain⟨w10,_,_,rfl,r10⟩:=r10.sl
    try simp(disch:=omega) only[go_sem,Nat.reduceBEq,Nat.reduceAdd]
    refine caN (by exact Add_spec r10 (r4.to (h':=g10)) (by have:=F.out;omega) (show bl (irt 2 (2^(2*w)+b*b))≤2^40 by have:=F.out;omega)) ?_;rintro _ g11 _ r11;obtain⟨w11,_,_,rfl,r11⟩:=r11.sl
    try simp(disch:=omega) only[go_sem,Nat.reduceBEq,Nat.reduceAdd]
    refine caN (by exact EOver_spec (c:=true) (r9.to (h':=g11)) r11 n2.out (by have:=F.out;omega) (show bl (2^w+irt 2 (2^(2*w)+b*b))≤2^36 by have:=F.out;omega)) ?_;rintro _ g12 _ r12;obtain⟨w12,_,_,rfl,r12⟩:=r12.sl
    try simp(disch:=omega) only[go_sem,Nat.reduceBEq,Nat.reduceAdd]
    exact⟨_,_,_,_,_,_,rfl,r8.to,r12⟩
  · have q4:N32 h4 (.slice t4 t4l t4c) (rtUp (2^(2*w)+a*a)):=by rw[hr.out];exact q4
    refine caN (by exact Unit_spec (w:=2*w) (by have:=F.out;omega)) ?_;rintro _ g1 _ r1;obtain⟨w1,_,_,rfl,r1⟩:=r1.sl
    try simp(disch:=omega) only[go_sem,Nat.reduceBEq,Nat.reduceAdd]
    refine caN (by exact Mul_spec (k2.to (h':=g1)) (k2.to (h':=g1)) (by have:=F.out;omega) (by have:=F.out;omega)) ?_;rintro _ g2 _ r2;obtain⟨w2,_,_,rfl,r2⟩:=r2.sl
    try simp(disch:=omega) only[go_sem,Nat.reduceBEq,Nat.reduceAdd]
    refine caN (by exact Add_spec (r1.to (h':=g2)) r2 (by have:=F.out;omega) (show bl (b*b)≤2^40 by have:=F.out;omega)) ?_;rintro _ g3 _ r3;obtain⟨w3,_,_,rfl,r3⟩:=r3.sl
    try simp(disch:=omega) only[go_sem,Nat.reduceBEq,Nat.reduceAdd]
    refine caN (by exact Root2_spec r3 (show bl (2^(2*w)+b*b)≤2^20 by have:=F.out;omega) he'.out) ?_;rintro w4 g4 s4' ⟨t,rfl,r4⟩;obtain⟨_,_,_,rfl,r4⟩:=r4.sl
    try simp(disch:=omega) only[go_sem,Nat.reduceBEq,Nat.reduceAdd]
    refine caN (by exact Shl_spec (n:=w) (k1.to (h':=g4)) (by have:=F.out;omega)) ?_;rintro _ g5 _ r5;obtain⟨w5,_,_,rfl,r5⟩:=r5.sl
    try simp(disch:=omega) only[go_sem,Nat.reduceBEq,Nat.reduceAdd]
    refine caN (by exact Unit_spec (w:=w) (by have:=F.out;omega)) ?_;rintro _ g6 _ r6;obtain⟨w6,_,_,rfl,r6⟩:=r6.sl
    try simp(disch:=omega) only[go_sem,Nat.reduceBEq,Nat.reduceAdd]
    refine caN (by exact Add_spec r6 (q4.to (h':=g6)) (by have:=F.out;omega) (show bl (rtUp (2^(2*w)+a*a))≤2^40 by have:=F.out;omega)) ?_;rintro _ g7 _ r7;obtain⟨w7,_,_,rfl,r7⟩:=r7.sl
    try simp(disch:=omega) only[go_sem,Nat.reduceBEq,Nat.reduceAdd]
    refine caN (by exact EOver_spec (c:=false) (r5.to (h':=g7)) r7 n1.out (by have:=F.out;omega) (show bl (2^w+rtUp (2^(2*w)+a*a))≤2^36 by have:=F.out;omega)) ?_;rintro _ g8 _ r8;obtain⟨w8,_,_,rfl,r8⟩:=r8.sl
    try simp(disch:=omega) only[go_sem,Nat.reduceBEq,Nat.reduceAdd]
    refine caN (by exact Shl_spec (n:=w) (k2.to (h':=g8)) (by have:=F.out;omega)) ?_;rintro _ g9 _ r9;obtain⟨w9,_,_,rfl,r9⟩:=r9.sl
    try simp(disch:=omega) only[go_sem,Nat.reduceBEq,Nat.reduceAdd]
    refine caN (by exact Unit_spec (w:=w) (by have:=F.out;omega)) ?_;rintro _ g10 _ r10;obtain⟨w10,_,_,rfl,r10⟩:=r10.sl
    try simp(disch:=omega) only[go_sem,Nat.reduceBEq,Nat.reduceAdd]
    refine caN (by exact Add_spec r10 (r4.to (h':=g10)) (by have:=F.out;omega) (show bl (irt 2 (2^(2*w)+b*b))≤2^40 by have:=F.out;omega)) ?_;rintro _ g11 _ r11;obtain⟨w11,_,_,rfl,r11⟩:=r11.sl
    try simp(disch:=omega) only[go_sem,Nat.reduceBEq,Nat.reduceAdd]
    refine caN (by exact EOver_spec (c:=true) (r9.to (h':=g11)) r11 n2.out (by have:=F.out;omega) (show bl (2^w+irt 2 (2^(2*w)+b*b))≤2^36 by have:=F.out;omega)) ?_;rintro _ g12 _ r12;obtain⟨w12,_,_,rfl,r12⟩:=r12.sl
    try simp(disch:=omega) only[go_sem,Nat.reduceBEq,Nat.reduceAdd]
    exact⟨_,_,_,_,_,_,rfl,r8.to,r12⟩
theorem bl_an {a b w:Nat} (la:a≤2^w) (lb:b≤2^w):bl (arcL (hvL (hvL a w) w) (hvH (hvH b w) w) w)≤w+2∧bl (arcH (hvL (hvL a w) w) (hvH (hvH b w) w) w)≤w+2:=
  ⟨bl_pow_le (arcL_le (Nat.le_trans (hvL_le _ _) (Nat.le_trans (hvL_le _ _) la))),bl_pow_le (arcH_le (Nat.le_trans (hvH_le _ _) (Nat.le_trans (hvH_le _ _) lb)))⟩
theorem EAngle_spec {h0 h:PH} [Le h0 h] {v:Value} {a b w:Nat} (hv:Pr h0 v a b) (la:a≤2^w) (lb:b≤2^w) (hw:20≤w) (hw':w≤1000):Spec mach 77 #[v,.int .i64 w] h (fun v h'=>Pr h' v (anL a b w) (anH a b w)) NP:=by
  have l1:=Nat.le_trans (hvL_le a w) la
  have l2:=Nat.le_trans (hvH_le b w) lb
  have l3:=Nat.le_trans (hvL_le (hvL a w) w) l1
  have l4:=Nat.le_trans (hvH_le (hvH b w) w) l2
  obtain⟨b1,b2⟩:=bl_an la lb
  have hv0:=hv
  obtain⟨x,m,c,y,n,d,rfl,k1,k2⟩:=hv
  have la:=Hid.mk la
  have lb:=Hid.mk lb
  have l1:=Hid.mk l1
  have l2:=Hid.mk l2
  have l3:=Hid.mk l3
  have l4:=Hid.mk l4
  have F:=Hid.mk (And.intro b1 b2);clear b1 b2
  refine Spec.go [] Tryz.func77 rfl rfl (by kernel_rfl) fun C _=>?_
  try simp(disch:=omega) only[go_sem,Nat.reduceBEq,Nat.reduceAdd]
  refine caN (by exact EHalve_spec hv0 la.out lb.out hw hw') ?_;rintro v1 h1 s1 q1;obtain⟨_,_,_,_,_,_,rfl,q1⟩:=q1.sp
  try simp(disch:=omega) only[go_sem,Nat.reduceBEq,Nat.reduceAdd]
  refine caN (by exact EHalve_spec q1 l1.out l2.out hw hw') ?_;rintro v2 h2 s2 q2;obtain⟨_,_,_,_,_,_,rfl,q2⟩:=q2.sp
  try simp(disch:=omega) only[go_sem,Nat.reduceBEq,Nat.reduceAdd]
  refine caN (by exact EArctan_spec q2 l3.out l4.out hw hw') ?_;rintro v3 h3 s3 q3;obtain⟨_,_,_,_,_,_,rfl,q3⟩:=q3.sp
  try simp(disch:=omega) only[go_sem,Nat.reduceBEq,Nat.reduceAdd]
  refine caN (by exact PTimes_spec (n:=2) q3 (show bl (arcL (hvL (hvL a w) w) (hvH (hvH b w) w) w)≤2^30 by have:=F.out;omega) (show bl (arcH (hvL (hvL a w) w) (hvH (hvH b w) w) w)≤2^30 by have:=F.out;omega) (by decide)) ?_;rintro v4 h4 s4 q4;obtain⟨_,_,_,_,_,_,rfl,q4⟩:=q4.sp
  try simp(disch:=omega) only[go_sem,Nat.reduceBEq,Nat.reduceAdd]
  exact q4
end Go.Q
namespace Go.Q
open Go.Proofs
set_option maxRecDepth 100000
set_option maxHeartbeats 8000000
theorem irt_unit (w a:Nat):2^w≤irt 2 (2^(2*w)+a*a):=irt_max (by decide) (by rw[←Nat.pow_mul,Nat.mul_comm w 2];exact Nat.le_add_right _ _)
theorem rtUp_unit (w a:Nat):2^w≤rtUp (2^(2*w)+a*a):=by
  have:=irt_unit w a
  unfold rtUp
  split<;>omega
theorem twice_c (c u:Nat):(u+u)*c=2*c*u:=by rw[←Nat.two_mul,Nat.mul_right_comm]
theorem hvH_half {b c w:Nat} (h:b≤2*c):hvH b w≤c:=by
  unfold hvH
  have h1:=irt_unit w b
  have hn:2^w+irt 2 (2^(2*w)+b*b)≠0:=by have:=Nat.pos_of_ne_zero (pow2_ne w);omega
  refine(cdiv_le_iff hn).2 ?_
  have h2:b*2^w≤2*c*2^w:=Nat.mul_le_mul_right _ h
  have h3:(2^w+2^w)*c≤(2^w+irt 2 (2^(2*w)+b*b))*c:=Nat.mul_le_mul_right _ (by omega)
  rw[twice_c] at h3
  exact Nat.le_trans h2 h3
theorem hvL_half {b c w:Nat} (h:b≤2*c):hvL b w≤c:=by
  unfold hvL
  refine Nat.div_le_of_le_mul ?_
  have h1:=rtUp_unit w b
  have h2:b*2^w≤2*c*2^w:=Nat.mul_le_mul_right _ h
  have h3:(2^w+2^w)*c≤(2^w+rtUp (2^(2*w)+b*b))*c:=Nat.mul_le_mul_right _ (by omega)
  rw[twice_c] at h3
  exact Nat.le_trans h2 h3
theorem arc_small {c u v:Nat} (hc:c≤u) (hv:v≤u+1):c*v≤u*(c+1):=by
  have h1:c*v≤c*(u+1):=Nat.mul_le_mul_left _ hv
  have e1:c*(u+1)=u*c+c:=by rw[Nat.mul_add,Nat.mul_one,Nat.mul_comm]
  have e2:u*(c+1)=u*c+u:=by rw[Nat.mul_add,Nat.mul_one]
  omega
theorem an_le {a b w:Nat} (hw:2≤w) (ha:a≤2^w) (hb:b≤2^w):anL a b w≤2^w+4∧anH a b w≤2^w+4:=by
  obtain⟨c,hc⟩:∃c,2^w=4*c:=⟨2^(w - 2),by rw[show w=2+(w - 2) by omega,Nat.pow_add];simp⟩
  have a2:hvL (hvL a w) w≤c:=hvL_half (hvL_half (by omega))
  have b2:hvH (hvH b w) w≤c:=hvH_half (hvH_half (by omega))
  have v1:arcV w (sqL (hvL (hvL a w) w) w) (sqH (hvH (hvH b w) w) w) false 39≤2^w+1:=arcV_top (Nat.le_refl _)
  have v2:arcV w (sqL (hvL (hvL a w) w) w) (sqH (hvH (hvH b w) w) w) true 39≤2^w+1:=arcV_top (Nat.le_refl _)
  have m1:=arc_small (c:=hvL (hvL a w) w) (by omega) v1
  have m2:=arc_small (c:=hvH (hvH b w) w) (by omega) v2
  have k1:arcL (hvL (hvL a w) w) (hvH (hvH b w) w) w≤hvL (hvL a w) w+1:=Nat.div_le_of_le_mul m1
  have k2:arcH (hvL (hvL a w) w) (hvH (hvH b w) w) w≤hvH (hvH b w) w+1:=(cdiv_le_iff (pow2_ne w)).2 m2
  unfold anL anH
  omega
def invQ (x:Rat):Rat:=sgn false x.den x.num.natAbs
theorem invQ_parts {x:Rat} (h:x.num.natAbs≠0):(invQ x).num=(x.den:Int)∧(invQ x).den=x.num.natAbs:=by
  have:=sgn_num (neg:=false) (n:=x.den) (d:=x.num.natAbs) h (by rw[Nat.gcd_comm];exact x.reduced)
  simpa[invQ] using this
theorem invQ_cn {h:PH} {x:Rat} {v w:Value} (hd:N32 h v x.den) (hn:N32 h w x.num.natAbs) (h2:2≤x.num.natAbs):Cn h (.agg #[.bool false,v,w]) (invQ x):=by
  obtain⟨e1,e2⟩:=invQ_parts (x:=x) (by omega)
  refine⟨v,w,?_,?_,?_⟩
  · rw[e1,decide_eq_false (by omega)]
  · rw[e1];exact hd
  · rw[e2,if_neg (by omega)];exact hn
def bkL (neg:Bool) (a b k p:Nat):Rat:=if neg then sgn neg (cdiv b (2^k)) (2^p) else sgn neg (a / 2^k) (2^p)
def bkH (neg:Bool) (a b k p:Nat):Rat:=if neg then sgn neg (a / 2^k) (2^p) else sgn neg (cdiv b (2^k)) (2^p)
def atA (x:Rat) (w:Nat):Nat:=if x.den < x.num.natAbs then piL w - anH (glo (invQ x) w) (ghi (invQ x) w) w*2^1 else anL (glo x w) (ghi x w) w
def atB (x:Rat) (w:Nat):Nat:=if x.den < x.num.natAbs then piH w - anL (glo (invQ x) w) (ghi (invQ x) w) w*2^1 else anH (glo x w) (ghi x w) w
def atK (x:Rat):Nat:=if x.den < x.num.natAbs then 33 else 32
def atLo (x:Rat) (p:Nat):Rat:=bkL (decide (x.num < 0)) (atA x (p+32)) (atB x (p+32)) (atK x) p
def atHi (x:Rat) (p:Nat):Rat:=bkH (decide (x.num < 0)) (atA x (p+32)) (atB x (p+32)) (atK x) p
theorem g_le {x:Rat} {w:Nat} (h:¬x.den < x.num.natAbs):glo x w≤2^w∧ghi x w≤2^w:=by
  have h1:x.num.natAbs*2^w≤x.den*2^w:=Nat.mul_le_mul_right _ (by omega)
  exact⟨Nat.div_le_of_le_mul h1,(cdiv_le_iff x.den_nz).2 h1⟩
theorem bl_w3 {n w:Nat} (hw:2≤w) (h:n≤2^w+4):bl n≤w+3:=bl_le.2 (by
  have:2^(w+3)=2^w*8:=Nat.pow_add _ _ _
  have:2^w=2^(w - 2)*4:=by rw[←Nat.pow_add 2 _ 2];congr 1;omega
  have:=Nat.pos_of_ne_zero (pow2_ne (w - 2))
  omega)
theorem EAtan_spec {h0 h:PH} [Le h0 h] {v:Value} {x:Rat} {p:Nat} (hx:Cn h0 v x) (bx:sz x≤1024) (hp:p≤128):Spec mach 32 #[v,.int .i64 p] h (fun r h'=>Be h' r (atLo x p) (atHi x p)) NP:=by
  have kB:=fun {h} [Le h0 h]=>Beyond_spec (h:=h) (n:=1) hx (Nat.le_trans bx (by decide)) (by decide)
  have kW:=fun {h} [Le h0 h]=>EWhole_spec (h:=h) hx
  have kS:=fun {h} [Le h0 h]=>EScaled_spec (h:=h) (w:=p+32) hx (Nat.le_trans bx (by decide)) (by omega)
  rw[Nat.mul_one] at kB
  have bn:=Nat.le_trans (sz_num x) bx
  have bd:=Nat.le_trans (sz_den x) bx
  unfold atLo atHi
  by_cases hb:x.den < x.num.natAbs
  · have hn2:2≤x.num.natAbs:=by have:=x.den_nz;omega
    obtain⟨i1,i2⟩:=invQ_parts (x:=x) (by omega)
    have si:sz (invQ x)≤2^20:=by
      unfold sz
      rw[i1,i2]
      simp only[Int.natAbs_natCast]
      omega
    have kI:=fun {h1 h:PH} {a b:Value} [Le h1 h] (k1:N32 h1 a x.den) (k2:N32 h1 b x.num.natAbs)=>EScaled_spec (h:=h) (w:=p+32) (invQ_cn k1 k2 hn2) si (by omega)
    obtain⟨l1,l2⟩:=g_le (x:=invQ x) (w:=p+32) (by rw[i1,i2];simp only[Int.natAbs_natCast];omega)
    obtain⟨m1,m2⟩:=an_le (w:=p+32) (by omega) l1 l2
    obtain⟨z1,z2,z3⟩:=piL_ge (w:=p+32) (by omega) (by omega)
    have u1:2^(p+32)=2^p*4294967296:=Nat.pow_add _ _ _
    have u2:=Nat.pos_of_ne_zero (pow2_ne p)
    have e1:atA x (p+32)=piL (p+32) - anH (glo (invQ x) (p+32)) (ghi (invQ x) (p+32)) (p+32)*2^1:=if_pos hb
    have e2:atB x (p+32)=piH (p+32) - anL (glo (invQ x) (p+32)) (ghi (invQ x) (p+32)) (p+32)*2^1:=if_pos hb
    have e3:atK x=33:=if_pos hb
    rw[e1,e2,e3]
    rw[decide_eq_true hb] at kB
    obtain⟨na,nl,nc,da,dl,dc,rfl,hn,hd,_,_⟩:=hx.parts
    generalize decide (x.num < 0)=neg at*
    generalize glo (invQ x) (p+32)=ga at*
    generalize ghi (invQ x) (p+32)=gb at*
    have w1:anH ga gb (p+32)*2^1≤piL (p+32):=by omega
    have w2:anL ga gb (p+32)*2^1≤piH (p+32):=by omega
    obtain⟨b1,b2⟩:=bl_pi (w:=p+32)
    have b3:=bl_w3 (by omega) m1
    have b4:=bl_w3 (by omega) m2
    have b5:bl (piL (p+32) - anH ga gb (p+32)*2^1)≤_:=bl_mono (Nat.sub_le _ _)
    have b6:bl (piH (p+32) - anL ga gb (p+32)*2^1)≤_:=bl_mono (Nat.sub_le _ _)
    have b7:=bl_div_le (piL (p+32) - anH ga gb (p+32)*2^1) (2^(p+32+1 - p))
    have b8:=bl_cdiv (piH (p+32) - anL ga gb (p+32)*2^1) (pow2_ne (p+32+1 - p))
    have ep:Hid (p+32+1 - p=33):=⟨by omega⟩
    have l1:=Hid.mk l1
    have l2:=Hid.mk l2
    clear u1 u2 z1 z2 z3 m1 m2 kS kW hb e1 e2 e3 i1 i2 si
    have kW:=fun {h} [Le h0 h]=>EWhole_spec (h:=h) hx
    clear hd hx
    have F:=Hid.mk (And.intro w1 (And.intro w2 (And.intro b1 (And.intro b2 (And.intro b3 (And.intro b4 (And.intro b5 (And.intro b6 (And.intro b7 b8)))))))));clear w1 w2 b1 b2 b3 b4 b5 b6 b7 b8
    refine Spec.go [(3,.o [0,1,3,5,6,7,8,2,4,9,10,11]),(4,.h [] [] [9] [9,0,2,3,5,7,1,4,6,8,10]),(7,.h [] [] [13] [13,0,1,2,3,6,7,8,9,4,5,10,11,12,14])] Tryz.func32 rfl rfl (by kernel_rfl) fun C _=>?_
    try simp(disch:=omega) only[go_sem,Nat.reduceBEq,Nat.reduceAdd]
    refine caN (by exact kB) ?_;rintro v1 h1 s1 rfl
    try simp(disch:=omega) only[go_sem,Nat.reduceBEq,Nat.reduceAdd]
    refine caN (by exact kW) ?_;rintro _ h2 _ q2;obtain⟨v2,_,_,rfl,q2⟩:=q2.sl
    try simp(disch:=omega) only[go_sem,Nat.reduceBEq,Nat.reduceAdd]
    refine caN (by exact kI q2 (hn.to (h':=h2))) ?_;rintro v3 h3 s3 q3;obtain⟨_,_,_,_,_,_,rfl,q3⟩:=q3.sp
    try simp(disch:=omega) only[go_sem,Nat.reduceBEq,Nat.reduceAdd]
    refine caN (by exact EAngle_spec q3 l1.out l2.out (by have:=F.out;omega) (by have:=F.out;omega)) ?_;rintro v4 h4 s4 ⟨x4,m4,c4,y4,n4,d4,rfl,a4,a5⟩
    try simp(disch:=omega) only[go_sem,Nat.reduceBEq,Nat.reduceAdd]
    refine caN (by exact EPi_spec (w:=p+32) (by have:=F.out;omega) (by have:=F.out;omega)) ?_;rintro v5 h5 s5 ⟨x5,m5,c5,y5,n5,d5,rfl,q5,q6⟩
    try simp(disch:=omega) only[go_sem,Nat.reduceBEq,Nat.reduceAdd]
    refine caN (by exact Shl_spec (n:=1) (show N32 h5 _ (anH ga gb (p+32)) from a5.to) (by have:=F.out;omega)) ?_;rintro _ h6 _ q7;obtain⟨v6,_,_,rfl,q7⟩:=q7.sl
    try simp(disch:=omega) only[go_sem,Nat.reduceBEq,Nat.reduceAdd]
    refine caN (by exact Sub_spec (q5.to (h':=h6)) q7 (by have:=F.out;omega) (show bl (piL (p+32))≤2^40 by have:=F.out;omega)) ?_;rintro _ h7 _ q8;obtain⟨v7,_,_,rfl,q8⟩:=q8.sl
    try simp(disch:=omega) only[go_sem,Nat.reduceBEq,Nat.reduceAdd]
    refine caN (by exact Shl_spec (n:=1) (show N32 h7 _ (anL ga gb (p+32)) from a4.to) (by have:=F.out;omega)) ?_;rintro _ h8 _ q9;obtain⟨v8,_,_,rfl,q9⟩:=q9.sl
    try simp(disch:=omega) only[go_sem,Nat.reduceBEq,Nat.reduceAdd]
    refine caN (by exact Sub_spec (q6.to (h':=h8)) q9 (by have:=F.out;omega) (show bl (piH (p+32))≤2^40 by have:=F.out;omega)) ?_;rintro _ h9 _ q10;obtain⟨v9,_,_,rfl,q10⟩:=q10.sl
    try simp(disch:=omega) only[go_sem,Nat.reduceBEq,Nat.reduceAdd]
    refine caN (by exact Bracket_spec (w:=p+32+1) (p:=p) (neg:=neg) ⟨_,_,_,_,_,_,rfl,q8.to (h':=h9),q10⟩ (by have:=F.out;omega) (by have:=F.out;omega) (by have:=F.out;omega) (by have:=F.out;omega) (by have:=F.out;omega) (by have:=F.out;omega) (by have:=F.out;omega)) ?_;rintro v10 h10 s10 ⟨_,_,_,_,_,_,_,_,_,_,_,_,_,_,rfl,r1,r2⟩
    try simp(disch:=omega) only[go_sem,Nat.reduceBEq,Nat.reduceAdd]
    rw[ep.out] at r1 r2
    exact⟨_,_,_,_,_,_,_,_,_,_,_,_,_,_,rfl,r1,r2⟩
  · rw[decide_eq_false hb] at kB
    obtain⟨l1,l2⟩:=g_le (w:=p+32) hb
    obtain⟨m1,m2⟩:=an_le (w:=p+32) (by omega) l1 l2
    have e1:atA x (p+32)=anL (glo x (p+32)) (ghi x (p+32)) (p+32):=if_neg hb
    have e2:atB x (p+32)=anH (glo x (p+32)) (ghi x (p+32)) (p+32):=if_neg hb
    have e3:atK x=32:=if_neg hb
    rw[e1,e2,e3]
    obtain⟨na,nl,nc,da,dl,dc,rfl,_,_,_,_⟩:=hx.parts
    generalize decide (x.num < 0)=neg at*
    generalize glo x (p+32)=ga at*
    generalize ghi x (p+32)=gb at*
    have b3:=bl_w3 (by omega) m1
    have b4:=bl_w3 (by omega) m2
    have b7:=bl_div_le (anL ga gb (p+32)) (2^(p+32 - p))
    have b8:=bl_cdiv (anH ga gb (p+32)) (pow2_ne (p+32 - p))
    have ep:Hid (p+32 - p=32):=⟨by omega⟩
    have l1:=Hid.mk l1
    have l2:=Hid.mk l2
    clear m1 m2 hb e1 e2 e3
    have F:=Hid.mk (And.intro b3 (And.intro b4 (And.intro b7 b8)));clear b3 b4 b7 b8
    refine Spec.go [(3,.o [0,1,3,5,6,7,8,2,4,9,10,11]),(4,.h [] [] [9] [9,0,2,3,5,7,1,4,6,8,10]),(7,.h [] [] [13] [13,0,1,2,3,6,7,8,9,4,5,10,11,12,14])] Tryz.func32 rfl rfl (by kernel_rfl) fun C _=>?_
    try simp(disch:=omega) only[go_sem,Nat.reduceBEq,Nat.reduceAdd]
    refine caN (by exact kB) ?_;rintro v1 h1 s1 rfl
    try simp(disch:=omega) only[go_sem,Nat.reduceBEq,Nat.reduceAdd]
    refine caN (by exact kS) ?_;rintro v3 h3 s3 q3;obtain⟨_,_,_,_,_,_,rfl,q3⟩:=q3.sp
    try simp(disch:=omega) only[go_sem,Nat.reduceBEq,Nat.reduceAdd]
    refine caN (by exact EAngle_spec q3 l1.out l2.out (by have:=F.out;omega) (by have:=F.out;omega)) ?_;rintro v4 h4 s4 q4;obtain⟨_,_,_,_,_,_,rfl,q4⟩:=q4.sp
    try simp(disch:=omega) only[go_sem,Nat.reduceBEq,Nat.reduceAdd]
    refine caN (by exact Bracket_spec (w:=p+32) (p:=p) (neg:=neg) q4 (by have:=F.out;omega) (by have:=F.out;omega) (by have:=F.out;omega) (by have:=F.out;omega) (by have:=F.out;omega) (by have:=F.out;omega) (by have:=F.out;omega)) ?_;rintro v10 h10 s10 ⟨_,_,_,_,_,_,_,_,_,_,_,_,_,_,rfl,r1,r2⟩
    try simp(disch:=omega) only[go_sem,Nat.reduceBEq,Nat.reduceAdd]
    rw[ep.out] at r1 r2
    exact⟨_,_,_,_,_,_,_,_,_,_,_,_,_,_,rfl,r1,r2⟩
end Go.Q
namespace Go.Q
open Go.Proofs
set_option maxRecDepth 100000
set_option maxHeartbeats 8000000
theorem Two_spec {h0 h:PH} [Le h0 h] {v w:Value} {x y z:Rat} {g:FuncId} (hx:Rv h0 v x) (hy:Rv h0 w y) (hg:∀{h0 h:PH} {a b:Value} [Le h0 h],Fr h0 a x→Fr h0 b y→Spec mach g #[a,b] h (fun v h'=>Fr h' v z) NP):Spec mach 123 #[v,w,.func (.func g) #[] #[]] h (fun r h'=>Nc h' r z) NP:=by
  have kX:=fun {h} [Le h0 h]=>Read_rv (h:=h) hx
  have kY:=fun {h} [Le h0 h]=>Read_rv (h:=h) hy
  obtain⟨_,_,_,_,_,_,_,rfl,_⟩:=hx.sa
  obtain⟨_,_,_,_,_,_,_,rfl,_⟩:=hy.sa
  refine Spec.go [] Tryz.func123 rfl rfl (by kernel_rfl) fun C _=>?_
  try simp(disch:=omega) only[go_sem,Nat.reduceBEq,Nat.reduceAdd]
  refine caN (by exact kX) ?_;rintro v1 h1 s1 ⟨f,rfl,hf⟩;obtain⟨_,_,_,_,_,_,_,rfl,hf⟩:=hf.sa
  try simp(disch:=omega) only[go_sem,Nat.reduceBEq,Nat.reduceAdd]
  refine caN (by exact kY) ?_;rintro v2 h2 s2 ⟨f',rfl,hf'⟩;obtain⟨_,_,_,_,_,_,_,rfl,hf'⟩:=hf'.sa
  try simp(disch:=omega) only[go_sem,Nat.reduceBEq,Nat.reduceAdd]
  refine caN (by exact hg (hf.to (h':=h2)) hf') ?_;rintro v3 h3 s3 hz
  try simp(disch:=omega) only[go_sem,Nat.reduceBEq,Nat.reduceAdd]
  refine caN (by exact Give_nc hz) ?_;rintro v4 h4 s4 q4;obtain⟨_,_,_,_,_,_,_,_,rfl,w4⟩:=q4
  try simp(disch:=omega) only[go_sem,Nat.reduceBEq,Nat.reduceAdd]
  exact Nc.mk w4
theorem NumAdd {h0 h:PH} [Le h0 h] {v w:Value} {x y:Rat} (hx:Rv h0 v x) (hy:Rv h0 w y):Spec mach 110 #[v,w] h (fun r h'=>Nc h' r (x+y)) NP:=by
  have kT:=fun {h} [Le h0 h]=>Two_spec (h:=h) (g:=125) hx hy (fun a b=>Add_frac a b hx.up hy.up)
  obtain⟨_,_,_,_,_,_,_,rfl,_⟩:=hx.sa
  obtain⟨_,_,_,_,_,_,_,rfl,_⟩:=hy.sa
  refine Spec.go [] Tryz.func110 rfl rfl (by kernel_rfl) fun C _=>?_
  try simp(disch:=omega) only[go_sem,Nat.reduceBEq,Nat.reduceAdd]
  refine caN (by exact kT) ?_;rintro v1 h1 s1 q1;obtain⟨_,_,_,_,_,_,_,_,rfl,w1⟩:=q1
  try simp(disch:=omega) only[go_sem,Nat.reduceBEq,Nat.reduceAdd]
  exact Nc.mk w1
theorem NumSub1 {h0 h:PH} [Le h0 h] {v w:Value} {x y:Rat} (hx:Fr h0 v x) (hy:Fr h0 w y) (sx:sz x≤2^36) (sy:sz y≤2^36):Spec mach 124 #[v,w] h (fun v h'=>Fr h' v (x+ -y)) NP:=by
  have kO:=fun {h} [Le h0 h]=>Opposite_spec (h:=h) hy
  have kA:=fun {h h':PH} {u:Value} [Le h0 h] [Le h h'] (hu:Fr h u (-y))=>Add_frac (h0:=h) (h:=h') (hx.to (h':=h)) hu sx (by rw[sz_neg];exact sy)
  obtain⟨_,_,_,_,_,_,_,rfl,_⟩:=hx.sa
  obtain⟨_,_,_,_,_,_,_,rfl,_⟩:=hy.sa
  refine Spec.go [] Tryz.func124 rfl rfl (by kernel_rfl) fun C _=>?_
  try simp(disch:=omega) only[go_sem,Nat.reduceBEq,Nat.reduceAdd]
  refine caN (by exact kO) ?_;rintro v1 h1 s1 q1;obtain⟨_,_,_,_,_,_,_,rfl,q1⟩:=q1.sa
  try simp(disch:=omega) only[go_sem,Nat.reduceBEq,Nat.reduceAdd]
  refine caN (by exact kA q1) ?_;rintro v2 h2 s2 q2;obtain⟨_,_,_,_,_,_,_,rfl,q2⟩:=q2.sa
  try simp(disch:=omega) only[go_sem,Nat.reduceBEq,Nat.reduceAdd]
  exact q2
theorem NumSub {h0 h:PH} [Le h0 h] {v w:Value} {x y:Rat} (hx:Rv h0 v x) (hy:Rv h0 w y):Spec mach 93 #[v,w] h (fun r h'=>Nc h' r (x+ -y)) NP:=by
  have kT:=fun {h} [Le h0 h]=>Two_spec (h:=h) (g:=124) hx hy (fun a b=>NumSub1 a b hx.up hy.up)
  obtain⟨_,_,_,_,_,_,_,rfl,_⟩:=hx.sa
  obtain⟨_,_,_,_,_,_,_,rfl,_⟩:=hy.sa
  refine Spec.go [] Tryz.func93 rfl rfl (by kernel_rfl) fun C _=>?_
  try simp(disch:=omega) only[go_sem,Nat.reduceBEq,Nat.reduceAdd]
  refine caN (by exact kT) ?_;rintro v1 h1 s1 q1;obtain⟨_,_,_,_,_,_,_,_,rfl,w1⟩:=q1
  try simp(disch:=omega) only[go_sem,Nat.reduceBEq,Nat.reduceAdd]
  exact Nc.mk w1
theorem NumMul {h0 h:PH} [Le h0 h] {v w:Value} {x y:Rat} (hx:Rv h0 v x) (hy:Rv h0 w y):Spec mach 105 #[v,w] h (fun r h'=>Nc h' r (x*y)) NP:=by
  have kT:=fun {h} [Le h0 h]=>Two_spec (h:=h) (g:=101) hx hy (fun a b=>Mul_frac a b hx.up hy.up)
  obtain⟨_,_,_,_,_,_,_,rfl,_⟩:=hx.sa
  obtain⟨_,_,_,_,_,_,_,rfl,_⟩:=hy.sa
  refine Spec.go [] Tryz.func105 rfl rfl (by kernel_rfl) fun C _=>?_
  try simp(disch:=omega) only[go_sem,Nat.reduceBEq,Nat.reduceAdd]
  refine caN (by exact kT) ?_;rintro v1 h1 s1 q1;obtain⟨_,_,_,_,_,_,_,_,rfl,w1⟩:=q1
  try simp(disch:=omega) only[go_sem,Nat.reduceBEq,Nat.reduceAdd]
  exact Nc.mk w1
theorem NumDiv {h0 h:PH} [Le h0 h] {v w:Value} {x y:Rat} (hx:Rv h0 v x) (hy:Rv h0 w y) (hz:y≠0):Spec mach 72 #[v,w] h (fun r h'=>Nc h' r (x*y⁻¹)) NP:=by
  have kX:=fun {h} [Le h0 h]=>Read_rv (h:=h) hx
  have kY:=fun {h} [Le h0 h]=>Read_rv (h:=h) hy
  have sx:=hx.up
  have sy:sz y⁻¹≤2^36:=Nat.le_trans (sz_inv y) hy.up
  have hn:¬y.num.natAbs=0:=by rw[Int.natAbs_eq_zero];exact fun e=>hz (Rat.num_eq_zero.1 e)
  obtain⟨_,_,_,_,_,_,_,rfl,_⟩:=hx.sa
  obtain⟨_,_,_,_,_,_,_,rfl,_⟩:=hy.sa
  clear hx hy
  refine Spec.go [] Tryz.func72 rfl rfl (by kernel_rfl) fun C _=>?_
  try simp(disch:=omega) only[go_sem,Nat.reduceBEq,Nat.reduceAdd]
  refine caN (by exact kX) ?_;rintro v1 h1 s1 ⟨f,rfl,hf⟩;obtain⟨_,_,_,_,_,_,_,rfl,hf⟩:=hf.sa
  try simp(disch:=omega) only[go_sem,Nat.reduceBEq,Nat.reduceAdd]
  refine caN (by exact kY) ?_;rintro v2 h2 s2 ⟨f',rfl,hf'⟩;have hf0:=hf';obtain⟨na,nl,nc,da,dl,dc,rfl,hnn,hdd⟩:=hf'.sl
  try simp(disch:=omega) only[go_sem,Nat.reduceBEq,Nat.reduceAdd]
  refine caN (by exact Zero_spec hnn) ?_;rintro v3 h3 s3 rfl
  try simp(disch:=omega) only[go_sem,Nat.reduceBEq,Nat.reduceAdd]
  refine caN (by exact Inverse_spec (hf0.to (h':=h3)) hz) ?_;rintro v4 h4 s4 q4;obtain⟨_,_,_,_,_,_,_,rfl,q4⟩:=q4.sa
  try simp(disch:=omega) only[go_sem,Nat.reduceBEq,Nat.reduceAdd]
  refine caN (by exact Mul_frac (hf.to (h':=h4)) q4 sx sy) ?_;rintro v5 h5 s5 q5
  try simp(disch:=omega) only[go_sem,Nat.reduceBEq,Nat.reduceAdd]
  refine caN (by exact Give_nc q5) ?_;rintro v6 h6 s6 q6;obtain⟨_,_,_,_,_,_,_,_,rfl,w6⟩:=q6
  try simp(disch:=omega) only[go_sem,Nat.reduceBEq,Nat.reduceAdd]
  exact Nc.mk w6
theorem NumCompare {h0 h:PH} [Le h0 h] {v w:Value} {x y:Rat} (hx:Rv h0 v x) (hy:Rv h0 w y):Spec mach 73 #[v,w] h (fun r _=>r=.tuple #[.int .i64 (cmpQ x y),.int .i64 0]) NP:=by
  have kX:=fun {h} [Le h0 h]=>Read_rv (h:=h) hx
  have kY:=fun {h} [Le h0 h]=>Read_rv (h:=h) hy
  have sx:=hx.up
  have sy:=hy.up
  obtain⟨_,_,_,_,_,_,_,rfl,_⟩:=hx.sa
  obtain⟨_,_,_,_,_,_,_,rfl,_⟩:=hy.sa
  clear hx hy
  refine Spec.go [] Tryz.func73 rfl rfl (by kernel_rfl) fun C _=>?_
  try simp(disch:=omega) only[go_sem,Nat.reduceBEq,Nat.reduceAdd]
  refine caN (by exact kX) ?_;rintro v1 h1 s1 ⟨f,rfl,hf⟩;obtain⟨_,_,_,_,_,_,_,rfl,hf⟩:=hf.sa
  try simp(disch:=omega) only[go_sem,Nat.reduceBEq,Nat.reduceAdd]
  refine caN (by exact kY) ?_;rintro v2 h2 s2 ⟨f',rfl,hf'⟩;obtain⟨_,_,_,_,_,_,_,rfl,hf'⟩:=hf'.sa
  try simp(disch:=omega) only[go_sem,Nat.reduceBEq,Nat.reduceAdd]
  refine caN (by exact Cmp_frac (hf.to (h':=h2)) hf' sx sy) ?_;rintro v3 h3 s3 rfl
  try simp(disch:=omega) only[go_sem,Nat.reduceBEq,Nat.reduceAdd]
theorem gdown_0 (x:Rat):gdown x 0=(x.floor:Rat):=by
  unfold gdown
  rw[Rat.pow_zero,Rat.mul_one,Rat.div_def,show(1:Rat)⁻¹=1 by grind,Rat.mul_one]
theorem Floor1_spec {h0 h:PH} [Le h0 h] {v:Value} {x:Rat} (hx:Fr h0 v x) (sx:sz x≤2^36):Spec mach 145 #[v] h (fun v h'=>Fr h' v (x.floor:Rat)) NP:=by
  have kG:=fun {h} [Le h0 h]=>Grid_spec (h:=h) (p:=0) (u:=false) hx sx (by decide)
  have e:(if false=true then gup x 0 else gdown x 0)=(x.floor:Rat):=gdown_0 x
  rw[e] at kG
  obtain⟨_,_,_,_,_,_,_,rfl,_⟩:=hx.sa
  refine Spec.go [] Tryz.func145 rfl rfl (by kernel_rfl) fun C _=>?_
  try simp(disch:=omega) only[go_sem,Nat.reduceBEq,Nat.reduceAdd]
  refine caN (by exact kG) ?_;rintro v1 h1 s1 q1;obtain⟨_,_,_,_,_,_,_,rfl,q1⟩:=q1.sa
  try simp(disch:=omega) only[go_sem,Nat.reduceBEq,Nat.reduceAdd]
  exact q1
theorem NumFloor {h0 h:PH} [Le h0 h] {v:Value} {x:Rat} (hx:Rv h0 v x):Spec mach 127 #[v] h (fun r h'=>Nc h' r (x.floor:Rat)) NP:=by
  have kO:=fun {h} [Le h0 h]=>NumOne_spec (h:=h) (g:=145) hx (fun a=>Floor1_spec a hx.up)
  obtain⟨_,_,_,_,_,_,_,rfl,_⟩:=hx.sa
  refine Spec.go [] Tryz.func127 rfl rfl (by kernel_rfl) fun C _=>?_
  try simp(disch:=omega) only[go_sem,Nat.reduceBEq,Nat.reduceAdd]
  refine caN (by exact kO) ?_;rintro v1 h1 s1 q1;obtain⟨_,_,_,_,_,_,_,_,rfl,w1⟩:=q1
  try simp(disch:=omega) only[go_sem,Nat.reduceBEq,Nat.reduceAdd]
  exact Nc.mk w1
end Go.Q
namespace Go.Q
open Go.Proofs
set_option maxRecDepth 100000
set_option maxHeartbeats 8000000
theorem Bk.sp {h:PH} {v:Value} {x y:Rat} (r:Bk h v x y):∃b1 a1 m1 c1 a2 m2 c2 b2 a3 m3 c3 a4 m4 c4,v=.agg #[.bool b1,.slice a1 m1 c1,.slice a2 m2 c2,.bool b2,.slice a3 m3 c3,.slice a4 m4 c4]∧Bk h (.agg #[.bool b1,.slice a1 m1 c1,.slice a2 m2 c2,.bool b2,.slice a3 m3 c3,.slice a4 m4 c4]) x y:=by
  obtain⟨b1,a1,m1,c1,a2,m2,c2,b2,a3,m3,c3,a4,m4,c4,rfl,k1,k2⟩:=r
  exact⟨b1,a1,m1,c1,a2,m2,c2,b2,a3,m3,c3,a4,m4,c4,rfl,_,_,_,_,_,_,_,_,_,_,_,_,_,_,rfl,k1,k2⟩
theorem NumRnd {h0 h:PH} [Le h0 h] {v:Value} {x:Rat} {p:Nat} {u:Bool} (hx:Rv h0 v x) (hp:p≤256):Spec mach 134 #[v,.int .i64 p,.bool u] h (fun r h'=>Nc h' r (if u=true then gup x p else gdown x p)) NP:=by
  have kX:=fun {h} [Le h0 h]=>Read_rv (h:=h) hx
  have kG:=fun {h0 h:PH} [Le h0 h] {a:Value} (ha:Fr h0 a x)=>Grid_spec (h:=h) (p:=p) (u:=u) ha hx.up (by omega)
  obtain⟨_,_,_,_,_,_,_,rfl,_⟩:=hx.sa
  refine Spec.go [] Tryz.func134 rfl rfl (by kernel_rfl) fun C _=>?_
  try simp(disch:=omega) only[go_sem,Nat.reduceBEq,Nat.reduceAdd]
  refine caN (by exact kX) ?_;rintro v1 h1 s1 ⟨f,rfl,hf⟩;obtain⟨_,_,_,_,_,_,_,rfl,hf⟩:=hf.sa
  try simp(disch:=omega) only[go_sem,Nat.reduceBEq,Nat.reduceAdd]
  refine caN (by exact kG hf) ?_;rintro v3 h3 s3 hz;obtain⟨_,_,_,_,_,_,_,rfl,hz⟩:=hz.sa
  try simp(disch:=omega) only[go_sem,Nat.reduceBEq,Nat.reduceAdd]
  refine caN (by exact Give_nc hz) ?_;rintro v4 h4 s4 q4;obtain⟨_,_,_,_,_,_,_,_,rfl,w4⟩:=q4
  try simp(disch:=omega) only[go_sem,Nat.reduceBEq,Nat.reduceAdd]
  exact Nc.mk w4
theorem NumDn {h0 h:PH} [Le h0 h] {v:Value} {x:Rat} {p:Nat} (hx:Rv h0 v x) (hp:p≤256):Spec mach 98 #[v,.int .i64 p] h (fun r h'=>Nc h' r (gdown x p)) NP:=by
  have kR:=fun {h} [Le h0 h]=>NumRnd (h:=h) (u:=false) hx hp
  obtain⟨_,_,_,_,_,_,_,rfl,_⟩:=hx.sa
  refine Spec.go [] Tryz.func98 rfl rfl (by kernel_rfl) fun C _=>?_
  try simp(disch:=omega) only[go_sem,Nat.reduceBEq,Nat.reduceAdd]
  refine caN (by exact kR) ?_;rintro v1 h1 s1 q1;obtain⟨_,_,_,_,_,_,_,_,rfl,w1⟩:=q1
  try simp(disch:=omega) only[go_sem,Nat.reduceBEq,Nat.reduceAdd]
  exact Nc.mk w1
theorem NumUpw {h0 h:PH} [Le h0 h] {v:Value} {x:Rat} {p:Nat} (hx:Rv h0 v x) (hp:p≤256):Spec mach 99 #[v,.int .i64 p] h (fun r h'=>Nc h' r (gup x p)) NP:=by
  have kR:=fun {h} [Le h0 h]=>NumRnd (h:=h) (u:=true) hx hp
  obtain⟨_,_,_,_,_,_,_,rfl,_⟩:=hx.sa
  refine Spec.go [] Tryz.func99 rfl rfl (by kernel_rfl) fun C _=>?_
  try simp(disch:=omega) only[go_sem,Nat.reduceBEq,Nat.reduceAdd]
  refine caN (by exact kR) ?_;rintro v1 h1 s1 q1;obtain⟨_,_,_,_,_,_,_,_,rfl,w1⟩:=q1
  try simp(disch:=omega) only[go_sem,Nat.reduceBEq,Nat.reduceAdd]
  exact Nc.mk w1
theorem ERounded_spec {h0 h:PH} [Le h0 h] {v w:Value} {x y:Rat} {p:Nat} (hx:Cn h0 v x) (hy:Cn h0 w y) (hp:p≤256) (sx:sz x≤2048) (sy:sz y≤2048) (tx:sz (gdown x p)≤2048) (ty:sz (gup y p)≤2048):
    Spec mach 71 #[v,w,.int .i64 p] h (fun v h'=>Bk h' v (gdown x p) (gup y p)) NP:=by
  have kD:=fun {h} [Le h0 h]=>NumDn (h:=h) (Rv.of hx sx) hp
  have kU:=fun {h} [Le h0 h]=>NumUpw (h:=h) (Rv.of hy sy) hp
  obtain⟨_,_,_,_,_,_,_,rfl,hx⟩:=hx.sa
  obtain⟨_,_,_,_,_,_,_,rfl,hy⟩:=hy.sa
  refine Spec.go [] Tryz.func71 rfl rfl (by kernel_rfl) fun C _=>?_
  try simp(disch:=omega) only[go_sem,Nat.reduceBEq,Nat.reduceAdd]
  refine caN (by exact kD) ?_;rintro v1 h1 s1 q1;obtain⟨_,_,_,_,_,_,_,rfl,r1⟩:=q1.ok tx
  try simp(disch:=omega) only[go_sem,Nat.reduceBEq,Nat.reduceAdd]
  refine caN (by exact kU) ?_;rintro v2 h2 s2 q2;obtain⟨_,_,_,_,_,_,_,rfl,r2⟩:=q2.ok ty
  try simp(disch:=omega) only[go_sem,Nat.reduceBEq,Nat.reduceAdd]
  exact⟨_,_,_,_,_,_,_,_,_,_,_,_,_,_,rfl,r1.to,r2⟩
theorem EBelow_spec {h0 h:PH} [Le h0 h] {va vb vc vd:Value} {a b c d w p:Nat} (ha:N32 h0 va a) (hb:N32 h0 vb b) (hc:N32 h0 vc c) (hd:N32 h0 vd d) (ba:bl a≤2048) (bb:bl b≤2048) (bc:bl c≤2048) (bd:bl d≤2048) (hw:w < 2048) (hp:p≤256)
    (sx:sz (sgn false b (2^w)+ -sgn false a (2^w))≤2048) (sy:sz (sgn false d (2^w)+ -sgn false c (2^w))≤2048)
    (tx:sz (gdown (sgn false b (2^w)+ -sgn false a (2^w)) p)≤2048) (ty:sz (gup (sgn false d (2^w)+ -sgn false c (2^w)) p)≤2048):
    Spec mach 69 #[va,vb,vc,vd,.int .i64 w,.int .i64 p] h (fun v h'=>Bk h' v (gdown (sgn false b (2^w)+ -sgn false a (2^w)) p) (gup (sgn false d (2^w)+ -sgn false c (2^w)) p)) NP:=by
  have ss:∀{a:Nat},bl a≤2048→sz (sgn false a (2^w))≤2048:=fun {a} h=>by
    have:=sz_sgn false a (pow2_ne w)
    have:=bl_pow2 w
    omega
  have sa:=Hid.mk (ss ba)
  have sb:=Hid.mk (ss bb)
  have sc:=Hid.mk (ss bc)
  have sd:=Hid.mk (ss bd)
  obtain⟨_,_,_,rfl,ha⟩:=ha.sl
  obtain⟨_,_,_,rfl,hb⟩:=hb.sl
  obtain⟨_,_,_,rfl,hc⟩:=hc.sl
  obtain⟨_,_,_,rfl,hd⟩:=hd.sl
  have ba:=Hid.mk ba
  have bb:=Hid.mk bb
  have bc:=Hid.mk bc
  have bd:=Hid.mk bd
  have sx:=Hid.mk sx
  have sy:=Hid.mk sy
  have tx:=Hid.mk tx
  have ty:=Hid.mk ty
  refine Spec.go [] Tryz.func69 rfl rfl (by kernel_rfl) fun C _=>?_
  try simp(disch:=omega) only[go_sem,Nat.reduceBEq,Nat.reduceAdd]
  refine caN (by exact Rational_spec (n:=w) hb bb.out hw) ?_;rintro v1 h1 s1 q1;obtain⟨_,_,_,_,_,_,_,rfl,q1⟩:=q1.sa
  try simp(disch:=omega) only[go_sem,Nat.reduceBEq,Nat.reduceAdd]
  refine caN (by exact Rational_spec (n:=w) (ha.to (h':=h1)) ba.out hw) ?_;rintro v2 h2 s2 q2;obtain⟨_,_,_,_,_,_,_,rfl,q2⟩:=q2.sa
  try simp(disch:=omega) only[go_sem,Nat.reduceBEq,Nat.reduceAdd]
  refine caN (by exact NumSub (Rv.of (q1.to (h':=h2)) sb.out) (Rv.of q2 sa.out)) ?_;rintro v3 h3 s3 q3;obtain⟨_,_,_,_,_,_,_,rfl,r3⟩:=q3.ok sx.out
  try simp(disch:=omega) only[go_sem,Nat.reduceBEq,Nat.reduceAdd]
  refine caN (by exact Rational_spec (n:=w) (hd.to (h':=h3)) bd.out hw) ?_;rintro v4 h4 s4 q4;obtain⟨_,_,_,_,_,_,_,rfl,q4⟩:=q4.sa
  try simp(disch:=omega) only[go_sem,Nat.reduceBEq,Nat.reduceAdd]
  refine caN (by exact Rational_spec (n:=w) (hc.to (h':=h4)) bc.out hw) ?_;rintro v5 h5 s5 q5;obtain⟨_,_,_,_,_,_,_,rfl,q5⟩:=q5.sa
  try simp(disch:=omega) only[go_sem,Nat.reduceBEq,Nat.reduceAdd]
  refine caN (by exact NumSub (Rv.of (q4.to (h':=h5)) sd.out) (Rv.of q5 sc.out)) ?_;rintro v6 h6 s6 q6;obtain⟨_,_,_,_,_,_,_,rfl,r6⟩:=q6.ok sy.out
  try simp(disch:=omega) only[go_sem,Nat.reduceBEq,Nat.reduceAdd]
  refine caN (by exact ERounded_spec (p:=p) (r3.to (h':=h6)) r6 hp sx.out sy.out tx.out ty.out) ?_;rintro v7 h7 s7 q7;obtain⟨_,_,_,_,_,_,_,_,_,_,_,_,_,_,rfl,q7⟩:=q7.sp
  try simp(disch:=omega) only[go_sem,Nat.reduceBEq,Nat.reduceAdd]
  exact q7
end Go.Q
