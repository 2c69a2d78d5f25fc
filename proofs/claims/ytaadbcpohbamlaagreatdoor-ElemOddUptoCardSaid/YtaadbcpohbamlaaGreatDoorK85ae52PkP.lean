/-
  What sine and cosine return. Conditions: the numbers' absolute values are at most 1, of at most 2048 binary digits; the working precision is from 20 to 200.
  What modulo, rest and both return. Conditions: the number's absolute value is at most 2^32, of at most 1024 binary digits; the working precision is from 64 to 192.
  What both, sin and cos return. Conditions: the number's absolute value is at most 2^32, of at most 1024 binary digits; the precision is at most 128.
  What ready returns: the first error of an argument. Conditions: the argument is a number as it comes in that is not large.
-/
import Derived.Test.YtaadbcpohbamlaaGreatDoorK309e69PkF
import Derived.Test.YtaadbcpohbamlaaGreatDoorKfadf7aPkN
import Derived.Test.YtaadbcpohbamlaaGreatDoorK142d62PkO
import Derived.Test.YtaadbcpohbamlaaGreatDoorK1d1240PkM
set_option linter.unusedVariables false
set_option linter.unusedSimpArgs false
namespace Go.Q
open Go.Proofs
set_option maxRecDepth 100000
set_option maxHeartbeats 8000000
theorem NumNeg {h0 h:PH} [Le h0 h] {v:Value} {x:Rat} (hx:Rv h0 v x):Spec mach 167 #[v] h (fun r h'=>Nc h' r (-x)) NP:=by
  have kO:=fun {h} [Le h0 h]=>NumOne_spec (h:=h) (g:=160) hx (fun a=>Opposite_spec a)
  obtain⟨_,_,_,_,_,_,_,rfl,_⟩:=hx.sa
  refine Spec.go [] Tryz.func167 rfl rfl (by kernel_rfl) fun C _=>?_
  try simp(maxSteps:=999999) (disch:=omega) only[go_sem,Nat.reduceBEq,Nat.reduceAdd]
  refine caN (by exact kO) ?_;rintro v1 h1 s1 q1;obtain⟨_,_,_,_,_,_,_,_,rfl,w1⟩:=q1
  try simp(maxSteps:=999999) (disch:=omega) only[go_sem,Nat.reduceBEq,Nat.reduceAdd]
  exact Nc.mk w1
theorem ENatural_spec {h0 h:PH} [Le h0 h] {v:Value} {x:Rat} {w:Nat} (hx:Cn h0 v x) (bx:sz x≤2048) (hw:w≤2048):Spec mach 165 #[v,.int .i64 w] h (fun r h'=>N32 h' r (glo x w)) NP:=by
  have kS:=fun {h} [Le h0 h]=>EScaled_spec (h:=h) (w:=w) hx (by omega) (by omega)
  obtain⟨_,_,_,_,_,_,_,rfl,_⟩:=hx.sa
  refine Spec.go [] Tryz.func165 rfl rfl (by kernel_rfl) fun C _=>?_
  try simp(maxSteps:=999999) (disch:=omega) only[go_sem,Nat.reduceBEq,Nat.reduceAdd]
  refine caN (by exact kS) ?_;rintro v1 h1 s1 ⟨_,_,_,_,_,_,rfl,q1,_⟩
  try simp(maxSteps:=999999) (disch:=omega) only[go_sem,Nat.reduceBEq,Nat.reduceAdd]
  exact q1
theorem EMinus_spec {h0 h:PH} [Le h0 h] {v:Value} {x y:Rat} (hv:Bk h0 v x y) (sx:sz x≤2048) (sy:sz y≤2048):Spec mach 118 #[v] h (fun r h'=>Bk h' r (-y) (-x)) NP:=by
  obtain⟨b1,a1,m1,c1,a2,m2,c2,b2,a3,m3,c3,a4,m4,c4,rfl,hx,hy⟩:=hv
  have tx:sz (-x)≤2048:=by rw[sz_neg];exact sx
  have ty:sz (-y)≤2048:=by rw[sz_neg];exact sy
  refine Spec.go [] Tryz.func118 rfl rfl (by kernel_rfl) fun C _=>?_
  try simp(maxSteps:=999999) (disch:=omega) only[go_sem,Nat.reduceBEq,Nat.reduceAdd]
  refine caN (by exact NumNeg (Rv.of hy sy)) ?_;rintro v1 h1 s1 p1;obtain⟨_,_,_,_,_,_,_,rfl,q1⟩:=p1.ok ty
  try simp(maxSteps:=999999) (disch:=omega) only[go_sem,Nat.reduceBEq,Nat.reduceAdd]
  refine caN (by exact NumNeg (Rv.of (hx.to (h':=h1)) sx)) ?_;rintro v2 h2 s2 p2;obtain⟨_,_,_,_,_,_,_,rfl,q2⟩:=p2.ok tx
  try simp(maxSteps:=999999) (disch:=omega) only[go_sem,Nat.reduceBEq,Nat.reduceAdd]
  exact⟨_,_,_,_,_,_,_,_,_,_,_,_,_,_,rfl,q1.to,q2⟩
def snAt (x:Rat) (w:Nat) (low:Bool):Rat:=if (!(low == decide (x.num < 0)))=true then sgn (decide (x.num < 0)) (glo x w*wvL (glo x w) w 2 / 2^w) (2^w) else sgn (decide (x.num < 0)) (cdiv (glo x w*wvH (glo x w) w 2) (2^w)) (2^w)
theorem sn_n {y w:Nat} (hy:y≤2^w):y*wvL y w 2 / 2^w≤2^w∧cdiv (y*wvH y w 2) (2^w)≤2^w:=by
  obtain⟨h1,h2⟩:=waV_le (w:=w) (f:=2) (s:=sqL y w) (t:=sqH y w) (by decide) 24
  exact⟨Nat.div_le_of_le_mul (Nat.mul_le_mul hy h2),(cdiv_le_iff (pow2_ne w)).2 (Nat.mul_le_mul hy h1)⟩
theorem snAt_sz {x:Rat} {w:Nat} {low:Bool} (hy:glo x w≤2^w):sz (snAt x w low)≤w+2:=by
  obtain⟨h1,h2⟩:=sn_n hy
  have b0:=bl_pow2 w
  unfold snAt
  split
  · have:=sz_sgn (decide (x.num < 0)) (glo x w*wvL (glo x w) w 2 / 2^w) (pow2_ne w)
    have:=bl_pow_le (n:=glo x w*wvL (glo x w) w 2 / 2^w) (w:=w) (by omega)
    omega
  · have:=sz_sgn (decide (x.num < 0)) (cdiv (glo x w*wvH (glo x w) w 2) (2^w)) (pow2_ne w)
    have:=bl_pow_le (n:=cdiv (glo x w*wvH (glo x w) w 2) (2^w)) (w:=w) (by omega)
    omega
theorem ESine1_spec {h0 h:PH} [Le h0 h] {v:Value} {x:Rat} {w b:Nat} {low:Bool} (hb:h0 b=some #[.int .i64 w]) (hx:Cn h0 v x) (bx:sz x≤2048) (hy:glo x w≤2^w) (hw:20≤w) (hw':w≤200):
    Spec mach 164 #[v,.bool low,.pointer (some ⟨b,0,none⟩)] h (fun r h'=>Cn h' r (snAt x w low)) NP:=by
  have kN:=fun {h} [Le h0 h]=>ENatural_spec (h:=h) (w:=w) hx bx (by omega)
  obtain⟨h1,h2⟩:=sn_n hy
  obtain⟨w1,w2⟩:=waV_le (w:=w) (f:=2) (s:=sqL (glo x w) w) (t:=sqH (glo x w) w) (by decide) 24
  have w1:wvH (glo x w) w 2≤2^w:=w1
  have w2:wvL (glo x w) w 2≤2^w:=w2
  unfold snAt
  obtain⟨na,nl,nc,da,dl,dc,rfl,_,_,_,_⟩:=hx.parts
  generalize decide (x.num < 0)=neg at*
  generalize glo x w=y at*
  have b1:=bl_pow_le (n:=y) (w:=w) (by omega)
  have b2:=bl_pow_le (n:=wvL y w 2) (w:=w) (by omega)
  have b3:=bl_pow_le (n:=wvH y w 2) (w:=w) (by omega)
  have b4:=bl_mul y (wvL y w 2)
  have b5:=bl_mul y (wvH y w 2)
  have b6:=bl_pow_le (n:=y*wvL y w 2 / 2^w) (w:=w) (by omega)
  have b7:=bl_pow_le (n:=cdiv (y*wvH y w 2) (2^w)) (w:=w) (by omega)
  have hy:=Hid.mk hy
  clear hx bx h1 h2 w1 w2
  have F:=Hid.mk (And.intro b1 (And.intro b2 (And.intro b3 (And.intro b4 (And.intro b5 (And.intro b6 b7))))));clear b1 b2 b3 b4 b5 b6 b7
  cases low<;>cases neg
  all_goals
    refine Spec.go [(4,.o [0,1,2,4,6,7,8,3,5,9,10]),(5,.o [0,1,2,4,6,7,8,3,5,9,10])] Tryz.func164 rfl rfl (by kernel_rfl) fun C _=>?_
    try simp(maxSteps:=999999) (disch:=omega) only[go_sem,Nat.reduceBEq,Nat.reduceAdd]
    refine ld1_of (at1 (pub_to hb)) ?_
    try simp(maxSteps:=999999) (disch:=omega) only[go_sem,Nat.reduceBEq,Nat.reduceAdd]
    refine caN (by exact kN) ?_;rintro _ h1 _ q1;obtain⟨v1,_,_,rfl,q1⟩:=q1.sl
    try simp(maxSteps:=999999) (disch:=omega) only[go_sem,Nat.reduceBEq,Nat.reduceAdd]
    refine ld1_of (at1 (pub_to hb)) ?_
    try simp(maxSteps:=999999) (disch:=omega) only[go_sem,Nat.reduceBEq,Nat.reduceAdd]
    refine caN (by exact EWaves_spec (f:=2) q1 hy.out (by decide) (by decide) hw (by have:=F.out;omega)) ?_;rintro v2 h2 s2 ⟨x2,m2,c2,y2,n2,d2,rfl,q2,q3⟩
    try simp(maxSteps:=999999) (disch:=omega) only[go_sem,Nat.reduceBEq,Nat.reduceAdd,show(true == false)=false from rfl,show(false == true)=false from rfl,Bool.not_false]
  · refine ld1_of (at1 (pub_to hb)) ?_
    try simp(maxSteps:=999999) (disch:=omega) only[go_sem,Nat.reduceBEq,Nat.reduceAdd]
    refine ld1_of (at1 (pub_to hb)) ?_
    try simp(maxSteps:=999999) (disch:=omega) only[go_sem,Nat.reduceBEq,Nat.reduceAdd]
    refine caN (by exact Mul_spec (q1.to (h':=h2)) (show N32 h2 _ (wvH y w 2) from q3) (by have:=F.out;omega) (by have:=F.out;omega)) ?_;rintro _ h3 _ q4;obtain⟨v3,_,_,rfl,q4⟩:=q4.sl
    try simp(maxSteps:=999999) (disch:=omega) only[go_sem,Nat.reduceBEq,Nat.reduceAdd]
    refine caN (by exact EUp_spec (n:=w) q4 (by have:=F.out;omega) (by have:=F.out;omega)) ?_;rintro _ h4 _ q5;obtain⟨v4,_,_,rfl,q5⟩:=q5.sl
    try simp(maxSteps:=999999) (disch:=omega) only[go_sem,Nat.reduceBEq,Nat.reduceAdd]
    refine caN (by exact Rational_spec (n:=w) q5 (by have:=F.out;omega) (by have:=F.out;omega)) ?_;rintro v5 h5 s5 q6;obtain⟨_,_,_,_,_,_,_,rfl,q6⟩:=q6.sa
    try simp(maxSteps:=999999) (disch:=omega) only[go_sem,Nat.reduceBEq,Nat.reduceAdd]
    exact q6
  · refine ld1_of (at1 (pub_to hb)) ?_
    try simp(maxSteps:=999999) (disch:=omega) only[go_sem,Nat.reduceBEq,Nat.reduceAdd]
    refine ld1_of (at1 (pub_to hb)) ?_
    try simp(maxSteps:=999999) (disch:=omega) only[go_sem,Nat.reduceBEq,Nat.reduceAdd]
    refine caN (by exact Mul_spec (q1.to (h':=h2)) (show N32 h2 _ (wvL y w 2) from q2) (by have:=F.out;omega) (by have:=F.out;omega)) ?_;rintro _ h3 _ q4;obtain⟨v3,_,_,rfl,q4⟩:=q4.sl
    try simp(maxSteps:=999999) (disch:=omega) only[go_sem,Nat.reduceBEq,Nat.reduceAdd]
    refine caN (by exact Shr_spec (n:=w) q4 (by have:=F.out;omega) (by have:=F.out;omega)) ?_;rintro _ h4 _ q5;obtain⟨v4,_,_,rfl,q5⟩:=q5.sl
    try simp(maxSteps:=999999) (disch:=omega) only[go_sem,Nat.reduceBEq,Nat.reduceAdd]
    refine caN (by exact Rational_spec (n:=w) q5 (by have:=F.out;omega) (by have:=F.out;omega)) ?_;rintro v5 h5 s5 q6;obtain⟨_,_,_,_,_,_,_,rfl,q6⟩:=q6.sa
    try simp(maxSteps:=999999) (disch:=omega) only[go_sem,Nat.reduceBEq,Nat.reduceAdd]
    exact q6
  · refine ld1_of (at1 (pub_to hb)) ?_
    try simp(maxSteps:=999999) (disch:=omega) only[go_sem,Nat.reduceBEq,Nat.reduceAdd]
    refine ld1_of (at1 (pub_to hb)) ?_
    try simp(maxSteps:=999999) (disch:=omega) only[go_sem,Nat.reduceBEq,Nat.reduceAdd]
    refine caN (by exact Mul_spec (q1.to (h':=h2)) (show N32 h2 _ (wvL y w 2) from q2) (by have:=F.out;omega) (by have:=F.out;omega)) ?_;rintro _ h3 _ q4;obtain⟨v3,_,_,rfl,q4⟩:=q4.sl
    try simp(maxSteps:=999999) (disch:=omega) only[go_sem,Nat.reduceBEq,Nat.reduceAdd]
    refine caN (by exact Shr_spec (n:=w) q4 (by have:=F.out;omega) (by have:=F.out;omega)) ?_;rintro _ h4 _ q5;obtain⟨v4,_,_,rfl,q5⟩:=q5.sl
    try simp(maxSteps:=999999) (disch:=omega) only[go_sem,Nat.reduceBEq,Nat.reduceAdd]
    refine caN (by exact Rational_spec (n:=w) q5 (by have:=F.out;omega) (by have:=F.out;omega)) ?_;rintro v5 h5 s5 q6;obtain⟨_,_,_,_,_,_,_,rfl,q6⟩:=q6.sa
    try simp(maxSteps:=999999) (disch:=omega) only[go_sem,Nat.reduceBEq,Nat.reduceAdd]
    exact q6
  · refine ld1_of (at1 (pub_to hb)) ?_
    try simp(maxSteps:=999999) (disch:=omega) only[go_sem,Nat.reduceBEq,Nat.reduceAdd]
    refine ld1_of (at1 (pub_to hb)) ?_
    try simp(maxSteps:=999999) (disch:=omega) only[go_sem,Nat.reduceBEq,Nat.reduceAdd]
    refine caN (by exact Mul_spec (q1.to (h':=h2)) (show N32 h2 _ (wvH y w 2) from q3) (by have:=F.out;omega) (by have:=F.out;omega)) ?_;rintro _ h3 _ q4;obtain⟨v3,_,_,rfl,q4⟩:=q4.sl
    try simp(maxSteps:=999999) (disch:=omega) only[go_sem,Nat.reduceBEq,Nat.reduceAdd]
    refine caN (by exact EUp_spec (n:=w) q4 (by have:=F.out;omega) (by have:=F.out;omega)) ?_;rintro _ h4 _ q5;obtain⟨v4,_,_,rfl,q5⟩:=q5.sl
    try simp(maxSteps:=999999) (disch:=omega) only[go_sem,Nat.reduceBEq,Nat.reduceAdd]
    refine caN (by exact Rational_spec (n:=w) q5 (by have:=F.out;omega) (by have:=F.out;omega)) ?_;rintro v5 h5 s5 q6;obtain⟨_,_,_,_,_,_,_,rfl,q6⟩:=q6.sa
    try simp(maxSteps:=999999) (disch:=omega) only[go_sem,Nat.reduceBEq,Nat.reduceAdd]
    exact q6
theorem ESine_spec {h0 h:PH} [Le h0 h] {v:Value} {x y:Rat} {w:Nat} (hv:Bk h0 v x y) (bx:sz x≤2048) (by_:sz y≤2048) (hx:glo x w≤2^w) (hy:glo y w≤2^w) (hw:20≤w) (hw':w≤200):Spec mach 116 #[v,.int .i64 w] h (fun r h'=>Bk h' r (snAt x w true) (snAt y w false)) NP:=by
  obtain⟨b1,a1,m1,c1,a2,m2,c2,b2,a3,m3,c3,a4,m4,c4,rfl,k1,k2⟩:=hv
  have hx:=Hid.mk hx
  have hy:=Hid.mk hy
  refine Spec.go [(2,.o [0,1,2,4,5,6,3,7,8,9]),(1,.t (.p 1 (.s [0,1] .d)))] Tryz.func116 rfl rfl (by kernel_rfl) fun C _=>?_
  try simp(maxSteps:=999999) (disch:=omega) only[go_sem,Nat.reduceBEq,Nat.reduceAdd]
  intro b h1 st1 hb
  try simp(maxSteps:=999999) (disch:=omega) only[go_sem,Nat.reduceBEq,Nat.reduceAdd]
  have hb:h1 b=some #[.int .i64 w]:=hb (by simp)
  try simp(maxSteps:=999999) (disch:=omega) only[go_sem,Nat.reduceBEq,Nat.reduceAdd]
  refine caN (by exact ESine1_spec (h0:=h1) (low:=true) hb k1.to bx hx.out hw hw') ?_;rintro v2 h2 s2 q2;obtain⟨_,_,_,_,_,_,_,rfl,q2⟩:=q2.sa
  try simp(maxSteps:=999999) (disch:=omega) only[go_sem,Nat.reduceBEq,Nat.reduceAdd]
  refine caN (by exact ESine1_spec (h0:=h2) (low:=false) (pub_to hb) k2.to by_ hy.out hw hw') ?_;rintro v3 h3 s3 q3;obtain⟨_,_,_,_,_,_,_,rfl,q3⟩:=q3.sa
  try simp(maxSteps:=999999) (disch:=omega) only[go_sem,Nat.reduceBEq,Nat.reduceAdd]
  exact⟨_,_,_,_,_,_,_,_,_,_,_,_,_,_,rfl,q2.to,q3⟩
def csX (x y:Rat) (w:Nat):Nat:=max (glo x w) (glo y w)
def csN (x y:Rat) (w:Nat):Nat:=if (x.num < 0∧¬y.num < 0)∨x=0∨y=0 then 0 else min (glo x w) (glo y w)
theorem ECosine_spec {h0 h:PH} [Le h0 h] {v:Value} {x y:Rat} {w:Nat} (hv:Bk h0 v x y) (bx:sz x≤2048) (by_:sz y≤2048) (hx:glo x w≤2^w) (hy:glo y w≤2^w) (hw:20≤w) (hw':w≤200):
    Spec mach 117 #[v,.int .i64 w] h (fun r h'=>Bk h' r (sgn false (wvL (csX x y w) w 1) (2^w)) (sgn false (wvH (csN x y w) w 1) (2^w))) NP:=by
  obtain⟨b1,a1,m1,c1,a2,m2,c2,b2,a3,m3,c3,a4,m4,c4,rfl,k1,k2⟩:=hv
  have kX:=fun {h} [Le h0 h]=>ENatural_spec (h:=h) (w:=w) k1 bx (by omega)
  have kY:=fun {h} [Le h0 h]=>ENatural_spec (h:=h) (w:=w) k2 by_ (by omega)
  obtain⟨_,_,_,_,_,_,e,_,_,ex,_⟩:=k1.parts
  cases e
  obtain⟨_,_,_,_,_,_,e,_,_,ey,_⟩:=k2.parts
  cases e
  have kW:∀{y:Nat},y≤2^w→bl (wvL y w 1)≤2048∧bl (wvH y w 1)≤2048:=fun {y} _=>by
    obtain⟨w1,w2⟩:=waV_le (w:=w) (f:=1) (s:=sqL y w) (t:=sqH y w) (by decide) 24
    have:=bl_pow_le (n:=wvL y w 1) (w:=w) (by unfold wvL;omega)
    have:=bl_pow_le (n:=wvH y w 1) (w:=w) (by unfold wvH;omega)
    omega
  have key:(decide (x.num < 0)=true∧decide (y.num < 0)=false∧csN x y w=0)∨(decide (x.num < 0)=false∧((m1:Int) == 0)=true∧csN x y w=0)∨(decide (x.num < 0)=false∧((m1:Int) == 0)=false∧((m3:Int) == 0)=true∧csN x y w=0)∨
      (decide (x.num < 0)=true∧decide (y.num < 0)=true∧((m1:Int) == 0)=false∧((m3:Int) == 0)=false∧csN x y w=min (glo x w) (glo y w))∨(decide (x.num < 0)=false∧((m1:Int) == 0)=false∧((m3:Int) == 0)=false∧csN x y w=min (glo x w) (glo y w)):=by
    have xX:x.num < 0→x≠0:=fun k e=>by rw[e] at k;exact absurd k (by decide)
    have yY:y.num < 0→y≠0:=fun k e=>by rw[e] at k;exact absurd k (by decide)
    have zX:((m1:Int) == 0)=decide (x=0):=by rw[Bool.eq_iff_iff];simp only[beq_iff_eq,decide_eq_true_eq,←ex];omega
    have zY:((m3:Int) == 0)=decide (y=0):=by rw[Bool.eq_iff_iff];simp only[beq_iff_eq,decide_eq_true_eq,←ey];omega
    rw[zX,zY]
    simp only[decide_eq_true_eq,decide_eq_false_iff_not]
    unfold csN
    by_cases h1:x.num < 0
    · by_cases h2:y.num < 0
      · refine .inr (.inr (.inr (.inl ⟨h1,h2,xX h1,yY h2,if_neg ?_⟩)))
        rintro(k |k |k)
        · exact k.2 h2
        · exact xX h1 k
        · exact yY h2 k
      · exact .inl ⟨h1,h2,if_pos (.inl ⟨h1,h2⟩)⟩
    · by_cases h2:x=0
      · exact .inr (.inl ⟨h1,h2,if_pos (.inr (.inl h2))⟩)
      · by_cases h3:y=0
        · exact .inr (.inr (.inl ⟨h1,h2,h3,if_pos (.inr (.inr h3))⟩))
        · refine .inr (.inr (.inr (.inr ⟨h1,h2,h3,if_neg ?_⟩)))
          rintro(k |k |k)
          · exact h1 k.1
          · exact h2 k
          · exact h3 k
  have cm:∀{a b:Nat},decide (cmp3 a b < 0)=decide (a < b):=fun {a b}=>by unfold cmp3;grind
  have eX:csX x y w=max (glo x w) (glo y w):=rfl
  rw[eX]
  clear k1 k2 ex ey bx by_ eX
  generalize glo x w=ga at*
  generalize glo y w=gb at*
  generalize csN x y w=N at*
  generalize decide (x.num < 0)=sx at*
  generalize decide (y.num < 0)=sy at*
  rcases key with⟨rfl,rfl,rfl⟩ |⟨rfl,e1,rfl⟩ |⟨rfl,e1,e2,rfl⟩ |⟨rfl,rfl,e1,e2,rfl⟩ |⟨rfl,e1,e2,rfl⟩
  · by_cases hab:ga < gb
    · have dc:decide (cmp3 ga gb < 0)=true:=by rw[cm];exact decide_eq_true hab
      rw[show max ga gb=gb by omega]
      obtain⟨kXL,_⟩:=kW (y:=gb) hy
      obtain⟨_,kNH⟩:=kW (y:=0) (by omega)
      have lX:Hid (gb≤2^w):=⟨hy⟩
      have lN:Hid (0≤2^w):=⟨by omega⟩
      clear hx hy hab cm
      refine Spec.go [(1,.o [0,1,2,4,5,6,3,7,8,9])] Tryz.func117 rfl rfl (by kernel_rfl) fun C _=>?_
      try simp(maxSteps:=999999) (disch:=omega) only[go_sem,Nat.reduceBEq,Nat.reduceAdd]
      refine caN (by exact kX) ?_;rintro _ h1 _ q1;obtain⟨v1,_,_,rfl,q1⟩:=q1.sl
      try simp(maxSteps:=999999) (disch:=omega) only[go_sem,Nat.reduceBEq,Nat.reduceAdd]
      refine caN (by exact kY) ?_;rintro _ h2 _ q2;obtain⟨v2,_,_,rfl,q2⟩:=q2.sl
      try simp(maxSteps:=999999) (disch:=omega) only[go_sem,Nat.reduceBEq,Nat.reduceAdd]
      refine caN (by exact Cmp_spec (q1.to (h':=h2)) q2) ?_;rintro v3 h3 s3 rfl
      try simp(maxSteps:=999999) (disch:=omega) only[go_sem,Nat.reduceBEq,Nat.reduceAdd,dc]
      refine caN (by exact EWaves_spec (f:=1) (q2.to (h':=h3)) lX.out (by decide) (by decide) hw (by omega)) ?_;rintro v4 h4 s4 ⟨x4,m4,c4,y4,n4,d4,rfl,q4,_⟩
      try simp(maxSteps:=999999) (disch:=omega) only[go_sem,Nat.reduceBEq,Nat.reduceAdd]
      refine caN (by exact Rational_spec (n:=w) (show N32 h4 _ (wvL gb w 1) from q4) kXL (by omega)) ?_;rintro v5 h5 s5 q5;obtain⟨_,_,_,_,_,_,_,rfl,q5⟩:=q5.sa
      try simp(maxSteps:=999999) (disch:=omega) only[go_sem,Nat.reduceBEq,Nat.reduceAdd]
      refine caN (by exact EWaves_spec (f:=1) (N32.zero h5) lN.out (by decide) (by decide) hw (by omega)) ?_;rintro v6 h6 s6 ⟨x6,m6,c6,y6,n6,d6,rfl,_,q6⟩
      try simp(maxSteps:=999999) (disch:=omega) only[go_sem,Nat.reduceBEq,Nat.reduceAdd]
      refine caN (by exact Rational_spec (n:=w) (show N32 h6 _ (wvH 0 w 1) from q6) kNH (by omega)) ?_;rintro v7 h7 s7 q7;obtain⟨_,_,_,_,_,_,_,rfl,q7⟩:=q7.sa
      try simp(maxSteps:=999999) (disch:=omega) only[go_sem,Nat.reduceBEq,Nat.reduceAdd]
      exact⟨_,_,_,_,_,_,_,_,_,_,_,_,_,_,rfl,q5.to,q7⟩
    · have dc:decide (cmp3 ga gb < 0)=false:=by rw[cm];exact decide_eq_false hab
      rw[show max ga gb=ga by omega]
      obtain⟨kXL,_⟩:=kW (y:=ga) hx
      obtain⟨_,kNH⟩:=kW (y:=0) (by omega)
      have lX:Hid (ga≤2^w):=⟨hx⟩
      have lN:Hid (0≤2^w):=⟨by omega⟩
      clear hx hy hab cm
      refine Spec.go [(1,.o [0,1,2,4,5,6,3,7,8,9])] Tryz.func117 rfl rfl (by kernel_rfl) fun C _=>?_
      try simp(maxSteps:=999999) (disch:=omega) only[go_sem,Nat.reduceBEq,Nat.reduceAdd]
      refine caN (by exact kX) ?_;rintro _ h1 _ q1;obtain⟨v1,_,_,rfl,q1⟩:=q1.sl
      try simp(maxSteps:=999999) (disch:=omega) only[go_sem,Nat.reduceBEq,Nat.reduceAdd]
      refine caN (by exact kY) ?_;rintro _ h2 _ q2;obtain⟨v2,_,_,rfl,q2⟩:=q2.sl
      try simp(maxSteps:=999999) (disch:=omega) only[go_sem,Nat.reduceBEq,Nat.reduceAdd]
      refine caN (by exact Cmp_spec (q1.to (h':=h2)) q2) ?_;rintro v3 h3 s3 rfl
      try simp(maxSteps:=999999) (disch:=omega) only[go_sem,Nat.reduceBEq,Nat.reduceAdd,dc]
      refine caN (by exact EWaves_spec (f:=1) (q1.to (h':=h3)) lX.out (by decide) (by decide) hw (by omega)) ?_;rintro v4 h4 s4 ⟨x4,m4,c4,y4,n4,d4,rfl,q4,_⟩
      try simp(maxSteps:=999999) (disch:=omega) only[go_sem,Nat.reduceBEq,Nat.reduceAdd]
      refine caN (by exact Rational_spec (n:=w) (show N32 h4 _ (wvL ga w 1) from q4) kXL (by omega)) ?_;rintro v5 h5 s5 q5;obtain⟨_,_,_,_,_,_,_,rfl,q5⟩:=q5.sa
      try simp(maxSteps:=999999) (disch:=omega) only[go_sem,Nat.reduceBEq,Nat.reduceAdd]
      refine caN (by exact EWaves_spec (f:=1) (N32.zero h5) lN.out (by decide) (by decide) hw (by omega)) ?_;rintro v6 h6 s6 ⟨x6,m6,c6,y6,n6,d6,rfl,_,q6⟩
      try simp(maxSteps:=999999) (disch:=omega) only[go_sem,Nat.reduceBEq,Nat.reduceAdd]
      refine caN (by exact Rational_spec (n:=w) (show N32 h6 _ (wvH 0 w 1) from q6) kNH (by omega)) ?_;rintro v7 h7 s7 q7;obtain⟨_,_,_,_,_,_,_,rfl,q7⟩:=q7.sa
      try simp(maxSteps:=999999) (disch:=omega) only[go_sem,Nat.reduceBEq,Nat.reduceAdd]
      exact⟨_,_,_,_,_,_,_,_,_,_,_,_,_,_,rfl,q5.to,q7⟩
  · by_cases hab:ga < gb
    · have dc:decide (cmp3 ga gb < 0)=true:=by rw[cm];exact decide_eq_true hab
      rw[show max ga gb=gb by omega]
      obtain⟨kXL,_⟩:=kW (y:=gb) hy
      obtain⟨_,kNH⟩:=kW (y:=0) (by omega)
      have lX:Hid (gb≤2^w):=⟨hy⟩
      have lN:Hid (0≤2^w):=⟨by omega⟩
      clear hx hy hab cm
      refine Spec.go [(1,.o [0,1,2,4,5,6,3,7,8,9])] Tryz.func117 rfl rfl (by kernel_rfl) fun C _=>?_
      try simp(maxSteps:=999999) (disch:=omega) only[go_sem,Nat.reduceBEq,Nat.reduceAdd]
      refine caN (by exact kX) ?_;rintro _ h1 _ q1;obtain⟨v1,_,_,rfl,q1⟩:=q1.sl
      try simp(maxSteps:=999999) (disch:=omega) only[go_sem,Nat.reduceBEq,Nat.reduceAdd]
      refine caN (by exact kY) ?_;rintro _ h2 _ q2;obtain⟨v2,_,_,rfl,q2⟩:=q2.sl
      try simp(maxSteps:=999999) (disch:=omega) only[go_sem,Nat.reduceBEq,Nat.reduceAdd]
      refine caN (by exact Cmp_spec (q1.to (h':=h2)) q2) ?_;rintro v3 h3 s3 rfl
      try simp(maxSteps:=999999) (disch:=omega) only[go_sem,Nat.reduceBEq,Nat.reduceAdd,dc,e1]
      refine caN (by exact EWaves_spec (f:=1) (q2.to (h':=h3)) lX.out (by decide) (by decide) hw (by omega)) ?_;rintro v4 h4 s4 ⟨x4,m4,c4,y4,n4,d4,rfl,q4,_⟩
      try simp(maxSteps:=999999) (disch:=omega) only[go_sem,Nat.reduceBEq,Nat.reduceAdd]
      refine caN (by exact Rational_spec (n:=w) (show N32 h4 _ (wvL gb w 1) from q4) kXL (by omega)) ?_;rintro v5 h5 s5 q5;obtain⟨_,_,_,_,_,_,_,rfl,q5⟩:=q5.sa
      try simp(maxSteps:=999999) (disch:=omega) only[go_sem,Nat.reduceBEq,Nat.reduceAdd]
      refine caN (by exact EWaves_spec (f:=1) (N32.zero h5) lN.out (by decide) (by decide) hw (by omega)) ?_;rintro v6 h6 s6 ⟨x6,m6,c6,y6,n6,d6,rfl,_,q6⟩
      try simp(maxSteps:=999999) (disch:=omega) only[go_sem,Nat.reduceBEq,Nat.reduceAdd]
      refine caN (by exact Rational_spec (n:=w) (show N32 h6 _ (wvH 0 w 1) from q6) kNH (by omega)) ?_;rintro v7 h7 s7 q7;obtain⟨_,_,_,_,_,_,_,rfl,q7⟩:=q7.sa
      try simp(maxSteps:=999999) (disch:=omega) only[go_sem,Nat.reduceBEq,Nat.reduceAdd]
      exact⟨_,_,_,_,_,_,_,_,_,_,_,_,_,_,rfl,q5.to,q7⟩
    · have dc:decide (cmp3 ga gb < 0)=false:=by rw[cm];exact decide_eq_false hab
      rw[show max ga gb=ga by omega]
      obtain⟨kXL,_⟩:=kW (y:=ga) hx
      obtain⟨_,kNH⟩:=kW (y:=0) (by omega)
      have lX:Hid (ga≤2^w):=⟨hx⟩
      have lN:Hid (0≤2^w):=⟨by omega⟩
      clear hx hy hab cm
      refine Spec.go [(1,.o [0,1,2,4,5,6,3,7,8,9])] Tryz.func117 rfl rfl (by kernel_rfl) fun C _=>?_
      try simp(maxSteps:=999999) (disch:=omega) only[go_sem,Nat.reduceBEq,Nat.reduceAdd]
      refine caN (by exact kX) ?_;rintro _ h1 _ q1;obtain⟨v1,_,_,rfl,q1⟩:=q1.sl
      try simp(maxSteps:=999999) (disch:=omega) only[go_sem,Nat.reduceBEq,Nat.reduceAdd]
      refine caN (by exact kY) ?_;rintro _ h2 _ q2;obtain⟨v2,_,_,rfl,q2⟩:=q2.sl
      try simp(maxSteps:=999999) (disch:=omega) only[go_sem,Nat.reduceBEq,Nat.reduceAdd]
      refine caN (by exact Cmp_spec (q1.to (h':=h2)) q2) ?_;rintro v3 h3 s3 rfl
      try simp(maxSteps:=999999) (disch:=omega) only[go_sem,Nat.reduceBEq,Nat.reduceAdd,dc,e1]
      refine caN (by exact EWaves_spec (f:=1) (q1.to (h':=h3)) lX.out (by decide) (by decide) hw (by omega)) ?_;rintro v4 h4 s4 ⟨x4,m4,c4,y4,n4,d4,rfl,q4,_⟩
      try simp(maxSteps:=999999) (disch:=omega) only[go_sem,Nat.reduceBEq,Nat.reduceAdd]
      refine caN (by exact Rational_spec (n:=w) (show N32 h4 _ (wvL ga w 1) from q4) kXL (by omega)) ?_;rintro v5 h5 s5 q5;obtain⟨_,_,_,_,_,_,_,rfl,q5⟩:=q5.sa
      try simp(maxSteps:=999999) (disch:=omega) only[go_sem,Nat.reduceBEq,Nat.reduceAdd]
      refine caN (by exact EWaves_spec (f:=1) (N32.zero h5) lN.out (by decide) (by decide) hw (by omega)) ?_;rintro v6 h6 s6 ⟨x6,m6,c6,y6,n6,d6,rfl,_,q6⟩
      try simp(maxSteps:=999999) (disch:=omega) only[go_sem,Nat.reduceBEq,Nat.reduceAdd]
      refine caN (by exact Rational_spec (n:=w) (show N32 h6 _ (wvH 0 w 1) from q6) kNH (by omega)) ?_;rintro v7 h7 s7 q7;obtain⟨_,_,_,_,_,_,_,rfl,q7⟩:=q7.sa
      try simp(maxSteps:=999999) (disch:=omega) only[go_sem,Nat.reduceBEq,Nat.reduceAdd]
      exact⟨_,_,_,_,_,_,_,_,_,_,_,_,_,_,rfl,q5.to,q7⟩
  · by_cases hab:ga < gb
    · have dc:decide (cmp3 ga gb < 0)=true:=by rw[cm];exact decide_eq_true hab
      rw[show max ga gb=gb by omega]
      obtain⟨kXL,_⟩:=kW (y:=gb) hy
      obtain⟨_,kNH⟩:=kW (y:=0) (by omega)
      have lX:Hid (gb≤2^w):=⟨hy⟩
      have lN:Hid (0≤2^w):=⟨by omega⟩
      clear hx hy hab cm
      refine Spec.go [(1,.o [0,1,2,4,5,6,3,7,8,9])] Tryz.func117 rfl rfl (by kernel_rfl) fun C _=>?_
      try simp(maxSteps:=999999) (disch:=omega) only[go_sem,Nat.reduceBEq,Nat.reduceAdd]
      refine caN (by exact kX) ?_;rintro _ h1 _ q1;obtain⟨v1,_,_,rfl,q1⟩:=q1.sl
      try simp(maxSteps:=999999) (disch:=omega) only[go_sem,Nat.reduceBEq,Nat.reduceAdd]
      refine caN (by exact kY) ?_;rintro _ h2 _ q2;obtain⟨v2,_,_,rfl,q2⟩:=q2.sl
      try simp(maxSteps:=999999) (disch:=omega) only[go_sem,Nat.reduceBEq,Nat.reduceAdd]
      refine caN (by exact Cmp_spec (q1.to (h':=h2)) q2) ?_;rintro v3 h3 s3 rfl
      try simp(maxSteps:=999999) (disch:=omega) only[go_sem,Nat.reduceBEq,Nat.reduceAdd,dc,e1,e2,Bool.not_true]
      refine caN (by exact EWaves_spec (f:=1) (q2.to (h':=h3)) lX.out (by decide) (by decide) hw (by omega)) ?_;rintro v4 h4 s4 ⟨x4,m4,c4,y4,n4,d4,rfl,q4,_⟩
      try simp(maxSteps:=999999) (disch:=omega) only[go_sem,Nat.reduceBEq,Nat.reduceAdd]
      refine caN (by exact Rational_spec (n:=w) (show N32 h4 _ (wvL gb w 1) from q4) kXL (by omega)) ?_;rintro v5 h5 s5 q5;obtain⟨_,_,_,_,_,_,_,rfl,q5⟩:=q5.sa
      try simp(maxSteps:=999999) (disch:=omega) only[go_sem,Nat.reduceBEq,Nat.reduceAdd]
      refine caN (by exact EWaves_spec (f:=1) (N32.zero h5) lN.out (by decide) (by decide) hw (by omega)) ?_;rintro v6 h6 s6 ⟨x6,m6,c6,y6,n6,d6,rfl,_,q6⟩
      try simp(maxSteps:=999999) (disch:=omega) only[go_sem,Nat.reduceBEq,Nat.reduceAdd]
      refine caN (by exact Rational_spec (n:=w) (show N32 h6 _ (wvH 0 w 1) from q6) kNH (by omega)) ?_;rintro v7 h7 s7 q7;obtain⟨_,_,_,_,_,_,_,rfl,q7⟩:=q7.sa
      try simp(maxSteps:=999999) (disch:=omega) only[go_sem,Nat.reduceBEq,Nat.reduceAdd]
      exact⟨_,_,_,_,_,_,_,_,_,_,_,_,_,_,rfl,q5.to,q7⟩
    · have dc:decide (cmp3 ga gb < 0)=false:=by rw[cm];exact decide_eq_false hab
      rw[show max ga gb=ga by omega]
      obtain⟨kXL,_⟩:=kW (y:=ga) hx
      obtain⟨_,kNH⟩:=kW (y:=0) (by omega)
      have lX:Hid (ga≤2^w):=⟨hx⟩
      have lN:Hid (0≤2^w):=⟨by omega⟩
      clear hx hy hab cm
      refine Spec.go [(1,.o [0,1,2,4,5,6,3,7,8,9])] Tryz.func117 rfl rfl (by kernel_rfl) fun C _=>?_
      try simp(maxSteps:=999999) (disch:=omega) only[go_sem,Nat.reduceBEq,Nat.reduceAdd]
      refine caN (by exact kX) ?_;rintro _ h1 _ q1;obtain⟨v1,_,_,rfl,q1⟩:=q1.sl
      try simp(maxSteps:=999999) (disch:=omega) only[go_sem,Nat.reduceBEq,Nat.reduceAdd]
      refine caN (by exact kY) ?_;rintro _ h2 _ q2;obtain⟨v2,_,_,rfl,q2⟩:=q2.sl
      try simp(maxSteps:=999999) (disch:=omega) only[go_sem,Nat.reduceBEq,Nat.reduceAdd]
      refine caN (by exact Cmp_spec (q1.to (h':=h2)) q2) ?_;rintro v3 h3 s3 rfl
      try simp(maxSteps:=999999) (disch:=omega) only[go_sem,Nat.reduceBEq,Nat.reduceAdd,dc,e1,e2,Bool.not_true]
      refine caN (by exact EWaves_spec (f:=1) (q1.to (h':=h3)) lX.out (by decide) (by decide) hw (by omega)) ?_;rintro v4 h4 s4 ⟨x4,m4,c4,y4,n4,d4,rfl,q4,_⟩
      try simp(maxSteps:=999999) (disch:=omega) only[go_sem,Nat.reduceBEq,Nat.reduceAdd]
      refine caN (by exact Rational_spec (n:=w) (show N32 h4 _ (wvL ga w 1) from q4) kXL (by omega)) ?_;rintro v5 h5 s5 q5;obtain⟨_,_,_,_,_,_,_,rfl,q5⟩:=q5.sa
      try simp(maxSteps:=999999) (disch:=omega) only[go_sem,Nat.reduceBEq,Nat.reduceAdd]
      refine caN (by exact EWaves_spec (f:=1) (N32.zero h5) lN.out (by decide) (by decide) hw (by omega)) ?_;rintro v6 h6 s6 ⟨x6,m6,c6,y6,n6,d6,rfl,_,q6⟩
      try simp(maxSteps:=999999) (disch:=omega) only[go_sem,Nat.reduceBEq,Nat.reduceAdd]
      refine caN (by exact Rational_spec (n:=w) (show N32 h6 _ (wvH 0 w 1) from q6) kNH (by omega)) ?_;rintro v7 h7 s7 q7;obtain⟨_,_,_,_,_,_,_,rfl,q7⟩:=q7.sa
      try simp(maxSteps:=999999) (disch:=omega) only[go_sem,Nat.reduceBEq,Nat.reduceAdd]
      exact⟨_,_,_,_,_,_,_,_,_,_,_,_,_,_,rfl,q5.to,q7⟩
  · by_cases hab:ga < gb
    · have dc:decide (cmp3 ga gb < 0)=true:=by rw[cm];exact decide_eq_true hab
      rw[show max ga gb=gb by omega]
      rw[show min ga gb=ga by omega]
      obtain⟨kXL,_⟩:=kW (y:=gb) hy
      obtain⟨_,kNH⟩:=kW (y:=ga) (by omega)
      have lX:Hid (gb≤2^w):=⟨hy⟩
      have lN:Hid (ga≤2^w):=⟨by omega⟩
      clear hx hy hab cm
      refine Spec.go [(1,.o [0,1,2,4,5,6,3,7,8,9])] Tryz.func117 rfl rfl (by kernel_rfl) fun C _=>?_
      try simp(maxSteps:=999999) (disch:=omega) only[go_sem,Nat.reduceBEq,Nat.reduceAdd]
      refine caN (by exact kX) ?_;rintro _ h1 _ q1;obtain⟨v1,_,_,rfl,q1⟩:=q1.sl
      try simp(maxSteps:=999999) (disch:=omega) only[go_sem,Nat.reduceBEq,Nat.reduceAdd]
      refine caN (by exact kY) ?_;rintro _ h2 _ q2;obtain⟨v2,_,_,rfl,q2⟩:=q2.sl
      try simp(maxSteps:=999999) (disch:=omega) only[go_sem,Nat.reduceBEq,Nat.reduceAdd]
      refine caN (by exact Cmp_spec (q1.to (h':=h2)) q2) ?_;rintro v3 h3 s3 rfl
      try simp(maxSteps:=999999) (disch:=omega) only[go_sem,Nat.reduceBEq,Nat.reduceAdd,dc,e1,e2,Bool.not_true]
      refine caN (by exact EWaves_spec (f:=1) (q2.to (h':=h3)) lX.out (by decide) (by decide) hw (by omega)) ?_;rintro v4 h4 s4 ⟨x4,m4,c4,y4,n4,d4,rfl,q4,_⟩
      try simp(maxSteps:=999999) (disch:=omega) only[go_sem,Nat.reduceBEq,Nat.reduceAdd]
      refine caN (by exact Rational_spec (n:=w) (show N32 h4 _ (wvL gb w 1) from q4) kXL (by omega)) ?_;rintro v5 h5 s5 q5;obtain⟨_,_,_,_,_,_,_,rfl,q5⟩:=q5.sa
      try simp(maxSteps:=999999) (disch:=omega) only[go_sem,Nat.reduceBEq,Nat.reduceAdd]
      refine caN (by exact EWaves_spec (f:=1) (q1.to (h':=h5)) lN.out (by decide) (by decide) hw (by omega)) ?_;rintro v6 h6 s6 ⟨x6,m6,c6,y6,n6,d6,rfl,_,q6⟩
      try simp(maxSteps:=999999) (disch:=omega) only[go_sem,Nat.reduceBEq,Nat.reduceAdd]
      refine caN (by exact Rational_spec (n:=w) (show N32 h6 _ (wvH ga w 1) from q6) kNH (by omega)) ?_;rintro v7 h7 s7 q7;obtain⟨_,_,_,_,_,_,_,rfl,q7⟩:=q7.sa
      try simp(maxSteps:=999999) (disch:=omega) only[go_sem,Nat.reduceBEq,Nat.reduceAdd]
      exact⟨_,_,_,_,_,_,_,_,_,_,_,_,_,_,rfl,q5.to,q7⟩
    · have dc:decide (cmp3 ga gb < 0)=false:=by rw[cm];exact decide_eq_false hab
      rw[show max ga gb=ga by omega]
      rw[show min ga gb=gb by omega]
      obtain⟨kXL,_⟩:=kW (y:=ga) hx
      obtain⟨_,kNH⟩:=kW (y:=gb) (by omega)
      have lX:Hid (ga≤2^w):=⟨hx⟩
      have lN:Hid (gb≤2^w):=⟨by omega⟩
      clear hx hy hab cm
      refine Spec.go [(1,.o [0,1,2,4,5,6,3,7,8,9])] Tryz.func117 rfl rfl (by kernel_rfl) fun C _=>?_
      try simp(maxSteps:=999999) (disch:=omega) only[go_sem,Nat.reduceBEq,Nat.reduceAdd]
      refine caN (by exact kX) ?_;rintro _ h1 _ q1;obtain⟨v1,_,_,rfl,q1⟩:=q1.sl
      try simp(maxSteps:=999999) (disch:=omega) only[go_sem,Nat.reduceBEq,Nat.reduceAdd]
      refine caN (by exact kY) ?_;rintro _ h2 _ q2;obtain⟨v2,_,_,rfl,q2⟩:=q2.sl
      try simp(maxSteps:=999999) (disch:=omega) only[go_sem,Nat.reduceBEq,Nat.reduceAdd]
      refine caN (by exact Cmp_spec (q1.to (h':=h2)) q2) ?_;rintro v3 h3 s3 rfl
      try simp(maxSteps:=999999) (disch:=omega) only[go_sem,Nat.reduceBEq,Nat.reduceAdd,dc,e1,e2,Bool.not_true]
      refine caN (by exact EWaves_spec (f:=1) (q1.to (h':=h3)) lX.out (by decide) (by decide) hw (by omega)) ?_;rintro v4 h4 s4 ⟨x4,m4,c4,y4,n4,d4,rfl,q4,_⟩
      try simp(maxSteps:=999999) (disch:=omega) only[go_sem,Nat.reduceBEq,Nat.reduceAdd]
      refine caN (by exact Rational_spec (n:=w) (show N32 h4 _ (wvL ga w 1) from q4) kXL (by omega)) ?_;rintro v5 h5 s5 q5;obtain⟨_,_,_,_,_,_,_,rfl,q5⟩:=q5.sa
      try simp(maxSteps:=999999) (disch:=omega) only[go_sem,Nat.reduceBEq,Nat.reduceAdd]
      refine caN (by exact EWaves_spec (f:=1) (q2.to (h':=h5)) lN.out (by decide) (by decide) hw (by omega)) ?_;rintro v6 h6 s6 ⟨x6,m6,c6,y6,n6,d6,rfl,_,q6⟩
      try simp(maxSteps:=999999) (disch:=omega) only[go_sem,Nat.reduceBEq,Nat.reduceAdd]
      refine caN (by exact Rational_spec (n:=w) (show N32 h6 _ (wvH gb w 1) from q6) kNH (by omega)) ?_;rintro v7 h7 s7 q7;obtain⟨_,_,_,_,_,_,_,rfl,q7⟩:=q7.sa
      try simp(maxSteps:=999999) (disch:=omega) only[go_sem,Nat.reduceBEq,Nat.reduceAdd]
      exact⟨_,_,_,_,_,_,_,_,_,_,_,_,_,_,rfl,q5.to,q7⟩
  · by_cases hab:ga < gb
    · have dc:decide (cmp3 ga gb < 0)=true:=by rw[cm];exact decide_eq_true hab
      rw[show max ga gb=gb by omega]
      rw[show min ga gb=ga by omega]
      obtain⟨kXL,_⟩:=kW (y:=gb) hy
      obtain⟨_,kNH⟩:=kW (y:=ga) (by omega)
      have lX:Hid (gb≤2^w):=⟨hy⟩
      have lN:Hid (ga≤2^w):=⟨by omega⟩
      clear hx hy hab cm
      refine Spec.go [(1,.o [0,1,2,4,5,6,3,7,8,9])] Tryz.func117 rfl rfl (by kernel_rfl) fun C _=>?_
      try simp(maxSteps:=999999) (disch:=omega) only[go_sem,Nat.reduceBEq,Nat.reduceAdd]
      refine caN (by exact kX) ?_;rintro _ h1 _ q1;obtain⟨v1,_,_,rfl,q1⟩:=q1.sl
      try simp(maxSteps:=999999) (disch:=omega) only[go_sem,Nat.reduceBEq,Nat.reduceAdd]
      refine caN (by exact kY) ?_;rintro _ h2 _ q2;obtain⟨v2,_,_,rfl,q2⟩:=q2.sl
      try simp(maxSteps:=999999) (disch:=omega) only[go_sem,Nat.reduceBEq,Nat.reduceAdd]
      refine caN (by exact Cmp_spec (q1.to (h':=h2)) q2) ?_;rintro v3 h3 s3 rfl
      try simp(maxSteps:=999999) (disch:=omega) only[go_sem,Nat.reduceBEq,Nat.reduceAdd,dc,e1,e2,Bool.not_true]
      refine caN (by exact EWaves_spec (f:=1) (q2.to (h':=h3)) lX.out (by decide) (by decide) hw (by omega)) ?_;rintro v4 h4 s4 ⟨x4,m4,c4,y4,n4,d4,rfl,q4,_⟩
      try simp(maxSteps:=999999) (disch:=omega) only[go_sem,Nat.reduceBEq,Nat.reduceAdd]
      refine caN (by exact Rational_spec (n:=w) (show N32 h4 _ (wvL gb w 1) from q4) kXL (by omega)) ?_;rintro v5 h5 s5 q5;obtain⟨_,_,_,_,_,_,_,rfl,q5⟩:=q5.sa
      try simp(maxSteps:=999999) (disch:=omega) only[go_sem,Nat.reduceBEq,Nat.reduceAdd]
      refine caN (by exact EWaves_spec (f:=1) (q1.to (h':=h5)) lN.out (by decide) (by decide) hw (by omega)) ?_;rintro v6 h6 s6 ⟨x6,m6,c6,y6,n6,d6,rfl,_,q6⟩
      try simp(maxSteps:=999999) (disch:=omega) only[go_sem,Nat.reduceBEq,Nat.reduceAdd]
      refine caN (by exact Rational_spec (n:=w) (show N32 h6 _ (wvH ga w 1) from q6) kNH (by omega)) ?_;rintro v7 h7 s7 q7;obtain⟨_,_,_,_,_,_,_,rfl,q7⟩:=q7.sa
      try simp(maxSteps:=999999) (disch:=omega) only[go_sem,Nat.reduceBEq,Nat.reduceAdd]
      exact⟨_,_,_,_,_,_,_,_,_,_,_,_,_,_,rfl,q5.to,q7⟩
    · have dc:decide (cmp3 ga gb < 0)=false:=by rw[cm];exact decide_eq_false hab
      rw[show max ga gb=ga by omega]
      rw[show min ga gb=gb by omega]
      obtain⟨kXL,_⟩:=kW (y:=ga) hx
      obtain⟨_,kNH⟩:=kW (y:=gb) (by omega)
      have lX:Hid (ga≤2^w):=⟨hx⟩
      have lN:Hid (gb≤2^w):=⟨by omega⟩
      clear hx hy hab cm
      refine Spec.go [(1,.o [0,1,2,4,5,6,3,7,8,9])] Tryz.func117 rfl rfl (by kernel_rfl) fun C _=>?_
      try simp(maxSteps:=999999) (disch:=omega) only[go_sem,Nat.reduceBEq,Nat.reduceAdd]
      refine caN (by exact kX) ?_;rintro _ h1 _ q1;obtain⟨v1,_,_,rfl,q1⟩:=q1.sl
      try simp(maxSteps:=999999) (disch:=omega) only[go_sem,Nat.reduceBEq,Nat.reduceAdd]
      refine caN (by exact kY) ?_;rintro _ h2 _ q2;obtain⟨v2,_,_,rfl,q2⟩:=q2.sl
      try simp(maxSteps:=999999) (disch:=omega) only[go_sem,Nat.reduceBEq,Nat.reduceAdd]
      refine caN (by exact Cmp_spec (q1.to (h':=h2)) q2) ?_;rintro v3 h3 s3 rfl
      try simp(maxSteps:=999999) (disch:=omega) only[go_sem,Nat.reduceBEq,Nat.reduceAdd,dc,e1,e2,Bool.not_true]
      refine caN (by exact EWaves_spec (f:=1) (q1.to (h':=h3)) lX.out (by decide) (by decide) hw (by omega)) ?_;rintro v4 h4 s4 ⟨x4,m4,c4,y4,n4,d4,rfl,q4,_⟩
      try simp(maxSteps:=999999) (disch:=omega) only[go_sem,Nat.reduceBEq,Nat.reduceAdd]
      refine caN (by exact Rational_spec (n:=w) (show N32 h4 _ (wvL ga w 1) from q4) kXL (by omega)) ?_;rintro v5 h5 s5 q5;obtain⟨_,_,_,_,_,_,_,rfl,q5⟩:=q5.sa
      try simp(maxSteps:=999999) (disch:=omega) only[go_sem,Nat.reduceBEq,Nat.reduceAdd]
      refine caN (by exact EWaves_spec (f:=1) (q2.to (h':=h5)) lN.out (by decide) (by decide) hw (by omega)) ?_;rintro v6 h6 s6 ⟨x6,m6,c6,y6,n6,d6,rfl,_,q6⟩
      try simp(maxSteps:=999999) (disch:=omega) only[go_sem,Nat.reduceBEq,Nat.reduceAdd]
      refine caN (by exact Rational_spec (n:=w) (show N32 h6 _ (wvH gb w 1) from q6) kNH (by omega)) ?_;rintro v7 h7 s7 q7;obtain⟨_,_,_,_,_,_,_,rfl,q7⟩:=q7.sa
      try simp(maxSteps:=999999) (disch:=omega) only[go_sem,Nat.reduceBEq,Nat.reduceAdd]
      exact⟨_,_,_,_,_,_,_,_,_,_,_,_,_,_,rfl,q5.to,q7⟩
end Go.Q
namespace Go.Q
open Go.Proofs
set_option maxRecDepth 100000
set_option maxHeartbeats 8000000
theorem EModulo_spec {h0 h:PH} [Le h0 h] {v:Value} {z:Int} (hv:Cn h0 v (z:Rat)) (hz:z.natAbs < 4294967296):Spec mach 163 #[v] h (fun r _=>r=.int .i64 (z % 4)) NP:=by
  have en:((z:Rat)).num=z:=Rat.num_intCast z
  obtain⟨na,nl,nc,da,dl,dc,rfl,hn,_,e1,_⟩:=hv.parts
  rw[en] at hn ⊢
  clear hv
  by_cases hz0:z=0
  · subst hz0
    have e3:((nl:Int) == 0)=true:=by simp[e1.2 rfl]
    refine Spec.go [] Tryz.func163 rfl rfl (by kernel_rfl) fun C _=>?_
    try simp(disch:=omega) only[go_sem,Nat.reduceBEq,Nat.reduceAdd,e3]
    all_goals rfl
  · have hnl:nl≠0:=fun c=>hz0 ((Rat.intCast_inj (a:=z) (b:=0)).1 (e1.1 c))
    have e3:((nl:Int) == 0)=false:=by simp;omega
    obtain⟨m,em⟩:∃m,z.natAbs=m:=⟨_,rfl⟩
    rw[em] at hn hz
    have m0:m≠0:=by omega
    obtain⟨ad,rfl,rfl,hat⟩:=hn.one m0 hz
    have hat:=Sub.at (Le.sub (a:=h0) (b:=h)) hat
    have m4:m % 4 < 4:=Nat.mod_lt _ (by decide)
    by_cases hs:z < 0
    · have em4:(4 - ((m % 4:Nat):Int)).tmod 4=z % 4:=by
        rw[Int.tmod_eq_emod_of_nonneg (by omega)]
        omega
      rw[decide_eq_true hs]
      clear em e1 hn hnl
      refine Spec.go [] Tryz.func163 rfl rfl (by kernel_rfl) fun C _=>?_
      try simp(disch:=omega) only[go_sem,Nat.reduceBEq,Nat.reduceAdd,e3]
      refine ld1_of hat ?_
      try simp(disch:=omega) only[go_sem,Nat.reduceBEq,Nat.reduceAdd]
      rw[em4]
    · have em4:((m % 4:Nat):Int)=z % 4:=by omega
      rw[decide_eq_false hs]
      clear em e1 hn hnl
      refine Spec.go [] Tryz.func163 rfl rfl (by kernel_rfl) fun C _=>?_
      try simp(disch:=omega) only[go_sem,Nat.reduceBEq,Nat.reduceAdd,e3]
      refine ld1_of hat ?_
      try simp(disch:=omega) only[go_sem,Nat.reduceBEq,Nat.reduceAdd]
      rw[em4]
theorem half_rv {h:PH} {b c:Nat} (hb:h b=some #[.int .u32 1]) (hc:h c=some #[.int .u32 2]):Rv h (.agg #[.bool false,.slice (some ⟨b,0,none⟩) 1 1,.slice (some ⟨c,0,none⟩) 1 1]) (1 / 2):=by
  have e:qof false 1 2=1 / 2:=by decide+kernel
  refine⟨false,1,2,⟨some ⟨b,0,none⟩,1,[1],some ⟨c,0,none⟩,1,[2],rfl,Arr.of_row (fun _=>hb) (by decide) (by decide) (by decide),Arr.of_row (fun _=>hc) (by decide) (by decide) (by decide),rfl,rfl,by decide,by decide⟩,?_,e⟩
  unfold lg
  rw[e]
  decide+kernel
theorem ERest1_spec {h0 h:PH} [Le h0 h] {bk bx:Nat} {n1 n2:Bool} {na da nb db:Option Addr} {nl nc dl dc ml mc el ec:Nat} {v:Value} {k x c:Rat} (hk:h0 bk=some #[.bool n1,.slice na nl nc,.slice da dl dc]) (hx:h0 bx=some #[.bool n2,.slice nb ml mc,.slice db el ec])
    (ck:Cn h0 (.agg #[.bool n1,.slice na nl nc,.slice da dl dc]) k) (cx:Cn h0 (.agg #[.bool n2,.slice nb ml mc,.slice db el ec]) x) (cc:Cn h0 v c) (sk:sz k≤2048) (sx:sz x≤2048) (sc:sz c≤2048) (s1:sz (k*c)≤2048) (s2:sz (x+ -(k*c))≤2048):
    Spec mach 162 #[v,.pointer (some ⟨bk,0,none⟩),.pointer (some ⟨bx,0,none⟩)] h (fun r h'=>Cn h' r (x+ -(k*c))) NP:=by
  obtain⟨_,_,_,_,_,_,_,rfl,cc⟩:=cc.sa
  refine Spec.go [] Tryz.func162 rfl rfl (by kernel_rfl) fun C _=>?_
  try simp(disch:=omega) only[go_sem,Nat.reduceBEq,Nat.reduceAdd]
  refine ldm_of [.bool n1,.slice na nl nc,.slice da dl dc] rfl (at_rowB (pub_to hk)) ?_
  try simp(disch:=omega) only[go_sem,Nat.reduceBEq,Nat.reduceAdd]
  refine caN (by exact NumMul (Rv.of (ck.to (h':=h)) sk) (Rv.of cc.to sc)) ?_;rintro v1 h1 s1' p1;obtain⟨_,_,_,_,_,_,_,rfl,q1⟩:=p1.ok s1
  try simp(disch:=omega) only[go_sem,Nat.reduceBEq,Nat.reduceAdd]
  refine ldm_of [.bool n2,.slice nb ml mc,.slice db el ec] rfl (at_rowB (pub_to hx)) ?_
  try simp(disch:=omega) only[go_sem,Nat.reduceBEq,Nat.reduceAdd]
  refine caN (by exact NumSub (Rv.of (cx.to (h':=h1)) sx) (Rv.of q1 s1)) ?_;rintro v2 h2 s2' p2;obtain⟨_,_,_,_,_,_,_,rfl,q2⟩:=p2.ok s2
  try simp(disch:=omega) only[go_sem,Nat.reduceBEq,Nat.reduceAdd]
  exact q2
theorem fW_sz {w:Nat}:sz (fW w)≤w+6∧sz (gW w)≤w+6:=by
  obtain⟨b1,b2⟩:=bl_pi (w:=w)
  have h1:=sz_sgn false (piL w) (pow2_ne (w+1))
  have h2:=sz_sgn false (piH w) (pow2_ne (w+1))
  have h3:=bl_pow2 (w+1)
  unfold fW gW
  omega
theorem sz_k {z:Int} (h:z.natAbs < 4294967296):sz (z:Rat)≤32:=by
  have:=sz_int z
  have:bl z.natAbs≤32:=bl_le.2 (by omega)
  omega
theorem ERest_spec {h0 h:PH} [Le h0 h] {v:Value} {x:Rat} {w:Nat} (hx:Cn h0 v x) (bx:sz x≤1024) (hb:¬x.den*4294967296 < x.num.natAbs) (hw:64≤w) (hw':w≤192):
    Spec mach 115 #[v,.int .i64 w] h (fun r h'=>∃s,r=.tuple #[s,.int .i64 (rsK x w % 4)]∧Bk h' s (rsA x w) (rsB x w)) NP:=by
  obtain⟨a1,a2,a3,_⟩:=fW_bd hw hw'
  have f0:fW w≠0:=by grind
  obtain⟨k1,k2⟩:=rsK_bd hw hw' (num_bd hb)
  obtain⟨sf,sg⟩:=fW_sz (w:=w)
  have hK:rsK x w=(x*(fW w)⁻¹+1 / 2).floor:=rfl
  have s1:sz (x*(fW w)⁻¹)≤2048:=by have:=sz_mul x (fW w)⁻¹;have:=sz_inv (fW w);omega
  have s2:sz (x*(fW w)⁻¹+1 / 2)≤2048:=by
    have:=sz_add (x*(fW w)⁻¹) (1 / 2)
    have:sz (1 / 2)≤2:=by decide+kernel
    have:=sz_mul x (fW w)⁻¹
    have:=sz_inv (fW w)
    omega
  have hz:(rsK x w).natAbs < 4294967296:=by omega
  have sk:=sz_k hz
  have m1:=sz_mul (rsK x w:Rat) (fW w)
  have m2:=sz_mul (rsK x w:Rat) (gW w)
  have m3:=sz_add x (-((rsK x w:Rat)*fW w))
  have m4:=sz_add x (-((rsK x w:Rat)*gW w))
  rw[sz_neg] at m3 m4
  have m5:=sz_gd (x+ -((rsK x w:Rat)*fW w)) w
  have m6:=sz_gd (x+ -((rsK x w:Rat)*gW w)) w
  have m7:=sz_gu (x+ -((rsK x w:Rat)*fW w)) w
  have m8:=sz_gu (x+ -((rsK x w:Rat)*gW w)) w
  have eA:rsA x w=gdown (x+ -((rsK x w:Rat)*(if rsK x w < 0 then fW w else gW w))) w:=rfl
  have eB:rsB x w=gup (x+ -((rsK x w:Rat)*(if rsK x w < 0 then gW w else fW w))) w:=rfl
  rw[eA,eB]
  have en:((rsK x w:Rat)).num=rsK x w:=Rat.num_intCast _
  rw[←hK] at*
  have kF:∀{h1 h:PH} {q:Value} [Le h1 h],Cn h1 q (x*(fW w)⁻¹+1 / 2)→Spec mach 161 #[q] h (fun r h'=>∃b na nl nc da dl dc,r=.tuple #[.agg #[.bool b,.slice na nl nc,.slice da dl dc],.int .i64 0]∧Cn h' (.agg #[.bool b,.slice na nl nc,.slice da dl dc]) ((rsK x w:Int):Rat)) NP:=by
    intro h1 h q _ hq
    exact(NumFloor (Rv.of hq s2)).mono (fun r h' _ k=>Nc.ok k (show sz (rsK x w:Rat)≤2048 by omega)) (fun _ _ _ k=>k)
  clear eA eB hK a1 a2 a3 k1 k2 hb
  generalize rsK x w=z at*
  obtain⟨na,nl,nc,da,dl,dc,rfl,_,_,_,_⟩:=hx.parts
  have sq1:=Hid.mk s1
  have sq2:=Hid.mk s2
  have hz:=Hid.mk hz
  clear s1 s2
  generalize decide (x.num < 0)=nx at*
  have hbig:¬z < 0∨z < 0:=by omega
  have F:=Hid.mk (And.intro bx (And.intro sf (And.intro sg (And.intro sk (And.intro m1 (And.intro m2 (And.intro m3 (And.intro m4 (And.intro m5 (And.intro m6 (And.intro m7 m8)))))))))));clear bx sf sg sk m1 m2 m3 m4 m5 m6 m7 m8
  rcases hbig with hs |hs
  · simp only[if_neg hs]
    refine Spec.go [(2,.h [] [] [10,11] [10,11,0,1,2,3,5,6,7,8,4,9,12,13]),(6,.h [] [(7,11)] [2,3] [2,3,0,1,4,5]),(8,.h [(8,11)] [] [] [0,1,2,3]),(4,.t (.s [0,1,2] (.p 6 (.p 7 (.s [3,4,5,6,7,8] .d))))),(9,.t (.p 5 (.p 0 (.s [0,1] .d))))] Tryz.func115 rfl rfl (by kernel_rfl) fun C _=>?_
    try simp(disch:=omega) only[go_sem,Nat.reduceBEq,Nat.reduceAdd]
    refine caN (by exact EPi_spec (w:=w) (by have:=F.out;omega) (by have:=F.out;omega)) ?_;rintro v1 h1 s1 ⟨x1,n1,c1,y1,l1,d1,rfl,q1,q2⟩
    try simp(disch:=omega) only[go_sem,Nat.reduceBEq,Nat.reduceAdd]
    refine caN (by exact Rational_spec (n:=w+1) q1 (by have:=(bl_pi (w:=w)).1;omega) (by have:=F.out;omega)) ?_;rintro v2 h2 s2 q3;obtain⟨f1,f2,f3,f4,f5,f6,f7,rfl,q3⟩:=q3.sa
    try simp(disch:=omega) only[go_sem,Nat.reduceBEq,Nat.reduceAdd]
    refine caN (by exact Rational_spec (n:=w+1) (q2.to (h':=h2)) (by have:=(bl_pi (w:=w)).2;omega) (by have:=F.out;omega)) ?_;rintro v3 h3 s3 q4;obtain⟨g1,g2,g3,g4,g5,g6,g7,rfl,q4⟩:=q4.sa
    try simp(disch:=omega) only[go_sem,Nat.reduceBEq,Nat.reduceAdd]
    have q3:Cn h2 _ (fW w):=q3
    have q4:Cn h3 _ (gW w):=q4
    refine caN (by exact NumDiv (Rv.of (hx.to (h':=h3)) (by have:=F.out;omega)) (Rv.of (q3.to (h':=h3)) (by have:=F.out;omega)) f0) ?_;rintro v4 h4 s4 p4;obtain⟨_,_,_,_,_,_,_,rfl,q5⟩:=p4.ok sq1.out
    try simp(disch:=omega) only[go_sem,Nat.reduceBEq,Nat.reduceAdd]
    intro b5 h5 s5 hb5
    try simp(disch:=omega) only[go_sem,Nat.reduceBEq,Nat.reduceAdd]
    have hb5:h5 b5=some #[.int .u32 1]:=hb5 (by simp[uw])
    try simp(disch:=omega) only[go_sem,Nat.reduceBEq,Nat.reduceAdd]
    intro b6 h6 s6 hb6
    try simp(disch:=omega) only[go_sem,Nat.reduceBEq,Nat.reduceAdd]
    have hb6:h6 b6=some #[.int .u32 2]:=hb6 (by simp[uw])
    try simp(disch:=omega) only[go_sem,Nat.reduceBEq,Nat.reduceAdd]
    refine caN (by exact NumAdd (Rv.of (q5.to (h':=h6)) sq1.out) (half_rv (pub_to hb5) hb6)) ?_;rintro v7 h7 s7 p7;obtain⟨_,_,_,_,_,_,_,rfl,q7⟩:=p7.ok sq2.out
    try simp(disch:=omega) only[go_sem,Nat.reduceBEq,Nat.reduceAdd]
    refine caN (by exact kF q7) ?_;rintro v8 h8 s8 ⟨k1,k2,k3,k4,k5,k6,k7,rfl,q8⟩
    try simp(disch:=omega) only[go_sem,Nat.reduceBEq,Nat.reduceAdd]
    obtain⟨_,_,_,_,_,_,e,_,_,_,_⟩:=q8.parts
    cases e
    rw[en,decide_eq_false hs] at q8
    try simp(disch:=omega) only[go_sem,Nat.reduceBEq,Nat.reduceAdd,en,decide_eq_false hs]
    intro bk h9 s9 hbk
    try simp(disch:=omega) only[go_sem,Nat.reduceBEq,Nat.reduceAdd]
    have hbk:h9 bk=some #[.bool false,.slice k2 k3 k4,.slice k5 k6 k7]:=hbk (by simp)
    try simp(disch:=omega) only[go_sem,Nat.reduceBEq,Nat.reduceAdd]
    intro bx h10 s10 hbx
    try simp(disch:=omega) only[go_sem,Nat.reduceBEq,Nat.reduceAdd]
    have hbx:h10 bx=some #[.bool nx,.slice na nl nc,.slice da dl dc]:=hbx (by simp)
    try simp(disch:=omega) only[go_sem,Nat.reduceBEq,Nat.reduceAdd]
    refine caN (by exact ERest1_spec (h0:=h10) (pub_to hbk) hbx q8.to hx.to (q4.to (h':=h10)) (by have:=F.out;omega) (by have:=F.out;omega) (by have:=F.out;omega) (by have:=F.out;omega) (by have:=F.out;omega)) ?_;rintro v11 h11 s11 q11;obtain⟨_,_,_,_,_,_,_,rfl,q11⟩:=q11.sa
    try simp(disch:=omega) only[go_sem,Nat.reduceBEq,Nat.reduceAdd]
    refine caN (by exact NumDn (p:=w) (Rv.of q11 (by have:=F.out;omega)) (by have:=F.out;omega)) ?_;rintro v12 h12 s12 p12;obtain⟨_,_,_,_,_,_,_,rfl,q12⟩:=p12.ok (by have:=F.out;omega)
    try simp(disch:=omega) only[go_sem,Nat.reduceBEq,Nat.reduceAdd]
    refine caN (by exact ERest1_spec (h0:=h12) (pub_to hbk) (pub_to hbx) q8.to hx.to (q3.to (h':=h12)) (by have:=F.out;omega) (by have:=F.out;omega) (by have:=F.out;omega) (by have:=F.out;omega) (by have:=F.out;omega)) ?_;rintro v13 h13 s13 q13;obtain⟨_,_,_,_,_,_,_,rfl,q13⟩:=q13.sa
    try simp(disch:=omega) only[go_sem,Nat.reduceBEq,Nat.reduceAdd]
    refine caN (by exact NumUpw (p:=w) (Rv.of q13 (by have:=F.out;omega)) (by have:=F.out;omega)) ?_;rintro v14 h14 s14 p14;obtain⟨_,_,_,_,_,_,_,rfl,q14⟩:=p14.ok (by have:=F.out;omega)
    try simp(disch:=omega) only[go_sem,Nat.reduceBEq,Nat.reduceAdd]
    refine ldm_of [.bool false,.slice k2 k3 k4,.slice k5 k6 k7] rfl (at_rowB (pub_to hbk)) ?_
    try simp(disch:=omega) only[go_sem,Nat.reduceBEq,Nat.reduceAdd]
    refine caN (by exact EModulo_spec (q8.to (h':=h14)) hz.out) ?_;rintro v15 h15 s15 rfl
    try simp(disch:=omega) only[go_sem,Nat.reduceBEq,Nat.reduceAdd]
    exact⟨_,rfl,_,_,_,_,_,_,_,_,_,_,_,_,_,_,rfl,q12.to,q14.to⟩
  · simp only[if_pos hs]
    refine Spec.go [(2,.h [] [] [10,11] [10,11,0,1,2,3,5,6,7,8,4,9,12,13]),(6,.h [] [(7,11)] [2,3] [2,3,0,1,4,5]),(8,.h [(8,11)] [] [] [0,1,2,3]),(4,.t (.s [0,1,2] (.p 6 (.p 7 (.s [3,4,5,6,7,8] .d))))),(9,.t (.p 5 (.p 0 (.s [0,1] .d))))] Tryz.func115 rfl rfl (by kernel_rfl) fun C _=>?_
    try simp(disch:=omega) only[go_sem,Nat.reduceBEq,Nat.reduceAdd]
    refine caN (by exact EPi_spec (w:=w) (by have:=F.out;omega) (by have:=F.out;omega)) ?_;rintro v1 h1 s1 ⟨x1,n1,c1,y1,l1,d1,rfl,q1,q2⟩
    try simp(disch:=omega) only[go_sem,Nat.reduceBEq,Nat.reduceAdd]
    refine caN (by exact Rational_spec (n:=w+1) q1 (by have:=(bl_pi (w:=w)).1;omega) (by have:=F.out;omega)) ?_;rintro v2 h2 s2 q3;obtain⟨f1,f2,f3,f4,f5,f6,f7,rfl,q3⟩:=q3.sa
    try simp(disch:=omega) only[go_sem,Nat.reduceBEq,Nat.reduceAdd]
    refine caN (by exact Rational_spec (n:=w+1) (q2.to (h':=h2)) (by have:=(bl_pi (w:=w)).2;omega) (by have:=F.out;omega)) ?_;rintro v3 h3 s3 q4;obtain⟨g1,g2,g3,g4,g5,g6,g7,rfl,q4⟩:=q4.sa
    try simp(disch:=omega) only[go_sem,Nat.reduceBEq,Nat.reduceAdd]
    have q3:Cn h2 _ (fW w):=q3
    have q4:Cn h3 _ (gW w):=q4
    refine caN (by exact NumDiv (Rv.of (hx.to (h':=h3)) (by have:=F.out;omega)) (Rv.of (q3.to (h':=h3)) (by have:=F.out;omega)) f0) ?_;rintro v4 h4 s4 p4;obtain⟨_,_,_,_,_,_,_,rfl,q5⟩:=p4.ok sq1.out
    try simp(disch:=omega) only[go_sem,Nat.reduceBEq,Nat.reduceAdd]
    intro b5 h5 s5 hb5
    try simp(disch:=omega) only[go_sem,Nat.reduceBEq,Nat.reduceAdd]
    have hb5:h5 b5=some #[.int .u32 1]:=hb5 (by simp[uw])
    try simp(disch:=omega) only[go_sem,Nat.reduceBEq,Nat.reduceAdd]
    intro b6 h6 s6 hb6
    try simp(disch:=omega) only[go_sem,Nat.reduceBEq,Nat.reduceAdd]
    have hb6:h6 b6=some #[.int .u32 2]:=hb6 (by simp[uw])
    try simp(disch:=omega) only[go_sem,Nat.reduceBEq,Nat.reduceAdd]
    refine caN (by exact NumAdd (Rv.of (q5.to (h':=h6)) sq1.out) (half_rv (pub_to hb5) hb6)) ?_;rintro v7 h7 s7 p7;obtain⟨_,_,_,_,_,_,_,rfl,q7⟩:=p7.ok sq2.out
    try simp(disch:=omega) only[go_sem,Nat.reduceBEq,Nat.reduceAdd]
    refine caN (by exact kF q7) ?_;rintro v8 h8 s8 ⟨k1,k2,k3,k4,k5,k6,k7,rfl,q8⟩
    try simp(disch:=omega) only[go_sem,Nat.reduceBEq,Nat.reduceAdd]
    obtain⟨_,_,_,_,_,_,e,_,_,_,_⟩:=q8.parts
    cases e
    rw[en,decide_eq_true hs] at q8
    try simp(disch:=omega) only[go_sem,Nat.reduceBEq,Nat.reduceAdd,en,decide_eq_true hs]
    intro bk h9 s9 hbk
    try simp(disch:=omega) only[go_sem,Nat.reduceBEq,Nat.reduceAdd]
    have hbk:h9 bk=some #[.bool true,.slice k2 k3 k4,.slice k5 k6 k7]:=hbk (by simp)
    try simp(disch:=omega) only[go_sem,Nat.reduceBEq,Nat.reduceAdd]
    intro bx h10 s10 hbx
    try simp(disch:=omega) only[go_sem,Nat.reduceBEq,Nat.reduceAdd]
    have hbx:h10 bx=some #[.bool nx,.slice na nl nc,.slice da dl dc]:=hbx (by simp)
    try simp(disch:=omega) only[go_sem,Nat.reduceBEq,Nat.reduceAdd]
    refine caN (by exact ERest1_spec (h0:=h10) (pub_to hbk) hbx q8.to hx.to (q3.to (h':=h10)) (by have:=F.out;omega) (by have:=F.out;omega) (by have:=F.out;omega) (by have:=F.out;omega) (by have:=F.out;omega)) ?_;rintro v11 h11 s11 q11;obtain⟨_,_,_,_,_,_,_,rfl,q11⟩:=q11.sa
    try simp(disch:=omega) only[go_sem,Nat.reduceBEq,Nat.reduceAdd]
    refine caN (by exact NumDn (p:=w) (Rv.of q11 (by have:=F.out;omega)) (by have:=F.out;omega)) ?_;rintro v12 h12 s12 p12;obtain⟨_,_,_,_,_,_,_,rfl,q12⟩:=p12.ok (by have:=F.out;omega)
    try simp(disch:=omega) only[go_sem,Nat.reduceBEq,Nat.reduceAdd]
    refine caN (by exact ERest1_spec (h0:=h12) (pub_to hbk) (pub_to hbx) q8.to hx.to (q4.to (h':=h12)) (by have:=F.out;omega) (by have:=F.out;omega) (by have:=F.out;omega) (by have:=F.out;omega) (by have:=F.out;omega)) ?_;rintro v13 h13 s13 q13;obtain⟨_,_,_,_,_,_,_,rfl,q13⟩:=q13.sa
    try simp(disch:=omega) only[go_sem,Nat.reduceBEq,Nat.reduceAdd]
    refine caN (by exact NumUpw (p:=w) (Rv.of q13 (by have:=F.out;omega)) (by have:=F.out;omega)) ?_;rintro v14 h14 s14 p14;obtain⟨_,_,_,_,_,_,_,rfl,q14⟩:=p14.ok (by have:=F.out;omega)
    try simp(disch:=omega) only[go_sem,Nat.reduceBEq,Nat.reduceAdd]
    refine ldm_of [.bool true,.slice k2 k3 k4,.slice k5 k6 k7] rfl (at_rowB (pub_to hbk)) ?_
    try simp(disch:=omega) only[go_sem,Nat.reduceBEq,Nat.reduceAdd]
    refine caN (by exact EModulo_spec (q8.to (h':=h14)) hz.out) ?_;rintro v15 h15 s15 rfl
    try simp(disch:=omega) only[go_sem,Nat.reduceBEq,Nat.reduceAdd]
    exact⟨_,rfl,_,_,_,_,_,_,_,_,_,_,_,_,_,_,rfl,q12.to,q14.to⟩
end Go.Q
namespace Go.Q
open Go.Proofs
set_option maxRecDepth 100000
set_option maxHeartbeats 8000000
def snl (x:Rat) (w:Nat):Rat:=snAt (rsA x w) w true
def snh (x:Rat) (w:Nat):Rat:=snAt (rsB x w) w false
def csl (x:Rat) (w:Nat):Rat:=sgn false (wvL (csX (rsA x w) (rsB x w) w) w 1) (2^w)
def csh (x:Rat) (w:Nat):Rat:=sgn false (wvH (csN (rsA x w) (rsB x w) w) w 1) (2^w)
def siL (x:Rat) (w:Nat):Rat:=if rsK x w % 4=1 then csl x w else if rsK x w % 4=2 then -snh x w else if rsK x w % 4=3 then -csh x w else snl x w
def siH (x:Rat) (w:Nat):Rat:=if rsK x w % 4=1 then csh x w else if rsK x w % 4=2 then -snl x w else if rsK x w % 4=3 then -csl x w else snh x w
def coL (x:Rat) (w:Nat):Rat:=if rsK x w % 4=1 then -snh x w else if rsK x w % 4=2 then -csh x w else if rsK x w % 4=3 then snl x w else csl x w
def coH (x:Rat) (w:Nat):Rat:=if rsK x w % 4=1 then -snl x w else if rsK x w % 4=2 then -csl x w else if rsK x w % 4=3 then snh x w else csh x w
theorem rs_glo {x:Rat} {w:Nat} (h1:64≤w) (h2:w≤192) (hb:¬x.den*4294967296 < x.num.natAbs):glo (rsA x w) w≤2^w∧glo (rsB x w) w≤2^w:=by
  obtain⟨a1,a2,a3⟩:=rs_bd h1 h2 (num_bd hb)
  exact⟨(g_le (abs_num a1 (by grind))).1,(g_le (abs_num (by grind) a3)).1⟩
theorem cs_sz {y w:Nat}:sz (sgn false (wvL y w 1) (2^w))≤w+2∧sz (sgn false (wvH y w 1) (2^w))≤w+2:=by
  obtain⟨w1,w2⟩:=waV_le (w:=w) (f:=1) (s:=sqL y w) (t:=sqH y w) (by decide) 24
  have h0:=bl_pow2 w
  have h1:=bl_pow_le (n:=wvL y w 1) (w:=w) (by unfold wvL;omega)
  have h2:=bl_pow_le (n:=wvH y w 1) (w:=w) (by unfold wvH;omega)
  have h3:=sz_sgn false (wvL y w 1) (pow2_ne w)
  have h4:=sz_sgn false (wvH y w 1) (pow2_ne w)
  omega
theorem rs_sz {x:Rat} {w:Nat} (bx:sz x≤1024) (hb:¬x.den*4294967296 < x.num.natAbs) (hw:64≤w) (hw':w≤192):sz (rsA x w)≤2048∧sz (rsB x w)≤2048:=by
  obtain⟨k1,k2⟩:=rsK_bd hw hw' (num_bd hb)
  obtain⟨sf,sg⟩:=fW_sz (w:=w)
  have sk:=sz_k (z:=rsK x w) (by omega)
  have m1:=sz_mul (rsK x w:Rat) (fW w)
  have m2:=sz_mul (rsK x w:Rat) (gW w)
  have m3:=sz_add x (-((rsK x w:Rat)*fW w))
  have m4:=sz_add x (-((rsK x w:Rat)*gW w))
  rw[sz_neg] at m3 m4
  have m5:=sz_gd (x+ -((rsK x w:Rat)*fW w)) w
  have m6:=sz_gd (x+ -((rsK x w:Rat)*gW w)) w
  have m7:=sz_gu (x+ -((rsK x w:Rat)*fW w)) w
  have m8:=sz_gu (x+ -((rsK x w:Rat)*gW w)) w
  unfold rsA rsB
  split<;>omega
theorem EBoth_spec {h0 h:PH} [Le h0 h] {v:Value} {x:Rat} {w:Nat} (hx:Cn h0 v x) (bx:sz x≤1024) (hb:¬x.den*4294967296 < x.num.natAbs) (hw:64≤w) (hw':w≤192):
    Spec mach 84 #[v,.int .i64 w] h (fun r h'=>∃s t,r=.tuple #[s,t]∧Bk h' s (siL x w) (siH x w)∧Bk h' t (coL x w) (coH x w)) NP:=by
  have kR:=fun {h} [Le h0 h]=>ERest_spec (h:=h) hx bx hb hw hw'
  obtain⟨l1,l2⟩:=rs_glo hw hw' hb
  obtain⟨z1,z2⟩:=rs_sz bx hb hw hw'
  obtain⟨c1,_⟩:=cs_sz (y:=csX (rsA x w) (rsB x w) w) (w:=w)
  obtain⟨_,c2⟩:=cs_sz (y:=csN (rsA x w) (rsB x w) w) (w:=w)
  have c1:sz (csl x w)≤w+2:=c1
  have c2:sz (csh x w)≤w+2:=c2
  have n1:sz (snl x w)≤w+2:=snAt_sz l1
  have n2:sz (snh x w)≤w+2:=snAt_sz l2
  have kS:∀{h1 h:PH} {v:Value} [Le h1 h],Bk h1 v (rsA x w) (rsB x w)→Spec mach 116 #[v,.int .i64 w] h (fun r h'=>Bk h' r (snl x w) (snh x w)) NP:=fun k=>ESine_spec k z1 z2 l1 l2 (by omega) (by omega)
  have kC:∀{h1 h:PH} {v:Value} [Le h1 h],Bk h1 v (rsA x w) (rsB x w)→Spec mach 117 #[v,.int .i64 w] h (fun r h'=>Bk h' r (csl x w) (csh x w)) NP:=fun k=>ECosine_spec k z1 z2 l1 l2 (by omega) (by omega)
  unfold siL siH coL coH
  generalize snl x w=sl at*
  generalize snh x w=sh at*
  generalize csl x w=cl at*
  generalize csh x w=ch at*
  generalize rsA x w=A at*
  generalize rsB x w=B at*
  generalize rsK x w=k at*
  have n1:sz sl≤2048:=by omega
  have n2:sz sh≤2048:=by omega
  have c1:sz cl≤2048:=by omega
  have c2:sz ch≤2048:=by omega
  obtain⟨na,nl,nc,da,dl,dc,rfl,_,_,_,_⟩:=hx.parts
  clear bx hb l1 l2 z1 z2 hx
  have hk:k % 4=1∨k % 4=2∨k % 4=3∨k % 4=0:=by omega
  generalize k % 4=q at*
  rcases hk with rfl |rfl |rfl |rfl
  · rw[if_pos rfl,if_pos rfl,if_pos rfl,if_pos rfl]
    refine Spec.go [(2,.h [] [] [6,7] [6,7,0,1,3,4,2,5,8,9]),(7,.o [0,2,1,3,4,5]),(9,.h [(8,4)] [] [] [0,2,1,3,4]),(10,.h [(9,4)] [] [] [0,1,2,3])] Tryz.func84 rfl rfl (by kernel_rfl) fun C _=>?_
    try simp(disch:=omega) only[go_sem,Nat.reduceBEq,Nat.reduceAdd]
    refine caN (by exact kR) ?_;rintro v1 h1 s1 ⟨u,rfl,q1⟩;obtain⟨_,_,_,_,_,_,_,_,_,_,_,_,_,_,rfl,q1⟩:=q1.sp
    try simp(disch:=omega) only[go_sem,Nat.reduceBEq,Nat.reduceAdd]
    refine caN (by exact kS q1) ?_;rintro v2 h2 s2 q2;obtain⟨_,_,_,_,_,_,_,_,_,_,_,_,_,_,rfl,q2⟩:=q2.sp
    try simp(disch:=omega) only[go_sem,Nat.reduceBEq,Nat.reduceAdd]
    refine caN (by exact kC (q1.to (h':=h2))) ?_;rintro v3 h3 s3 q3;obtain⟨_,_,_,_,_,_,_,_,_,_,_,_,_,_,rfl,q3⟩:=q3.sp
    try simp(disch:=omega) only[go_sem,Nat.reduceBEq,Nat.reduceAdd]
    refine caN (by exact EMinus_spec (q2.to (h':=h3)) n1 n2) ?_;rintro v4 h4 s4 q4;obtain⟨_,_,_,_,_,_,_,_,_,_,_,_,_,_,rfl,q4⟩:=q4.sp
    try simp(disch:=omega) only[go_sem,Nat.reduceBEq,Nat.reduceAdd]
    exact⟨_,_,rfl,q3.to,q4⟩
  · rw[if_neg (by decide),if_pos rfl,if_neg (by decide),if_pos rfl,if_neg (by decide),if_pos rfl,if_neg (by decide),if_pos rfl]
    refine Spec.go [(2,.h [] [] [6,7] [6,7,0,1,3,4,2,5,8,9]),(7,.o [0,2,1,3,4,5]),(9,.h [(8,4)] [] [] [0,2,1,3,4]),(10,.h [(9,4)] [] [] [0,1,2,3])] Tryz.func84 rfl rfl (by kernel_rfl) fun C _=>?_
    try simp(disch:=omega) only[go_sem,Nat.reduceBEq,Nat.reduceAdd]
    refine caN (by exact kR) ?_;rintro v1 h1 s1 ⟨u,rfl,q1⟩;obtain⟨_,_,_,_,_,_,_,_,_,_,_,_,_,_,rfl,q1⟩:=q1.sp
    try simp(disch:=omega) only[go_sem,Nat.reduceBEq,Nat.reduceAdd]
    refine caN (by exact kS q1) ?_;rintro v2 h2 s2 q2;obtain⟨_,_,_,_,_,_,_,_,_,_,_,_,_,_,rfl,q2⟩:=q2.sp
    try simp(disch:=omega) only[go_sem,Nat.reduceBEq,Nat.reduceAdd]
    refine caN (by exact kC (q1.to (h':=h2))) ?_;rintro v3 h3 s3 q3;obtain⟨_,_,_,_,_,_,_,_,_,_,_,_,_,_,rfl,q3⟩:=q3.sp
    try simp(disch:=omega) only[go_sem,Nat.reduceBEq,Nat.reduceAdd]
    refine caN (by exact EMinus_spec (q2.to (h':=h3)) n1 n2) ?_;rintro v4 h4 s4 q4;obtain⟨_,_,_,_,_,_,_,_,_,_,_,_,_,_,rfl,q4⟩:=q4.sp
    try simp(disch:=omega) only[go_sem,Nat.reduceBEq,Nat.reduceAdd]
    refine caN (by exact EMinus_spec (q3.to (h':=h4)) c1 c2) ?_;rintro v5 h5 s5 q5;obtain⟨_,_,_,_,_,_,_,_,_,_,_,_,_,_,rfl,q5⟩:=q5.sp
    try simp(disch:=omega) only[go_sem,Nat.reduceBEq,Nat.reduceAdd]
    exact⟨_,_,rfl,q4.to,q5⟩
  · rw[if_neg (by decide),if_neg (by decide),if_pos rfl,if_neg (by decide),if_neg (by decide),if_pos rfl,if_neg (by decide),if_neg (by decide),if_pos rfl,if_neg (by decide),if_neg (by decide),if_pos rfl]
    refine Spec.go [(2,.h [] [] [6,7] [6,7,0,1,3,4,2,5,8,9]),(7,.o [0,2,1,3,4,5]),(9,.h [(8,4)] [] [] [0,2,1,3,4]),(10,.h [(9,4)] [] [] [0,1,2,3])] Tryz.func84 rfl rfl (by kernel_rfl) fun C _=>?_
    try simp(disch:=omega) only[go_sem,Nat.reduceBEq,Nat.reduceAdd]
    refine caN (by exact kR) ?_;rintro v1 h1 s1 ⟨u,rfl,q1⟩;obtain⟨_,_,_,_,_,_,_,_,_,_,_,_,_,_,rfl,q1⟩:=q1.sp
    try simp(disch:=omega) only[go_sem,Nat.reduceBEq,Nat.reduceAdd]
    refine caN (by exact kS q1) ?_;rintro v2 h2 s2 q2;obtain⟨_,_,_,_,_,_,_,_,_,_,_,_,_,_,rfl,q2⟩:=q2.sp
    try simp(disch:=omega) only[go_sem,Nat.reduceBEq,Nat.reduceAdd]
    refine caN (by exact kC (q1.to (h':=h2))) ?_;rintro v3 h3 s3 q3;obtain⟨_,_,_,_,_,_,_,_,_,_,_,_,_,_,rfl,q3⟩:=q3.sp
    try simp(disch:=omega) only[go_sem,Nat.reduceBEq,Nat.reduceAdd]
    refine caN (by exact EMinus_spec (q3.to (h':=h3)) c1 c2) ?_;rintro v4 h4 s4 q4;obtain⟨_,_,_,_,_,_,_,_,_,_,_,_,_,_,rfl,q4⟩:=q4.sp
    try simp(disch:=omega) only[go_sem,Nat.reduceBEq,Nat.reduceAdd]
    exact⟨_,_,rfl,q4,q2.to⟩
  · rw[if_neg (by decide),if_neg (by decide),if_neg (by decide),if_neg (by decide),if_neg (by decide),if_neg (by decide),if_neg (by decide),if_neg (by decide),if_neg (by decide),if_neg (by decide),if_neg (by decide),if_neg (by decide)]
    refine Spec.go [(2,.h [] [] [6,7] [6,7,0,1,3,4,2,5,8,9]),(7,.o [0,2,1,3,4,5]),(9,.h [(8,4)] [] [] [0,2,1,3,4]),(10,.h [(9,4)] [] [] [0,1,2,3])] Tryz.func84 rfl rfl (by kernel_rfl) fun C _=>?_
    try simp(disch:=omega) only[go_sem,Nat.reduceBEq,Nat.reduceAdd]
    refine caN (by exact kR) ?_;rintro v1 h1 s1 ⟨u,rfl,q1⟩;obtain⟨_,_,_,_,_,_,_,_,_,_,_,_,_,_,rfl,q1⟩:=q1.sp
    try simp(disch:=omega) only[go_sem,Nat.reduceBEq,Nat.reduceAdd]
    refine caN (by exact kS q1) ?_;rintro v2 h2 s2 q2;obtain⟨_,_,_,_,_,_,_,_,_,_,_,_,_,_,rfl,q2⟩:=q2.sp
    try simp(disch:=omega) only[go_sem,Nat.reduceBEq,Nat.reduceAdd]
    refine caN (by exact kC (q1.to (h':=h2))) ?_;rintro v3 h3 s3 q3;obtain⟨_,_,_,_,_,_,_,_,_,_,_,_,_,_,rfl,q3⟩:=q3.sp
    try simp(disch:=omega) only[go_sem,Nat.reduceBEq,Nat.reduceAdd]
    exact⟨_,_,rfl,q2.to,q3⟩
theorem sc_sz {x:Rat} {w:Nat} (hb:¬x.den*4294967296 < x.num.natAbs) (hw:64≤w) (hw':w≤192):sz (siL x w)≤w+2∧sz (siH x w)≤w+2∧sz (coL x w)≤w+2∧sz (coH x w)≤w+2:=by
  obtain⟨l1,l2⟩:=rs_glo hw hw' hb
  obtain⟨c1,_⟩:=cs_sz (y:=csX (rsA x w) (rsB x w) w) (w:=w)
  obtain⟨_,c2⟩:=cs_sz (y:=csN (rsA x w) (rsB x w) w) (w:=w)
  have c1:sz (csl x w)≤w+2:=c1
  have c2:sz (csh x w)≤w+2:=c2
  have n1:sz (snl x w)≤w+2:=snAt_sz l1
  have n2:sz (snh x w)≤w+2:=snAt_sz l2
  have e1:=sz_neg (snl x w)
  have e2:=sz_neg (snh x w)
  have e3:=sz_neg (csl x w)
  have e4:=sz_neg (csh x w)
  unfold siL siH coL coH
  refine⟨?_,?_,?_,?_⟩<;>(repeat' split)<;>omega
theorem ESin_spec {h0 h:PH} [Le h0 h] {v:Value} {x:Rat} {p:Nat} (hx:Cn h0 v x) (bx:sz x≤1024) (hb:¬x.den*4294967296 < x.num.natAbs) (hp:p≤128):Spec mach 36 #[v,.int .i64 p] h (fun r h'=>Be h' r (gdown (siL x (p+64)) p) (gup (siH x (p+64)) p)) NP:=by
  have kB:=fun {h} [Le h0 h]=>EBoth_spec (h:=h) (w:=p+64) hx bx hb (by omega) (by omega)
  obtain⟨z1,z2,_,_⟩:=sc_sz (w:=p+64) hb (by omega) (by omega)
  have y1:=sz_gd (siL x (p+64)) p
  have y2:=sz_gu (siH x (p+64)) p
  obtain⟨_,_,_,_,_,_,_,rfl,_⟩:=hx.sa
  clear hb bx
  have F:=Hid.mk (And.intro z1 (And.intro z2 (And.intro y1 y2)));clear z1 z2 y1 y2
  refine Spec.go [] Tryz.func36 rfl rfl (by kernel_rfl) fun C _=>?_
  try simp(disch:=omega) only[go_sem,Nat.reduceBEq,Nat.reduceAdd]
  refine caN (by exact kB) ?_;rintro v1 h1 s1 ⟨u,t,rfl,q1,q2⟩;obtain⟨_,_,_,_,_,_,_,_,_,_,_,_,_,_,rfl,k1,k2⟩:=q1;obtain⟨_,_,_,_,_,_,_,_,_,_,_,_,_,_,rfl,q2⟩:=q2.sp
  try simp(disch:=omega) only[go_sem,Nat.reduceBEq,Nat.reduceAdd]
  refine caN (by exact ERounded_spec (p:=p) k1 k2 (by have:=F.out;omega) (by have:=F.out;omega) (by have:=F.out;omega) (by have:=F.out;omega) (by have:=F.out;omega)) ?_;rintro v2 h2 s2 ⟨_,_,_,_,_,_,_,_,_,_,_,_,_,_,rfl,r1,r2⟩
  try simp(disch:=omega) only[go_sem,Nat.reduceBEq,Nat.reduceAdd]
  exact⟨_,_,_,_,_,_,_,_,_,_,_,_,_,_,rfl,r1,r2⟩
theorem ECos_spec {h0 h:PH} [Le h0 h] {v:Value} {x:Rat} {p:Nat} (hx:Cn h0 v x) (bx:sz x≤1024) (hb:¬x.den*4294967296 < x.num.natAbs) (hp:p≤128):Spec mach 37 #[v,.int .i64 p] h (fun r h'=>Be h' r (gdown (coL x (p+64)) p) (gup (coH x (p+64)) p)) NP:=by
  have kB:=fun {h} [Le h0 h]=>EBoth_spec (h:=h) (w:=p+64) hx bx hb (by omega) (by omega)
  obtain⟨_,_,z1,z2⟩:=sc_sz (w:=p+64) hb (by omega) (by omega)
  have y1:=sz_gd (coL x (p+64)) p
  have y2:=sz_gu (coH x (p+64)) p
  obtain⟨_,_,_,_,_,_,_,rfl,_⟩:=hx.sa
  clear hb bx
  have F:=Hid.mk (And.intro z1 (And.intro z2 (And.intro y1 y2)));clear z1 z2 y1 y2
  refine Spec.go [] Tryz.func37 rfl rfl (by kernel_rfl) fun C _=>?_
  try simp(disch:=omega) only[go_sem,Nat.reduceBEq,Nat.reduceAdd]
  refine caN (by exact kB) ?_;rintro v1 h1 s1 ⟨u,t,rfl,q1,q2⟩;obtain⟨_,_,_,_,_,_,_,_,_,_,_,_,_,_,rfl,k1,k2⟩:=q2;obtain⟨_,_,_,_,_,_,_,_,_,_,_,_,_,_,rfl,q1⟩:=q1.sp
  try simp(disch:=omega) only[go_sem,Nat.reduceBEq,Nat.reduceAdd]
  refine caN (by exact ERounded_spec (p:=p) k1 k2 (by have:=F.out;omega) (by have:=F.out;omega) (by have:=F.out;omega) (by have:=F.out;omega) (by have:=F.out;omega)) ?_;rintro v2 h2 s2 ⟨_,_,_,_,_,_,_,_,_,_,_,_,_,_,rfl,r1,r2⟩
  try simp(disch:=omega) only[go_sem,Nat.reduceBEq,Nat.reduceAdd]
  exact⟨_,_,_,_,_,_,_,_,_,_,_,_,_,_,rfl,r1,r2⟩
end Go.Q
namespace Go.Q
open Go.Proofs
set_option maxRecDepth 100000
set_option maxHeartbeats 8000000
def eErr (fn:Int) (x:Rat) (p:Int):Int:=if ¬(1≤fn∧fn≤8)∨p < 0∨128 < p then 2 else if defB fn x=false then 5 else if 1024 < sz x∨(fn=1∧x.den*64 < x.num.natAbs)∨((fn=3∨fn=4∨fn=5)∧x.den*4294967296 < x.num.natAbs) then 20 else 0
theorem eErr_2 {fn:Int} {x:Rat} {p:Int} (h:¬(1≤fn∧fn≤8)∨p < 0∨128 < p):eErr fn x p=2:=if_pos h
theorem eErr_5 {fn:Int} {x:Rat} {p:Int} (h:¬(¬(1≤fn∧fn≤8)∨p < 0∨128 < p)) (hd:defB fn x=false):eErr fn x p=5:=by unfold eErr;rw[if_neg h,if_pos hd]
theorem eErr_20 {fn:Int} {x:Rat} {p:Int} (h:¬(¬(1≤fn∧fn≤8)∨p < 0∨128 < p)) (hd:defB fn x=true) (hb:1024 < sz x∨(fn=1∧x.den*64 < x.num.natAbs)∨((fn=3∨fn=4∨fn=5)∧x.den*4294967296 < x.num.natAbs)):eErr fn x p=20:=by unfold eErr;rw[if_neg h,hd,if_neg (by decide),if_pos hb]
theorem eErr_0 {fn:Int} {x:Rat} {p:Int} (h:¬(¬(1≤fn∧fn≤8)∨p < 0∨128 < p)) (hd:defB fn x=true) (hb:¬(1024 < sz x∨(fn=1∧x.den*64 < x.num.natAbs)∨((fn=3∨fn=4∨fn=5)∧x.den*4294967296 < x.num.natAbs))):eErr fn x p=0:=by unfold eErr;rw[if_neg h,hd,if_neg (by decide),if_neg hb]
def Re0 (h:PH) (r:Value) (e:Int) (x:Rat):Prop:=∃b na nl nc da dl dc,r=.tuple #[.agg #[.bool b,.slice na nl nc,.slice da dl dc],.int .i64 e]∧(e=0→Cn h (.agg #[.bool b,.slice na nl nc,.slice da dl dc]) x)
theorem EReady_spec {h0 h:PH} [Le h0 h] {v:Value} {x:Rat} {fn p:Int} (hx:Rv h0 v x):Spec mach 94 #[.int .i64 fn,v,.int .i64 p] h (fun r h'=>Re0 h' r (eErr fn x p) x) NP:=by
  have bx:=hx.sz
  by_cases hf:1≤fn∧fn≤8
  case neg=>
    have kK:=fun {h} [Le h0 h]=>EKnown_arg (h:=h) hx hf
    rw[eErr_2 (.inl hf)]
    obtain⟨_,_,_,_,_,_,_,rfl,_⟩:=hx.sa
    refine Spec.go [] Tryz.func94 rfl rfl (by kernel_rfl) fun C _=>?_
    try simp(disch:=omega) only[go_sem,Nat.reduceBEq,Nat.reduceAdd]
    refine caN (by exact kK) ?_;rintro v1 h1 s1 rfl
    try simp(disch:=omega) only[go_sem,Nat.reduceBEq,Nat.reduceAdd]
    exact⟨_,_,_,_,_,_,_,rfl,fun e=>by cases e⟩
  have kK:=fun {h} [Le h0 h]=>EKnown_ok (h:=h) (fn:=fn) hx hf
  by_cases hp0:p < 0
  · rw[eErr_2 (.inr (.inl hp0))]
    obtain⟨_,_,_,_,_,_,_,rfl,_⟩:=hx.sa
    refine Spec.go [] Tryz.func94 rfl rfl (by kernel_rfl) fun C _=>?_
    try simp(disch:=omega) only[go_sem,Nat.reduceBEq,Nat.reduceAdd]
    refine caN (by exact kK) ?_;rintro v1 h1 s1 ⟨_,_,_,_,_,_,_,rfl,c⟩
    try simp(disch:=omega) only[go_sem,Nat.reduceBEq,Nat.reduceAdd]
    exact⟨_,_,_,_,_,_,_,rfl,fun e=>by cases e⟩
  by_cases hp1:128 < p
  · rw[eErr_2 (.inr (.inr hp1))]
    obtain⟨_,_,_,_,_,_,_,rfl,_⟩:=hx.sa
    refine Spec.go [] Tryz.func94 rfl rfl (by kernel_rfl) fun C _=>?_
    try simp(disch:=omega) only[go_sem,Nat.reduceBEq,Nat.reduceAdd]
    refine caN (by exact kK) ?_;rintro v1 h1 s1 ⟨_,_,_,_,_,_,_,rfl,c⟩
    try simp(disch:=omega) only[go_sem,Nat.reduceBEq,Nat.reduceAdd]
    exact⟨_,_,_,_,_,_,_,rfl,fun e=>by cases e⟩
  have hA:¬(¬(1≤fn∧fn≤8)∨p < 0∨128 < p):=by omega
  obtain⟨_,_,_,_,_,_,_,rfl,_⟩:=hx.sa
  cases hd:defB fn x with
  | false=>
    rw[eErr_5 hA hd]
    clear hA
    refine Spec.go [] Tryz.func94 rfl rfl (by kernel_rfl) fun C _=>?_
    try simp(disch:=omega) only[go_sem,Nat.reduceBEq,Nat.reduceAdd]
    refine caN (by exact kK) ?_;rintro v1 h1 s1 ⟨_,_,_,_,_,_,_,rfl,c⟩
    try simp(disch:=omega) only[go_sem,Nat.reduceBEq,Nat.reduceAdd]
    refine caN (by exact EDefined_spec (fn:=fn) c) ?_;rintro v2 h2 s2 rfl
    try simp(disch:=omega) only[go_sem,Nat.reduceBEq,Nat.reduceAdd]
    try rw[hd]
    try simp(disch:=omega) only[go_sem,Nat.reduceBEq,Nat.reduceAdd]
    exact⟨_,_,_,_,_,_,_,rfl,fun e=>by cases e⟩
  | true=>
    by_cases hl:1024 < sz x
    · rw[eErr_20 hA hd (.inl hl)]
      have hl:=decide_eq_true hl
      clear hA
      refine Spec.go [] Tryz.func94 rfl rfl (by kernel_rfl) fun C _=>?_
      try simp(disch:=omega) only[go_sem,Nat.reduceBEq,Nat.reduceAdd]
      refine caN (by exact kK) ?_;rintro v1 h1 s1 ⟨_,_,_,_,_,_,_,rfl,c⟩
      try simp(disch:=omega) only[go_sem,Nat.reduceBEq,Nat.reduceAdd]
      refine caN (by exact EDefined_spec (fn:=fn) c) ?_;rintro v2 h2 s2 rfl
      try simp(disch:=omega) only[go_sem,Nat.reduceBEq,Nat.reduceAdd]
      try rw[hd]
      try simp(disch:=omega) only[go_sem,Nat.reduceBEq,Nat.reduceAdd]
      refine caN (by exact TooLong_spec (c.to (h':=h2))) ?_;rintro v3 h3 s3 rfl
      try simp(disch:=omega) only[go_sem,Nat.reduceBEq,Nat.reduceAdd]
      try rw[hl]
      try simp(disch:=omega) only[go_sem,Nat.reduceBEq,Nat.reduceAdd]
      exact⟨_,_,_,_,_,_,_,rfl,fun e=>by cases e⟩
    have hl':=decide_eq_false hl
    by_cases h1:fn=1
    · subst h1
      by_cases hb:x.den*64 < x.num.natAbs
      · rw[eErr_20 hA hd (.inr (.inl ⟨rfl,hb⟩))]
        have hb':=decide_eq_true hb
        clear hA
        refine Spec.go [] Tryz.func94 rfl rfl (by kernel_rfl) fun C _=>?_
        try simp(disch:=omega) only[go_sem,Nat.reduceBEq,Nat.reduceAdd]
        refine caN (by exact kK) ?_;rintro v1 h1 s1 ⟨_,_,_,_,_,_,_,rfl,c⟩
        try simp(disch:=omega) only[go_sem,Nat.reduceBEq,Nat.reduceAdd]
        refine caN (by exact EDefined_spec (fn:=1) c) ?_;rintro v2 h2 s2 rfl
        try simp(disch:=omega) only[go_sem,Nat.reduceBEq,Nat.reduceAdd]
        try rw[hd]
        try simp(disch:=omega) only[go_sem,Nat.reduceBEq,Nat.reduceAdd]
        refine caN (by exact TooLong_spec (c.to (h':=h2))) ?_;rintro v3 h3 s3 rfl
        try simp(disch:=omega) only[go_sem,Nat.reduceBEq,Nat.reduceAdd]
        try rw[hl']
        try simp(disch:=omega) only[go_sem,Nat.reduceBEq,Nat.reduceAdd]
        refine caN (by exact Beyond_spec (n:=64) (c.to (h':=h3)) (by omega) (by decide)) ?_;rintro v4 h4 s4 rfl
        try simp(disch:=omega) only[go_sem,Nat.reduceBEq,Nat.reduceAdd]
        try rw[hb']
        try simp(disch:=omega) only[go_sem,Nat.reduceBEq,Nat.reduceAdd]
        exact⟨_,_,_,_,_,_,_,rfl,fun e=>by cases e⟩
      · rw[eErr_0 hA hd (by rintro(k |k |k);exact hl k;exact hb k.2;exact absurd k.1 (by decide))]
        have hb':=decide_eq_false hb
        clear hA
        refine Spec.go [] Tryz.func94 rfl rfl (by kernel_rfl) fun C _=>?_
        try simp(disch:=omega) only[go_sem,Nat.reduceBEq,Nat.reduceAdd]
        refine caN (by exact kK) ?_;rintro v1 h1 s1 ⟨_,_,_,_,_,_,_,rfl,c⟩
        try simp(disch:=omega) only[go_sem,Nat.reduceBEq,Nat.reduceAdd]
        refine caN (by exact EDefined_spec (fn:=1) c) ?_;rintro v2 h2 s2 rfl
        try simp(disch:=omega) only[go_sem,Nat.reduceBEq,Nat.reduceAdd]
        try rw[hd]
        try simp(disch:=omega) only[go_sem,Nat.reduceBEq,Nat.reduceAdd]
        refine caN (by exact TooLong_spec (c.to (h':=h2))) ?_;rintro v3 h3 s3 rfl
        try simp(disch:=omega) only[go_sem,Nat.reduceBEq,Nat.reduceAdd]
        try rw[hl']
        try simp(disch:=omega) only[go_sem,Nat.reduceBEq,Nat.reduceAdd]
        refine caN (by exact Beyond_spec (n:=64) (c.to (h':=h3)) (by omega) (by decide)) ?_;rintro v4 h4 s4 rfl
        try simp(disch:=omega) only[go_sem,Nat.reduceBEq,Nat.reduceAdd]
        try rw[hb']
        try simp(disch:=omega) only[go_sem,Nat.reduceBEq,Nat.reduceAdd]
        exact⟨_,_,_,_,_,_,_,rfl,fun _=>c.to⟩
    by_cases h3:fn=3∨fn=4∨fn=5
    · have hb:(x.den*4294967296 < x.num.natAbs)∨¬(x.den*4294967296 < x.num.natAbs):=Decidable.em _
      rcases hb with hb |hb
      · rw[eErr_20 hA hd (.inr (.inr ⟨h3,hb⟩))]
        have hb':=decide_eq_true hb
        have kB:∀{h1 h:PH} {v:Value} [Le h1 h],Cn h1 v x→Spec mach 91 #[v,.int .u64 (4294967296:Nat)] h (fun v _=>v=.bool true) NP:=fun c=>by
          rw[←hb']
          exact Beyond_spec (n:=4294967296) c (Nat.le_trans bx (by decide)) (by decide)
        clear hA hb hb' h1
        rcases h3 with rfl |rfl |rfl
        all_goals
          refine Spec.go [] Tryz.func94 rfl rfl (by kernel_rfl) fun C _=>?_
          try simp(disch:=omega) only[go_sem,Nat.reduceBEq,Nat.reduceAdd]
          refine caN (by exact kK) ?_;rintro v1 h1 s1 ⟨_,_,_,_,_,_,_,rfl,c⟩
          try simp(disch:=omega) only[go_sem,Nat.reduceBEq,Nat.reduceAdd]
          refine caN (by exact EDefined_spec c) ?_;rintro v2 h2 s2 rfl
          try rw[hd]
          try simp(disch:=omega) only[go_sem,Nat.reduceBEq,Nat.reduceAdd]
          refine caN (by exact TooLong_spec (c.to (h':=h2))) ?_;rintro v3 h3 s3 rfl
          try simp(disch:=omega) only[go_sem,Nat.reduceBEq,Nat.reduceAdd]
          try rw[hl']
          try simp(disch:=omega) only[go_sem,Nat.reduceBEq,Nat.reduceAdd]
          refine caN (by exact kB (c.to (h':=h3))) ?_;rintro v4 h4 s4 rfl
          try simp(disch:=omega) only[go_sem,Nat.reduceBEq,Nat.reduceAdd]
          exact⟨_,_,_,_,_,_,_,rfl,fun e=>by cases e⟩
      · rw[eErr_0 hA hd (by rintro(k |k |k);exact hl k;exact h1 k.1;exact hb k.2)]
        have hb':=decide_eq_false hb
        have kB:∀{h1 h:PH} {v:Value} [Le h1 h],Cn h1 v x→Spec mach 91 #[v,.int .u64 (4294967296:Nat)] h (fun v _=>v=.bool false) NP:=fun c=>by
          rw[←hb']
          exact Beyond_spec (n:=4294967296) c (Nat.le_trans bx (by decide)) (by decide)
        clear hA hb hb' h1
        rcases h3 with rfl |rfl |rfl
        all_goals
          refine Spec.go [] Tryz.func94 rfl rfl (by kernel_rfl) fun C _=>?_
          try simp(disch:=omega) only[go_sem,Nat.reduceBEq,Nat.reduceAdd]
          refine caN (by exact kK) ?_;rintro v1 h1 s1 ⟨_,_,_,_,_,_,_,rfl,c⟩
          try simp(disch:=omega) only[go_sem,Nat.reduceBEq,Nat.reduceAdd]
          refine caN (by exact EDefined_spec c) ?_;rintro v2 h2 s2 rfl
          try rw[hd]
          try simp(disch:=omega) only[go_sem,Nat.reduceBEq,Nat.reduceAdd]
          refine caN (by exact TooLong_spec (c.to (h':=h2))) ?_;rintro v3 h3 s3 rfl
          try simp(disch:=omega) only[go_sem,Nat.reduceBEq,Nat.reduceAdd]
          try rw[hl']
          try simp(disch:=omega) only[go_sem,Nat.reduceBEq,Nat.reduceAdd]
          refine caN (by exact kB (c.to (h':=h3))) ?_;rintro v4 h4 s4 rfl
          try simp(disch:=omega) only[go_sem,Nat.reduceBEq,Nat.reduceAdd]
          exact⟨_,_,_,_,_,_,_,rfl,fun _=>c.to⟩
    · rw[eErr_0 hA hd (by rintro(k |k |k);exact hl k;exact h1 k.1;exact h3 k.1)]
      have f1:(fn == 1)=false:=by simpa using h1
      have f3:(fn == 3)=false:=by simp;omega
      have f4:(fn == 4)=false:=by simp;omega
      have f5:(fn == 5)=false:=by simp;omega
      clear hA h1 h3
      refine Spec.go [] Tryz.func94 rfl rfl (by kernel_rfl) fun C _=>?_
      try simp(disch:=omega) only[go_sem,Nat.reduceBEq,Nat.reduceAdd]
      refine caN (by exact kK) ?_;rintro v1 h1 s1 ⟨_,_,_,_,_,_,_,rfl,c⟩
      try simp(disch:=omega) only[go_sem,Nat.reduceBEq,Nat.reduceAdd]
      refine caN (by exact EDefined_spec (fn:=fn) c) ?_;rintro v2 h2 s2 rfl
      try simp(disch:=omega) only[go_sem,Nat.reduceBEq,Nat.reduceAdd]
      try rw[hd]
      try simp(disch:=omega) only[go_sem,Nat.reduceBEq,Nat.reduceAdd]
      refine caN (by exact TooLong_spec (c.to (h':=h2))) ?_;rintro v3 h3 s3 rfl
      try simp(disch:=omega) only[go_sem,Nat.reduceBEq,Nat.reduceAdd]
      try rw[hl']
      try simp(disch:=omega) only[go_sem,Nat.reduceBEq,Nat.reduceAdd,f1,f3,f4,f5]
      exact⟨_,_,_,_,_,_,_,rfl,fun _=>c.to⟩
def Ber (h:PH) (r:Value) (e:Int) (x y:Rat):Prop:=∃b1 a1 m1 c1 a2 m2 c2 b2 a3 m3 c3 a4 m4 c4,r=.tuple #[.agg #[.bool b1,.slice a1 m1 c1,.slice a2 m2 c2,.bool b2,.slice a3 m3 c3,.slice a4 m4 c4],.int .i64 e]∧Cn h (.agg #[.bool b1,.slice a1 m1 c1,.slice a2 m2 c2]) x∧Cn h (.agg #[.bool b2,.slice a3 m3 c3,.slice a4 m4 c4]) y
theorem Ber.no (h:PH) (e:Int):Ber h (.tuple #[.agg #[.bool false,.slice none 0 0,.slice none 0 0,.bool false,.slice none 0 0,.slice none 0 0],.int .i64 e]) e 0 0:=⟨_,_,_,_,_,_,_,_,_,_,_,_,_,_,rfl,Cn.nul h,Cn.nul h⟩
theorem EApply_err {h0 h:PH} [Le h0 h] {v:Value} {x:Rat} {fn p:Int} {g:FuncId} (hx:Rv h0 v x) (he:eErr fn x p≠0):Spec mach 43 #[.int .i64 fn,v,.int .i64 p,.func (.func g) #[] #[]] h (fun r h'=>Ber h' r (eErr fn x p) 0 0) NP:=by
  have kR:=fun {h} [Le h0 h]=>EReady_spec (h:=h) (fn:=fn) (p:=p) hx
  obtain⟨_,_,_,_,_,_,_,rfl,_⟩:=hx.sa
  have f0:(eErr fn x p != 0)=true:=by simpa using he
  generalize eErr fn x p=e at*
  refine Spec.go [] Tryz.func43 rfl rfl (by kernel_rfl) fun C _=>?_
  try simp(disch:=omega) only[go_sem,Nat.reduceBEq,Nat.reduceAdd]
  refine caN (by exact kR) ?_;rintro v1 h1 s1 ⟨_,_,_,_,_,_,_,rfl,c⟩
  try simp(disch:=omega) only[go_sem,Nat.reduceBEq,Nat.reduceAdd,f0]
  exact Ber.no _ _
theorem EApply_exact {h0 h:PH} [Le h0 h] {v:Value} {x:Rat} {fn p:Int} {g:FuncId} (hx:Rv h0 v x) (he:eErr fn x p=0) (hb:exB fn x=true):Spec mach 43 #[.int .i64 fn,v,.int .i64 p,.func (.func g) #[] #[]] h (fun r h'=>Ber h' r 0 (exV fn x) (exV fn x)) NP:=by
  have kR:=fun {h} [Le h0 h]=>EReady_spec (h:=h) (fn:=fn) (p:=p) hx
  rw[he] at kR
  have kE:=fun {h1 h:PH} {a:Value} [Le h1 h] (c:Cn h1 a x)=>EExact_spec (h:=h) (fn:=fn) c
  rw[hb] at kE
  have sv:sz (exV fn x)≤2048:=by unfold exV;split<;>decide
  obtain⟨_,_,_,_,_,_,_,rfl,_⟩:=hx.sa
  refine Spec.go [] Tryz.func43 rfl rfl (by kernel_rfl) fun C _=>?_
  try simp(disch:=omega) only[go_sem,Nat.reduceBEq,Nat.reduceAdd]
  refine caN (by exact kR) ?_;rintro v1 h1 s1 ⟨_,_,_,_,_,_,_,rfl,c⟩
  try simp(disch:=omega) only[go_sem,Nat.reduceBEq,Nat.reduceAdd]
  refine caN (by exact kE (c rfl)) ?_;rintro v2 h2 s2 ⟨_,_,_,_,_,_,_,rfl,c2⟩
  try simp(disch:=omega) only[go_sem,Nat.reduceBEq,Nat.reduceAdd]
  refine caN (by exact NumCanon (Rv.of c2 sv)) ?_;rintro v3 h3 s3 ⟨_,_,_,_,_,_,_,rfl,c3⟩
  try simp(disch:=omega) only[go_sem,Nat.reduceBEq,Nat.reduceAdd]
  exact⟨_,_,_,_,_,_,_,_,_,_,_,_,_,_,rfl,c2.to,c3⟩
theorem EApply_ser {h0 h:PH} [Le h0 h] {v:Value} {x y z:Rat} {fn p e:Int} {g:FuncId} (hx:Rv h0 v x) (he:eErr fn x p=0) (hb:exB fn x=false) (hg:∀{h0 h:PH} {a:Value} [Le h0 h],Cn h0 a x→Spec mach g #[a,.int .i64 p] h (fun r h'=>Ber h' r e y z) NP):
    Spec mach 43 #[.int .i64 fn,v,.int .i64 p,.func (.func g) #[] #[]] h (fun r h'=>Ber h' r e y z) NP:=by
  have kR:=fun {h} [Le h0 h]=>EReady_spec (h:=h) (fn:=fn) (p:=p) hx
  rw[he] at kR
  have kE:=fun {h1 h:PH} {a:Value} [Le h1 h] (c:Cn h1 a x)=>EExact_spec (h:=h) (fn:=fn) c
  rw[hb] at kE
  obtain⟨_,_,_,_,_,_,_,rfl,_⟩:=hx.sa
  refine Spec.go [] Tryz.func43 rfl rfl (by kernel_rfl) fun C _=>?_
  try simp(disch:=omega) only[go_sem,Nat.reduceBEq,Nat.reduceAdd]
  refine caN (by exact kR) ?_;rintro v1 h1 s1 ⟨_,_,_,_,_,_,_,rfl,c⟩
  try simp(disch:=omega) only[go_sem,Nat.reduceBEq,Nat.reduceAdd]
  refine caN (by exact kE (c rfl)) ?_;rintro v2 h2 s2 ⟨_,_,_,_,_,_,_,rfl,_⟩
  try simp(disch:=omega) only[go_sem,Nat.reduceBEq,Nat.reduceAdd]
  refine caN (by exact hg ((c rfl).to (h':=h2))) ?_;rintro v3 h3 s3 ⟨_,_,_,_,_,_,_,_,_,_,_,_,_,_,rfl,q3⟩
  try simp(disch:=omega) only[go_sem,Nat.reduceBEq,Nat.reduceAdd]
  exact⟨_,_,_,_,_,_,_,_,_,_,_,_,_,_,rfl,q3⟩
theorem EReady_no {h0 h:PH} [Le h0 h] {v:Value} {neg:Bool} {n d:Nat} {fn p:Int} (hv:Rw h0 v neg n d) (hl:lg neg n d):Spec mach 94 #[.int .i64 fn,v,.int .i64 p] h (fun r _=>r=.tuple #[.agg #[.bool false,.slice none 0 0,.slice none 0 0],.int .i64 1]) NP:=by
  have kK:=fun {h} [Le h0 h]=>EKnown_no (h:=h) (fn:=fn) hv hl
  obtain⟨_,_,_,_,_,_,_,rfl,_⟩:=hv.sa
  refine Spec.go [] Tryz.func94 rfl rfl (by kernel_rfl) fun C _=>?_
  try simp(disch:=omega) only[go_sem,Nat.reduceBEq,Nat.reduceAdd]
  refine caN (by exact kK) ?_;rintro v1 h1 s1 rfl
  try simp(disch:=omega) only[go_sem,Nat.reduceBEq,Nat.reduceAdd]
theorem EApply_no {h0 h:PH} [Le h0 h] {v:Value} {neg:Bool} {n d:Nat} {fn p:Int} {g:FuncId} (hv:Rw h0 v neg n d) (hl:lg neg n d):Spec mach 43 #[.int .i64 fn,v,.int .i64 p,.func (.func g) #[] #[]] h (fun r h'=>Ber h' r 1 0 0) NP:=by
  have kR:=fun {h} [Le h0 h]=>EReady_no (h:=h) (fn:=fn) (p:=p) hv hl
  obtain⟨_,_,_,_,_,_,_,rfl,_⟩:=hv.sa
  refine Spec.go [] Tryz.func43 rfl rfl (by kernel_rfl) fun C _=>?_
  try simp(disch:=omega) only[go_sem,Nat.reduceBEq,Nat.reduceAdd]
  refine caN (by exact kR) ?_;rintro v1 h1 s1 rfl
  try simp(disch:=omega) only[go_sem,Nat.reduceBEq,Nat.reduceAdd]
  exact Ber.no _ _
end Go.Q
