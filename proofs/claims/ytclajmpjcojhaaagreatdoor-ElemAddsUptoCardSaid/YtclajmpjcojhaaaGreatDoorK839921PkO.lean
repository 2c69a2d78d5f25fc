/-
  What both, sin and cos return. Conditions: the number's absolute value is at most 2^32, of at most 1024 binary digits; the precision is at most 128.
  What ready returns: the first error of an argument. Conditions: the argument is a number as it comes in that is not large.
  What tan returns. Conditions: the number's absolute value is at most 2^32, of at most 1024 binary digits; the precision is at most 128.
  What tan returns: the walk. Conditions: the number's absolute value is at most 2^32, of at most 1024 binary digits; the precision is at most 128.
  What Apply and the functions of their own names return, for every function, number and precision. Conditions: the argument is a number as it comes in.
  The brackets of a number and of its opposite: no program. Conditions: the numbers of quarter turns are opposite (no tie).
  The sizes of the brackets' ends: no program. Conditions: eErr tells no error.
  The statements' helper right; the reference's domains and exact values. Conditions: the values are numbers (Cn, Qr).
  The bracket of a function as the statements read it (bracket), for every number. Conditions: the number has at most 2^35 binary digits.
  The brackets that Apply returns at a number and at its opposite: no program. Conditions: a function of sine, cosine, tangent, arcsine, arctangent; of the first three: no tie.
  The exponentials of a number and of its opposite; their order: no program. Conditions: as Apply's.
  What Turns returns. Conditions: the ends are numbers as they come in.
  Quarter turns in a range: a wide range has them; a wider one has what a narrower one has. Plain. Conditions: none.
  The reference's helpers of layer 2: natural numbers, quotients rounded, numbers of a grid; its domains and exact values. Conditions: the values are natural numbers (N16) and numbers (Qr).
  The reference of layer 2: its grid, the series of the arctangent, pi. Conditions: the values are natural numbers (N16) and numbers (Qr).
  Contracts of package elem: the argument of exp made ready; what Exp returns. Conditions: the argument is small enough, the value is not exact.
  The statements' check of one bracket (sane); the statement ElemPi. Conditions: none.
  The reference of layer 2: quarter turns. Conditions: the values are numbers (Qr).
  The statement ElemInverse. Conditions: the argument is a number as it comes in (Rw).
  A number as it comes in, of at most 2^26 binary digits (Rx). Conditions: none.
  A number as a statement's argument, read, with its size. Conditions: what is read is of bulk at most 1048576.
  Roots of numbers on a grid, plain: their signs, when they are exact, their order. Conditions: the index is not 0.
  The series of the arctangent on a grid lies on both sides of its exact sum, which rises: no program. Conditions: the numbers are at most 1.
  The brackets of the arctangent and of halved angles keep the order: no program. Conditions: the numbers are at most 1 of the grid.
  Sixteen times the lower arctangent of a sixteenth of a turn at most pi's upper bound (by computation): no program. Conditions: the working precision is from 32 to 160.
  The brackets of arctangent, arcsine and arccosine keep the order: no program. Conditions: the functions' domains; precisions up to 128.
  The brackets of logarithm and exponential keep the order: no program. Conditions: the functions' domains.
  The brackets of the functions that rise, and of the arccosine, keep the order: no program. Conditions: both numbers have a bracket.
-/
import Derived.Test.YtclajmpjcojhaaaGreatDoorK2204c2PkF
import Derived.Test.YtclajmpjcojhaaaGreatDoorK1ab02dPkN
import Derived.Test.YtclajmpjcojhaaaGreatDoorK41d4d3PkM
import Derived.Test.YtclajmpjcojhaaaGreatDoorKb53593PkL
set_option linter.unusedVariables false
set_option linter.unusedSimpArgs false
namespace Go.Q
open Go.Proofs
set_option maxRecDepth 100000
set_option maxHeartbeats 8000000
def snl (x:Rat) (w:Nat):Rat:=snAt (rsA x w) w true
def snh (x:Rat) (w:Nat):Rat:=snAt (rsB x w) w false
def csl (x:Rat) (w:Nat):Rat:=sgn false (wvL (csX (rsA x w) (rsB x w) w) w 1) (2^w)
def csh (x:Rat) (w:Nat):Rat:=sgn false (wvH (csN (rsA x w) (rsB x w) w) w 1) (2^w)
def siL (x:Rat) (w:Nat):Rat:=if rsK x w % 4=1 then csl x w else if rsK x w % 4=2 then -snh x w else if rsK x w % 4=3 then -csh x w else snl x w
def siH (x:Rat) (w:Nat):Rat:=if rsK x w % 4=1 then csh x w else if rsK x w % 4=2 then -snl x w else if rsK x w % 4=3 then -csl x w else snh x w
def coL (x:Rat) (w:Nat):Rat:=if rsK x w % 4=1 then -snh x w else if rsK x w % 4=2 then -csh x w else if rsK x w % 4=3 then snl x w else csl x w
def coH (x:Rat) (w:Nat):Rat:=if rsK x w % 4=1 then -snl x w else if rsK x w % 4=2 then -csl x w else if rsK x w % 4=3 then snh x w else csh x w
theorem rs_glo {x:Rat} {w:Nat} (h1:64≤w) (h2:w≤192) (hb:¬x.den*4294967296 < x.num.natAbs):glo (rsA x w) w≤2^w∧glo (rsB x w) w≤2^w:=by
  obtain⟨a1,a2,a3⟩:=rs_bd h1 h2 (num_bd hb)
  exact⟨(g_le (abs_num a1 (by grind))).1,(g_le (abs_num (by grind) a3)).1⟩
theorem cs_sz {y w:Nat}:sz (sgn false (wvL y w 1) (2^w))≤w+2∧sz (sgn false (wvH y w 1) (2^w))≤w+2:=by
  obtain⟨w1,w2⟩:=waV_le (w:=w) (f:=1) (s:=sqL y w) (t:=sqH y w) (by decide) 24
  have h0:=bl_pow2 w
  have h1:=bl_pow_le (n:=wvL y w 1) (w:=w) (by unfold wvL;omega)
  have h2:=bl_pow_le (n:=wvH y w 1) (w:=w) (by unfold wvH;omega)
  have h3:=sz_sgn false (wvL y w 1) (pow2_ne w)
  have h4:=sz_sgn false (wvH y w 1) (pow2_ne w)
  omega
theorem rs_sz {x:Rat} {w:Nat} (bx:sz x≤1024) (hb:¬x.den*4294967296 < x.num.natAbs) (hw:64≤w) (hw':w≤192):sz (rsA x w)≤2048∧sz (rsB x w)≤2048:=by
  obtain⟨k1,k2⟩:=rsK_bd hw hw' (num_bd hb)
  obtain⟨sf,sg⟩:=fW_sz (w:=w)
  have sk:=sz_k (z:=rsK x w) (by omega)
  have m1:=sz_mul (rsK x w:Rat) (fW w)
  have m2:=sz_mul (rsK x w:Rat) (gW w)
  have m3:=sz_add x (-((rsK x w:Rat)*fW w))
  have m4:=sz_add x (-((rsK x w:Rat)*gW w))
  rw[sz_neg] at m3 m4
  have m5:=sz_gd (x+ -((rsK x w:Rat)*fW w)) w
  have m6:=sz_gd (x+ -((rsK x w:Rat)*gW w)) w
  have m7:=sz_gu (x+ -((rsK x w:Rat)*fW w)) w
  have m8:=sz_gu (x+ -((rsK x w:Rat)*gW w)) w
  unfold rsA rsB
  split<;>omega
theorem EBoth_spec {h0 h:PH} [Le h0 h] {v:Value} {x:Rat} {w:Nat} (hx:Cn h0 v x) (bx:sz x≤1024) (hb:¬x.den*4294967296 < x.num.natAbs) (hw:64≤w) (hw':w≤192):
    Spec mach 74 #[v,.int .i64 w] h (fun r h'=>∃s t,r=.tuple #[s,t]∧Bk h' s (siL x w) (siH x w)∧Bk h' t (coL x w) (coH x w)) NP:=by
  have kR:=fun {h} [Le h0 h]=>ERest_spec (h:=h) hx bx hb hw hw'
  obtain⟨l1,l2⟩:=rs_glo hw hw' hb
  obtain⟨z1,z2⟩:=rs_sz bx hb hw hw'
  obtain⟨c1,_⟩:=cs_sz (y:=csX (rsA x w) (rsB x w) w) (w:=w)
  obtain⟨_,c2⟩:=cs_sz (y:=csN (rsA x w) (rsB x w) w) (w:=w)
  have c1:sz (csl x w)≤w+2:=c1
  have c2:sz (csh x w)≤w+2:=c2
  have n1:sz (snl x w)≤w+2:=snAt_sz l1
  have n2:sz (snh x w)≤w+2:=snAt_sz l2
  have kS:∀{h1 h:PH} {v:Value} [Le h1 h],Bk h1 v (rsA x w) (rsB x w)→Spec mach 94 #[v,.int .i64 w] h (fun r h'=>Bk h' r (snl x w) (snh x w)) NP:=fun k=>ESine_spec k z1 z2 l1 l2 (by omega) (by omega)
  have kC:∀{h1 h:PH} {v:Value} [Le h1 h],Bk h1 v (rsA x w) (rsB x w)→Spec mach 95 #[v,.int .i64 w] h (fun r h'=>Bk h' r (csl x w) (csh x w)) NP:=fun k=>ECosine_spec k z1 z2 l1 l2 (by omega) (by omega)
  unfold siL siH coL coH
  generalize snl x w=sl at*
  generalize snh x w=sh at*
  generalize csl x w=cl at*
  generalize csh x w=ch at*
  generalize rsA x w=A at*
  generalize rsB x w=B at*
  generalize rsK x w=k at*
  have n1:sz sl≤2048:=by omega
  have n2:sz sh≤2048:=by omega
  have c1:sz cl≤2048:=by omega
  have c2:sz ch≤2048:=by omega
  obtain⟨na,nl,nc,da,dl,dc,rfl,_,_,_,_⟩:=hx.parts
  clear bx hb l1 l2 z1 z2 hx
  have hk:k % 4=1∨k % 4=2∨k % 4=3∨k % 4=0:=by omega
  generalize k % 4=q at*
  rcases hk with rfl |rfl |rfl |rfl
  · rw[if_pos rfl,if_pos rfl,if_pos rfl,if_pos rfl]
    refine Spec.go [(2,.h [] [] [6,7] [6,7,0,1,3,4,2,5,8,9]),(7,.o [0,2,1,3,4,5]),(9,.h [(8,4)] [] [] [0,2,1,3,4]),(10,.h [(9,4)] [] [] [0,1,2,3])] Tryz.func74 rfl rfl (by kernel_rfl) fun C _=>?_
    try simp(disch:=omega) only[go_sem,Nat.reduceBEq,Nat.reduceAdd]
    refine caN (by exact kR) ?_;rintro v1 h1 s1 ⟨u,rfl,q1⟩;obtain⟨_,_,_,_,_,_,_,_,_,_,_,_,_,_,rfl,q1⟩:=q1.sp
    try simp(disch:=omega) only[go_sem,Nat.reduceBEq,Nat.reduceAdd]
    refine caN (by exact kS q1) ?_;rintro v2 h2 s2 q2;obtain⟨_,_,_,_,_,_,_,_,_,_,_,_,_,_,rfl,q2⟩:=q2.sp
    try simp(disch:=omega) only[go_sem,Nat.reduceBEq,Nat.reduceAdd]
    refine caN (by exact kC (q1.to (h':=h2))) ?_;rintro v3 h3 s3 q3;obtain⟨_,_,_,_,_,_,_,_,_,_,_,_,_,_,rfl,q3⟩:=q3.sp
    try simp(disch:=omega) only[go_sem,Nat.reduceBEq,Nat.reduceAdd]
    refine caN (by exact EMinus_spec (q2.to (h':=h3)) n1 n2) ?_;rintro v4 h4 s4 q4;obtain⟨_,_,_,_,_,_,_,_,_,_,_,_,_,_,rfl,q4⟩:=q4.sp
    try simp(disch:=omega) only[go_sem,Nat.reduceBEq,Nat.reduceAdd]
    exact⟨_,_,rfl,q3.to,q4⟩
  · rw[if_neg (by decide),if_pos rfl,if_neg (by decide),if_pos rfl,if_neg (by decide),if_pos rfl,if_neg (by decide),if_pos rfl]
    refine Spec.go [(2,.h [] [] [6,7] [6,7,0,1,3,4,2,5,8,9]),(7,.o [0,2,1,3,4,5]),(9,.h [(8,4)] [] [] [0,2,1,3,4]),(10,.h [(9,4)] [] [] [0,1,2,3])] Tryz.func74 rfl rfl (by kernel_rfl) fun C _=>?_
    try simp(disch:=omega) only[go_sem,Nat.reduceBEq,Nat.reduceAdd]
    refine caN (by exact kR) ?_;rintro v1 h1 s1 ⟨u,rfl,q1⟩;obtain⟨_,_,_,_,_,_,_,_,_,_,_,_,_,_,rfl,q1⟩:=q1.sp
    try simp(disch:=omega) only[go_sem,Nat.reduceBEq,Nat.reduceAdd]
    refine caN (by exact kS q1) ?_;rintro v2 h2 s2 q2;obtain⟨_,_,_,_,_,_,_,_,_,_,_,_,_,_,rfl,q2⟩:=q2.sp
    try simp(disch:=omega) only[go_sem,Nat.reduceBEq,Nat.reduceAdd]
    refine caN (by exact kC (q1.to (h':=h2))) ?_;rintro v3 h3 s3 q3;obtain⟨_,_,_,_,_,_,_,_,_,_,_,_,_,_,rfl,q3⟩:=q3.sp
    try simp(disch:=omega) only[go_sem,Nat.reduceBEq,Nat.reduceAdd]
    refine caN (by exact EMinus_spec (q2.to (h':=h3)) n1 n2) ?_;rintro v4 h4 s4 q4;obtain⟨_,_,_,_,_,_,_,_,_,_,_,_,_,_,rfl,q4⟩:=q4.sp
    try simp(disch:=omega) only[go_sem,Nat.reduceBEq,Nat.reduceAdd]
    refine caN (by exact EMinus_spec (q3.to (h':=h4)) c1 c2) ?_;rintro v5 h5 s5 q5;obtain⟨_,_,_,_,_,_,_,_,_,_,_,_,_,_,rfl,q5⟩:=q5.sp
    try simp(disch:=omega) only[go_sem,Nat.reduceBEq,Nat.reduceAdd]
    exact⟨_,_,rfl,q4.to,q5⟩
  · rw[if_neg (by decide),if_neg (by decide),if_pos rfl,if_neg (by decide),if_neg (by decide),if_pos rfl,if_neg (by decide),if_neg (by decide),if_pos rfl,if_neg (by decide),if_neg (by decide),if_pos rfl]
    refine Spec.go [(2,.h [] [] [6,7] [6,7,0,1,3,4,2,5,8,9]),(7,.o [0,2,1,3,4,5]),(9,.h [(8,4)] [] [] [0,2,1,3,4]),(10,.h [(9,4)] [] [] [0,1,2,3])] Tryz.func74 rfl rfl (by kernel_rfl) fun C _=>?_
    try simp(disch:=omega) only[go_sem,Nat.reduceBEq,Nat.reduceAdd]
    refine caN (by exact kR) ?_;rintro v1 h1 s1 ⟨u,rfl,q1⟩;obtain⟨_,_,_,_,_,_,_,_,_,_,_,_,_,_,rfl,q1⟩:=q1.sp
    try simp(disch:=omega) only[go_sem,Nat.reduceBEq,Nat.reduceAdd]
    refine caN (by exact kS q1) ?_;rintro v2 h2 s2 q2;obtain⟨_,_,_,_,_,_,_,_,_,_,_,_,_,_,rfl,q2⟩:=q2.sp
    try simp(disch:=omega) only[go_sem,Nat.reduceBEq,Nat.reduceAdd]
    refine caN (by exact kC (q1.to (h':=h2))) ?_;rintro v3 h3 s3 q3;obtain⟨_,_,_,_,_,_,_,_,_,_,_,_,_,_,rfl,q3⟩:=q3.sp
    try simp(disch:=omega) only[go_sem,Nat.reduceBEq,Nat.reduceAdd]
    refine caN (by exact EMinus_spec (q3.to (h':=h3)) c1 c2) ?_;rintro v4 h4 s4 q4;obtain⟨_,_,_,_,_,_,_,_,_,_,_,_,_,_,rfl,q4⟩:=q4.sp
    try simp(disch:=omega) only[go_sem,Nat.reduceBEq,Nat.reduceAdd]
    exact⟨_,_,rfl,q4,q2.to⟩
  · rw[if_neg (by decide),if_neg (by decide),if_neg (by decide),if_neg (by decide),if_neg (by decide),if_neg (by decide),if_neg (by decide),if_neg (by decide),if_neg (by decide),if_neg (by decide),if_neg (by decide),if_neg (by decide)]
    refine Spec.go [(2,.h [] [] [6,7] [6,7,0,1,3,4,2,5,8,9]),(7,.o [0,2,1,3,4,5]),(9,.h [(8,4)] [] [] [0,2,1,3,4]),(10,.h [(9,4)] [] [] [0,1,2,3])] Tryz.func74 rfl rfl (by kernel_rfl) fun C _=>?_
    try simp(disch:=omega) only[go_sem,Nat.reduceBEq,Nat.reduceAdd]
    refine caN (by exact kR) ?_;rintro v1 h1 s1 ⟨u,rfl,q1⟩;obtain⟨_,_,_,_,_,_,_,_,_,_,_,_,_,_,rfl,q1⟩:=q1.sp
    try simp(disch:=omega) only[go_sem,Nat.reduceBEq,Nat.reduceAdd]
    refine caN (by exact kS q1) ?_;rintro v2 h2 s2 q2;obtain⟨_,_,_,_,_,_,_,_,_,_,_,_,_,_,rfl,q2⟩:=q2.sp
    try simp(disch:=omega) only[go_sem,Nat.reduceBEq,Nat.reduceAdd]
    refine caN (by exact kC (q1.to (h':=h2))) ?_;rintro v3 h3 s3 q3;obtain⟨_,_,_,_,_,_,_,_,_,_,_,_,_,_,rfl,q3⟩:=q3.sp
    try simp(disch:=omega) only[go_sem,Nat.reduceBEq,Nat.reduceAdd]
    exact⟨_,_,rfl,q2.to,q3⟩
theorem sc_sz {x:Rat} {w:Nat} (hb:¬x.den*4294967296 < x.num.natAbs) (hw:64≤w) (hw':w≤192):sz (siL x w)≤w+2∧sz (siH x w)≤w+2∧sz (coL x w)≤w+2∧sz (coH x w)≤w+2:=by
  obtain⟨l1,l2⟩:=rs_glo hw hw' hb
  obtain⟨c1,_⟩:=cs_sz (y:=csX (rsA x w) (rsB x w) w) (w:=w)
  obtain⟨_,c2⟩:=cs_sz (y:=csN (rsA x w) (rsB x w) w) (w:=w)
  have c1:sz (csl x w)≤w+2:=c1
  have c2:sz (csh x w)≤w+2:=c2
  have n1:sz (snl x w)≤w+2:=snAt_sz l1
  have n2:sz (snh x w)≤w+2:=snAt_sz l2
  have e1:=sz_neg (snl x w)
  have e2:=sz_neg (snh x w)
  have e3:=sz_neg (csl x w)
  have e4:=sz_neg (csh x w)
  unfold siL siH coL coH
  refine⟨?_,?_,?_,?_⟩<;>(repeat' split)<;>omega
theorem ESin_spec {h0 h:PH} [Le h0 h] {v:Value} {x:Rat} {p:Nat} (hx:Cn h0 v x) (bx:sz x≤1024) (hb:¬x.den*4294967296 < x.num.natAbs) (hp:p≤128):Spec mach 39 #[v,.int .i64 p] h (fun r h'=>Be h' r (gdown (siL x (p+64)) p) (gup (siH x (p+64)) p)) NP:=by
  have kB:=fun {h} [Le h0 h]=>EBoth_spec (h:=h) (w:=p+64) hx bx hb (by omega) (by omega)
  obtain⟨z1,z2,_,_⟩:=sc_sz (w:=p+64) hb (by omega) (by omega)
  have y1:=sz_gd (siL x (p+64)) p
  have y2:=sz_gu (siH x (p+64)) p
  obtain⟨_,_,_,_,_,_,_,rfl,_⟩:=hx.sa
  clear hb bx
  have F:=Hid.mk (And.intro z1 (And.intro z2 (And.intro y1 y2)));clear z1 z2 y1 y2
  refine Spec.go [] Tryz.func39 rfl rfl (by kernel_rfl) fun C _=>?_
  try simp(disch:=omega) only[go_sem,Nat.reduceBEq,Nat.reduceAdd]
  refine caN (by exact kB) ?_;rintro v1 h1 s1 ⟨u,t,rfl,q1,q2⟩;obtain⟨_,_,_,_,_,_,_,_,_,_,_,_,_,_,rfl,k1,k2⟩:=q1;obtain⟨_,_,_,_,_,_,_,_,_,_,_,_,_,_,rfl,q2⟩:=q2.sp
  try simp(disch:=omega) only[go_sem,Nat.reduceBEq,Nat.reduceAdd]
  refine caN (by exact ERounded_spec (p:=p) k1 k2 (by have:=F.out;omega) (by have:=F.out;omega) (by have:=F.out;omega) (by have:=F.out;omega) (by have:=F.out;omega)) ?_;rintro v2 h2 s2 ⟨_,_,_,_,_,_,_,_,_,_,_,_,_,_,rfl,r1,r2⟩
  try simp(disch:=omega) only[go_sem,Nat.reduceBEq,Nat.reduceAdd]
  exact⟨_,_,_,_,_,_,_,_,_,_,_,_,_,_,rfl,r1,r2⟩
theorem ECos_spec {h0 h:PH} [Le h0 h] {v:Value} {x:Rat} {p:Nat} (hx:Cn h0 v x) (bx:sz x≤1024) (hb:¬x.den*4294967296 < x.num.natAbs) (hp:p≤128):Spec mach 40 #[v,.int .i64 p] h (fun r h'=>Be h' r (gdown (coL x (p+64)) p) (gup (coH x (p+64)) p)) NP:=by
  have kB:=fun {h} [Le h0 h]=>EBoth_spec (h:=h) (w:=p+64) hx bx hb (by omega) (by omega)
  obtain⟨_,_,z1,z2⟩:=sc_sz (w:=p+64) hb (by omega) (by omega)
  have y1:=sz_gd (coL x (p+64)) p
  have y2:=sz_gu (coH x (p+64)) p
  obtain⟨_,_,_,_,_,_,_,rfl,_⟩:=hx.sa
  clear hb bx
  have F:=Hid.mk (And.intro z1 (And.intro z2 (And.intro y1 y2)));clear z1 z2 y1 y2
  refine Spec.go [] Tryz.func40 rfl rfl (by kernel_rfl) fun C _=>?_
  try simp(disch:=omega) only[go_sem,Nat.reduceBEq,Nat.reduceAdd]
  refine caN (by exact kB) ?_;rintro v1 h1 s1 ⟨u,t,rfl,q1,q2⟩;obtain⟨_,_,_,_,_,_,_,_,_,_,_,_,_,_,rfl,k1,k2⟩:=q2;obtain⟨_,_,_,_,_,_,_,_,_,_,_,_,_,_,rfl,q1⟩:=q1.sp
  try simp(disch:=omega) only[go_sem,Nat.reduceBEq,Nat.reduceAdd]
  refine caN (by exact ERounded_spec (p:=p) k1 k2 (by have:=F.out;omega) (by have:=F.out;omega) (by have:=F.out;omega) (by have:=F.out;omega) (by have:=F.out;omega)) ?_;rintro v2 h2 s2 ⟨_,_,_,_,_,_,_,_,_,_,_,_,_,_,rfl,r1,r2⟩
  try simp(disch:=omega) only[go_sem,Nat.reduceBEq,Nat.reduceAdd]
  exact⟨_,_,_,_,_,_,_,_,_,_,_,_,_,_,rfl,r1,r2⟩
end Go.Q
namespace Go.Q
open Go.Proofs
set_option maxRecDepth 100000
set_option maxHeartbeats 8000000
def eErr (fn:Int) (x:Rat) (p:Int):Int:=if ¬(1≤fn∧fn≤8)∨p < 0∨128 < p then 2 else if defB fn x=false then 5 else if 1024 < sz x∨(fn=1∧x.den*64 < x.num.natAbs)∨((fn=3∨fn=4∨fn=5)∧x.den*4294967296 < x.num.natAbs) then 20 else 0
theorem eErr_2 {fn:Int} {x:Rat} {p:Int} (h:¬(1≤fn∧fn≤8)∨p < 0∨128 < p):eErr fn x p=2:=if_pos h
theorem eErr_5 {fn:Int} {x:Rat} {p:Int} (h:¬(¬(1≤fn∧fn≤8)∨p < 0∨128 < p)) (hd:defB fn x=false):eErr fn x p=5:=by unfold eErr;rw[if_neg h,if_pos hd]
theorem eErr_20 {fn:Int} {x:Rat} {p:Int} (h:¬(¬(1≤fn∧fn≤8)∨p < 0∨128 < p)) (hd:defB fn x=true) (hb:1024 < sz x∨(fn=1∧x.den*64 < x.num.natAbs)∨((fn=3∨fn=4∨fn=5)∧x.den*4294967296 < x.num.natAbs)):eErr fn x p=20:=by unfold eErr;rw[if_neg h,hd,if_neg (by decide),if_pos hb]
theorem eErr_0 {fn:Int} {x:Rat} {p:Int} (h:¬(¬(1≤fn∧fn≤8)∨p < 0∨128 < p)) (hd:defB fn x=true) (hb:¬(1024 < sz x∨(fn=1∧x.den*64 < x.num.natAbs)∨((fn=3∨fn=4∨fn=5)∧x.den*4294967296 < x.num.natAbs))):eErr fn x p=0:=by unfold eErr;rw[if_neg h,hd,if_neg (by decide),if_neg hb]
def Re0 (h:PH) (r:Value) (e:Int) (x:Rat):Prop:=∃b na nl nc da dl dc,r=.tuple #[.agg #[.bool b,.slice na nl nc,.slice da dl dc],.int .i64 e]∧(e=0→Cn h (.agg #[.bool b,.slice na nl nc,.slice da dl dc]) x)
theorem EReady_spec {h0 h:PH} [Le h0 h] {v:Value} {x:Rat} {fn p:Int} (hx:Rv h0 v x):Spec mach 84 #[.int .i64 fn,v,.int .i64 p] h (fun r h'=>Re0 h' r (eErr fn x p) x) NP:=by
  have bx:=hx.sz
  by_cases hf:1≤fn∧fn≤8
  case neg=>
    have kK:=fun {h} [Le h0 h]=>EKnown_arg (h:=h) hx hf
    rw[eErr_2 (.inl hf)]
    obtain⟨_,_,_,_,_,_,_,rfl,_⟩:=hx.sa
    refine Spec.go [] Tryz.func84 rfl rfl (by kernel_rfl) fun C _=>?_
    try simp(disch:=omega) only[go_sem,Nat.reduceBEq,Nat.reduceAdd]
    refine caN (by exact kK) ?_;rintro v1 h1 s1 rfl
    try simp(disch:=omega) only[go_sem,Nat.reduceBEq,Nat.reduceAdd]
    exact⟨_,_,_,_,_,_,_,rfl,fun e=>by cases e⟩
  have kK:=fun {h} [Le h0 h]=>EKnown_ok (h:=h) (fn:=fn) hx hf
  by_cases hp0:p < 0
  · rw[eErr_2 (.inr (.inl hp0))]
    obtain⟨_,_,_,_,_,_,_,rfl,_⟩:=hx.sa
    refine Spec.go [] Tryz.func84 rfl rfl (by kernel_rfl) fun C _=>?_
    try simp(disch:=omega) only[go_sem,Nat.reduceBEq,Nat.reduceAdd]
    refine caN (by exact kK) ?_;rintro v1 h1 s1 ⟨_,_,_,_,_,_,_,rfl,c⟩
    try simp(disch:=omega) only[go_sem,Nat.reduceBEq,Nat.reduceAdd]
    exact⟨_,_,_,_,_,_,_,rfl,fun e=>by cases e⟩
  by_cases hp1:128 < p
  · rw[eErr_2 (.inr (.inr hp1))]
    obtain⟨_,_,_,_,_,_,_,rfl,_⟩:=hx.sa
    refine Spec.go [] Tryz.func84 rfl rfl (by kernel_rfl) fun C _=>?_
    try simp(disch:=omega) only[go_sem,Nat.reduceBEq,Nat.reduceAdd]
    refine caN (by exact kK) ?_;rintro v1 h1 s1 ⟨_,_,_,_,_,_,_,rfl,c⟩
    try simp(disch:=omega) only[go_sem,Nat.reduceBEq,Nat.reduceAdd]
    exact⟨_,_,_,_,_,_,_,rfl,fun e=>by cases e⟩
  have hA:¬(¬(1≤fn∧fn≤8)∨p < 0∨128 < p):=by omega
  obtain⟨_,_,_,_,_,_,_,rfl,_⟩:=hx.sa
  cases hd:defB fn x with
  | false=>
    rw[eErr_5 hA hd]
    clear hA
    refine Spec.go [] Tryz.func84 rfl rfl (by kernel_rfl) fun C _=>?_
    try simp(disch:=omega) only[go_sem,Nat.reduceBEq,Nat.reduceAdd]
    refine caN (by exact kK) ?_;rintro v1 h1 s1 ⟨_,_,_,_,_,_,_,rfl,c⟩
    try simp(disch:=omega) only[go_sem,Nat.reduceBEq,Nat.reduceAdd]
    refine caN (by exact EDefined_spec (fn:=fn) c) ?_;rintro v2 h2 s2 rfl
    try simp(disch:=omega) only[go_sem,Nat.reduceBEq,Nat.reduceAdd]
    try rw[hd]
    try simp(disch:=omega) only[go_sem,Nat.reduceBEq,Nat.reduceAdd]
    exact⟨_,_,_,_,_,_,_,rfl,fun e=>by cases e⟩
  | true=>
    by_cases hl:1024 < sz x
    · rw[eErr_20 hA hd (.inl hl)]
      have hl:=decide_eq_true hl
      clear hA
      refine Spec.go [] Tryz.func84 rfl rfl (by kernel_rfl) fun C _=>?_
      try simp(disch:=omega) only[go_sem,Nat.reduceBEq,Nat.reduceAdd]
      refine caN (by exact kK) ?_;rintro v1 h1 s1 ⟨_,_,_,_,_,_,_,rfl,c⟩
      try simp(disch:=omega) only[go_sem,Nat.reduceBEq,Nat.reduceAdd]
      refine caN (by exact EDefined_spec (fn:=fn) c) ?_;rintro v2 h2 s2 rfl
      try simp(disch:=omega) only[go_sem,Nat.reduceBEq,Nat.reduceAdd]
      try rw[hd]
      try simp(disch:=omega) only[go_sem,Nat.reduceBEq,Nat.reduceAdd]
      refine caN (by exact TooLong_spec (c.to (h':=h2))) ?_;rintro v3 h3 s3 rfl
      try simp(disch:=omega) only[go_sem,Nat.reduceBEq,Nat.reduceAdd]
      try rw[hl]
      try simp(disch:=omega) only[go_sem,Nat.reduceBEq,Nat.reduceAdd]
      exact⟨_,_,_,_,_,_,_,rfl,fun e=>by cases e⟩
    have hl':=decide_eq_false hl
    by_cases h1:fn=1
    · subst h1
      by_cases hb:x.den*64 < x.num.natAbs
      · rw[eErr_20 hA hd (.inr (.inl ⟨rfl,hb⟩))]
        have hb':=decide_eq_true hb
        clear hA
        refine Spec.go [] Tryz.func84 rfl rfl (by kernel_rfl) fun C _=>?_
        try simp(disch:=omega) only[go_sem,Nat.reduceBEq,Nat.reduceAdd]
        refine caN (by exact kK) ?_;rintro v1 h1 s1 ⟨_,_,_,_,_,_,_,rfl,c⟩
        try simp(disch:=omega) only[go_sem,Nat.reduceBEq,Nat.reduceAdd]
        refine caN (by exact EDefined_spec (fn:=1) c) ?_;rintro v2 h2 s2 rfl
        try simp(disch:=omega) only[go_sem,Nat.reduceBEq,Nat.reduceAdd]
        try rw[hd]
        try simp(disch:=omega) only[go_sem,Nat.reduceBEq,Nat.reduceAdd]
        refine caN (by exact TooLong_spec (c.to (h':=h2))) ?_;rintro v3 h3 s3 rfl
        try simp(disch:=omega) only[go_sem,Nat.reduceBEq,Nat.reduceAdd]
        try rw[hl']
        try simp(disch:=omega) only[go_sem,Nat.reduceBEq,Nat.reduceAdd]
        refine caN (by exact Beyond_spec (n:=64) (c.to (h':=h3)) (by omega) (by decide)) ?_;rintro v4 h4 s4 rfl
        try simp(disch:=omega) only[go_sem,Nat.reduceBEq,Nat.reduceAdd]
        try rw[hb']
        try simp(disch:=omega) only[go_sem,Nat.reduceBEq,Nat.reduceAdd]
        exact⟨_,_,_,_,_,_,_,rfl,fun e=>by cases e⟩
      · rw[eErr_0 hA hd (by rintro(k |k |k);exact hl k;exact hb k.2;exact absurd k.1 (by decide))]
        have hb':=decide_eq_false hb
        clear hA
        refine Spec.go [] Tryz.func84 rfl rfl (by kernel_rfl) fun C _=>?_
        try simp(disch:=omega) only[go_sem,Nat.reduceBEq,Nat.reduceAdd]
        refine caN (by exact kK) ?_;rintro v1 h1 s1 ⟨_,_,_,_,_,_,_,rfl,c⟩
        try simp(disch:=omega) only[go_sem,Nat.reduceBEq,Nat.reduceAdd]
        refine caN (by exact EDefined_spec (fn:=1) c) ?_;rintro v2 h2 s2 rfl
        try simp(disch:=omega) only[go_sem,Nat.reduceBEq,Nat.reduceAdd]
        try rw[hd]
        try simp(disch:=omega) only[go_sem,Nat.reduceBEq,Nat.reduceAdd]
        refine caN (by exact TooLong_spec (c.to (h':=h2))) ?_;rintro v3 h3 s3 rfl
        try simp(disch:=omega) only[go_sem,Nat.reduceBEq,Nat.reduceAdd]
        try rw[hl']
        try simp(disch:=omega) only[go_sem,Nat.reduceBEq,Nat.reduceAdd]
        refine caN (by exact Beyond_spec (n:=64) (c.to (h':=h3)) (by omega) (by decide)) ?_;rintro v4 h4 s4 rfl
        try simp(disch:=omega) only[go_sem,Nat.reduceBEq,Nat.reduceAdd]
        try rw[hb']
        try simp(disch:=omega) only[go_sem,Nat.reduceBEq,Nat.reduceAdd]
        exact⟨_,_,_,_,_,_,_,rfl,fun _=>c.to⟩
    by_cases h3:fn=3∨fn=4∨fn=5
    · have hb:(x.den*4294967296 < x.num.natAbs)∨¬(x.den*4294967296 < x.num.natAbs):=Decidable.em _
      rcases hb with hb |hb
      · rw[eErr_20 hA hd (.inr (.inr ⟨h3,hb⟩))]
        have hb':=decide_eq_true hb
        have kB:∀{h1 h:PH} {v:Value} [Le h1 h],Cn h1 v x→Spec mach 81 #[v,.int .u64 (4294967296:Nat)] h (fun v _=>v=.bool true) NP:=fun c=>by
          rw[←hb']
          exact Beyond_spec (n:=4294967296) c (Nat.le_trans bx (by decide)) (by decide)
        clear hA hb hb' h1
        rcases h3 with rfl |rfl |rfl
        all_goals
          refine Spec.go [] Tryz.func84 rfl rfl (by kernel_rfl) fun C _=>?_
          try simp(disch:=omega) only[go_sem,Nat.reduceBEq,Nat.reduceAdd]
          refine caN (by exact kK) ?_;rintro v1 h1 s1 ⟨_,_,_,_,_,_,_,rfl,c⟩
          try simp(disch:=omega) only[go_sem,Nat.reduceBEq,Nat.reduceAdd]
          refine caN (by exact EDefined_spec c) ?_;rintro v2 h2 s2 rfl
          try rw[hd]
          try simp(disch:=omega) only[go_sem,Nat.reduceBEq,Nat.reduceAdd]
          refine caN (by exact TooLong_spec (c.to (h':=h2))) ?_;rintro v3 h3 s3 rfl
          try simp(disch:=omega) only[go_sem,Nat.reduceBEq,Nat.reduceAdd]
          try rw[hl']
          try simp(disch:=omega) only[go_sem,Nat.reduceBEq,Nat.reduceAdd]
          refine caN (by exact kB (c.to (h':=h3))) ?_;rintro v4 h4 s4 rfl
          try simp(disch:=omega) only[go_sem,Nat.reduceBEq,Nat.reduceAdd]
          exact⟨_,_,_,_,_,_,_,rfl,fun e=>by cases e⟩
      · rw[eErr_0 hA hd (by rintro(k |k |k);exact hl k;exact h1 k.1;exact hb k.2)]
        have hb':=decide_eq_false hb
        have kB:∀{h1 h:PH} {v:Value} [Le h1 h],Cn h1 v x→Spec mach 81 #[v,.int .u64 (4294967296:Nat)] h (fun v _=>v=.bool false) NP:=fun c=>by
          rw[←hb']
          exact Beyond_spec (n:=4294967296) c (Nat.le_trans bx (by decide)) (by decide)
        clear hA hb hb' h1
        rcases h3 with rfl |rfl |rfl
        all_goals
          refine Spec.go [] Tryz.func84 rfl rfl (by kernel_rfl) fun C _=>?_
          try simp(disch:=omega) only[go_sem,Nat.reduceBEq,Nat.reduceAdd]
          refine caN (by exact kK) ?_;rintro v1 h1 s1 ⟨_,_,_,_,_,_,_,rfl,c⟩
          try simp(disch:=omega) only[go_sem,Nat.reduceBEq,Nat.reduceAdd]
          refine caN (by exact EDefined_spec c) ?_;rintro v2 h2 s2 rfl
          try rw[hd]
          try simp(disch:=omega) only[go_sem,Nat.reduceBEq,Nat.reduceAdd]
          refine caN (by exact TooLong_spec (c.to (h':=h2))) ?_;rintro v3 h3 s3 rfl
          try simp(disch:=omega) only[go_sem,Nat.reduceBEq,Nat.reduceAdd]
          try rw[hl']
          try simp(disch:=omega) only[go_sem,Nat.reduceBEq,Nat.reduceAdd]
          refine caN (by exact kB (c.to (h':=h3))) ?_;rintro v4 h4 s4 rfl
          try simp(disch:=omega) only[go_sem,Nat.reduceBEq,Nat.reduceAdd]
          exact⟨_,_,_,_,_,_,_,rfl,fun _=>c.to⟩
    · rw[eErr_0 hA hd (by rintro(k |k |k);exact hl k;exact h1 k.1;exact h3 k.1)]
      have f1:(fn == 1)=false:=by simpa using h1
      have f3:(fn == 3)=false:=by simp;omega
      have f4:(fn == 4)=false:=by simp;omega
      have f5:(fn == 5)=false:=by simp;omega
      clear hA h1 h3
      refine Spec.go [] Tryz.func84 rfl rfl (by kernel_rfl) fun C _=>?_
      try simp(disch:=omega) only[go_sem,Nat.reduceBEq,Nat.reduceAdd]
      refine caN (by exact kK) ?_;rintro v1 h1 s1 ⟨_,_,_,_,_,_,_,rfl,c⟩
      try simp(disch:=omega) only[go_sem,Nat.reduceBEq,Nat.reduceAdd]
      refine caN (by exact EDefined_spec (fn:=fn) c) ?_;rintro v2 h2 s2 rfl
      try simp(disch:=omega) only[go_sem,Nat.reduceBEq,Nat.reduceAdd]
      try rw[hd]
      try simp(disch:=omega) only[go_sem,Nat.reduceBEq,Nat.reduceAdd]
      refine caN (by exact TooLong_spec (c.to (h':=h2))) ?_;rintro v3 h3 s3 rfl
      try simp(disch:=omega) only[go_sem,Nat.reduceBEq,Nat.reduceAdd]
      try rw[hl']
      try simp(disch:=omega) only[go_sem,Nat.reduceBEq,Nat.reduceAdd,f1,f3,f4,f5]
      exact⟨_,_,_,_,_,_,_,rfl,fun _=>c.to⟩
def Ber (h:PH) (r:Value) (e:Int) (x y:Rat):Prop:=∃b1 a1 m1 c1 a2 m2 c2 b2 a3 m3 c3 a4 m4 c4,r=.tuple #[.agg #[.bool b1,.slice a1 m1 c1,.slice a2 m2 c2,.bool b2,.slice a3 m3 c3,.slice a4 m4 c4],.int .i64 e]∧Cn h (.agg #[.bool b1,.slice a1 m1 c1,.slice a2 m2 c2]) x∧Cn h (.agg #[.bool b2,.slice a3 m3 c3,.slice a4 m4 c4]) y
theorem Ber.no (h:PH) (e:Int):Ber h (.tuple #[.agg #[.bool false,.slice none 0 0,.slice none 0 0,.bool false,.slice none 0 0,.slice none 0 0],.int .i64 e]) e 0 0:=⟨_,_,_,_,_,_,_,_,_,_,_,_,_,_,rfl,Cn.nul h,Cn.nul h⟩
theorem EApply_err {h0 h:PH} [Le h0 h] {v:Value} {x:Rat} {fn p:Int} {g:FuncId} (hx:Rv h0 v x) (he:eErr fn x p≠0):Spec mach 46 #[.int .i64 fn,v,.int .i64 p,.func (.func g) #[] #[]] h (fun r h'=>Ber h' r (eErr fn x p) 0 0) NP:=by
  have kR:=fun {h} [Le h0 h]=>EReady_spec (h:=h) (fn:=fn) (p:=p) hx
  obtain⟨_,_,_,_,_,_,_,rfl,_⟩:=hx.sa
  have f0:(eErr fn x p != 0)=true:=by simpa using he
  generalize eErr fn x p=e at*
  refine Spec.go [] Tryz.func46 rfl rfl (by kernel_rfl) fun C _=>?_
  try simp(disch:=omega) only[go_sem,Nat.reduceBEq,Nat.reduceAdd]
  refine caN (by exact kR) ?_;rintro v1 h1 s1 ⟨_,_,_,_,_,_,_,rfl,c⟩
  try simp(disch:=omega) only[go_sem,Nat.reduceBEq,Nat.reduceAdd,f0]
  exact Ber.no _ _
theorem EApply_exact {h0 h:PH} [Le h0 h] {v:Value} {x:Rat} {fn p:Int} {g:FuncId} (hx:Rv h0 v x) (he:eErr fn x p=0) (hb:exB fn x=true):Spec mach 46 #[.int .i64 fn,v,.int .i64 p,.func (.func g) #[] #[]] h (fun r h'=>Ber h' r 0 (exV fn x) (exV fn x)) NP:=by
  have kR:=fun {h} [Le h0 h]=>EReady_spec (h:=h) (fn:=fn) (p:=p) hx
  rw[he] at kR
  have kE:=fun {h1 h:PH} {a:Value} [Le h1 h] (c:Cn h1 a x)=>EExact_spec (h:=h) (fn:=fn) c
  rw[hb] at kE
  have sv:sz (exV fn x)≤2048:=by unfold exV;split<;>decide
  obtain⟨_,_,_,_,_,_,_,rfl,_⟩:=hx.sa
  refine Spec.go [] Tryz.func46 rfl rfl (by kernel_rfl) fun C _=>?_
  try simp(disch:=omega) only[go_sem,Nat.reduceBEq,Nat.reduceAdd]
  refine caN (by exact kR) ?_;rintro v1 h1 s1 ⟨_,_,_,_,_,_,_,rfl,c⟩
  try simp(disch:=omega) only[go_sem,Nat.reduceBEq,Nat.reduceAdd]
  refine caN (by exact kE (c rfl)) ?_;rintro v2 h2 s2 ⟨_,_,_,_,_,_,_,rfl,c2⟩
  try simp(disch:=omega) only[go_sem,Nat.reduceBEq,Nat.reduceAdd]
  refine caN (by exact NumCanon (Rv.of c2 sv)) ?_;rintro v3 h3 s3 ⟨_,_,_,_,_,_,_,rfl,c3⟩
  try simp(disch:=omega) only[go_sem,Nat.reduceBEq,Nat.reduceAdd]
  exact⟨_,_,_,_,_,_,_,_,_,_,_,_,_,_,rfl,c2.to,c3⟩
theorem EApply_ser {h0 h:PH} [Le h0 h] {v:Value} {x y z:Rat} {fn p e:Int} {g:FuncId} (hx:Rv h0 v x) (he:eErr fn x p=0) (hb:exB fn x=false) (hg:∀{h0 h:PH} {a:Value} [Le h0 h],Cn h0 a x→Spec mach g #[a,.int .i64 p] h (fun r h'=>Ber h' r e y z) NP):
    Spec mach 46 #[.int .i64 fn,v,.int .i64 p,.func (.func g) #[] #[]] h (fun r h'=>Ber h' r e y z) NP:=by
  have kR:=fun {h} [Le h0 h]=>EReady_spec (h:=h) (fn:=fn) (p:=p) hx
  rw[he] at kR
  have kE:=fun {h1 h:PH} {a:Value} [Le h1 h] (c:Cn h1 a x)=>EExact_spec (h:=h) (fn:=fn) c
  rw[hb] at kE
  obtain⟨_,_,_,_,_,_,_,rfl,_⟩:=hx.sa
  refine Spec.go [] Tryz.func46 rfl rfl (by kernel_rfl) fun C _=>?_
  try simp(disch:=omega) only[go_sem,Nat.reduceBEq,Nat.reduceAdd]
  refine caN (by exact kR) ?_;rintro v1 h1 s1 ⟨_,_,_,_,_,_,_,rfl,c⟩
  try simp(disch:=omega) only[go_sem,Nat.reduceBEq,Nat.reduceAdd]
  refine caN (by exact kE (c rfl)) ?_;rintro v2 h2 s2 ⟨_,_,_,_,_,_,_,rfl,_⟩
  try simp(disch:=omega) only[go_sem,Nat.reduceBEq,Nat.reduceAdd]
  refine caN (by exact hg ((c rfl).to (h':=h2))) ?_;rintro v3 h3 s3 ⟨_,_,_,_,_,_,_,_,_,_,_,_,_,_,rfl,q3⟩
  try simp(disch:=omega) only[go_sem,Nat.reduceBEq,Nat.reduceAdd]
  exact⟨_,_,_,_,_,_,_,_,_,_,_,_,_,_,rfl,q3⟩
theorem EReady_no {h0 h:PH} [Le h0 h] {v:Value} {neg:Bool} {n d:Nat} {fn p:Int} (hv:Rw h0 v neg n d) (hl:lg neg n d):Spec mach 84 #[.int .i64 fn,v,.int .i64 p] h (fun r _=>r=.tuple #[.agg #[.bool false,.slice none 0 0,.slice none 0 0],.int .i64 1]) NP:=by
  have kK:=fun {h} [Le h0 h]=>EKnown_no (h:=h) (fn:=fn) hv hl
  obtain⟨_,_,_,_,_,_,_,rfl,_⟩:=hv.sa
  refine Spec.go [] Tryz.func84 rfl rfl (by kernel_rfl) fun C _=>?_
  try simp(disch:=omega) only[go_sem,Nat.reduceBEq,Nat.reduceAdd]
  refine caN (by exact kK) ?_;rintro v1 h1 s1 rfl
  try simp(disch:=omega) only[go_sem,Nat.reduceBEq,Nat.reduceAdd]
theorem EApply_no {h0 h:PH} [Le h0 h] {v:Value} {neg:Bool} {n d:Nat} {fn p:Int} {g:FuncId} (hv:Rw h0 v neg n d) (hl:lg neg n d):Spec mach 46 #[.int .i64 fn,v,.int .i64 p,.func (.func g) #[] #[]] h (fun r h'=>Ber h' r 1 0 0) NP:=by
  have kR:=fun {h} [Le h0 h]=>EReady_no (h:=h) (fn:=fn) (p:=p) hv hl
  obtain⟨_,_,_,_,_,_,_,rfl,_⟩:=hv.sa
  refine Spec.go [] Tryz.func46 rfl rfl (by kernel_rfl) fun C _=>?_
  try simp(disch:=omega) only[go_sem,Nat.reduceBEq,Nat.reduceAdd]
  refine caN (by exact kR) ?_;rintro v1 h1 s1 rfl
  try simp(disch:=omega) only[go_sem,Nat.reduceBEq,Nat.reduceAdd]
  exact Ber.no _ _
end Go.Q
namespace Go.Q
open Go.Proofs
set_option maxRecDepth 100000
set_option maxHeartbeats 16000000
theorem sgn_sg (neg:Bool) (n d:Nat):sgn neg n d=if neg=true then -sgn false n d else sgn false n d:=by
  cases neg
  · rfl
  · unfold sgn
    simp only[if_true,Bool.false_eq_true,if_false]
    rw[Rat.neg_mkRat]
theorem glo_grid (z:Int) (w:Nat):glo ((z:Rat) / 2^w) w=z.natAbs:=by
  have hu:(0:Rat) < ((2^w:Nat):Rat):=u_pos w
  have e2:((2^w:Nat):Rat)=2^w:=by push_cast;rfl
  have e:=q_den ((z:Rat) / 2^w)
  have hd:=((z:Rat) / 2^w).den_nz
  generalize hq:(z:Rat) / 2^w=q at*
  have hz:(z:Rat)=q*((2^w:Nat):Rat):=by
    rw[←hq,e2,Rat.div_mul_cancel (by rw[←e2];grind)]
  have key:(q.num:Int)*((2^w:Nat):Int)=z*(q.den:Int):=by
    have:((q.num*((2^w:Nat):Int):Int):Rat)=((z*(q.den:Int):Int):Rat):=by
      rw[Rat.intCast_mul,Rat.intCast_mul,hz,←e]
      show q*(q.den:Rat)*((2^w:Nat):Rat)=q*((2^w:Nat):Rat)*(q.den:Rat)
      grind
    exact Rat.intCast_inj.1 this
  have key2:=congrArg Int.natAbs key
  rw[Int.natAbs_mul,Int.natAbs_mul] at key2
  simp only[Int.natAbs_natCast] at key2
  unfold glo
  rw[key2]
  exact Nat.mul_div_cancel _ (Nat.pos_of_ne_zero hd)
def tq (x:Rat) (w:Nat):Nat→Rat
  |0=>siL x w*(coL x w)⁻¹
  |1=>siL x w*(coH x w)⁻¹
  |2=>siH x w*(coL x w)⁻¹
  |_=>siH x w*(coH x w)⁻¹
def tqL (x:Rat) (w:Nat):Nat→Rat
  |0=>tq x w 0
  |n+1=>if tq x w (n+1) < tqL x w n then tq x w (n+1) else tqL x w n
def tqH (x:Rat) (w:Nat):Nat→Rat
  |0=>tq x w 0
  |n+1=>if tqH x w n < tq x w (n+1) then tq x w (n+1) else tqH x w n
theorem tq_sz {x:Rat} {w:Nat} (hb:¬x.den*4294967296 < x.num.natAbs) (hw:64≤w) (hw':w≤192):∀n,sz (tq x w n)≤2*w+4:=by
  obtain⟨z1,z2,z3,z4⟩:=sc_sz hb hw hw'
  have i1:=sz_inv (coL x w)
  have i2:=sz_inv (coH x w)
  have m1:=sz_mul (siL x w) (coL x w)⁻¹
  have m2:=sz_mul (siL x w) (coH x w)⁻¹
  have m3:=sz_mul (siH x w) (coL x w)⁻¹
  have m4:=sz_mul (siH x w) (coH x w)⁻¹
  intro n
  unfold tq
  split<;>omega
theorem tqL_sz {x:Rat} {w:Nat} (hb:¬x.den*4294967296 < x.num.natAbs) (hw:64≤w) (hw':w≤192):∀n,sz (tqL x w n)≤2*w+4∧sz (tqH x w n)≤2*w+4
  |0=>⟨tq_sz hb hw hw' 0,tq_sz hb hw hw' 0⟩
  | n+1=>by
    obtain⟨h1,h2⟩:=tqL_sz hb hw hw' n
    have h3:=tq_sz hb hw hw' (n+1)
    unfold tqL tqH
    constructor<;>split<;>assumption
end Go.Q
namespace Go.Q
open Go.Proofs
set_option maxRecDepth 100000
set_option maxHeartbeats 16000000
end Go.Q
namespace Go.Q
open Go.Proofs
set_option maxRecDepth 100000
set_option maxHeartbeats 8000000
def tanLo (x:Rat) (p:Nat):Rat:=gdown (tqL x (p+64) 3) p
def tanHi (x:Rat) (p:Nat):Rat:=gup (tqH x (p+64) 3) p
def pole (x:Rat) (p:Nat):Prop:=coL x (p+64)≤0∧0≤coH x (p+64)
instance (x:Rat) (p:Nat):Decidable (pole x p):=inferInstanceAs (Decidable (_∧_))
def serL (fn:Int) (x:Rat) (p:Nat):Rat:=if fn=1 then expLo x p else if fn=2 then lnLo x.num.natAbs x.den p else if fn=3 then gdown (siL x (p+64)) p else if fn=4 then gdown (coL x (p+64)) p else if fn=5 then tanLo x p else if fn=6 then asinLo x p else if fn=7 then acLo x p else atLo x p
def serH (fn:Int) (x:Rat) (p:Nat):Rat:=if fn=1 then expHi x p else if fn=2 then lnHi x.num.natAbs x.den p else if fn=3 then gup (siH x (p+64)) p else if fn=4 then gup (coH x (p+64)) p else if fn=5 then tanHi x p else if fn=6 then asinHi x p else if fn=7 then acHi x p else atHi x p
def elE (fn:Int) (x:Rat) (p:Int):Int:=if eErr fn x p≠0 then eErr fn x p else if exB fn x=true then 0 else if fn=5∧pole x p.toNat then 20 else 0
def elL (fn:Int) (x:Rat) (p:Int):Rat:=if elE fn x p≠0 then 0 else if exB fn x=true then exV fn x else serL fn x p.toNat
def elH (fn:Int) (x:Rat) (p:Int):Rat:=if elE fn x p≠0 then 0 else if exB fn x=true then exV fn x else serH fn x p.toNat
theorem eErr_p {fn:Int} {x:Rat} {p:Int} (he:eErr fn x p=0):(1≤fn∧fn≤8)∧0≤p∧p≤128∧defB fn x=true∧sz x≤1024∧(fn=1→¬x.den*64 < x.num.natAbs)∧(fn=3∨fn=4∨fn=5→¬x.den*4294967296 < x.num.natAbs):=by
  by_cases h:¬(1≤fn∧fn≤8)∨p < 0∨128 < p
  · rw[eErr_2 h] at he;cases he
  cases hd:defB fn x with
  |false=>rw[eErr_5 h hd] at he;cases he
  | true=>
    by_cases hb:1024 < sz x∨(fn=1∧x.den*64 < x.num.natAbs)∨((fn=3∨fn=4∨fn=5)∧x.den*4294967296 < x.num.natAbs)
    · rw[eErr_20 h hd hb] at he;cases he
    · refine⟨by omega,by omega,by omega,rfl,by omega,fun k c=>hb (.inr (.inl ⟨k,c⟩)),fun k c=>hb (.inr (.inr ⟨k,c⟩))⟩
theorem EApply_all {h0 h:PH} [Le h0 h] {v:Value} {x:Rat} {fn p:Int} {g:FuncId} (hx:Rv h0 v x)
    (hg:eErr fn x p=0→exB fn x=false→∀{h0 h:PH} {a:Value} [Le h0 h],Cn h0 a x→Spec mach g #[a,.int .i64 (p.toNat:Nat)] h (fun r h'=>Ber h' r (elE fn x p) (if elE fn x p≠0 then 0 else serL fn x p.toNat) (if elE fn x p≠0 then 0 else serH fn x p.toNat)) NP):
    Spec mach 46 #[.int .i64 fn,v,.int .i64 p,.func (.func g) #[] #[]] h (fun r h'=>Ber h' r (elE fn x p) (elL fn x p) (elH fn x p)) NP:=by
  by_cases he:eErr fn x p=0
  · have hp:((p.toNat:Nat):Int)=p:=by have:=eErr_p he;omega
    cases hb:exB fn x with
    | true=>
      have e1:elE fn x p=0:=by unfold elE;rw[if_neg (by simp[he]),if_pos hb]
      have e2:elL fn x p=exV fn x:=by unfold elL;rw[if_neg (by simp[e1]),if_pos hb]
      have e3:elH fn x p=exV fn x:=by unfold elH;rw[if_neg (by simp[e1]),if_pos hb]
      rw[e1,e2,e3]
      exact EApply_exact hx he hb
    | false=>
      have e2:elL fn x p=if elE fn x p≠0 then 0 else serL fn x p.toNat:=by unfold elL;split;rfl;rw[hb,if_neg (by decide)]
      have e3:elH fn x p=if elE fn x p≠0 then 0 else serH fn x p.toNat:=by unfold elH;split;rfl;rw[hb,if_neg (by decide)]
      rw[e2,e3]
      have hg:=@hg he hb
      rw[hp] at hg
      exact EApply_ser hx he hb hg
  · have e1:elE fn x p=eErr fn x p:=by unfold elE;rw[if_pos he]
    have e2:elL fn x p=0:=by unfold elL;rw[if_pos (by rw[e1];exact he)]
    have e3:elH fn x p=0:=by unfold elH;rw[if_pos (by rw[e1];exact he)]
    rw[e1,e2,e3]
    exact EApply_err hx he
theorem elE_0 {fn:Int} {x:Rat} {p:Int} (he:eErr fn x p=0) (hb:exB fn x=false) (h5:fn≠5):elE fn x p=0:=by
  unfold elE
  rw[if_neg (by simp[he]),hb,if_neg (by decide),if_neg (fun k=>h5 k.1)]
theorem ser1 {h0 h:PH} {a:Value} {x:Rat} {p:Int} (he:eErr 1 x p=0) (hb:exB 1 x=false) [Le h0 h] (c:Cn h0 a x):Spec mach 37 #[a,.int .i64 (p.toNat:Nat)] h (fun r h'=>Ber h' r (elE 1 x p) (if elE 1 x p≠0 then 0 else serL 1 x p.toNat) (if elE 1 x p≠0 then 0 else serH 1 x p.toNat)) NP:=by
  obtain⟨_,p0,p1,hd,bx,k1,_⟩:=eErr_p he
  rw[elE_0 he hb (by decide)]
  exact EExp_spec c bx (k1 rfl) (by omega)
theorem ser3 {h0 h:PH} {a:Value} {x:Rat} {p:Int} (he:eErr 3 x p=0) (hb:exB 3 x=false) [Le h0 h] (c:Cn h0 a x):Spec mach 39 #[a,.int .i64 (p.toNat:Nat)] h (fun r h'=>Ber h' r (elE 3 x p) (if elE 3 x p≠0 then 0 else serL 3 x p.toNat) (if elE 3 x p≠0 then 0 else serH 3 x p.toNat)) NP:=by
  obtain⟨_,p0,p1,hd,bx,_,k⟩:=eErr_p he
  rw[elE_0 he hb (by decide)]
  exact ESin_spec c bx (k (.inl rfl)) (by omega)
theorem ser4 {h0 h:PH} {a:Value} {x:Rat} {p:Int} (he:eErr 4 x p=0) (hb:exB 4 x=false) [Le h0 h] (c:Cn h0 a x):Spec mach 40 #[a,.int .i64 (p.toNat:Nat)] h (fun r h'=>Ber h' r (elE 4 x p) (if elE 4 x p≠0 then 0 else serL 4 x p.toNat) (if elE 4 x p≠0 then 0 else serH 4 x p.toNat)) NP:=by
  obtain⟨_,p0,p1,hd,bx,_,k⟩:=eErr_p he
  rw[elE_0 he hb (by decide)]
  exact ECos_spec c bx (k (.inr (.inl rfl))) (by omega)
theorem abs_1 {x:Rat} (hd:decide (x.num.natAbs≤x.den)=true):x.num.natAbs≤x.den:=of_decide_eq_true hd
theorem Ber.sp {h:PH} {r:Value} {e:Int} {x y:Rat} (k:Ber h r e x y):∃b1 a1 m1 c1 a2 m2 c2 b2 a3 m3 c3 a4 m4 c4,r=.tuple #[.agg #[.bool b1,.slice a1 m1 c1,.slice a2 m2 c2,.bool b2,.slice a3 m3 c3,.slice a4 m4 c4],.int .i64 e]∧Ber h (.tuple #[.agg #[.bool b1,.slice a1 m1 c1,.slice a2 m2 c2,.bool b2,.slice a3 m3 c3,.slice a4 m4 c4],.int .i64 e]) e x y:=by
  obtain⟨b1,a1,m1,c1,a2,m2,c2,b2,a3,m3,c3,a4,m4,c4,rfl,k1,k2⟩:=k
  exact⟨b1,a1,m1,c1,a2,m2,c2,b2,a3,m3,c3,a4,m4,c4,rfl,_,_,_,_,_,_,_,_,_,_,_,_,_,_,rfl,k1,k2⟩
theorem Apply_e1 {h0 h:PH} [Le h0 h] {v:Value} {x:Rat} {p:Int} (hx:Rv h0 v x):Spec mach 19 #[.int .i64 1,v,.int .i64 p] h (fun r h'=>Ber h' r (elE 1 x p) (elL 1 x p) (elH 1 x p)) NP:=by
  have kA:=fun {h} [Le h0 h]=>EApply_all (h:=h) (fn:=1) (p:=p) (g:=37) hx (fun he hb {_ _ _} _ c=>ser1 he hb c)
  obtain⟨_,_,_,_,_,_,_,rfl,_⟩:=hx.sa
  refine Spec.go [] Tryz.func19 rfl rfl (by kernel_rfl) fun C _=>?_
  try simp(disch:=omega) only[go_sem,Nat.reduceBEq,Nat.reduceAdd]
  change op2 (some (Value.func (.func 37) #[] #[])) _
  try simp(disch:=omega) only[go_sem,Nat.reduceBEq,Nat.reduceAdd]
  refine caN (by exact kA) ?_;rintro v1 h1 s1 q1;obtain⟨_,_,_,_,_,_,_,_,_,_,_,_,_,_,rfl,q1⟩:=q1.sp
  try simp(disch:=omega) only[go_sem,Nat.reduceBEq,Nat.reduceAdd]
  exact q1
theorem Apply_e3 {h0 h:PH} [Le h0 h] {v:Value} {x:Rat} {p:Int} (hx:Rv h0 v x):Spec mach 19 #[.int .i64 3,v,.int .i64 p] h (fun r h'=>Ber h' r (elE 3 x p) (elL 3 x p) (elH 3 x p)) NP:=by
  have kA:=fun {h} [Le h0 h]=>EApply_all (h:=h) (fn:=3) (p:=p) (g:=39) hx (fun he hb {_ _ _} _ c=>ser3 he hb c)
  obtain⟨_,_,_,_,_,_,_,rfl,_⟩:=hx.sa
  refine Spec.go [] Tryz.func19 rfl rfl (by kernel_rfl) fun C _=>?_
  try simp(disch:=omega) only[go_sem,Nat.reduceBEq,Nat.reduceAdd]
  change op2 (some (Value.func (.func 39) #[] #[])) _
  try simp(disch:=omega) only[go_sem,Nat.reduceBEq,Nat.reduceAdd]
  refine caN (by exact kA) ?_;rintro v1 h1 s1 q1;obtain⟨_,_,_,_,_,_,_,_,_,_,_,_,_,_,rfl,q1⟩:=q1.sp
  try simp(disch:=omega) only[go_sem,Nat.reduceBEq,Nat.reduceAdd]
  exact q1
theorem Apply_e4 {h0 h:PH} [Le h0 h] {v:Value} {x:Rat} {p:Int} (hx:Rv h0 v x):Spec mach 19 #[.int .i64 4,v,.int .i64 p] h (fun r h'=>Ber h' r (elE 4 x p) (elL 4 x p) (elH 4 x p)) NP:=by
  have kA:=fun {h} [Le h0 h]=>EApply_all (h:=h) (fn:=4) (p:=p) (g:=40) hx (fun he hb {_ _ _} _ c=>ser4 he hb c)
  obtain⟨_,_,_,_,_,_,_,rfl,_⟩:=hx.sa
  refine Spec.go [] Tryz.func19 rfl rfl (by kernel_rfl) fun C _=>?_
  try simp(disch:=omega) only[go_sem,Nat.reduceBEq,Nat.reduceAdd]
  change op2 (some (Value.func (.func 40) #[] #[])) _
  try simp(disch:=omega) only[go_sem,Nat.reduceBEq,Nat.reduceAdd]
  refine caN (by exact kA) ?_;rintro v1 h1 s1 q1;obtain⟨_,_,_,_,_,_,_,_,_,_,_,_,_,_,rfl,q1⟩:=q1.sp
  try simp(disch:=omega) only[go_sem,Nat.reduceBEq,Nat.reduceAdd]
  exact q1
theorem Apply_no {h0 h:PH} [Le h0 h] {v:Value} {neg:Bool} {n d:Nat} {fn p:Int} (hv:Rw h0 v neg n d) (hl:lg neg n d):Spec mach 19 #[.int .i64 fn,v,.int .i64 p] h (fun r h'=>Ber h' r 1 0 0) NP:=by
  by_cases hf:1≤fn∧fn≤8
  · have hc:fn=1∨fn=2∨fn=3∨fn=4∨fn=5∨fn=6∨fn=7∨fn=8:=by omega
    clear hf
    have kA:=fun {h} {g:FuncId} [Le h0 h]=>EApply_no (h:=h) (fn:=fn) (p:=p) (g:=g) hv hl
    obtain⟨_,_,_,_,_,_,_,rfl,_⟩:=hv.sa
    rcases hc with rfl |rfl |rfl |rfl |rfl |rfl |rfl |rfl
    all_goals
      refine Spec.go [] Tryz.func19 rfl rfl (by kernel_rfl) fun C _=>?_
      try simp(disch:=omega) only[go_sem,Nat.reduceBEq,Nat.reduceAdd]
    · change op2 (some (Value.func (.func 37) #[] #[])) _
      try simp(disch:=omega) only[go_sem,Nat.reduceBEq,Nat.reduceAdd]
      refine caN (by exact kA) ?_;rintro v1 h1 s1 q1;obtain⟨_,_,_,_,_,_,_,_,_,_,_,_,_,_,rfl,q1⟩:=q1.sp
      try simp(disch:=omega) only[go_sem,Nat.reduceBEq,Nat.reduceAdd]
      exact q1
    · change op2 (some (Value.func (.func 38) #[] #[])) _
      try simp(disch:=omega) only[go_sem,Nat.reduceBEq,Nat.reduceAdd]
      refine caN (by exact kA) ?_;rintro v1 h1 s1 q1;obtain⟨_,_,_,_,_,_,_,_,_,_,_,_,_,_,rfl,q1⟩:=q1.sp
      try simp(disch:=omega) only[go_sem,Nat.reduceBEq,Nat.reduceAdd]
      exact q1
    · change op2 (some (Value.func (.func 39) #[] #[])) _
      try simp(disch:=omega) only[go_sem,Nat.reduceBEq,Nat.reduceAdd]
      refine caN (by exact kA) ?_;rintro v1 h1 s1 q1;obtain⟨_,_,_,_,_,_,_,_,_,_,_,_,_,_,rfl,q1⟩:=q1.sp
      try simp(disch:=omega) only[go_sem,Nat.reduceBEq,Nat.reduceAdd]
      exact q1
    · change op2 (some (Value.func (.func 40) #[] #[])) _
      try simp(disch:=omega) only[go_sem,Nat.reduceBEq,Nat.reduceAdd]
      refine caN (by exact kA) ?_;rintro v1 h1 s1 q1;obtain⟨_,_,_,_,_,_,_,_,_,_,_,_,_,_,rfl,q1⟩:=q1.sp
      try simp(disch:=omega) only[go_sem,Nat.reduceBEq,Nat.reduceAdd]
      exact q1
    · change op2 (some (Value.func (.func 41) #[] #[])) _
      try simp(disch:=omega) only[go_sem,Nat.reduceBEq,Nat.reduceAdd]
      refine caN (by exact kA) ?_;rintro v1 h1 s1 q1;obtain⟨_,_,_,_,_,_,_,_,_,_,_,_,_,_,rfl,q1⟩:=q1.sp
      try simp(disch:=omega) only[go_sem,Nat.reduceBEq,Nat.reduceAdd]
      exact q1
    · change op2 (some (Value.func (.func 42) #[] #[])) _
      try simp(disch:=omega) only[go_sem,Nat.reduceBEq,Nat.reduceAdd]
      refine caN (by exact kA) ?_;rintro v1 h1 s1 q1;obtain⟨_,_,_,_,_,_,_,_,_,_,_,_,_,_,rfl,q1⟩:=q1.sp
      try simp(disch:=omega) only[go_sem,Nat.reduceBEq,Nat.reduceAdd]
      exact q1
    · change op2 (some (Value.func (.func 43) #[] #[])) _
      try simp(disch:=omega) only[go_sem,Nat.reduceBEq,Nat.reduceAdd]
      refine caN (by exact kA) ?_;rintro v1 h1 s1 q1;obtain⟨_,_,_,_,_,_,_,_,_,_,_,_,_,_,rfl,q1⟩:=q1.sp
      try simp(disch:=omega) only[go_sem,Nat.reduceBEq,Nat.reduceAdd]
      exact q1
    · change op2 (some (Value.func (.func 44) #[] #[])) _
      try simp(disch:=omega) only[go_sem,Nat.reduceBEq,Nat.reduceAdd]
      refine caN (by exact kA) ?_;rintro v1 h1 s1 q1;obtain⟨_,_,_,_,_,_,_,_,_,_,_,_,_,_,rfl,q1⟩:=q1.sp
      try simp(disch:=omega) only[go_sem,Nat.reduceBEq,Nat.reduceAdd]
      exact q1
  · have kK:=fun {h} [Le h0 h]=>EKnown_no (h:=h) (fn:=fn) hv hl
    obtain⟨_,_,_,_,_,_,_,rfl,_⟩:=hv.sa
    rcases Int.lt_or_le fn 1 with f1 |f1
    · refine Spec.go [] Tryz.func19 rfl rfl (by kernel_rfl) fun C _=>?_
      try simp(disch:=omega) only[go_sem,Nat.reduceBEq,Nat.reduceAdd]
      refine caN (by exact kK) ?_;rintro v1 h1 s1 rfl
      try simp(disch:=omega) only[go_sem,Nat.reduceBEq,Nat.reduceAdd]
      exact Ber.no _ _
    · have f8:fn > 8:=by omega
      refine Spec.go [] Tryz.func19 rfl rfl (by kernel_rfl) fun C _=>?_
      try simp(disch:=omega) only[go_sem,Nat.reduceBEq,Nat.reduceAdd]
      refine caN (by exact kK) ?_;rintro v1 h1 s1 rfl
      try simp(disch:=omega) only[go_sem,Nat.reduceBEq,Nat.reduceAdd]
      exact Ber.no _ _
end Go.Q
namespace Go.Q
set_option maxRecDepth 100000
set_option maxHeartbeats 4000000
end Go.Q
namespace Go.Q
set_option maxRecDepth 100000
set_option maxHeartbeats 4000000
theorem sgn_szp {neg:Bool} {n p k:Nat} (h:bl n≤k) (hp:p+1≤k):sz (sgn neg n (2^p))≤k:=by
  have h1:=sz_sgn neg n (pow2_ne p)
  have h2:=bl_pow2 p
  omega
theorem bk_sz {neg:Bool} {a b k p m:Nat} (ha:bl a≤m) (hb:bl b≤m) (hp:p≤m):sz (bkL neg a b k p)≤m+1∧sz (bkH neg a b k p)≤m+1:=by
  have h1:=bl_div_le a (2^k)
  have h2:=bl_cdiv b (pow2_ne k)
  unfold bkL bkH
  cases neg
  · exact⟨sgn_szp (by omega) (by omega),sgn_szp (by omega) (by omega)⟩
  · exact⟨sgn_szp (by omega) (by omega),sgn_szp (by omega) (by omega)⟩
theorem exp_sz {x:Rat} {p:Nat} (hb:¬x.den*64 < x.num.natAbs) (hp:p≤128):sz (expLo x p)≤2048∧sz (expHi x p)≤2048:=by
  obtain⟨f1,f2,f3,f4⟩:=exp_fit (p:=p) hb
  unfold expLo expHi
  generalize expL x p=A at*
  generalize expH x p=B at*
  have u:=bl_pow2 (p+112+p)
  have h1:=bl_div_le (2^(p+112+p)) B
  have h2:=bl_cdiv (2^(p+112+p)) f3
  have h3:=bl_div_le A (2^112)
  have h4:=bl_cdiv B (pow2_ne 112)
  generalize 2^(p+112+p)=U at*
  generalize U / B=a1 at*
  generalize cdiv U A=a2 at*
  generalize A / 2^112=a3 at*
  generalize cdiv B (2^112)=a4 at*
  constructor<;>split<;>exact sgn_szp (by omega) (by omega)
theorem ln_sz {n d p:Nat} (hn:n≠0) (b1:bl n≤1024) (b2:bl d≤1024) (hp:p≤128):sz (lnLo n d p)≤2048∧sz (lnHi n d p)≤2048:=by
  obtain⟨a1,a2,_,_⟩:=lge_abs b1 b2
  obtain⟨l1,l2⟩:=lgm_arg (n:=n) (d:=d) (w:=p+32) hn
  obtain⟨l3,l4⟩:=lg2_arg (p+32)
  obtain⟨l5,l6⟩:=logL_le l1 l2
  obtain⟨l7,l8⟩:=logL_le l3 l4
  have c1:bl (lgmL n d (p+32))≤p+32+8:=bl_112 l5
  have c2:bl (lgmH n d (p+32))≤p+32+8:=bl_112 l6
  have c3:bl (lg2L (p+32))≤p+32+8:=bl_112 l7
  have c4:bl (lg2H (p+32))≤p+32+8:=bl_112 l8
  clear l1 l2 l3 l4 l5 l6 l7 l8
  generalize e1:lgmL n d (p+32)=A at*
  generalize e2:lgmH n d (p+32)=B at*
  generalize e3:lg2L (p+32)=C at*
  generalize e4:lg2H (p+32)=D at*
  by_cases he:0≤lge n d
  · obtain⟨m,hm⟩:∃m:Nat,(lge n d).toNat=m:=⟨_,rfl⟩
    have bm:bl m≤11:=bl_le.2 (by omega)
    have b14:=bl_mul C m
    have b15:=bl_mul D m
    have b16:=bl_add (C*m) A
    have b17:=bl_add (D*m) B
    have b18:=bl_div_le (C*m+A) (2^32)
    have b19:=bl_cdiv (D*m+B) (pow2_ne 32)
    unfold lnLo lnHi
    rw[if_pos he,if_pos he,hm,e1,e2,e3,e4]
    exact⟨sgn_szp (by omega) (by omega),sgn_szp (by omega) (by omega)⟩
  · obtain⟨m,hm⟩:∃m:Nat,(0 - lge n d).toNat=m:=⟨_,rfl⟩
    have bm:bl m≤11:=bl_le.2 (by omega)
    have b14:=bl_mul C m
    have b15:=bl_mul D m
    have y1:=sz_dif (a:=A) (b:=D*m) (w:=p+32) (k:=p+52) (by omega) (by omega) (by omega)
    have y2:=sz_dif (a:=B) (b:=C*m) (w:=p+32) (k:=p+52) (by omega) (by omega) (by omega)
    unfold lnLo lnHi
    rw[if_neg he,if_neg he,hm,e1,e2,e3,e4]
    have z1:=sz_gd (sgn false A (2^(p+32))+ -sgn false (D*m) (2^(p+32))) p
    have z2:=sz_gu (sgn false B (2^(p+32))+ -sgn false (C*m) (2^(p+32))) p
    omega
theorem at_sz {x:Rat} {p:Nat} (hp:p≤128):sz (atLo x p)≤2048∧sz (atHi x p)≤2048:=by
  have key:bl (atA x (p+32))≤p+38∧bl (atB x (p+32))≤p+38:=by
    obtain⟨b1,b2⟩:=bl_pi (w:=p+32)
    unfold atA atB
    by_cases hb:x.den < x.num.natAbs
    · rw[if_pos hb,if_pos hb]
      have h1:bl (piL (p+32) - anH (glo (invQ x) (p+32)) (ghi (invQ x) (p+32)) (p+32)*2^1)≤_:=bl_mono (Nat.sub_le _ _)
      have h2:bl (piH (p+32) - anL (glo (invQ x) (p+32)) (ghi (invQ x) (p+32)) (p+32)*2^1)≤_:=bl_mono (Nat.sub_le _ _)
      omega
    · rw[if_neg hb,if_neg hb]
      obtain⟨l1,l2⟩:=g_le (x:=x) (w:=p+32) hb
      obtain⟨m1,m2⟩:=an_le (w:=p+32) (by omega) l1 l2
      have b3:=bl_w3 (by omega) m1
      have b4:=bl_w3 (by omega) m2
      omega
  obtain⟨k1,k2⟩:=bk_sz (neg:=decide (x.num < 0)) (k:=atK x) (p:=p) key.1 key.2 (by omega)
  exact⟨Nat.le_trans k1 (by omega),Nat.le_trans k2 (by omega)⟩
theorem as_sz {x:Rat} {p:Nat} (h:x.num.natAbs≤x.den) (hp:p≤128):sz (asinLo x p)≤2048∧sz (asinHi x p)≤2048:=by
  obtain⟨b1,b2⟩:=bl_as (w:=p+32) (by omega) h
  obtain⟨k1,k2⟩:=bk_sz (neg:=decide (x.num < 0)) (k:=32) (p:=p) b1 b2 (by omega)
  exact⟨Nat.le_trans k1 (by omega),Nat.le_trans k2 (by omega)⟩
theorem ac_sz {x:Rat} {p:Nat} (h:x.num.natAbs≤x.den) (hp:p≤128):sz (acLo x p)≤2048∧sz (acHi x p)≤2048:=by
  obtain⟨b1,b2⟩:=bl_as (w:=p+32) (by omega) h
  obtain⟨b3,b4⟩:=bl_pi (w:=p+32)
  have b5:=bl_shl (asL x (p+32)) 1
  have b6:=bl_shl (asU x (p+32)) 1
  unfold acLo acHi
  by_cases h0:x=0
  · rw[if_pos h0,if_pos h0]
    obtain⟨k1,k2⟩:=bk_sz (neg:=false) (k:=33) (p:=p) b3 b4 (by omega)
    exact⟨Nat.le_trans k1 (by omega),Nat.le_trans k2 (by omega)⟩
  · rw[if_neg h0,if_neg h0]
    by_cases hs:x.num < 0
    · rw[if_pos hs,if_pos hs]
      have b9:=bl_add (piL (p+32)) (asL x (p+32)*2^1)
      have b10:=bl_add (piH (p+32)) (asU x (p+32)*2^1)
      obtain⟨k1,k2⟩:=bk_sz (neg:=false) (k:=33) (p:=p) (m:=p+50) (show bl (piL (p+32)+asL x (p+32)*2^1)≤p+50 by omega) (show bl (piH (p+32)+asU x (p+32)*2^1)≤p+50 by omega) (by omega)
      exact⟨Nat.le_trans k1 (by omega),Nat.le_trans k2 (by omega)⟩
    · rw[if_neg hs,if_neg hs]
      have y1:=sz_dif (a:=piL (p+32)) (b:=asU x (p+32)*2^1) (w:=p+32+1) (k:=p+52) (by omega) (by omega) (by omega)
      have y2:=sz_dif (a:=piH (p+32)) (b:=asL x (p+32)*2^1) (w:=p+32+1) (k:=p+52) (by omega) (by omega) (by omega)
      have z1:=sz_gd (sgn false (piL (p+32)) (2^(p+32+1))+ -sgn false (asU x (p+32)*2^1) (2^(p+32+1))) p
      have z2:=sz_gu (sgn false (piH (p+32)) (2^(p+32+1))+ -sgn false (asL x (p+32)*2^1) (2^(p+32+1))) p
      omega
theorem g_sz {x y:Rat} {p k:Nat} (h1:sz x≤k) (h2:sz y≤k) (hk:k+2*p+2≤2048):sz (gdown x p)≤2048∧sz (gup y p)≤2048:=by
  have z1:=sz_gd x p
  have z2:=sz_gu y p
  omega
theorem ser_sz {fn:Int} {x:Rat} {p:Int} (he:eErr fn x p=0) (hb:exB fn x=false):sz (serL fn x p.toNat)≤2048∧sz (serH fn x p.toNat)≤2048:=by
  obtain⟨hf,p0,p1,hd,bx,k1,k2⟩:=eErr_p he
  have hp:p.toNat≤128:=by omega
  generalize p.toNat=q at*
  unfold serL serH
  by_cases h1:fn=1
  · subst h1;exact exp_sz (k1 rfl) hp
  rw[if_neg h1,if_neg h1]
  by_cases h2:fn=2
  · subst h2
    rw[if_pos rfl,if_pos rfl]
    refine ln_sz (fun e=>?_) (Nat.le_trans (sz_num x) bx) (Nat.le_trans (sz_den x) bx) hp
    have hx:0 < x:=by simpa[defB] using hd
    have:=Rat.num_eq_zero.1 (Int.natAbs_eq_zero.1 e)
    rw[this] at hx
    exact absurd hx (by decide)
  rw[if_neg h2,if_neg h2]
  by_cases h3:fn=3
  · subst h3
    rw[if_pos rfl,if_pos rfl]
    obtain⟨z1,z2,_,_⟩:=sc_sz (w:=q+64) (k2 (.inl rfl)) (by omega) (by omega)
    exact g_sz z1 z2 (by omega)
  rw[if_neg h3,if_neg h3]
  by_cases h4:fn=4
  · subst h4
    rw[if_pos rfl,if_pos rfl]
    obtain⟨_,_,z1,z2⟩:=sc_sz (w:=q+64) (k2 (.inr (.inl rfl))) (by omega) (by omega)
    exact g_sz z1 z2 (by omega)
  rw[if_neg h4,if_neg h4]
  by_cases h5:fn=5
  · subst h5
    rw[if_pos rfl,if_pos rfl]
    obtain⟨z1,z2⟩:=tqL_sz (x:=x) (w:=q+64) (k2 (.inr (.inr rfl))) (by omega) (by omega) 3
    exact g_sz z1 z2 (by omega)
  rw[if_neg h5,if_neg h5]
  by_cases h6:fn=6
  · subst h6
    rw[if_pos rfl,if_pos rfl]
    exact as_sz (abs_1 hd) hp
  rw[if_neg h6,if_neg h6]
  by_cases h7:fn=7
  · subst h7
    rw[if_pos rfl,if_pos rfl]
    exact ac_sz (abs_1 hd) hp
  rw[if_neg h7,if_neg h7]
  exact at_sz hp
theorem el_sz {fn:Int} {x:Rat} {p:Int}:sz (elL fn x p)≤2048∧sz (elH fn x p)≤2048:=by
  unfold elL elH
  by_cases e:elE fn x p≠0
  · rw[if_pos e,if_pos e];decide
  · rw[if_neg e,if_neg e]
    have he:eErr fn x p=0:=by
      refine Decidable.byContradiction fun c=>e ?_
      unfold elE
      rw[if_pos c]
      exact c
    cases hb:exB fn x with
    | true=>
      simp only[if_true]
      have:sz (exV fn x)≤2048:=by unfold exV;split<;>decide
      exact⟨this,this⟩
    |false=>exact ser_sz he hb
end Go.Q
namespace Go.Q
open Go.Proofs
set_option maxRecDepth 100000
set_option maxHeartbeats 8000000
theorem Right_spec {h0 h:PH} [Le h0 h] {v w:Value} {x y:Rat} (hx:Cn h0 v x) (hy:Qr h0 w y) (bx:sz x≤2^30) (by_:sz y≤2^30):Spec mach 22 #[v,w] h (fun r _=>r=.bool (decide (x=y))) NP:=by
  have kC:=fun {h} [Le h0 h]=>Canonical_cn (h:=h) hx bx
  have hw:=hx.rw bx
  have kO:=fun {h} [Le h0 h]=>QOf_spec (h:=h) hw
  rw[qof_cn] at kO
  have e3:(cmpQ x y == 0)=decide (x=y):=by unfold cmpQ;grind
  obtain⟨_,_,_,_,_,_,_,rfl,_⟩:=hx.sa
  have hy0:=hy
  obtain⟨_,_,_,_,_,_,_,rfl,_⟩:=hy.sl
  refine Spec.go [(1,.o [0,1,2,3,5,4,6,7,8,9])] Tryz.func22 rfl rfl (by kernel_rfl) fun C _=>?_
  try simp(disch:=omega) only[go_sem,Nat.reduceBEq,Nat.reduceAdd]
  refine caN (by exact kC) ?_;rintro v1 h1 s1 rfl
  try simp(disch:=omega) only[go_sem,Nat.reduceBEq,Nat.reduceAdd]
  refine caN (by exact kO) ?_;rintro v2 h2 s2 q2;have q2':=q2;obtain⟨_,_,_,_,_,_,_,rfl,_⟩:=q2'.sl
  try simp(disch:=omega) only[go_sem,Nat.reduceBEq,Nat.reduceAdd]
  refine caN (by exact QCmp_spec q2 (hy0.to (h':=h2)) (Nat.le_trans bx (by decide)) (Nat.le_trans by_ (by decide))) ?_;rintro v3 h3 s3 rfl
  try simp(disch:=omega) only[go_sem,Nat.reduceBEq,Nat.reduceAdd,e3]
end Go.Q
namespace Go.Q
open Go.Proofs
set_option maxRecDepth 100000
set_option maxHeartbeats 8000000
def brE (fn:Int) (x:Rat) (p:Int):Int:=if 2048 < sz x then 1 else elE fn x p
def brL (fn:Int) (x:Rat) (p:Int):Rat:=if 2048 < sz x then 0 else elL fn x p
def brH (fn:Int) (x:Rat) (p:Int):Rat:=if 2048 < sz x then 0 else elH fn x p
theorem br_sz (fn:Int) (x:Rat) (p:Int):sz (brL fn x p)≤2048∧sz (brH fn x p)≤2048:=by
  unfold brL brH
  by_cases h:2048 < sz x
  · rw[if_pos h,if_pos h];decide
  · rw[if_neg h,if_neg h];exact el_sz
theorem len32 (n:Nat):(W 4294967296 n).length≤(bl n+31) / 32:=
  W_length_le (by decide) (by rw[←B_pow];exact Nat.lt_of_lt_of_le (bl_le.1 (Nat.le_refl _)) (Nat.pow_le_pow_right (by decide) (by omega)))
theorem Cn.rwb {h:PH} {v:Value} {x:Rat} (r:Cn h v x) (bx:sz x≤2^35):Rw h v (decide (x.num < 0)) x.num.natAbs (if x.den=1 then 0 else x.den):=by
  obtain⟨sn,sd,rfl,h2,h3⟩:=r
  have b1:=sz_num x;have b2:=sz_den x
  have b3:bl (if x.den=1 then 0 else x.den)≤bl x.den:=bl_mono (by split<;>omega)
  obtain⟨a,c,xs,rfl,ha,hx,hm⟩:=h2.out
  obtain⟨a',c',ys,rfl,ha',hy,hm'⟩:=h3.out
  have l1:=len32 x.num.natAbs
  have l2:=len32 (if x.den=1 then 0 else x.den)
  rw[hx] at l1
  rw[hy] at l2
  exact⟨_,_,_,_,_,_,rfl,ha,ha',hm,hm',by omega,by omega⟩
theorem Apply_cn {h0 h:PH} [Le h0 h] {v:Value} {x:Rat} {fn p:Int} (hk:∀{h0 h:PH} {w:Value} [Le h0 h],Rv h0 w x→Spec mach 19 #[.int .i64 fn,w,.int .i64 p] h (fun r h'=>Ber h' r (elE fn x p) (elL fn x p) (elH fn x p)) NP) (hx:Cn h0 v x) (bx:sz x≤2^35):Spec mach 19 #[.int .i64 fn,v,.int .i64 p] h (fun r h'=>Ber h' r (brE fn x p) (brL fn x p) (brH fn x p)) NP:=by
  unfold brE brL brH
  by_cases hs:2048 < sz x
  · rw[if_pos hs,if_pos hs,if_pos hs];exact Apply_no (hx.rwb bx) (lg_cn.2 hs)
  · rw[if_neg hs,if_neg hs,if_neg hs];exact hk (Rv.of hx (by omega))
theorem QOf_can {h0 h:PH} [Le h0 h] {v:Value} {x:Rat} (hv:Cn h0 v x) (bx:sz x≤2^30):Spec mach 6 #[v] h (fun v h'=>Qr h' v x) NP:=by
  have:=QOf_spec (h:=h) (hv.rw bx)
  rw[qof_cn] at this
  exact this
def Qb (h:PH) (r:Value) (x y:Rat) (b:Bool):Prop:=∃b1 a1 m1 c1 a2 m2 c2 b2 a3 m3 c3 a4 m4 c4,r=.tuple #[.agg #[.bool b1,.slice a1 m1 c1,.slice a2 m2 c2],.agg #[.bool b2,.slice a3 m3 c3,.slice a4 m4 c4],.bool b]∧Qr h (.agg #[.bool b1,.slice a1 m1 c1,.slice a2 m2 c2]) x∧Qr h (.agg #[.bool b2,.slice a3 m3 c3,.slice a4 m4 c4]) y
theorem LBracket_spec {h0 h:PH} [Le h0 h] {v:Value} {x:Rat} {fn p:Int} (hk:∀{h0 h:PH} {w:Value} [Le h0 h],Rv h0 w x→Spec mach 19 #[.int .i64 fn,w,.int .i64 p] h (fun r h'=>Ber h' r (elE fn x p) (elL fn x p) (elH fn x p)) NP) (hx:Qr h0 v x) (bx:sz x≤2^35):Spec mach 7 #[.int .i64 fn,v,.int .i64 p] h (fun r h'=>Qb h' r (brL fn x p) (brH fn x p) (decide (brE fn x p=0))) NP:=by
  obtain⟨z1,z2⟩:=br_sz fn x p
  have kA:=fun {h0 h:PH} {w:Value} [Le h0 h] (c:Cn h0 w x)=>Apply_cn (h:=h) (fn:=fn) (p:=p) hk c bx
  clear hk
  generalize brE fn x p=e at*
  generalize brL fn x p=lo at*
  generalize brH fn x p=hi at*
  have ee:(e == 0)=decide (e=0):=by rw[Bool.eq_iff_iff];simp
  obtain⟨_,_,_,_,_,_,_,rfl,hx⟩:=hx.sa
  refine Spec.go [(2,.h [] [] [] [0,1,3,4,6,7,2,5,8,9,10])] Tryz.func7 rfl rfl (by kernel_rfl) fun C _=>?_
  try simp(maxSteps:=999999) (disch:=omega) only[go_sem,Nat.reduceBEq,Nat.reduceAdd]
  refine caN (by exact QRat_spec hx (Nat.le_trans bx (by decide))) ?_;rintro v1 h1 s1 q1;obtain⟨_,_,_,_,_,_,_,rfl,q1⟩:=q1.sa
  try simp(maxSteps:=999999) (disch:=omega) only[go_sem,Nat.reduceBEq,Nat.reduceAdd]
  refine caN (by exact kA q1) ?_;rintro v2 h2 s2 q2;obtain⟨_,_,_,_,_,_,_,_,_,_,_,_,_,_,rfl,c1,c2⟩:=q2
  try simp(maxSteps:=999999) (disch:=omega) only[go_sem,Nat.reduceBEq,Nat.reduceAdd]
  refine caN (by exact QOf_can c1 (Nat.le_trans z1 (by decide))) ?_;rintro v3 h3 s3 q3;obtain⟨_,_,_,_,_,_,_,rfl,q3⟩:=q3.sa
  try simp(maxSteps:=999999) (disch:=omega) only[go_sem,Nat.reduceBEq,Nat.reduceAdd]
  refine caN (by exact QOf_can (c2.to (h':=h3)) (Nat.le_trans z2 (by decide))) ?_;rintro v4 h4 s4 q4;obtain⟨_,_,_,_,_,_,_,rfl,q4⟩:=q4.sa
  try simp(maxSteps:=999999) (disch:=omega) only[go_sem,Nat.reduceBEq,Nat.reduceAdd]
  rw[ee]
  exact⟨_,_,_,_,_,_,_,_,_,_,_,_,_,_,rfl,q3.to,q4⟩
end Go.Q
namespace Go.Q
set_option maxRecDepth 100000
set_option maxHeartbeats 4000000
theorem br_p {fn:Int} {x:Rat} {p:Int} (h:brE fn x p=0):sz x≤1024∧0≤p∧p≤128:=by
  unfold brE at h
  split at h
  · cases h
  · unfold elE at h
    by_cases he:eErr fn x p=0
    · have:=eErr_p he;omega
    · rw[if_pos he] at h;exact absurd h he
theorem br_ser {fn:Int} {x:Rat} {p:Int} (h:brE fn x p=0):brL fn x p=(if exB fn x=true then exV fn x else serL fn x p.toNat)∧brH fn x p=(if exB fn x=true then exV fn x else serH fn x p.toNat):=by
  have b:=br_p h
  unfold brE at h
  rw[if_neg (by omega)] at h
  have n1:¬2048 < sz x:=by omega
  constructor
  · show(if 2048 < sz x then 0 else elL fn x p)=_
    rw[if_neg n1]
    show(if elE fn x p≠0 then 0 else if exB fn x=true then exV fn x else serL fn x p.toNat)=_
    rw[if_neg (fun c=>c h)]
  · show(if 2048 < sz x then 0 else elH fn x p)=_
    rw[if_neg n1]
    show(if elE fn x p≠0 then 0 else if exB fn x=true then exV fn x else serH fn x p.toNat)=_
    rw[if_neg (fun c=>c h)]
end Go.Q
namespace Go.Q
set_option maxRecDepth 100000
set_option maxHeartbeats 4000000
end Go.Q
namespace Go.Q
open Go.Proofs
set_option maxRecDepth 100000
set_option maxHeartbeats 16000000
def wideB (x:Rat):Prop:=1024 < sz x∨x.den*4294967296 < x.num.natAbs
instance (x:Rat):Decidable (wideB x):=inferInstanceAs (Decidable (_∨_))
end Go.Q
namespace Go.Q
open Go.Proofs
set_option maxRecDepth 100000
end Go.Q
namespace Go.Q
open Go.Proofs
set_option maxRecDepth 100000
set_option maxHeartbeats 8000000
end Go.Q
namespace Go.Q
open Go.Proofs
set_option maxRecDepth 100000
set_option maxHeartbeats 8000000
end Go.Q
namespace Go.Q
open Go.Proofs
set_option maxRecDepth 100000
set_option maxHeartbeats 8000000
theorem EReady_exp {h0 h:PH} [Le h0 h] {v:Value} {x:Rat} {p:Int} (hx:Rv h0 v x) (hp:0≤p∧p≤128) (hl:¬1024 < sz x) (hb:¬x.den*64 < x.num.natAbs):Spec mach 84 #[.int .i64 1,v,.int .i64 p] h (fun r h'=>∃b na nl nc da dl dc,r=.tuple #[.agg #[.bool b,.slice na nl nc,.slice da dl dc],.int .i64 0]∧Cn h' (.agg #[.bool b,.slice na nl nc,.slice da dl dc]) x) NP:=by
  have kK:=fun {h} [Le h0 h]=>EKnown_ok (h:=h) (fn:=1) hx (by decide)
  have bx:=hx.sz
  obtain⟨_,_,_,_,_,_,_,rfl,_⟩:=hx.sa
  have d1:defB 1 x=true:=rfl
  refine Spec.go [] Tryz.func84 rfl rfl (by kernel_rfl) fun C _=>?_
  try simp(disch:=omega) only[go_sem,Nat.reduceBEq,Nat.reduceAdd]
  refine caN (by exact kK) ?_;rintro v1 h1 s1 ⟨_,_,_,_,_,_,_,rfl,c⟩
  try simp(disch:=omega) only[go_sem,Nat.reduceBEq,Nat.reduceAdd]
  refine caN (by exact EDefined_spec (fn:=1) c) ?_;rintro v2 h2 s2 rfl
  try simp(disch:=omega) only[go_sem,Nat.reduceBEq,Nat.reduceAdd]
  rw[d1]
  try simp(disch:=omega) only[go_sem,Nat.reduceBEq,Nat.reduceAdd]
  refine caN (by exact TooLong_spec (c.to (h':=h2))) ?_;rintro v3 h3 s3 rfl
  try simp(disch:=omega) only[go_sem,Nat.reduceBEq,Nat.reduceAdd]
  try rw[decide_eq_false hl]
  try simp(disch:=omega) only[go_sem,Nat.reduceBEq,Nat.reduceAdd]
  refine caN (by exact Beyond_spec (n:=64) (c.to (h':=h3)) (by omega) (by decide)) ?_;rintro v4 h4 s4 rfl
  try simp(disch:=omega) only[go_sem,Nat.reduceBEq,Nat.reduceAdd]
  try rw[decide_eq_false hb]
  try simp(disch:=omega) only[go_sem,Nat.reduceBEq,Nat.reduceAdd]
  exact⟨_,_,_,_,_,_,_,rfl,c.to⟩
theorem EApply_exp {h0 h:PH} [Le h0 h] {v:Value} {x y z:Rat} {p:Int} {g:FuncId} (hx:Rv h0 v x) (hp:0≤p∧p≤128) (hl:¬1024 < sz x) (hb:¬x.den*64 < x.num.natAbs) (hx0:x≠0) (hg:∀{h0 h:PH} {a:Value} [Le h0 h],Cn h0 a x→Spec mach g #[a,.int .i64 p] h (fun r h'=>Be h' r y z) NP):
    Spec mach 46 #[.int .i64 1,v,.int .i64 p,.func (.func g) #[] #[]] h (fun r h'=>Be h' r y z) NP:=by
  have kK:=fun {h} [Le h0 h]=>EReady_exp (h:=h) hx hp hl hb
  have e1:exB 1 x=false:=by unfold exB;rw[if_neg (by decide)];exact decide_eq_false hx0
  have kE:=fun {h1 h:PH} {a:Value} [Le h1 h] (c:Cn h1 a x)=>EExact_spec (h:=h) (fn:=1) c
  rw[e1] at kE
  obtain⟨_,_,_,_,_,_,_,rfl,_⟩:=hx.sa
  refine Spec.go [] Tryz.func46 rfl rfl (by kernel_rfl) fun C _=>?_
  try simp(disch:=omega) only[go_sem,Nat.reduceBEq,Nat.reduceAdd]
  refine caN (by exact kK) ?_;rintro v1 h1 s1 ⟨_,_,_,_,_,_,_,rfl,c⟩
  try simp(disch:=omega) only[go_sem,Nat.reduceBEq,Nat.reduceAdd]
  refine caN (by exact kE c) ?_;rintro v2 h2 s2 ⟨_,_,_,_,_,_,_,rfl,_⟩
  try simp(disch:=omega) only[go_sem,Nat.reduceBEq,Nat.reduceAdd]
  refine caN (by exact hg (c.to (h':=h2))) ?_;rintro v3 h3 s3 ⟨_,_,_,_,_,_,_,_,_,_,_,_,_,_,rfl,q3⟩
  try simp(disch:=omega) only[go_sem,Nat.reduceBEq,Nat.reduceAdd]
  exact⟨_,_,_,_,_,_,_,_,_,_,_,_,_,_,rfl,q3⟩
theorem FExp_ok {h0 h:PH} [Le h0 h] {v:Value} {x:Rat} {p:Nat} (hx:Rv h0 v x) (hp:p≤128) (hl:¬1024 < sz x) (hb:¬x.den*64 < x.num.natAbs) (hx0:x≠0):Spec mach 21 #[v,.int .i64 p] h (fun r h'=>Be h' r (expLo x p) (expHi x p)) NP:=by
  have kA:=fun {h} [Le h0 h]=>EApply_exp (h:=h) (p:=p) (g:=37) hx (by omega) hl hb hx0 (fun {h0 h a} _ c=>EExp_spec c (by omega) hb hp)
  obtain⟨_,_,_,_,_,_,_,rfl,_⟩:=hx.sa
  clear hl hb
  refine Spec.go [] Tryz.func21 rfl rfl (by kernel_rfl) fun C _=>?_
  try simp(disch:=omega) only[go_sem,Nat.reduceBEq,Nat.reduceAdd]
  refine caN (by exact kA) ?_;rintro v1 h1 s1 ⟨_,_,_,_,_,_,_,_,_,_,_,_,_,_,rfl,r1,r2⟩
  try simp(disch:=omega) only[go_sem,Nat.reduceBEq,Nat.reduceAdd]
  exact⟨_,_,_,_,_,_,_,_,_,_,_,_,_,_,rfl,r1,r2⟩
end Go.Q
namespace Go.Q
open Go.Proofs
set_option maxRecDepth 100000
set_option maxHeartbeats 8000000
theorem RFrac2_spec {h:PH} {a b:Nat} (ha:a < 2^20) (hb:b < 2^20):Spec mach 23 #[.int .i64 a,.int .i64 b] h (fun v h'=>Qr h' v ((a:Rat) / (b:Rat))) NP:=by
  have S:∀{n:Nat},n < 2^20→sz (((n:Int)):Rat)≤2^35:=by
    intro n hn
    unfold sz
    have e1:bl ((((n:Int)):Rat).num.natAbs)≤64:=bl_le.2 (by simp;omega)
    have e2:bl ((((n:Int)):Rat).den)≤64:=bl_le.2 (by simp)
    omega
  have b1:=S ha
  have b2:=S hb
  have e:((((a:Int)):Rat) / (((b:Int)):Rat))=(a:Rat) / (b:Rat):=rfl
  refine Spec.go [] Tryz.func23 rfl rfl (by kernel_rfl) fun C _=>?_
  try simp(disch:=omega) only[go_sem,Nat.reduceBEq,Nat.reduceAdd]
  refine caN (by exact QInt_spec (n:=a) (by omega) (by omega)) ?_;rintro v1 g1 s1 q1;obtain⟨_,_,_,_,_,_,_,rfl,q1⟩:=q1.sa
  try simp(disch:=omega) only[go_sem,Nat.reduceBEq,Nat.reduceAdd]
  refine caN (by exact QInt_spec (n:=b) (by omega) (by omega)) ?_;rintro v2 g2 s2 q2;obtain⟨_,_,_,_,_,_,_,rfl,q2⟩:=q2.sa
  try simp(disch:=omega) only[go_sem,Nat.reduceBEq,Nat.reduceAdd]
  refine caN (by exact QDiv_spec (q1.to (h':=g2)) q2 b1 b2) ?_;rintro v3 g3 s3 q3;rw[e] at q3;obtain⟨_,_,_,_,_,_,_,rfl,q3⟩:=q3.sa
  try simp(disch:=omega) only[go_sem,Nat.reduceBEq,Nat.reduceAdd]
  exact q3
theorem exp_sane1:expLo 1 3=((21:Nat):Rat) / ((8:Nat):Rat):=by
  unfold expLo
  rw[if_neg (by decide),show expL 1 3 / 2^112=21 by decide+kernel]
  decide+kernel
theorem exp_sane2:expHi 1 3=((11:Nat):Rat) / ((4:Nat):Rat):=by
  unfold expHi
  rw[if_neg (by decide),show cdiv (expH 1 3) (2^112)=22 by decide+kernel]
  decide+kernel
theorem one_rv {h:PH} {b:Nat} (hb:h b=some #[.int .u32 1]):Rv h (.agg #[.bool false,.slice (some ⟨b,0,none⟩) 1 1,.slice none 0 0]) 1:=by
  have e:qof false 1 0=1:=by decide+kernel
  refine⟨false,1,0,⟨some ⟨b,0,none⟩,1,[1],none,0,[],rfl,Arr.of_row (fun _=>hb) (by decide) (by decide) (by decide),Arr.nil _,rfl,rfl,by decide,by decide⟩,?_,e⟩
  unfold lg
  rw[e]
  decide+kernel
theorem sane_spec {h:PH}:Spec mach 8 #[] h (fun r _=>r=.bool true) NP:=by
  have z1:sz (((21:Nat):Rat) / ((8:Nat):Rat))≤2^30:=by decide+kernel
  have z2:sz (((11:Nat):Rat) / ((4:Nat):Rat))≤2^30:=by decide+kernel
  have e1:decide (((21:Nat):Rat) / ((8:Nat):Rat)=((21:Nat):Rat) / ((8:Nat):Rat))=true:=decide_eq_true rfl
  have e2:decide (((11:Nat):Rat) / ((4:Nat):Rat)=((11:Nat):Rat) / ((4:Nat):Rat))=true:=decide_eq_true rfl
  have z1:=Hid.mk z1
  have z2:=Hid.mk z2
  refine Spec.go [(1,.t (.s [0] (.p 0 (.s [1,2,3,4,5,6,7,8] .d))))] Tryz.func8 rfl rfl (by kernel_rfl) fun C _=>?_
  try simp(disch:=omega) only[go_sem,Nat.reduceBEq,Nat.reduceAdd]
  intro b h1 st1 hb
  try simp(disch:=omega) only[go_sem,Nat.reduceBEq,Nat.reduceAdd]
  have hb:=hb (by simp[uw])
  try simp(disch:=omega) only[go_sem,Nat.reduceBEq,Nat.reduceAdd]
  refine caN (by exact FExp_ok (x:=1) (p:=3) (one_rv hb) (by decide) (by decide) (by decide) (by decide)) ?_;rintro v2 h2 s2 ⟨_,_,_,_,_,_,_,_,_,_,_,_,_,_,rfl,r1,r2⟩
  try simp(disch:=omega) only[go_sem,Nat.reduceBEq,Nat.reduceAdd]
  rw[exp_sane1] at r1
  rw[exp_sane2] at r2
  try simp(disch:=omega) only[go_sem,Nat.reduceBEq,Nat.reduceAdd]
  refine caN (by exact RFrac2_spec (a:=21) (b:=8) (by decide) (by decide)) ?_;rintro v3 h3 s3 q3;obtain⟨_,_,_,_,_,_,_,rfl,q3⟩:=q3.sa
  try simp(disch:=omega) only[go_sem,Nat.reduceBEq,Nat.reduceAdd]
  refine caN (by exact Right_spec (r1.to (h':=h3)) q3 z1.out z1.out) ?_;rintro v4 h4 s4 rfl
  try simp(disch:=omega) only[go_sem,Nat.reduceBEq,Nat.reduceAdd,e1,decide_true]
  refine caN (by exact RFrac2_spec (a:=11) (b:=4) (by decide) (by decide)) ?_;rintro v5 h5 s5 q5;obtain⟨_,_,_,_,_,_,_,rfl,q5⟩:=q5.sa
  try simp(disch:=omega) only[go_sem,Nat.reduceBEq,Nat.reduceAdd]
  refine caN (by exact Right_spec (r2.to (h':=h5)) q5 z2.out z2.out) ?_;rintro v6 h6 s6 rfl
  try simp(disch:=omega) only[go_sem,Nat.reduceBEq,Nat.reduceAdd,e2,decide_true]
end Go.Q
namespace Go.Q
open Go.Proofs
set_option maxRecDepth 100000
set_option maxHeartbeats 16000000
theorem RProd_spec {h0 h:PH} [Le h0 h] {v w:Value} {x y:Rat} (hx:Qr h0 v x) (hy:Qr h0 w y) (bx:sz x≤2^35) (by_:sz y≤2^35):
    Spec mach 14 #[v,w] h (fun v h'=>Qr h' v (x*y)) NP:=by
  have hx0:=hx
  have hy0:=hy
  obtain⟨na,nl,nc,da,dl,dc,e,rfl,hn,hd,he⟩:=hx.sl
  obtain⟨na',nl',nc',da',dl',dc',e',rfl,hn',hd',he'⟩:=hy.sl
  have b1:=sz_num x;have b2:=sz_den x;have b3:=sz_num y;have b4:=sz_den y
  have b5:=bl_mul x.num.natAbs y.num.natAbs
  have b6:=bl_mul x.den y.den
  refine Spec.go [(1,.o [0,1,2,3,4,5,6,7,8,10,12,9,11,13,14,15,16])] Tryz.func14 rfl rfl (by kernel_rfl) fun C _=>?_
  try simp(disch:=omega) only[go_sem,Nat.reduceBEq,Nat.reduceAdd]
  refine caN (by exact NatMul_spec hn hn' (by omega) (by omega)) ?_;rintro _ h1 _ hv1;obtain⟨v1,_,_,rfl,hv1⟩:=hv1.sl
  try simp(disch:=omega) only[go_sem,Nat.reduceBEq,Nat.reduceAdd]
  refine caN (by exact den_spec hx0) ?_;rintro _ g1 _ hd1;obtain⟨_,_,_,rfl,hd1⟩:=hd1.sl
  try simp(disch:=omega) only[go_sem,Nat.reduceBEq,Nat.reduceAdd]
  refine caN (by exact den_spec hy0) ?_;rintro _ g2 _ hd2;obtain⟨_,_,_,rfl,hd2⟩:=hd2.sl
  try simp(disch:=omega) only[go_sem,Nat.reduceBEq,Nat.reduceAdd]
  refine caN (by exact NatMul_spec (hd1.to (h':=g2)) hd2 (by omega) (by omega)) ?_;rintro _ h2 _ hv2;obtain⟨v2,_,_,rfl,hv2⟩:=hv2.sl
  try simp(disch:=omega) only[go_sem,Nat.reduceBEq,Nat.reduceAdd]
  refine caN (by exact Make_spec (hv1.to (h':=h2)) hv2 (by omega) (by omega)) ?_;rintro _ h3 _ hv3;obtain⟨_,_,_,_,_,_,_,rfl,hv3⟩:=hv3.sa
  try simp(disch:=omega) only[go_sem,Nat.reduceBEq,Nat.reduceAdd]
  rw[sgn_mul] at hv3
  exact hv3
end Go.Q
namespace Go.Q
open Go.Proofs
set_option maxRecDepth 100000
set_option maxHeartbeats 8000000
end Go.Q
namespace Go.Q
set_option maxRecDepth 100000
def Rx (h:PH) (v:Value) (neg:Bool) (n d:Nat):Prop:=Rw h v neg n d∧bl n≤2^26∧bl d≤2^26
theorem Rx.sz {h:PH} {v:Value} {neg:Bool} {n d:Nat} (r:Rx h v neg n d):sz (qof neg n d)≤2^28:=by
  obtain⟨_,bn,bd⟩:=r
  have b:=sz_sgn neg n (dz_ne d)
  have b':bl (dz d)≤max (bl d) 1:=by unfold dz;split;exact Nat.le_max_right _ _;exact Nat.le_max_left _ _
  unfold qof
  omega
end Go.Q
namespace Go.Q
open Go.Proofs Go.Proofs.YtclajmpjcojhaaaGreatDoor
set_option maxRecDepth 100000
open Go.ChangeShapes Go.WideShapes Go.ChangeAt Go.RowKit
variable {H:Type} {enc:TypeId×Value→H} {W:World} {sp:Nat→Bool} {held:Bool}
theorem open_words2 {fuel:Nat} {cs:List Value} {x:DataW H×List MemPlace} (h:DataW.trod enc Tryz.prog W 0 sp held fuel 22 cs=some x) {B:Nat} (hB:B≤1048576) (hk:Rows.uptoBulk x.1≤B):
    ∃a xs c,cs=[.slice a xs.length c]∧Arr (pub W) a c xs∧xs.length≤2^20:=by
  rcases open_ints un22 un76 ce76 h with⟨rfl,rfl⟩ |⟨a,len,cap,zs,rfl,_,hl,hm,hz,rfl,hcell,hwf⟩
  · exact⟨none,[],0,rfl,Arr.nil _,by simp⟩
  · have hzl:len≤zs.length:=by rw[hz];split<;>omega
    have hb:len≤1048576:=by
      simp only[Rows.uptoBulk] at hk
      have e:(lits (H:=H) .u32 (zs.take len)).length=len:=by simp[lits];omega
      have:=bulk_len (H:=H) (lits .u32 (zs.take len))
      rw[e] at this
      omega
    refine⟨some a,(zs.take len).map Int.toNat,cap,?_,⟨?_,?_,?_,?_⟩,?_⟩
    · simp;omega
    · simp;omega
    · simp;omega
    · intro y hy
      obtain⟨z,hz,rfl⟩:=List.mem_map.1 hy
      have:=bounds_u32 (hwf z (List.mem_of_mem_take hz))
      omega
    · intro i y hy
      rw[List.getElem?_map,Option.map_eq_some_iff] at hy
      obtain⟨z,hz',rfl⟩:=hy
      rw[List.getElem?_take] at hz'
      split at hz'
      · refine⟨a,rfl,?_⟩
        have hi:i < zs.length:=(List.getElem?_eq_some_iff.1 hz').1
        rw[pub_at,hcell i hi]
        have e:zs.getD i 0=z:=by simp[hz']
        have:=bounds_u32 (hwf z (List.mem_of_getElem? hz'))
        rw[e]
        congr 2
        omega
      · cases hz'
    · simp;omega
theorem open_rx {fuel:Nat} {cs:List Value} {x:DataW H×List MemPlace} (h:DataW.trod enc Tryz.prog W 0 sp held fuel 24 cs=some x) {B:Nat} (hB:B≤1048576) (hk:Rows.uptoBulk x.1≤B):
    ∃neg n d,Rx (pub W) (.agg cs.toArray) neg n d∧cs.length=3:=by
  obtain⟨fs,hu,hf⟩:=flds_some fl24
  obtain⟨xs,n,rfl,rfl,hl,hsz,hg⟩:=DataW.trod_struct hu h
  rw[ce24] at hl
  have hfs:fs.size=3:=by
    have:=congrArg List.length hf
    simpa using this
  match cs,hl with
  |[c0,c1,c2],_=>
  have get:∀(i t o:Nat),(fs.toList.map fun f=>(f.type,f.offset))[i]?=some (t,o)→∃f:Field,fs[i]?=some f∧f.type=t∧f.offset=o:=by
    intro i t o hi
    rw[List.getElem?_map,Option.map_eq_some_iff] at hi
    obtain⟨f,h1,h2⟩:=hi
    cases h2
    exact⟨f,by simpa using h1,rfl,rfl⟩
  obtain⟨f0,k0,e0,o0⟩:=get 0 4 0 (by rw[hf];rfl)
  obtain⟨f1,k1,e1,o1⟩:=get 1 22 1 (by rw[hf];rfl)
  obtain⟨f2,k2,e2,o2⟩:=get 2 22 2 (by rw[hf];rfl)
  have g0:=hg 0 f0 k0
  have g1:=hg 1 f1 k1
  have g2:=hg 2 f2 k2
  rw[e0,o0,ce4] at g0
  rw[e1,o1,ce22] at g1
  rw[e2,o2,ce22] at g2
  rw[hfs] at hsz
  match xs,hsz with
  |[y0,y1,y2],_=>
  simp only[List.drop_zero,List.take_succ_cons,List.take_zero,List.drop_succ_cons,List.getElem?_cons_zero,List.getElem?_cons_succ] at g0 g1 g2
  simp only[Rows.uptoBulk,List.map_cons,List.map_nil,Rows.uptoBulkAll] at hk
  obtain⟨b,e,_⟩:=DataW.trod_bool un4 g0
  obtain⟨a1,xs1,c1',e1,A1,l1⟩:=open_words2 g1 hB (by omega)
  obtain⟨a2,xs2,c2',e2,A2,l2⟩:=open_words2 g2 hB (by omega)
  cases e
  cases e1
  cases e2
  have b1:=val_bl A1.lt
  have b2:=val_bl A2.lt
  exact⟨b,_,_,⟨⟨a1,c1',xs1,a2,c2',xs2,rfl,A1,A2,rfl,rfl,Nat.le_trans l1 (by decide),Nat.le_trans l2 (by decide)⟩,Nat.le_trans b1 (by omega),Nat.le_trans b2 (by omega)⟩,rfl⟩
end Go.Q
namespace Go.Q
theorem sgn_negs (m d:Nat):sgn true m d= -(sgn false m d):=by
  show mkRat (-(m:Int)) d= -(mkRat (m:Int) d)
  rw[Rat.neg_mkRat]
end Go.Q
namespace Go.Q
set_option maxRecDepth 100000
set_option maxHeartbeats 4000000
end Go.Q
namespace Go.Q
set_option maxRecDepth 100000
set_option maxHeartbeats 4000000
theorem div_rat {a d:Nat} (_:d≠0):((a / d:Nat):Rat)*(d:Rat)≤(a:Rat):=by exact_mod_cast Nat.div_mul_le_self a d
theorem cdiv_rat {a d:Nat} (hd:d≠0):(a:Rat)≤((cdiv a d:Nat):Rat)*(d:Rat):=by
  have:a≤cdiv a d*d:=by rw[Nat.mul_comm];exact(cdiv_le_iff hd).1 (Nat.le_refl _)
  exact_mod_cast this
theorem grid_sq {a w:Nat}:((a:Rat) / ((2^w:Nat):Rat))^2*((2^w:Nat):Rat)*((2^w:Nat):Rat)=(a:Rat)*(a:Rat):=by
  have u0:=u_pos w
  have e:(a:Rat) / ((2^w:Nat):Rat)*((2^w:Nat):Rat)=(a:Rat):=Rat.div_mul_cancel (by grind)
  have e2:((a:Rat) / ((2^w:Nat):Rat))^2=(a:Rat) / ((2^w:Nat):Rat)*((a:Rat) / ((2^w:Nat):Rat)):=by rw[show(2:Nat)=1+1 from rfl,Rat.pow_succ,Rat.pow_one]
  rw[e2]
  generalize(a:Rat) / ((2^w:Nat):Rat)=q at*
  rw[←e]
  grind
theorem sq_in {a b c w:Nat} (h1:a≤c) (h2:c≤b):((sqL a w:Nat):Rat)≤((c:Rat) / ((2^w:Nat):Rat))^2*((2^w:Nat):Rat)∧((c:Rat) / ((2^w:Nat):Rat))^2*((2^w:Nat):Rat)≤((sqH b w:Nat):Rat):=by
  have u0:=u_pos w
  have g:=grid_sq (a:=c) (w:=w)
  have d1:=div_rat (a:=a*a) (d:=2^w) (pow2_ne w)
  have d2:=cdiv_rat (a:=b*b) (d:=2^w) (pow2_ne w)
  have l1:((a*a:Nat):Rat)≤((c*c:Nat):Rat):=by exact_mod_cast Nat.mul_le_mul h1 h1
  have l2:((c*c:Nat):Rat)≤((b*b:Nat):Rat):=by exact_mod_cast Nat.mul_le_mul h2 h2
  have ec:((c*c:Nat):Rat)=(c:Rat)*(c:Rat):=Rat.natCast_mul c c
  rw[ec,←g] at l1 l2
  unfold sqL sqH
  generalize((c:Rat) / ((2^w:Nat):Rat))^2*((2^w:Nat):Rat)=q at*
  exact⟨Rat.le_of_mul_le_mul_right (Rat.le_trans d1 l1) u0,Rat.le_of_mul_le_mul_right (Rat.le_trans l2 d2) u0⟩
theorem grid_div {a b w:Nat} (h:a≤b):(a:Rat) / ((2^w:Nat):Rat)≤(b:Rat) / ((2^w:Nat):Rat):=by
  rw[Rat.div_def,Rat.div_def]
  exact Rat.mul_le_mul_of_nonneg_right (by exact_mod_cast h) (Rat.le_of_lt (Rat.inv_pos.2 (u_pos w)))
end Go.Q
namespace Go.Q
set_option maxRecDepth 100000
set_option maxHeartbeats 4000000
end Go.Q
namespace Go.Q
set_option maxRecDepth 100000
set_option maxHeartbeats 4000000
theorem sgn_nonneg (n w:Nat):0≤sgn false n (2^w):=by
  have h1:=sgn_u n w
  have u0:=u_pos w
  have h2:(0:Rat)≤(n:Rat):=by exact_mod_cast Nat.zero_le n
  rw[←h1] at h2
  refine Rat.le_of_mul_le_mul_right (c:=((2^w:Nat):Rat)) ?_ u0
  grind
theorem num_lt0 {x:Rat}:x.num < 0↔x < 0:=by
  have:=Rat.num_nonneg (q:=x)
  constructor
  · intro h
    refine Decidable.byContradiction fun c=>?_
    have:=this.2 (by grind)
    omega
  · intro h
    refine Int.not_le.1 fun c=>?_
    have:=this.1 c
    grind
theorem rinv_le {a b:Rat} (ha:0 < a) (h:a≤b):b⁻¹≤a⁻¹:=by
  have hb:0 < b:=by grind
  have i1:a*a⁻¹=1:=Rat.mul_inv_cancel _ (by grind)
  have i2:b*b⁻¹=1:=Rat.mul_inv_cancel _ (by grind)
  refine Rat.le_of_mul_le_mul_left (c:=a*b) ?_ (Rat.mul_pos ha hb)
  have e1:a*b*b⁻¹=a:=by rw[Rat.mul_assoc,i2,Rat.mul_one]
  have e2:a*b*a⁻¹=b:=by rw[Rat.mul_comm a b,Rat.mul_assoc,i1,Rat.mul_one]
  rw[e1,e2]
  exact h
end Go.Q
namespace Go.Q
set_option maxRecDepth 100000
set_option maxHeartbeats 4000000
theorem exp_ge (x:Rat) (p:Nat):2^(p+112)≤expL x p∧2^(p+112)≤expH x p:=⟨qLo_ge (eLo_ge _ _ 40) 8,qHi_ge (eHi_ge _ _ 40) 8⟩
end Go.Q
namespace Go.Q
set_option maxRecDepth 100000
set_option maxHeartbeats 4000000
theorem br_e {fn:Int} {x:Rat} {p:Int} (h:brE fn x p=0):eErr fn x p=0:=by
  unfold brE at h
  split at h
  · cases h
  · unfold elE at h
    refine Decidable.byContradiction fun he=>?_
    rw[if_pos he] at h
    exact he h
end Go.Q
