/-
  What both, sin and cos return. Conditions: the number's absolute value is at most 2^32, of at most 1024 binary digits; the precision is at most 128.
  What ready returns: the first error of an argument. Conditions: the argument is a number as it comes in that is not large.
  What tan returns. Conditions: the number's absolute value is at most 2^32, of at most 1024 binary digits; the precision is at most 128.
-/
import Derived.Test.YtacebncjhpdacaaGreatDoorK8c97aaPkF
import Derived.Test.YtacebncjhpdacaaGreatDoorK9f153cPkP
import Derived.Test.YtacebncjhpdacaaGreatDoorK2e7ba5PkM
set_option linter.unusedVariables false
set_option linter.unusedSimpArgs false
namespace Go.Q
open Go.Proofs
set_option maxRecDepth 100000
set_option maxHeartbeats 8000000
def snl (x:Rat) (w:Nat):Rat:=snAt (rsA x w) w true
def snh (x:Rat) (w:Nat):Rat:=snAt (rsB x w) w false
def csl (x:Rat) (w:Nat):Rat:=sgn false (wvL (csX (rsA x w) (rsB x w) w) w 1) (2^w)
def csh (x:Rat) (w:Nat):Rat:=sgn false (wvH (csN (rsA x w) (rsB x w) w) w 1) (2^w)
def siL (x:Rat) (w:Nat):Rat:=if rsK x w % 4=1 then csl x w else if rsK x w % 4=2 then -snh x w else if rsK x w % 4=3 then -csh x w else snl x w
def siH (x:Rat) (w:Nat):Rat:=if rsK x w % 4=1 then csh x w else if rsK x w % 4=2 then -snl x w else if rsK x w % 4=3 then -csl x w else snh x w
def coL (x:Rat) (w:Nat):Rat:=if rsK x w % 4=1 then -snh x w else if rsK x w % 4=2 then -csh x w else if rsK x w % 4=3 then snl x w else csl x w
def coH (x:Rat) (w:Nat):Rat:=if rsK x w % 4=1 then -snl x w else if rsK x w % 4=2 then -csl x w else if rsK x w % 4=3 then snh x w else csh x w
theorem rs_glo {x:Rat} {w:Nat} (h1:64≤w) (h2:w≤192) (hb:¬x.den*4294967296 < x.num.natAbs):glo (rsA x w) w≤2^w∧glo (rsB x w) w≤2^w:=by
  obtain⟨a1,a2,a3⟩:=rs_bd h1 h2 (num_bd hb)
  exact⟨(g_le (abs_num a1 (by grind))).1,(g_le (abs_num (by grind) a3)).1⟩
theorem cs_sz {y w:Nat}:sz (sgn false (wvL y w 1) (2^w))≤w+2∧sz (sgn false (wvH y w 1) (2^w))≤w+2:=by
  obtain⟨w1,w2⟩:=waV_le (w:=w) (f:=1) (s:=sqL y w) (t:=sqH y w) (by decide) 24
  have h0:=bl_pow2 w
  have h1:=bl_pow_le (n:=wvL y w 1) (w:=w) (by unfold wvL;omega)
  have h2:=bl_pow_le (n:=wvH y w 1) (w:=w) (by unfold wvH;omega)
  have h3:=sz_sgn false (wvL y w 1) (pow2_ne w)
  have h4:=sz_sgn false (wvH y w 1) (pow2_ne w)
  omega
theorem rs_sz {x:Rat} {w:Nat} (bx:sz x≤1024) (hb:¬x.den*4294967296 < x.num.natAbs) (hw:64≤w) (hw':w≤192):sz (rsA x w)≤2048∧sz (rsB x w)≤2048:=by
  obtain⟨k1,k2⟩:=rsK_bd hw hw' (num_bd hb)
  obtain⟨sf,sg⟩:=fW_sz (w:=w)
  have sk:=sz_k (z:=rsK x w) (by omega)
  have m1:=sz_mul (rsK x w:Rat) (fW w)
  have m2:=sz_mul (rsK x w:Rat) (gW w)
  have m3:=sz_add x (-((rsK x w:Rat)*fW w))
  have m4:=sz_add x (-((rsK x w:Rat)*gW w))
  rw[sz_neg] at m3 m4
  have m5:=sz_gd (x+ -((rsK x w:Rat)*fW w)) w
  have m6:=sz_gd (x+ -((rsK x w:Rat)*gW w)) w
  have m7:=sz_gu (x+ -((rsK x w:Rat)*fW w)) w
  have m8:=sz_gu (x+ -((rsK x w:Rat)*gW w)) w
  unfold rsA rsB
  split<;>omega
theorem EBoth_spec {h0 h:PH} [Le h0 h] {v:Value} {x:Rat} {w:Nat} (hx:Cn h0 v x) (bx:sz x≤1024) (hb:¬x.den*4294967296 < x.num.natAbs) (hw:64≤w) (hw':w≤192):
    Spec mach 70 #[v,.int .i64 w] h (fun r h'=>∃s t,r=.tuple #[s,t]∧Bk h' s (siL x w) (siH x w)∧Bk h' t (coL x w) (coH x w)) NP:=by
  have kR:=fun {h} [Le h0 h]=>ERest_spec (h:=h) hx bx hb hw hw'
  obtain⟨l1,l2⟩:=rs_glo hw hw' hb
  obtain⟨z1,z2⟩:=rs_sz bx hb hw hw'
  obtain⟨c1,_⟩:=cs_sz (y:=csX (rsA x w) (rsB x w) w) (w:=w)
  obtain⟨_,c2⟩:=cs_sz (y:=csN (rsA x w) (rsB x w) w) (w:=w)
  have c1:sz (csl x w)≤w+2:=c1
  have c2:sz (csh x w)≤w+2:=c2
  have n1:sz (snl x w)≤w+2:=snAt_sz l1
  have n2:sz (snh x w)≤w+2:=snAt_sz l2
  have kS:∀{h1 h:PH} {v:Value} [Le h1 h],Bk h1 v (rsA x w) (rsB x w)→Spec mach 95 #[v,.int .i64 w] h (fun r h'=>Bk h' r (snl x w) (snh x w)) NP:=fun k=>ESine_spec k z1 z2 l1 l2 (by omega) (by omega)
  have kC:∀{h1 h:PH} {v:Value} [Le h1 h],Bk h1 v (rsA x w) (rsB x w)→Spec mach 96 #[v,.int .i64 w] h (fun r h'=>Bk h' r (csl x w) (csh x w)) NP:=fun k=>ECosine_spec k z1 z2 l1 l2 (by omega) (by omega)
  unfold siL siH coL coH
  generalize snl x w=sl at*
  generalize snh x w=sh at*
  generalize csl x w=cl at*
  generalize csh x w=ch at*
  generalize rsA x w=A at*
  generalize rsB x w=B at*
  generalize rsK x w=k at*
  have n1:sz sl≤2048:=by omega
  have n2:sz sh≤2048:=by omega
  have c1:sz cl≤2048:=by omega
  have c2:sz ch≤2048:=by omega
  obtain⟨na,nl,nc,da,dl,dc,rfl,_,_,_,_⟩:=hx.parts
  clear bx hb l1 l2 z1 z2 hx
  have hk:k % 4=1∨k % 4=2∨k % 4=3∨k % 4=0:=by omega
  generalize k % 4=q at*
  rcases hk with rfl |rfl |rfl |rfl
  · rw[if_pos rfl,if_pos rfl,if_pos rfl,if_pos rfl]
    refine Spec.go [(2,.h [] [] [6,7] [6,7,0,1,3,4,2,5,8,9]),(7,.o [0,2,1,3,4,5]),(9,.h [(8,4)] [] [] [0,2,1,3,4]),(10,.h [(9,4)] [] [] [0,1,2,3])] Tryz.func70 rfl rfl (by kernel_rfl) fun C _=>?_
    try simp(disch:=omega) only[go_sem,Nat.reduceBEq,Nat.reduceAdd]
    refine caN (by exact kR) ?_;rintro v1 h1 s1 ⟨u,rfl,q1⟩;obtain⟨_,_,_,_,_,_,_,_,_,_,_,_,_,_,rfl,q1⟩:=q1.sp
    try simp(disch:=omega) only[go_sem,Nat.reduceBEq,Nat.reduceAdd]
    refine caN (by exact kS q1) ?_;rintro v2 h2 s2 q2;obtain⟨_,_,_,_,_,_,_,_,_,_,_,_,_,_,rfl,q2⟩:=q2.sp
    try simp(disch:=omega) only[go_sem,Nat.reduceBEq,Nat.reduceAdd]
    refine caN (by exact kC (q1.to (h':=h2))) ?_;rintro v3 h3 s3 q3;obtain⟨_,_,_,_,_,_,_,_,_,_,_,_,_,_,rfl,q3⟩:=q3.sp
    try simp(disch:=omega) only[go_sem,Nat.reduceBEq,Nat.reduceAdd]
    refine caN (by exact EMinus_spec (q2.to (h':=h3)) n1 n2) ?_;rintro v4 h4 s4 q4;obtain⟨_,_,_,_,_,_,_,_,_,_,_,_,_,_,rfl,q4⟩:=q4.sp
    try simp(disch:=omega) only[go_sem,Nat.reduceBEq,Nat.reduceAdd]
    exact⟨_,_,rfl,q3.to,q4⟩
  · rw[if_neg (by decide),if_pos rfl,if_neg (by decide),if_pos rfl,if_neg (by decide),if_pos rfl,if_neg (by decide),if_pos rfl]
    refine Spec.go [(2,.h [] [] [6,7] [6,7,0,1,3,4,2,5,8,9]),(7,.o [0,2,1,3,4,5]),(9,.h [(8,4)] [] [] [0,2,1,3,4]),(10,.h [(9,4)] [] [] [0,1,2,3])] Tryz.func70 rfl rfl (by kernel_rfl) fun C _=>?_
    try simp(disch:=omega) only[go_sem,Nat.reduceBEq,Nat.reduceAdd]
    refine caN (by exact kR) ?_;rintro v1 h1 s1 ⟨u,rfl,q1⟩;obtain⟨_,_,_,_,_,_,_,_,_,_,_,_,_,_,rfl,q1⟩:=q1.sp
    try simp(disch:=omega) only[go_sem,Nat.reduceBEq,Nat.reduceAdd]
    refine caN (by exact kS q1) ?_;rintro v2 h2 s2 q2;obtain⟨_,_,_,_,_,_,_,_,_,_,_,_,_,_,rfl,q2⟩:=q2.sp
    try simp(disch:=omega) only[go_sem,Nat.reduceBEq,Nat.reduceAdd]
    refine caN (by exact kC (q1.to (h':=h2))) ?_;rintro v3 h3 s3 q3;obtain⟨_,_,_,_,_,_,_,_,_,_,_,_,_,_,rfl,q3⟩:=q3.sp
    try simp(disch:=omega) only[go_sem,Nat.reduceBEq,Nat.reduceAdd]
    refine caN (by exact EMinus_spec (q2.to (h':=h3)) n1 n2) ?_;rintro v4 h4 s4 q4;obtain⟨_,_,_,_,_,_,_,_,_,_,_,_,_,_,rfl,q4⟩:=q4.sp
    try simp(disch:=omega) only[go_sem,Nat.reduceBEq,Nat.reduceAdd]
    refine caN (by exact EMinus_spec (q3.to (h':=h4)) c1 c2) ?_;rintro v5 h5 s5 q5;obtain⟨_,_,_,_,_,_,_,_,_,_,_,_,_,_,rfl,q5⟩:=q5.sp
    try simp(disch:=omega) only[go_sem,Nat.reduceBEq,Nat.reduceAdd]
    exact⟨_,_,rfl,q4.to,q5⟩
  · rw[if_neg (by decide),if_neg (by decide),if_pos rfl,if_neg (by decide),if_neg (by decide),if_pos rfl,if_neg (by decide),if_neg (by decide),if_pos rfl,if_neg (by decide),if_neg (by decide),if_pos rfl]
    refine Spec.go [(2,.h [] [] [6,7] [6,7,0,1,3,4,2,5,8,9]),(7,.o [0,2,1,3,4,5]),(9,.h [(8,4)] [] [] [0,2,1,3,4]),(10,.h [(9,4)] [] [] [0,1,2,3])] Tryz.func70 rfl rfl (by kernel_rfl) fun C _=>?_
    try simp(disch:=omega) only[go_sem,Nat.reduceBEq,Nat.reduceAdd]
    refine caN (by exact kR) ?_;rintro v1 h1 s1 ⟨u,rfl,q1⟩;obtain⟨_,_,_,_,_,_,_,_,_,_,_,_,_,_,rfl,q1⟩:=q1.sp
    try simp(disch:=omega) only[go_sem,Nat.reduceBEq,Nat.reduceAdd]
    refine caN (by exact kS q1) ?_;rintro v2 h2 s2 q2;obtain⟨_,_,_,_,_,_,_,_,_,_,_,_,_,_,rfl,q2⟩:=q2.sp
    try simp(disch:=omega) only[go_sem,Nat.reduceBEq,Nat.reduceAdd]
    refine caN (by exact kC (q1.to (h':=h2))) ?_;rintro v3 h3 s3 q3;obtain⟨_,_,_,_,_,_,_,_,_,_,_,_,_,_,rfl,q3⟩:=q3.sp
    try simp(disch:=omega) only[go_sem,Nat.reduceBEq,Nat.reduceAdd]
    refine caN (by exact EMinus_spec (q3.to (h':=h3)) c1 c2) ?_;rintro v4 h4 s4 q4;obtain⟨_,_,_,_,_,_,_,_,_,_,_,_,_,_,rfl,q4⟩:=q4.sp
    try simp(disch:=omega) only[go_sem,Nat.reduceBEq,Nat.reduceAdd]
    exact⟨_,_,rfl,q4,q2.to⟩
  · rw[if_neg (by decide),if_neg (by decide),if_neg (by decide),if_neg (by decide),if_neg (by decide),if_neg (by decide),if_neg (by decide),if_neg (by decide),if_neg (by decide),if_neg (by decide),if_neg (by decide),if_neg (by decide)]
    refine Spec.go [(2,.h [] [] [6,7] [6,7,0,1,3,4,2,5,8,9]),(7,.o [0,2,1,3,4,5]),(9,.h [(8,4)] [] [] [0,2,1,3,4]),(10,.h [(9,4)] [] [] [0,1,2,3])] Tryz.func70 rfl rfl (by kernel_rfl) fun C _=>?_
    try simp(disch:=omega) only[go_sem,Nat.reduceBEq,Nat.reduceAdd]
    refine caN (by exact kR) ?_;rintro v1 h1 s1 ⟨u,rfl,q1⟩;obtain⟨_,_,_,_,_,_,_,_,_,_,_,_,_,_,rfl,q1⟩:=q1.sp
    try simp(disch:=omega) only[go_sem,Nat.reduceBEq,Nat.reduceAdd]
    refine caN (by exact kS q1) ?_;rintro v2 h2 s2 q2;obtain⟨_,_,_,_,_,_,_,_,_,_,_,_,_,_,rfl,q2⟩:=q2.sp
    try simp(disch:=omega) only[go_sem,Nat.reduceBEq,Nat.reduceAdd]
    refine caN (by exact kC (q1.to (h':=h2))) ?_;rintro v3 h3 s3 q3;obtain⟨_,_,_,_,_,_,_,_,_,_,_,_,_,_,rfl,q3⟩:=q3.sp
    try simp(disch:=omega) only[go_sem,Nat.reduceBEq,Nat.reduceAdd]
    exact⟨_,_,rfl,q2.to,q3⟩
theorem sc_sz {x:Rat} {w:Nat} (hb:¬x.den*4294967296 < x.num.natAbs) (hw:64≤w) (hw':w≤192):sz (siL x w)≤w+2∧sz (siH x w)≤w+2∧sz (coL x w)≤w+2∧sz (coH x w)≤w+2:=by
  obtain⟨l1,l2⟩:=rs_glo hw hw' hb
  obtain⟨c1,_⟩:=cs_sz (y:=csX (rsA x w) (rsB x w) w) (w:=w)
  obtain⟨_,c2⟩:=cs_sz (y:=csN (rsA x w) (rsB x w) w) (w:=w)
  have c1:sz (csl x w)≤w+2:=c1
  have c2:sz (csh x w)≤w+2:=c2
  have n1:sz (snl x w)≤w+2:=snAt_sz l1
  have n2:sz (snh x w)≤w+2:=snAt_sz l2
  have e1:=sz_neg (snl x w)
  have e2:=sz_neg (snh x w)
  have e3:=sz_neg (csl x w)
  have e4:=sz_neg (csh x w)
  unfold siL siH coL coH
  refine⟨?_,?_,?_,?_⟩<;>(repeat' split)<;>omega
theorem ESin_spec {h0 h:PH} [Le h0 h] {v:Value} {x:Rat} {p:Nat} (hx:Cn h0 v x) (bx:sz x≤1024) (hb:¬x.den*4294967296 < x.num.natAbs) (hp:p≤128):Spec mach 27 #[v,.int .i64 p] h (fun r h'=>Be h' r (gdown (siL x (p+64)) p) (gup (siH x (p+64)) p)) NP:=by
  have kB:=fun {h} [Le h0 h]=>EBoth_spec (h:=h) (w:=p+64) hx bx hb (by omega) (by omega)
  obtain⟨z1,z2,_,_⟩:=sc_sz (w:=p+64) hb (by omega) (by omega)
  have y1:=sz_gd (siL x (p+64)) p
  have y2:=sz_gu (siH x (p+64)) p
  obtain⟨_,_,_,_,_,_,_,rfl,_⟩:=hx.sa
  clear hb bx
  have F:=Hid.mk (And.intro z1 (And.intro z2 (And.intro y1 y2)));clear z1 z2 y1 y2
  refine Spec.go [] Tryz.func27 rfl rfl (by kernel_rfl) fun C _=>?_
  try simp(disch:=omega) only[go_sem,Nat.reduceBEq,Nat.reduceAdd]
  refine caN (by exact kB) ?_;rintro v1 h1 s1 ⟨u,t,rfl,q1,q2⟩;obtain⟨_,_,_,_,_,_,_,_,_,_,_,_,_,_,rfl,k1,k2⟩:=q1;obtain⟨_,_,_,_,_,_,_,_,_,_,_,_,_,_,rfl,q2⟩:=q2.sp
  try simp(disch:=omega) only[go_sem,Nat.reduceBEq,Nat.reduceAdd]
  refine caN (by exact ERounded_spec (p:=p) k1 k2 (by have:=F.out;omega) (by have:=F.out;omega) (by have:=F.out;omega) (by have:=F.out;omega) (by have:=F.out;omega)) ?_;rintro v2 h2 s2 ⟨_,_,_,_,_,_,_,_,_,_,_,_,_,_,rfl,r1,r2⟩
  try simp(disch:=omega) only[go_sem,Nat.reduceBEq,Nat.reduceAdd]
  exact⟨_,_,_,_,_,_,_,_,_,_,_,_,_,_,rfl,r1,r2⟩
theorem ECos_spec {h0 h:PH} [Le h0 h] {v:Value} {x:Rat} {p:Nat} (hx:Cn h0 v x) (bx:sz x≤1024) (hb:¬x.den*4294967296 < x.num.natAbs) (hp:p≤128):Spec mach 28 #[v,.int .i64 p] h (fun r h'=>Be h' r (gdown (coL x (p+64)) p) (gup (coH x (p+64)) p)) NP:=by
  have kB:=fun {h} [Le h0 h]=>EBoth_spec (h:=h) (w:=p+64) hx bx hb (by omega) (by omega)
  obtain⟨_,_,z1,z2⟩:=sc_sz (w:=p+64) hb (by omega) (by omega)
  have y1:=sz_gd (coL x (p+64)) p
  have y2:=sz_gu (coH x (p+64)) p
  obtain⟨_,_,_,_,_,_,_,rfl,_⟩:=hx.sa
  clear hb bx
  have F:=Hid.mk (And.intro z1 (And.intro z2 (And.intro y1 y2)));clear z1 z2 y1 y2
  refine Spec.go [] Tryz.func28 rfl rfl (by kernel_rfl) fun C _=>?_
  try simp(disch:=omega) only[go_sem,Nat.reduceBEq,Nat.reduceAdd]
  refine caN (by exact kB) ?_;rintro v1 h1 s1 ⟨u,t,rfl,q1,q2⟩;obtain⟨_,_,_,_,_,_,_,_,_,_,_,_,_,_,rfl,k1,k2⟩:=q2;obtain⟨_,_,_,_,_,_,_,_,_,_,_,_,_,_,rfl,q1⟩:=q1.sp
  try simp(disch:=omega) only[go_sem,Nat.reduceBEq,Nat.reduceAdd]
  refine caN (by exact ERounded_spec (p:=p) k1 k2 (by have:=F.out;omega) (by have:=F.out;omega) (by have:=F.out;omega) (by have:=F.out;omega) (by have:=F.out;omega)) ?_;rintro v2 h2 s2 ⟨_,_,_,_,_,_,_,_,_,_,_,_,_,_,rfl,r1,r2⟩
  try simp(disch:=omega) only[go_sem,Nat.reduceBEq,Nat.reduceAdd]
  exact⟨_,_,_,_,_,_,_,_,_,_,_,_,_,_,rfl,r1,r2⟩
end Go.Q
namespace Go.Q
open Go.Proofs
set_option maxRecDepth 100000
set_option maxHeartbeats 8000000
def eErr (fn:Int) (x:Rat) (p:Int):Int:=if ¬(1≤fn∧fn≤8)∨p < 0∨128 < p then 2 else if defB fn x=false then 5 else if 1024 < sz x∨(fn=1∧x.den*64 < x.num.natAbs)∨((fn=3∨fn=4∨fn=5)∧x.den*4294967296 < x.num.natAbs) then 20 else 0
theorem eErr_2 {fn:Int} {x:Rat} {p:Int} (h:¬(1≤fn∧fn≤8)∨p < 0∨128 < p):eErr fn x p=2:=if_pos h
theorem eErr_5 {fn:Int} {x:Rat} {p:Int} (h:¬(¬(1≤fn∧fn≤8)∨p < 0∨128 < p)) (hd:defB fn x=false):eErr fn x p=5:=by unfold eErr;rw[if_neg h,if_pos hd]
theorem eErr_20 {fn:Int} {x:Rat} {p:Int} (h:¬(¬(1≤fn∧fn≤8)∨p < 0∨128 < p)) (hd:defB fn x=true) (hb:1024 < sz x∨(fn=1∧x.den*64 < x.num.natAbs)∨((fn=3∨fn=4∨fn=5)∧x.den*4294967296 < x.num.natAbs)):eErr fn x p=20:=by unfold eErr;rw[if_neg h,hd,if_neg (by decide),if_pos hb]
theorem eErr_0 {fn:Int} {x:Rat} {p:Int} (h:¬(¬(1≤fn∧fn≤8)∨p < 0∨128 < p)) (hd:defB fn x=true) (hb:¬(1024 < sz x∨(fn=1∧x.den*64 < x.num.natAbs)∨((fn=3∨fn=4∨fn=5)∧x.den*4294967296 < x.num.natAbs))):eErr fn x p=0:=by unfold eErr;rw[if_neg h,hd,if_neg (by decide),if_neg hb]
def Re0 (h:PH) (r:Value) (e:Int) (x:Rat):Prop:=∃b na nl nc da dl dc,r=.tuple #[.agg #[.bool b,.slice na nl nc,.slice da dl dc],.int .i64 e]∧(e=0→Cn h (.agg #[.bool b,.slice na nl nc,.slice da dl dc]) x)
theorem EReady_spec {h0 h:PH} [Le h0 h] {v:Value} {x:Rat} {fn p:Int} (hx:Rv h0 v x):Spec mach 79 #[.int .i64 fn,v,.int .i64 p] h (fun r h'=>Re0 h' r (eErr fn x p) x) NP:=by
  have bx:=hx.sz
  by_cases hf:1≤fn∧fn≤8
  case neg=>
    have kK:=fun {h} [Le h0 h]=>EKnown_arg (h:=h) hx hf
    rw[eErr_2 (.inl hf)]
    obtain⟨_,_,_,_,_,_,_,rfl,_⟩:=hx.sa
    refine Spec.go [] Tryz.func79 rfl rfl (by kernel_rfl) fun C _=>?_
    try simp(disch:=omega) only[go_sem,Nat.reduceBEq,Nat.reduceAdd]
    refine caN (by exact kK) ?_;rintro v1 h1 s1 rfl
    try simp(disch:=omega) only[go_sem,Nat.reduceBEq,Nat.reduceAdd]
    exact⟨_,_,_,_,_,_,_,rfl,fun e=>by cases e⟩
  have kK:=fun {h} [Le h0 h]=>EKnown_ok (h:=h) (fn:=fn) hx hf
  by_cases hp0:p < 0
  · rw[eErr_2 (.inr (.inl hp0))]
    obtain⟨_,_,_,_,_,_,_,rfl,_⟩:=hx.sa
    refine Spec.go [] Tryz.func79 rfl rfl (by kernel_rfl) fun C _=>?_
    try simp(disch:=omega) only[go_sem,Nat.reduceBEq,Nat.reduceAdd]
    refine caN (by exact kK) ?_;rintro v1 h1 s1 ⟨_,_,_,_,_,_,_,rfl,c⟩
    try simp(disch:=omega) only[go_sem,Nat.reduceBEq,Nat.reduceAdd]
    exact⟨_,_,_,_,_,_,_,rfl,fun e=>by cases e⟩
  by_cases hp1:128 < p
  · rw[eErr_2 (.inr (.inr hp1))]
    obtain⟨_,_,_,_,_,_,_,rfl,_⟩:=hx.sa
    refine Spec.go [] Tryz.func79 rfl rfl (by kernel_rfl) fun C _=>?_
    try simp(disch:=omega) only[go_sem,Nat.reduceBEq,Nat.reduceAdd]
    refine caN (by exact kK) ?_;rintro v1 h1 s1 ⟨_,_,_,_,_,_,_,rfl,c⟩
    try simp(disch:=omega) only[go_sem,Nat.reduceBEq,Nat.reduceAdd]
    exact⟨_,_,_,_,_,_,_,rfl,fun e=>by cases e⟩
  have hA:¬(¬(1≤fn∧fn≤8)∨p < 0∨128 < p):=by omega
  obtain⟨_,_,_,_,_,_,_,rfl,_⟩:=hx.sa
  cases hd:defB fn x with
  | false=>
    rw[eErr_5 hA hd]
    clear hA
    refine Spec.go [] Tryz.func79 rfl rfl (by kernel_rfl) fun C _=>?_
    try simp(disch:=omega) only[go_sem,Nat.reduceBEq,Nat.reduceAdd]
    refine caN (by exact kK) ?_;rintro v1 h1 s1 ⟨_,_,_,_,_,_,_,rfl,c⟩
    try simp(disch:=omega) only[go_sem,Nat.reduceBEq,Nat.reduceAdd]
    refine caN (by exact EDefined_spec (fn:=fn) c) ?_;rintro v2 h2 s2 rfl
    try simp(disch:=omega) only[go_sem,Nat.reduceBEq,Nat.reduceAdd]
    try rw[hd]
    try simp(disch:=omega) only[go_sem,Nat.reduceBEq,Nat.reduceAdd]
    exact⟨_,_,_,_,_,_,_,rfl,fun e=>by cases e⟩
  | true=>
    by_cases hl:1024 < sz x
    · rw[eErr_20 hA hd (.inl hl)]
      have hl:=decide_eq_true hl
      clear hA
      refine Spec.go [] Tryz.func79 rfl rfl (by kernel_rfl) fun C _=>?_
      try simp(disch:=omega) only[go_sem,Nat.reduceBEq,Nat.reduceAdd]
      refine caN (by exact kK) ?_;rintro v1 h1 s1 ⟨_,_,_,_,_,_,_,rfl,c⟩
      try simp(disch:=omega) only[go_sem,Nat.reduceBEq,Nat.reduceAdd]
      refine caN (by exact EDefined_spec (fn:=fn) c) ?_;rintro v2 h2 s2 rfl
      try simp(disch:=omega) only[go_sem,Nat.reduceBEq,Nat.reduceAdd]
      try rw[hd]
      try simp(disch:=omega) only[go_sem,Nat.reduceBEq,Nat.reduceAdd]
      refine caN (by exact TooLong_spec (c.to (h':=h2))) ?_;rintro v3 h3 s3 rfl
      try simp(disch:=omega) only[go_sem,Nat.reduceBEq,Nat.reduceAdd]
      try rw[hl]
      try simp(disch:=omega) only[go_sem,Nat.reduceBEq,Nat.reduceAdd]
      exact⟨_,_,_,_,_,_,_,rfl,fun e=>by cases e⟩
    have hl':=decide_eq_false hl
    by_cases h1:fn=1
    · subst h1
      by_cases hb:x.den*64 < x.num.natAbs
      · rw[eErr_20 hA hd (.inr (.inl ⟨rfl,hb⟩))]
        have hb':=decide_eq_true hb
        clear hA
        refine Spec.go [] Tryz.func79 rfl rfl (by kernel_rfl) fun C _=>?_
        try simp(disch:=omega) only[go_sem,Nat.reduceBEq,Nat.reduceAdd]
        refine caN (by exact kK) ?_;rintro v1 h1 s1 ⟨_,_,_,_,_,_,_,rfl,c⟩
        try simp(disch:=omega) only[go_sem,Nat.reduceBEq,Nat.reduceAdd]
        refine caN (by exact EDefined_spec (fn:=1) c) ?_;rintro v2 h2 s2 rfl
        try simp(disch:=omega) only[go_sem,Nat.reduceBEq,Nat.reduceAdd]
        try rw[hd]
        try simp(disch:=omega) only[go_sem,Nat.reduceBEq,Nat.reduceAdd]
        refine caN (by exact TooLong_spec (c.to (h':=h2))) ?_;rintro v3 h3 s3 rfl
        try simp(disch:=omega) only[go_sem,Nat.reduceBEq,Nat.reduceAdd]
        try rw[hl']
        try simp(disch:=omega) only[go_sem,Nat.reduceBEq,Nat.reduceAdd]
        refine caN (by exact Beyond_spec (n:=64) (c.to (h':=h3)) (by omega) (by decide)) ?_;rintro v4 h4 s4 rfl
        try simp(disch:=omega) only[go_sem,Nat.reduceBEq,Nat.reduceAdd]
        try rw[hb']
        try simp(disch:=omega) only[go_sem,Nat.reduceBEq,Nat.reduceAdd]
        exact⟨_,_,_,_,_,_,_,rfl,fun e=>by cases e⟩
      · rw[eErr_0 hA hd (by rintro(k |k |k);exact hl k;exact hb k.2;exact absurd k.1 (by decide))]
        have hb':=decide_eq_false hb
        clear hA
        refine Spec.go [] Tryz.func79 rfl rfl (by kernel_rfl) fun C _=>?_
        try simp(disch:=omega) only[go_sem,Nat.reduceBEq,Nat.reduceAdd]
        refine caN (by exact kK) ?_;rintro v1 h1 s1 ⟨_,_,_,_,_,_,_,rfl,c⟩
        try simp(disch:=omega) only[go_sem,Nat.reduceBEq,Nat.reduceAdd]
        refine caN (by exact EDefined_spec (fn:=1) c) ?_;rintro v2 h2 s2 rfl
        try simp(disch:=omega) only[go_sem,Nat.reduceBEq,Nat.reduceAdd]
        try rw[hd]
        try simp(disch:=omega) only[go_sem,Nat.reduceBEq,Nat.reduceAdd]
        refine caN (by exact TooLong_spec (c.to (h':=h2))) ?_;rintro v3 h3 s3 rfl
        try simp(disch:=omega) only[go_sem,Nat.reduceBEq,Nat.reduceAdd]
        try rw[hl']
        try simp(disch:=omega) only[go_sem,Nat.reduceBEq,Nat.reduceAdd]
        refine caN (by exact Beyond_spec (n:=64) (c.to (h':=h3)) (by omega) (by decide)) ?_;rintro v4 h4 s4 rfl
        try simp(disch:=omega) only[go_sem,Nat.reduceBEq,Nat.reduceAdd]
        try rw[hb']
        try simp(disch:=omega) only[go_sem,Nat.reduceBEq,Nat.reduceAdd]
        exact⟨_,_,_,_,_,_,_,rfl,fun _=>c.to⟩
    by_cases h3:fn=3∨fn=4∨fn=5
    · have hb:(x.den*4294967296 < x.num.natAbs)∨¬(x.den*4294967296 < x.num.natAbs):=Decidable.em _
      rcases hb with hb |hb
      · rw[eErr_20 hA hd (.inr (.inr ⟨h3,hb⟩))]
        have hb':=decide_eq_true hb
        have kB:∀{h1 h:PH} {v:Value} [Le h1 h],Cn h1 v x→Spec mach 76 #[v,.int .u64 (4294967296:Nat)] h (fun v _=>v=.bool true) NP:=fun c=>by
          rw[←hb']
          exact Beyond_spec (n:=4294967296) c (Nat.le_trans bx (by decide)) (by decide)
        clear hA hb hb' h1
        rcases h3 with rfl |rfl |rfl
        all_goals
          refine Spec.go [] Tryz.func79 rfl rfl (by kernel_rfl) fun C _=>?_
          try simp(disch:=omega) only[go_sem,Nat.reduceBEq,Nat.reduceAdd]
          refine caN (by exact kK) ?_;rintro v1 h1 s1 ⟨_,_,_,_,_,_,_,rfl,c⟩
          try simp(disch:=omega) only[go_sem,Nat.reduceBEq,Nat.reduceAdd]
          refine caN (by exact EDefined_spec c) ?_;rintro v2 h2 s2 rfl
          try rw[hd]
          try simp(disch:=omega) only[go_sem,Nat.reduceBEq,Nat.reduceAdd]
          refine caN (by exact TooLong_spec (c.to (h':=h2))) ?_;rintro v3 h3 s3 rfl
          try simp(disch:=omega) only[go_sem,Nat.reduceBEq,Nat.reduceAdd]
          try rw[hl']
          try simp(disch:=omega) only[go_sem,Nat.reduceBEq,Nat.reduceAdd]
          refine caN (by exact kB (c.to (h':=h3))) ?_;rintro v4 h4 s4 rfl
          try simp(disch:=omega) only[go_sem,Nat.reduceBEq,Nat.reduceAdd]
          exact⟨_,_,_,_,_,_,_,rfl,fun e=>by cases e⟩
      · rw[eErr_0 hA hd (by rintro(k |k |k);exact hl k;exact h1 k.1;exact hb k.2)]
        have hb':=decide_eq_false hb
        have kB:∀{h1 h:PH} {v:Value} [Le h1 h],Cn h1 v x→Spec mach 76 #[v,.int .u64 (4294967296:Nat)] h (fun v _=>v=.bool false) NP:=fun c=>by
          rw[←hb']
          exact Beyond_spec (n:=4294967296) c (Nat.le_trans bx (by decide)) (by decide)
        clear hA hb hb' h1
        rcases h3 with rfl |rfl |rfl
        all_goals
          refine Spec.go [] Tryz.func79 rfl rfl (by kernel_rfl) fun C _=>?_
          try simp(disch:=omega) only[go_sem,Nat.reduceBEq,Nat.reduceAdd]
          refine caN (by exact kK) ?_;rintro v1 h1 s1 ⟨_,_,_,_,_,_,_,rfl,c⟩
          try simp(disch:=omega) only[go_sem,Nat.reduceBEq,Nat.reduceAdd]
          refine caN (by exact EDefined_spec c) ?_;rintro v2 h2 s2 rfl
          try rw[hd]
          try simp(disch:=omega) only[go_sem,Nat.reduceBEq,Nat.reduceAdd]
          refine caN (by exact TooLong_spec (c.to (h':=h2))) ?_;rintro v3 h3 s3 rfl
          try simp(disch:=omega) only[go_sem,Nat.reduceBEq,Nat.reduceAdd]
          try rw[hl']
          try simp(disch:=omega) only[go_sem,Nat.reduceBEq,Nat.reduceAdd]
          refine caN (by exact kB (c.to (h':=h3))) ?_;rintro v4 h4 s4 rfl
          try simp(disch:=omega) only[go_sem,Nat.reduceBEq,Nat.reduceAdd]
          exact⟨_,_,_,_,_,_,_,rfl,fun _=>c.to⟩
    · rw[eErr_0 hA hd (by rintro(k |k |k);exact hl k;exact h1 k.1;exact h3 k.1)]
      have f1:(fn == 1)=false:=by simpa using h1
      have f3:(fn == 3)=false:=by simp;omega
      have f4:(fn == 4)=false:=by simp;omega
      have f5:(fn == 5)=false:=by simp;omega
      clear hA h1 h3
      refine Spec.go [] Tryz.func79 rfl rfl (by kernel_rfl) fun C _=>?_
      try simp(disch:=omega) only[go_sem,Nat.reduceBEq,Nat.reduceAdd]
      refine caN (by exact kK) ?_;rintro v1 h1 s1 ⟨_,_,_,_,_,_,_,rfl,c⟩
      try simp(disch:=omega) only[go_sem,Nat.reduceBEq,Nat.reduceAdd]
      refine caN (by exact EDefined_spec (fn:=fn) c) ?_;rintro v2 h2 s2 rfl
      try simp(disch:=omega) only[go_sem,Nat.reduceBEq,Nat.reduceAdd]
      try rw[hd]
      try simp(disch:=omega) only[go_sem,Nat.reduceBEq,Nat.reduceAdd]
      refine caN (by exact TooLong_spec (c.to (h':=h2))) ?_;rintro v3 h3 s3 rfl
      try simp(disch:=omega) only[go_sem,Nat.reduceBEq,Nat.reduceAdd]
      try rw[hl']
      try simp(disch:=omega) only[go_sem,Nat.reduceBEq,Nat.reduceAdd,f1,f3,f4,f5]
      exact⟨_,_,_,_,_,_,_,rfl,fun _=>c.to⟩
def Ber (h:PH) (r:Value) (e:Int) (x y:Rat):Prop:=∃b1 a1 m1 c1 a2 m2 c2 b2 a3 m3 c3 a4 m4 c4,r=.tuple #[.agg #[.bool b1,.slice a1 m1 c1,.slice a2 m2 c2,.bool b2,.slice a3 m3 c3,.slice a4 m4 c4],.int .i64 e]∧Cn h (.agg #[.bool b1,.slice a1 m1 c1,.slice a2 m2 c2]) x∧Cn h (.agg #[.bool b2,.slice a3 m3 c3,.slice a4 m4 c4]) y
theorem Ber.no (h:PH) (e:Int):Ber h (.tuple #[.agg #[.bool false,.slice none 0 0,.slice none 0 0,.bool false,.slice none 0 0,.slice none 0 0],.int .i64 e]) e 0 0:=⟨_,_,_,_,_,_,_,_,_,_,_,_,_,_,rfl,Cn.nul h,Cn.nul h⟩
theorem EApply_err {h0 h:PH} [Le h0 h] {v:Value} {x:Rat} {fn p:Int} {g:FuncId} (hx:Rv h0 v x) (he:eErr fn x p≠0):Spec mach 34 #[.int .i64 fn,v,.int .i64 p,.func (.func g) #[] #[]] h (fun r h'=>Ber h' r (eErr fn x p) 0 0) NP:=by
  have kR:=fun {h} [Le h0 h]=>EReady_spec (h:=h) (fn:=fn) (p:=p) hx
  obtain⟨_,_,_,_,_,_,_,rfl,_⟩:=hx.sa
  have f0:(eErr fn x p != 0)=true:=by simpa using he
  generalize eErr fn x p=e at*
  refine Spec.go [] Tryz.func34 rfl rfl (by kernel_rfl) fun C _=>?_
  try simp(disch:=omega) only[go_sem,Nat.reduceBEq,Nat.reduceAdd]
  refine caN (by exact kR) ?_;rintro v1 h1 s1 ⟨_,_,_,_,_,_,_,rfl,c⟩
  try simp(disch:=omega) only[go_sem,Nat.reduceBEq,Nat.reduceAdd,f0]
  exact Ber.no _ _
theorem EApply_exact {h0 h:PH} [Le h0 h] {v:Value} {x:Rat} {fn p:Int} {g:FuncId} (hx:Rv h0 v x) (he:eErr fn x p=0) (hb:exB fn x=true):Spec mach 34 #[.int .i64 fn,v,.int .i64 p,.func (.func g) #[] #[]] h (fun r h'=>Ber h' r 0 (exV fn x) (exV fn x)) NP:=by
  have kR:=fun {h} [Le h0 h]=>EReady_spec (h:=h) (fn:=fn) (p:=p) hx
  rw[he] at kR
  have kE:=fun {h1 h:PH} {a:Value} [Le h1 h] (c:Cn h1 a x)=>EExact_spec (h:=h) (fn:=fn) c
  rw[hb] at kE
  have sv:sz (exV fn x)≤2048:=by unfold exV;split<;>decide
  obtain⟨_,_,_,_,_,_,_,rfl,_⟩:=hx.sa
  refine Spec.go [] Tryz.func34 rfl rfl (by kernel_rfl) fun C _=>?_
  try simp(disch:=omega) only[go_sem,Nat.reduceBEq,Nat.reduceAdd]
  refine caN (by exact kR) ?_;rintro v1 h1 s1 ⟨_,_,_,_,_,_,_,rfl,c⟩
  try simp(disch:=omega) only[go_sem,Nat.reduceBEq,Nat.reduceAdd]
  refine caN (by exact kE (c rfl)) ?_;rintro v2 h2 s2 ⟨_,_,_,_,_,_,_,rfl,c2⟩
  try simp(disch:=omega) only[go_sem,Nat.reduceBEq,Nat.reduceAdd]
  refine caN (by exact NumCanon (Rv.of c2 sv)) ?_;rintro v3 h3 s3 ⟨_,_,_,_,_,_,_,rfl,c3⟩
  try simp(disch:=omega) only[go_sem,Nat.reduceBEq,Nat.reduceAdd]
  exact⟨_,_,_,_,_,_,_,_,_,_,_,_,_,_,rfl,c2.to,c3⟩
theorem EApply_ser {h0 h:PH} [Le h0 h] {v:Value} {x y z:Rat} {fn p e:Int} {g:FuncId} (hx:Rv h0 v x) (he:eErr fn x p=0) (hb:exB fn x=false) (hg:∀{h0 h:PH} {a:Value} [Le h0 h],Cn h0 a x→Spec mach g #[a,.int .i64 p] h (fun r h'=>Ber h' r e y z) NP):
    Spec mach 34 #[.int .i64 fn,v,.int .i64 p,.func (.func g) #[] #[]] h (fun r h'=>Ber h' r e y z) NP:=by
  have kR:=fun {h} [Le h0 h]=>EReady_spec (h:=h) (fn:=fn) (p:=p) hx
  rw[he] at kR
  have kE:=fun {h1 h:PH} {a:Value} [Le h1 h] (c:Cn h1 a x)=>EExact_spec (h:=h) (fn:=fn) c
  rw[hb] at kE
  obtain⟨_,_,_,_,_,_,_,rfl,_⟩:=hx.sa
  refine Spec.go [] Tryz.func34 rfl rfl (by kernel_rfl) fun C _=>?_
  try simp(disch:=omega) only[go_sem,Nat.reduceBEq,Nat.reduceAdd]
  refine caN (by exact kR) ?_;rintro v1 h1 s1 ⟨_,_,_,_,_,_,_,rfl,c⟩
  try simp(disch:=omega) only[go_sem,Nat.reduceBEq,Nat.reduceAdd]
  refine caN (by exact kE (c rfl)) ?_;rintro v2 h2 s2 ⟨_,_,_,_,_,_,_,rfl,_⟩
  try simp(disch:=omega) only[go_sem,Nat.reduceBEq,Nat.reduceAdd]
  refine caN (by exact hg ((c rfl).to (h':=h2))) ?_;rintro v3 h3 s3 ⟨_,_,_,_,_,_,_,_,_,_,_,_,_,_,rfl,q3⟩
  try simp(disch:=omega) only[go_sem,Nat.reduceBEq,Nat.reduceAdd]
  exact⟨_,_,_,_,_,_,_,_,_,_,_,_,_,_,rfl,q3⟩
theorem EReady_no {h0 h:PH} [Le h0 h] {v:Value} {neg:Bool} {n d:Nat} {fn p:Int} (hv:Rw h0 v neg n d) (hl:lg neg n d):Spec mach 79 #[.int .i64 fn,v,.int .i64 p] h (fun r _=>r=.tuple #[.agg #[.bool false,.slice none 0 0,.slice none 0 0],.int .i64 1]) NP:=by
  have kK:=fun {h} [Le h0 h]=>EKnown_no (h:=h) (fn:=fn) hv hl
  obtain⟨_,_,_,_,_,_,_,rfl,_⟩:=hv.sa
  refine Spec.go [] Tryz.func79 rfl rfl (by kernel_rfl) fun C _=>?_
  try simp(disch:=omega) only[go_sem,Nat.reduceBEq,Nat.reduceAdd]
  refine caN (by exact kK) ?_;rintro v1 h1 s1 rfl
  try simp(disch:=omega) only[go_sem,Nat.reduceBEq,Nat.reduceAdd]
theorem EApply_no {h0 h:PH} [Le h0 h] {v:Value} {neg:Bool} {n d:Nat} {fn p:Int} {g:FuncId} (hv:Rw h0 v neg n d) (hl:lg neg n d):Spec mach 34 #[.int .i64 fn,v,.int .i64 p,.func (.func g) #[] #[]] h (fun r h'=>Ber h' r 1 0 0) NP:=by
  have kR:=fun {h} [Le h0 h]=>EReady_no (h:=h) (fn:=fn) (p:=p) hv hl
  obtain⟨_,_,_,_,_,_,_,rfl,_⟩:=hv.sa
  refine Spec.go [] Tryz.func34 rfl rfl (by kernel_rfl) fun C _=>?_
  try simp(disch:=omega) only[go_sem,Nat.reduceBEq,Nat.reduceAdd]
  refine caN (by exact kR) ?_;rintro v1 h1 s1 rfl
  try simp(disch:=omega) only[go_sem,Nat.reduceBEq,Nat.reduceAdd]
  exact Ber.no _ _
end Go.Q
namespace Go.Q
open Go.Proofs
set_option maxRecDepth 100000
set_option maxHeartbeats 16000000
theorem wv_pos {y w:Nat} (hy:y≤2^w) (hw:1≤w):0 < wvL y w 1∧0 < wvH y w 1:=by
  obtain⟨h1,h2⟩:=waV_le (w:=w) (f:=1) (s:=sqL y w) (t:=sqH y w) (by decide) 23
  have hs:=sqL_le hy
  have ht:=sqH_le hy
  have e:wav 1 (23 - 23)=2:=rfl
  have u0:=Nat.pos_of_ne_zero (pow2_ne w)
  have u2:2≤2^w:=by
    have:2^1≤2^w:=Nat.pow_le_pow_right (by decide) hw
    omega
  have m1:sqH y w*waV w 1 (sqL y w) (sqH y w) true 23≤2^w*2^w:=Nat.mul_le_mul ht h1
  have m2:sqL y w*waV w 1 (sqL y w) (sqH y w) false 23≤2^w*2^w:=Nat.mul_le_mul hs h2
  have m3:2*2^w≤2^w*2^w:=Nat.mul_le_mul_right _ u2
  unfold wvL wvH
  rw[show waV w 1 (sqL y w) (sqH y w) false 24=_ from waV_s w 1 _ _ 23,show waV w 1 (sqL y w) (sqH y w) true 24=_ from waV_s' w 1 _ _ 23,e]
  generalize sqH y w*waV w 1 (sqL y w) (sqH y w) true 23=a at*
  generalize sqL y w*waV w 1 (sqL y w) (sqH y w) false 23=b at*
  generalize 2^w*2^w=c at*
  have n0:2*2^w≠0:=by omega
  constructor
  · exact Nat.div_pos (by omega) (by omega)
  · by_cases hz:cdiv (c*2 - b) (2*2^w)=0
    · have:=(cdiv_le_iff (a:=c*2 - b) (c:=0) n0).1 (by omega)
      omega
    · omega
theorem wv_posS {y w:Nat} (hy:y≤2^w) (hw:1≤w):0 < wvH y w 2:=by
  obtain⟨h1,h2⟩:=waV_le (w:=w) (f:=2) (s:=sqL y w) (t:=sqH y w) (by decide) 23
  have hs:=sqL_le hy
  have e:wav 2 (23 - 23)=6:=rfl
  have u0:=Nat.pos_of_ne_zero (pow2_ne w)
  have m2:sqL y w*waV w 2 (sqL y w) (sqH y w) false 23≤2^w*2^w:=Nat.mul_le_mul hs h2
  have m3:0 < 2^w*2^w:=Nat.mul_pos u0 u0
  unfold wvH
  rw[show waV w 2 (sqL y w) (sqH y w) true 24=_ from waV_s' w 2 _ _ 23,e]
  generalize sqL y w*waV w 2 (sqL y w) (sqH y w) false 23=b at*
  generalize 2^w*2^w=c at*
  have n0:6*2^w≠0:=by omega
  by_cases hz:cdiv (c*6 - b) (6*2^w)=0
  · have:=(cdiv_le_iff (a:=c*6 - b) (c:=0) n0).1 (by omega)
    omega
  · omega
theorem sgn_pos {n d:Nat} (hd:d≠0):0 < sgn false n d↔0 < n:=by
  have hd':(0:Rat) < (d:Rat):=by exact_mod_cast Nat.pos_of_ne_zero hd
  have e:sgn false n d*(d:Rat)=(n:Rat):=by
    unfold sgn
    rw[Rat.mkRat_eq_div]
    show((n:Int):Rat) / (d:Rat)*(d:Rat)=_
    rw[Rat.div_mul_cancel (by grind)]
    rfl
  constructor
  · intro h
    have:=Rat.mul_pos h hd'
    rw[e] at this
    exact_mod_cast this
  · intro h
    have hn:(0:Rat) < (n:Rat):=by exact_mod_cast h
    rw[←e] at hn
    generalize sgn false n d=q at*
    generalize(d:Rat)=u at*
    refine Decidable.byContradiction fun c=>?_
    have:=Rat.mul_le_mul_of_nonneg_right (show q≤0 by grind) (Rat.le_of_lt hd')
    grind
theorem sgn_sg (neg:Bool) (n d:Nat):sgn neg n d=if neg=true then -sgn false n d else sgn false n d:=by
  cases neg
  · rfl
  · unfold sgn
    simp only[if_true,Bool.false_eq_true,if_false]
    rw[Rat.neg_mkRat]
theorem glo_grid (z:Int) (w:Nat):glo ((z:Rat) / 2^w) w=z.natAbs:=by
  have hu:(0:Rat) < ((2^w:Nat):Rat):=u_pos w
  have e2:((2^w:Nat):Rat)=2^w:=by push_cast;rfl
  have e:=q_den ((z:Rat) / 2^w)
  have hd:=((z:Rat) / 2^w).den_nz
  generalize hq:(z:Rat) / 2^w=q at*
  have hz:(z:Rat)=q*((2^w:Nat):Rat):=by
    rw[←hq,e2,Rat.div_mul_cancel (by rw[←e2];grind)]
  have key:(q.num:Int)*((2^w:Nat):Int)=z*(q.den:Int):=by
    have:((q.num*((2^w:Nat):Int):Int):Rat)=((z*(q.den:Int):Int):Rat):=by
      rw[Rat.intCast_mul,Rat.intCast_mul,hz,←e]
      show q*(q.den:Rat)*((2^w:Nat):Rat)=q*((2^w:Nat):Rat)*(q.den:Rat)
      grind
    exact Rat.intCast_inj.1 this
  have key2:=congrArg Int.natAbs key
  rw[Int.natAbs_mul,Int.natAbs_mul] at key2
  simp only[Int.natAbs_natCast] at key2
  unfold glo
  rw[key2]
  exact Nat.mul_div_cancel _ (Nat.pos_of_ne_zero hd)
theorem sn_sign {x:Rat} {w:Nat} (hw:64≤w) (hw':w≤192) (hb:¬x.den*4294967296 < x.num.natAbs):(0 < snl x w→0 < snh x w)∧(snh x w < 0→snl x w < 0):=by
  obtain⟨l1,l2⟩:=rs_glo hw hw' hb
  obtain⟨_,hAB,_⟩:=rs_bd hw hw' (num_bd hb)
  have gA:∃z:Int,rsA x w=(z:Rat) / 2^w:=⟨_,rfl⟩
  have gB:∃z:Int,rsB x w=(z:Rat) / 2^w:=⟨_,rfl⟩
  have pA:=wv_posS l1 (by omega)
  have pB:=wv_posS l2 (by omega)
  have nz:=pow2_ne w
  have cpos:∀{y v:Nat},0 < y→0 < v→0 < cdiv (y*v) (2^w):=fun {y v} hy hv=>by
    by_cases hz:cdiv (y*v) (2^w)=0
    · have h1:=(cdiv_le_iff (c:=0) (a:=y*v) nz).1 (by omega)
      have h2:=Nat.mul_pos hy hv
      omega
    · omega
  have gpos:∀{q:Rat},(∃z:Int,q=(z:Rat) / 2^w)→q≠0→0 < glo q w:=by
    rintro q ⟨z,rfl⟩ h
    rw[glo_grid]
    have:z≠0:=by
      rintro rfl
      exact h (by rw[Rat.div_def,Rat.intCast_zero,Rat.zero_mul])
    omega
  constructor
  · intro h
    unfold snl snAt at h
    have sA:¬(rsA x w).num < 0:=by
      intro hs
      rw[decide_eq_true hs,if_neg (by decide),sgn_sg,if_pos rfl] at h
      have:0≤sgn false (cdiv (glo (rsA x w) w*wvH (glo (rsA x w) w) w 2) (2^w)) (2^w):=by
        rcases Nat.eq_zero_or_pos (cdiv (glo (rsA x w) w*wvH (glo (rsA x w) w) w 2) (2^w)) with e |e
        · rw[e,sgn_zero];exact Rat.le_refl
        · exact Rat.le_of_lt ((sgn_pos nz).2 e)
      grind
    have nA:rsA x w≠0:=by
      intro e
      rw[e] at h
      have:glo 0 w=0:=by unfold glo;simp
      rw[this,if_pos (by decide),Nat.zero_mul,Nat.zero_div,sgn_zero] at h
      exact absurd h (by decide)
    rw[num_neg] at sA
    have pB0:0 < rsB x w:=by grind
    have nB:rsB x w≠0:=by grind
    have sB:¬(rsB x w).num < 0:=by rw[num_neg];grind
    unfold snh snAt
    rw[decide_eq_false sB,if_neg (by decide)]
    exact(sgn_pos nz).2 (cpos (gpos gB nB) pB)
  · intro h
    unfold snh snAt at h
    have sB:(rsB x w).num < 0:=by
      refine Decidable.byContradiction fun hs=>?_
      rw[decide_eq_false hs,if_neg (by decide)] at h
      have:0≤sgn false (cdiv (glo (rsB x w) w*wvH (glo (rsB x w) w) w 2) (2^w)) (2^w):=by
        rcases Nat.eq_zero_or_pos (cdiv (glo (rsB x w) w*wvH (glo (rsB x w) w) w 2) (2^w)) with e |e
        · rw[e,sgn_zero];exact Rat.le_refl
        · exact Rat.le_of_lt ((sgn_pos nz).2 e)
      grind
    rw[num_neg] at sB
    have nA:rsA x w≠0:=by grind
    have sA:(rsA x w).num < 0:=by rw[num_neg];grind
    unfold snl snAt
    rw[decide_eq_true sA,if_neg (by decide),sgn_sg,if_pos rfl]
    have:=(sgn_pos nz).2 (cpos (gpos gA nA) pA)
    grind
theorem co_ne {x:Rat} {w:Nat} (hw:64≤w) (hw':w≤192) (hb:¬x.den*4294967296 < x.num.natAbs) (hn:¬(coL x w≤0∧0≤coH x w)):coL x w≠0∧coH x w≠0:=by
  obtain⟨s1,s2⟩:=sn_sign hw hw' hb
  obtain⟨l1,l2⟩:=rs_glo hw hw' hb
  have lX:csX (rsA x w) (rsB x w) w≤2^w:=by unfold csX;omega
  have lN:csN (rsA x w) (rsB x w) w≤2^w:=by unfold csN;split<;>omega
  have c1:0 < csl x w:=(sgn_pos (pow2_ne w)).2 (wv_pos lX (by omega)).1
  have c2:0 < csh x w:=(sgn_pos (pow2_ne w)).2 (wv_pos lN (by omega)).2
  unfold coL coH at*
  generalize snl x w=a at*
  generalize snh x w=b at*
  generalize csl x w=c at*
  generalize csh x w=d at*
  generalize rsK x w % 4=k at*
  by_cases h1:k=1
  · simp only[if_pos h1] at*
    grind
  · simp only[if_neg h1] at*
    by_cases h2:k=2
    · simp only[if_pos h2] at*
      grind
    · simp only[if_neg h2] at*
      by_cases h3:k=3
      · simp only[if_pos h3] at*
        grind
      · simp only[if_neg h3] at*
        grind
def tq (x:Rat) (w:Nat):Nat→Rat
  |0=>siL x w*(coL x w)⁻¹
  |1=>siL x w*(coH x w)⁻¹
  |2=>siH x w*(coL x w)⁻¹
  |_=>siH x w*(coH x w)⁻¹
def tqL (x:Rat) (w:Nat):Nat→Rat
  |0=>tq x w 0
  |n+1=>if tq x w (n+1) < tqL x w n then tq x w (n+1) else tqL x w n
def tqH (x:Rat) (w:Nat):Nat→Rat
  |0=>tq x w 0
  |n+1=>if tqH x w n < tq x w (n+1) then tq x w (n+1) else tqH x w n
theorem tq_sz {x:Rat} {w:Nat} (hb:¬x.den*4294967296 < x.num.natAbs) (hw:64≤w) (hw':w≤192):∀n,sz (tq x w n)≤2*w+4:=by
  obtain⟨z1,z2,z3,z4⟩:=sc_sz hb hw hw'
  have i1:=sz_inv (coL x w)
  have i2:=sz_inv (coH x w)
  have m1:=sz_mul (siL x w) (coL x w)⁻¹
  have m2:=sz_mul (siL x w) (coH x w)⁻¹
  have m3:=sz_mul (siH x w) (coL x w)⁻¹
  have m4:=sz_mul (siH x w) (coH x w)⁻¹
  intro n
  unfold tq
  split<;>omega
theorem tqL_sz {x:Rat} {w:Nat} (hb:¬x.den*4294967296 < x.num.natAbs) (hw:64≤w) (hw':w≤192):∀n,sz (tqL x w n)≤2*w+4∧sz (tqH x w n)≤2*w+4
  |0=>⟨tq_sz hb hw hw' 0,tq_sz hb hw hw' 0⟩
  | n+1=>by
    obtain⟨h1,h2⟩:=tqL_sz hb hw hw' n
    have h3:=tq_sz hb hw hw' (n+1)
    unfold tqL tqH
    constructor<;>split<;>assumption
theorem cmpQ_lt0 (x y:Rat):decide (cmpQ x y < 0)=decide (x < y):=by unfold cmpQ;grind
theorem cmpQ_gt0 (x y:Rat):decide (cmpQ x y > 0)=decide (y < x):=by unfold cmpQ;grind
end Go.Q
