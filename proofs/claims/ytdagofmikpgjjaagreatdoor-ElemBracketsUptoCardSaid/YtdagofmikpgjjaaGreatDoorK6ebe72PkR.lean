/-
  What both, sin and cos return, and what stands on it. Conditions: each theorem's own.
-/
import Derived.Test.YtdagofmikpgjjaaGreatDoorK98c21dPkF
import Derived.Test.YtdagofmikpgjjaaGreatDoorKa3ff51PkQ
import Derived.Test.YtdagofmikpgjjaaGreatDoorKb2df3ePkM
import Derived.Test.YtdagofmikpgjjaaGreatDoorKef6d44PkO
set_option linter.unusedVariables false
set_option linter.unusedSimpArgs false
open Nat (reduceAdd)
namespace Go.Q
open Go.Proofs
set_option maxRecDepth 100000
set_option maxHeartbeats 8000000
def snl (x:Rat) (w:Nat):Rat:=snAt (rsA x w) w true
def snh (x:Rat) (w:Nat):Rat:=snAt (rsB x w) w false
def csl (x:Rat) (w:Nat):Rat:=sgn false (wvL (csX (rsA x w) (rsB x w) w) w 1) (2^w)
def csh (x:Rat) (w:Nat):Rat:=sgn false (wvH (csN (rsA x w) (rsB x w) w) w 1) (2^w)
def siL (x:Rat) (w:Nat):Rat:=if rsK x w % 4=1 then csl x w else if rsK x w % 4=2 then -snh x w else if rsK x w % 4=3 then -csh x w else snl x w
def siH (x:Rat) (w:Nat):Rat:=if rsK x w % 4=1 then csh x w else if rsK x w % 4=2 then -snl x w else if rsK x w % 4=3 then -csl x w else snh x w
def coL (x:Rat) (w:Nat):Rat:=if rsK x w % 4=1 then -snh x w else if rsK x w % 4=2 then -csh x w else if rsK x w % 4=3 then snl x w else csl x w
def coH (x:Rat) (w:Nat):Rat:=if rsK x w % 4=1 then -snl x w else if rsK x w % 4=2 then -csl x w else if rsK x w % 4=3 then snh x w else csh x w
theorem uP {x:Rat} {w:Nat} (h1:64≤w) (h2:w≤192) (hb:¬x.den*4294967296 < x.num.natAbs):glo (rsA x w) w≤2^w∧glo (rsB x w) w≤2^w:=by
  obtain⟨a1,a2,a3⟩:=rs_bd h1 h2 (iP hb)
  exact⟨(g_le (sP a1 (by grind))).1,(g_le (sP (by grind) a3)).1⟩
theorem cs_sz {y w:Nat}:sz (sgn false (wvL y w 1) (2^w))≤w+2∧sz (sgn false (wvH y w 1) (2^w))≤w+2:=by
  obtain⟨w1,w2⟩:=m9 (w:=w) (f:=1) (s:=sqL y w) (t:=sqH y w) (by decide) 24
  have h0:=bC w
  have h1:=bh (n:=wvL y w 1) (w:=w) (by unfold wvL;omega)
  have h2:=bh (n:=wvH y w 1) (w:=w) (by unfold wvH;omega)
  have h3:=dg false (wvL y w 1) (am w)
  have h4:=dg false (wvH y w 1) (am w)
  omega
theorem rs_sz {x:Rat} {w:Nat} (bx:sz x≤1024) (hb:¬x.den*4294967296 < x.num.natAbs) (hw:64≤w) (hw':w≤192):sz (rsA x w)≤2048∧sz (rsB x w)≤2048:=by
  obtain⟨k1,k2⟩:=BE hw hw' (iP hb)
  obtain⟨sf,sg⟩:=fW_sz (w:=w)
  have sk:=sz_k (z:=rsK x w) (by omega)
  have m1:=bV (rsK x w:Rat) (fW w)
  have m2:=bV (rsK x w:Rat) (gW w)
  have m3:=dA x (-((rsK x w:Rat)*fW w))
  have m4:=dA x (-((rsK x w:Rat)*gW w))
  rw[cz] at m3 m4
  have m5:=sz_gd (x+ -((rsK x w:Rat)*fW w)) w
  have m6:=sz_gd (x+ -((rsK x w:Rat)*gW w)) w
  have m7:=sz_gu (x+ -((rsK x w:Rat)*fW w)) w
  have m8:=sz_gu (x+ -((rsK x w:Rat)*gW w)) w
  unfold rsA rsB
  split<;>omega
theorem oN {h0 h:PH} [Le h0 h] {v:Value} {x:Rat} {w:Nat} (hx:Cn h0 v x) (bx:sz x≤1024) (hb:¬x.den*4294967296 < x.num.natAbs) (hw:64≤w) (hw':w≤192):
    Spec mach 95 #[v,.int .i64 w] h (fun r h'=>∃s t,r=.tuple #[s,t]∧Bk h' s (siL x w) (siH x w)∧Bk h' t (coL x w) (coH x w)) NP:=by
  have kR:=fun {h} [Le h0 h]=>Ew (h:=h) hx bx hb hw hw'
  obtain⟨l1,l2⟩:=uP hw hw' hb
  obtain⟨z1,z2⟩:=rs_sz bx hb hw hw'
  obtain⟨c1,_⟩:=cs_sz (y:=csX (rsA x w) (rsB x w) w) (w:=w)
  obtain⟨_,c2⟩:=cs_sz (y:=csN (rsA x w) (rsB x w) w) (w:=w)
  have c1:sz (csl x w)≤w+2:=c1
  have c2:sz (csh x w)≤w+2:=c2
  have n1:sz (snl x w)≤w+2:=wF l1
  have n2:sz (snh x w)≤w+2:=wF l2
  have kS:∀{h1 h:PH} {v:Value} [Le h1 h],Bk h1 v (rsA x w) (rsB x w)→Spec mach 171 #[v,.int .i64 w] h (fun r h'=>Bk h' r (snl x w) (snh x w)) NP:=fun k=>Ex k z1 z2 l1 l2 (by omega) (by omega)
  have kC:∀{h1 h:PH} {v:Value} [Le h1 h],Bk h1 v (rsA x w) (rsB x w)→Spec mach 172 #[v,.int .i64 w] h (fun r h'=>Bk h' r (csl x w) (csh x w)) NP:=fun k=>Ag k z1 z2 l1 l2 (by omega) (by omega)
  unfold siL siH coL coH
  generalize snl x w=sl at*
  generalize snh x w=sh at*
  generalize csl x w=cl at*
  generalize csh x w=ch at*
  generalize rsA x w=A at*
  generalize rsB x w=B at*
  generalize rsK x w=k at*
  have n1:sz sl≤2048:=by omega
  have n2:sz sh≤2048:=by omega
  have c1:sz cl≤2048:=by omega
  have c2:sz ch≤2048:=by omega
  obtain⟨na,nl,nc,da,dl,dc,rfl,_,_,_,_⟩:=hx.parts
  clear bx hb l1 l2 z1 z2 hx
  have hk:k % 4=1∨k % 4=2∨k % 4=3∨k % 4=0:=by omega
  generalize k % 4=q at*
  rcases hk with rfl |rfl |rfl |rfl
  · rw[if_pos rfl,if_pos rfl,if_pos rfl,if_pos rfl]
    refine Spec.go [(2,.h [] [] [6,7] [6,7,0,1,3,4,2,5,8,9]),(7,.o [0,2,1,3,4,5]),(9,.h [(8,4)] [] [] [0,2,1,3,4]),(10,.h [(9,4)] [] [] [0,1,2,3])] Tryz.func95 rfl rfl (by kernel_rfl) fun C _=>?_
    try simp(disch:=omega) only[go_sem,Nat.reduceBEq,reduceAdd]
    refine caN (by exact kR) ?_;rintro v1 h1 s1 ⟨u,rfl,q1⟩;obtain⟨_,_,_,_,_,_,_,_,_,_,_,_,_,_,rfl,q1⟩:=q1.sp
    try simp(disch:=omega) only[go_sem,Nat.reduceBEq,reduceAdd]
    refine caN (by exact kS q1) ?_;rintro v2 h2 s2 q2;obtain⟨_,_,_,_,_,_,_,_,_,_,_,_,_,_,rfl,q2⟩:=q2.sp
    try simp(disch:=omega) only[go_sem,Nat.reduceBEq,reduceAdd]
    refine caN (by exact kC (q1.to (h':=h2))) ?_;rintro v3 h3 s3 q3;obtain⟨_,_,_,_,_,_,_,_,_,_,_,_,_,_,rfl,q3⟩:=q3.sp
    try simp(disch:=omega) only[go_sem,Nat.reduceBEq,reduceAdd]
    refine caN (by exact nj (q2.to (h':=h3)) n1 n2) ?_;rintro v4 h4 s4 q4;obtain⟨_,_,_,_,_,_,_,_,_,_,_,_,_,_,rfl,q4⟩:=q4.sp
    try simp(disch:=omega) only[go_sem,Nat.reduceBEq,reduceAdd]
    exact⟨_,_,rfl,q3.to,q4⟩
  · rw[if_neg (by decide),if_pos rfl,if_neg (by decide),if_pos rfl,if_neg (by decide),if_pos rfl,if_neg (by decide),if_pos rfl]
    refine Spec.go [(2,.h [] [] [6,7] [6,7,0,1,3,4,2,5,8,9]),(7,.o [0,2,1,3,4,5]),(9,.h [(8,4)] [] [] [0,2,1,3,4]),(10,.h [(9,4)] [] [] [0,1,2,3])] Tryz.func95 rfl rfl (by kernel_rfl) fun C _=>?_
    try simp(disch:=omega) only[go_sem,Nat.reduceBEq,reduceAdd]
    refine caN (by exact kR) ?_;rintro v1 h1 s1 ⟨u,rfl,q1⟩;obtain⟨_,_,_,_,_,_,_,_,_,_,_,_,_,_,rfl,q1⟩:=q1.sp
    try simp(disch:=omega) only[go_sem,Nat.reduceBEq,reduceAdd]
    refine caN (by exact kS q1) ?_;rintro v2 h2 s2 q2;obtain⟨_,_,_,_,_,_,_,_,_,_,_,_,_,_,rfl,q2⟩:=q2.sp
    try simp(disch:=omega) only[go_sem,Nat.reduceBEq,reduceAdd]
    refine caN (by exact kC (q1.to (h':=h2))) ?_;rintro v3 h3 s3 q3;obtain⟨_,_,_,_,_,_,_,_,_,_,_,_,_,_,rfl,q3⟩:=q3.sp
    try simp(disch:=omega) only[go_sem,Nat.reduceBEq,reduceAdd]
    refine caN (by exact nj (q2.to (h':=h3)) n1 n2) ?_;rintro v4 h4 s4 q4;obtain⟨_,_,_,_,_,_,_,_,_,_,_,_,_,_,rfl,q4⟩:=q4.sp
    try simp(disch:=omega) only[go_sem,Nat.reduceBEq,reduceAdd]
    refine caN (by exact nj (q3.to (h':=h4)) c1 c2) ?_;rintro v5 h5 s5 q5;obtain⟨_,_,_,_,_,_,_,_,_,_,_,_,_,_,rfl,q5⟩:=q5.sp
    try simp(disch:=omega) only[go_sem,Nat.reduceBEq,reduceAdd]
    exact⟨_,_,rfl,q4.to,q5⟩
  · rw[if_neg (by decide),if_neg (by decide),if_pos rfl,if_neg (by decide),if_neg (by decide),if_pos rfl,if_neg (by decide),if_neg (by decide),if_pos rfl,if_neg (by decide),if_neg (by decide),if_pos rfl]
    refine Spec.go [(2,.h [] [] [6,7] [6,7,0,1,3,4,2,5,8,9]),(7,.o [0,2,1,3,4,5]),(9,.h [(8,4)] [] [] [0,2,1,3,4]),(10,.h [(9,4)] [] [] [0,1,2,3])] Tryz.func95 rfl rfl (by kernel_rfl) fun C _=>?_
    try simp(disch:=omega) only[go_sem,Nat.reduceBEq,reduceAdd]
    refine caN (by exact kR) ?_;rintro v1 h1 s1 ⟨u,rfl,q1⟩;obtain⟨_,_,_,_,_,_,_,_,_,_,_,_,_,_,rfl,q1⟩:=q1.sp
    try simp(disch:=omega) only[go_sem,Nat.reduceBEq,reduceAdd]
    refine caN (by exact kS q1) ?_;rintro v2 h2 s2 q2;obtain⟨_,_,_,_,_,_,_,_,_,_,_,_,_,_,rfl,q2⟩:=q2.sp
    try simp(disch:=omega) only[go_sem,Nat.reduceBEq,reduceAdd]
    refine caN (by exact kC (q1.to (h':=h2))) ?_;rintro v3 h3 s3 q3;obtain⟨_,_,_,_,_,_,_,_,_,_,_,_,_,_,rfl,q3⟩:=q3.sp
    try simp(disch:=omega) only[go_sem,Nat.reduceBEq,reduceAdd]
    refine caN (by exact nj (q3.to (h':=h3)) c1 c2) ?_;rintro v4 h4 s4 q4;obtain⟨_,_,_,_,_,_,_,_,_,_,_,_,_,_,rfl,q4⟩:=q4.sp
    try simp(disch:=omega) only[go_sem,Nat.reduceBEq,reduceAdd]
    exact⟨_,_,rfl,q4,q2.to⟩
  · rw[if_neg (by decide),if_neg (by decide),if_neg (by decide),if_neg (by decide),if_neg (by decide),if_neg (by decide),if_neg (by decide),if_neg (by decide),if_neg (by decide),if_neg (by decide),if_neg (by decide),if_neg (by decide)]
    refine Spec.go [(2,.h [] [] [6,7] [6,7,0,1,3,4,2,5,8,9]),(7,.o [0,2,1,3,4,5]),(9,.h [(8,4)] [] [] [0,2,1,3,4]),(10,.h [(9,4)] [] [] [0,1,2,3])] Tryz.func95 rfl rfl (by kernel_rfl) fun C _=>?_
    try simp(disch:=omega) only[go_sem,Nat.reduceBEq,reduceAdd]
    refine caN (by exact kR) ?_;rintro v1 h1 s1 ⟨u,rfl,q1⟩;obtain⟨_,_,_,_,_,_,_,_,_,_,_,_,_,_,rfl,q1⟩:=q1.sp
    try simp(disch:=omega) only[go_sem,Nat.reduceBEq,reduceAdd]
    refine caN (by exact kS q1) ?_;rintro v2 h2 s2 q2;obtain⟨_,_,_,_,_,_,_,_,_,_,_,_,_,_,rfl,q2⟩:=q2.sp
    try simp(disch:=omega) only[go_sem,Nat.reduceBEq,reduceAdd]
    refine caN (by exact kC (q1.to (h':=h2))) ?_;rintro v3 h3 s3 q3;obtain⟨_,_,_,_,_,_,_,_,_,_,_,_,_,_,rfl,q3⟩:=q3.sp
    try simp(disch:=omega) only[go_sem,Nat.reduceBEq,reduceAdd]
    exact⟨_,_,rfl,q2.to,q3⟩
theorem sc_sz {x:Rat} {w:Nat} (hb:¬x.den*4294967296 < x.num.natAbs) (hw:64≤w) (hw':w≤192):sz (siL x w)≤w+2∧sz (siH x w)≤w+2∧sz (coL x w)≤w+2∧sz (coH x w)≤w+2:=by
  obtain⟨l1,l2⟩:=uP hw hw' hb
  obtain⟨c1,_⟩:=cs_sz (y:=csX (rsA x w) (rsB x w) w) (w:=w)
  obtain⟨_,c2⟩:=cs_sz (y:=csN (rsA x w) (rsB x w) w) (w:=w)
  have c1:sz (csl x w)≤w+2:=c1
  have c2:sz (csh x w)≤w+2:=c2
  have n1:sz (snl x w)≤w+2:=wF l1
  have n2:sz (snh x w)≤w+2:=wF l2
  have e1:=cz (snl x w)
  have e2:=cz (snh x w)
  have e3:=cz (csl x w)
  have e4:=cz (csh x w)
  unfold siL siH coL coH
  refine⟨?_,?_,?_,?_⟩<;>(repeat' split)<;>omega
theorem IB {h0 h:PH} [Le h0 h] {v:Value} {x:Rat} {p:Nat} (hx:Cn h0 v x) (bx:sz x≤1024) (hb:¬x.den*4294967296 < x.num.natAbs) (hp:p≤128):Spec mach 26 #[v,.int .i64 p] h (fun r h'=>Be h' r (gdown (siL x (p+64)) p) (gup (siH x (p+64)) p)) NP:=by
  have kB:=fun {h} [Le h0 h]=>oN (h:=h) (w:=p+64) hx bx hb (by omega) (by omega)
  obtain⟨z1,z2,_,_⟩:=sc_sz (w:=p+64) hb (by omega) (by omega)
  have y1:=sz_gd (siL x (p+64)) p
  have y2:=sz_gu (siH x (p+64)) p
  obtain⟨_,_,_,_,_,_,_,rfl,_⟩:=hx.sa
  clear hb bx
  have F:=Hid.mk (And.intro z1 (And.intro z2 (And.intro y1 y2)));clear z1 z2 y1 y2
  refine Spec.go [] Tryz.func26 rfl rfl (by kernel_rfl) fun C _=>?_
  try simp(disch:=omega) only[go_sem,Nat.reduceBEq,reduceAdd]
  refine caN (by exact kB) ?_;rintro v1 h1 s1 ⟨u,t,rfl,q1,q2⟩;obtain⟨_,_,_,_,_,_,_,_,_,_,_,_,_,_,rfl,k1,k2⟩:=q1;obtain⟨_,_,_,_,_,_,_,_,_,_,_,_,_,_,rfl,q2⟩:=q2.sp
  try simp(disch:=omega) only[go_sem,Nat.reduceBEq,reduceAdd]
  refine caN (by exact jZ (p:=p) k1 k2 (by have:=F.out;omega) (by have:=F.out;omega) (by have:=F.out;omega) (by have:=F.out;omega) (by have:=F.out;omega)) ?_;rintro v2 h2 s2 ⟨_,_,_,_,_,_,_,_,_,_,_,_,_,_,rfl,r1,r2⟩
  try simp(disch:=omega) only[go_sem,Nat.reduceBEq,reduceAdd]
  exact⟨_,_,_,_,_,_,_,_,_,_,_,_,_,_,rfl,r1,r2⟩
theorem Iy {h0 h:PH} [Le h0 h] {v:Value} {x:Rat} {p:Nat} (hx:Cn h0 v x) (bx:sz x≤1024) (hb:¬x.den*4294967296 < x.num.natAbs) (hp:p≤128):Spec mach 27 #[v,.int .i64 p] h (fun r h'=>Be h' r (gdown (coL x (p+64)) p) (gup (coH x (p+64)) p)) NP:=by
  have kB:=fun {h} [Le h0 h]=>oN (h:=h) (w:=p+64) hx bx hb (by omega) (by omega)
  obtain⟨_,_,z1,z2⟩:=sc_sz (w:=p+64) hb (by omega) (by omega)
  have y1:=sz_gd (coL x (p+64)) p
  have y2:=sz_gu (coH x (p+64)) p
  obtain⟨_,_,_,_,_,_,_,rfl,_⟩:=hx.sa
  clear hb bx
  have F:=Hid.mk (And.intro z1 (And.intro z2 (And.intro y1 y2)));clear z1 z2 y1 y2
  refine Spec.go [] Tryz.func27 rfl rfl (by kernel_rfl) fun C _=>?_
  try simp(disch:=omega) only[go_sem,Nat.reduceBEq,reduceAdd]
  refine caN (by exact kB) ?_;rintro v1 h1 s1 ⟨u,t,rfl,q1,q2⟩;obtain⟨_,_,_,_,_,_,_,_,_,_,_,_,_,_,rfl,k1,k2⟩:=q2;obtain⟨_,_,_,_,_,_,_,_,_,_,_,_,_,_,rfl,q1⟩:=q1.sp
  try simp(disch:=omega) only[go_sem,Nat.reduceBEq,reduceAdd]
  refine caN (by exact jZ (p:=p) k1 k2 (by have:=F.out;omega) (by have:=F.out;omega) (by have:=F.out;omega) (by have:=F.out;omega) (by have:=F.out;omega)) ?_;rintro v2 h2 s2 ⟨_,_,_,_,_,_,_,_,_,_,_,_,_,_,rfl,r1,r2⟩
  try simp(disch:=omega) only[go_sem,Nat.reduceBEq,reduceAdd]
  exact⟨_,_,_,_,_,_,_,_,_,_,_,_,_,_,rfl,r1,r2⟩
def eErr (fn:Int) (x:Rat) (p:Int):Int:=if ¬(1≤fn∧fn≤8)∨p < 0∨128 < p then 2 else if defB fn x=false then 5 else if 1024 < sz x∨(fn=1∧x.den*64 < x.num.natAbs)∨((fn=3∨fn=4∨fn=5)∧x.den*4294967296 < x.num.natAbs) then 20 else 0
theorem xM {fn:Int} {x:Rat} {p:Int} (h:¬(1≤fn∧fn≤8)∨p < 0∨128 < p):eErr fn x p=2:=if_pos h
theorem eErr_5 {fn:Int} {x:Rat} {p:Int} (h:¬(¬(1≤fn∧fn≤8)∨p < 0∨128 < p)) (hd:defB fn x=false):eErr fn x p=5:=by unfold eErr;rw[if_neg h,if_pos hd]
theorem vX {fn:Int} {x:Rat} {p:Int} (h:¬(¬(1≤fn∧fn≤8)∨p < 0∨128 < p)) (hd:defB fn x=true) (hb:1024 < sz x∨(fn=1∧x.den*64 < x.num.natAbs)∨((fn=3∨fn=4∨fn=5)∧x.den*4294967296 < x.num.natAbs)):eErr fn x p=20:=by unfold eErr;rw[if_neg h,hd,if_neg (by decide),if_pos hb]
theorem E6 {fn:Int} {x:Rat} {p:Int} (h:¬(¬(1≤fn∧fn≤8)∨p < 0∨128 < p)) (hd:defB fn x=true) (hb:¬(1024 < sz x∨(fn=1∧x.den*64 < x.num.natAbs)∨((fn=3∨fn=4∨fn=5)∧x.den*4294967296 < x.num.natAbs))):eErr fn x p=0:=by unfold eErr;rw[if_neg h,hd,if_neg (by decide),if_neg hb]
def Re0 (h:PH) (r:Value) (e:Int) (x:Rat):Prop:=∃b na nl nc da dl dc,r=.tuple #[.agg #[.bool b,.slice na nl nc,.slice da dl dc],.int .i64 e]∧(e=0→Cn h (.agg #[.bool b,.slice na nl nc,.slice da dl dc]) x)
theorem pJ {h0 h:PH} [Le h0 h] {v:Value} {x:Rat} {fn p:Int} (hx:Rv h0 v x):Spec mach 105 #[.int .i64 fn,v,.int .i64 p] h (fun r h'=>Re0 h' r (eErr fn x p) x) NP:=by
  have bx:=hx.sz
  by_cases hf:1≤fn∧fn≤8
  case neg=>
    have kK:=fun {h} [Le h0 h]=>oO (h:=h) hx hf
    rw[xM (.inl hf)]
    obtain⟨_,_,_,_,_,_,_,rfl,_⟩:=hx.sa
    refine Spec.go [] Tryz.func105 rfl rfl (by kernel_rfl) fun C _=>?_
    try simp(disch:=omega) only[go_sem,Nat.reduceBEq,reduceAdd]
    refine caN (by exact kK) ?_;rintro v1 h1 s1 rfl
    try simp(disch:=omega) only[go_sem,Nat.reduceBEq,reduceAdd]
    exact⟨_,_,_,_,_,_,_,rfl,fun e=>by cases e⟩
  have kK:=fun {h} [Le h0 h]=>qv (h:=h) (fn:=fn) hx hf
  by_cases hp0:p < 0
  · rw[xM (.inr (.inl hp0))]
    obtain⟨_,_,_,_,_,_,_,rfl,_⟩:=hx.sa
    refine Spec.go [] Tryz.func105 rfl rfl (by kernel_rfl) fun C _=>?_
    try simp(disch:=omega) only[go_sem,Nat.reduceBEq,reduceAdd]
    refine caN (by exact kK) ?_;rintro v1 h1 s1 ⟨_,_,_,_,_,_,_,rfl,c⟩
    try simp(disch:=omega) only[go_sem,Nat.reduceBEq,reduceAdd]
    exact⟨_,_,_,_,_,_,_,rfl,fun e=>by cases e⟩
  by_cases hp1:128 < p
  · rw[xM (.inr (.inr hp1))]
    obtain⟨_,_,_,_,_,_,_,rfl,_⟩:=hx.sa
    refine Spec.go [] Tryz.func105 rfl rfl (by kernel_rfl) fun C _=>?_
    try simp(disch:=omega) only[go_sem,Nat.reduceBEq,reduceAdd]
    refine caN (by exact kK) ?_;rintro v1 h1 s1 ⟨_,_,_,_,_,_,_,rfl,c⟩
    try simp(disch:=omega) only[go_sem,Nat.reduceBEq,reduceAdd]
    exact⟨_,_,_,_,_,_,_,rfl,fun e=>by cases e⟩
  have hA:¬(¬(1≤fn∧fn≤8)∨p < 0∨128 < p):=by omega
  obtain⟨_,_,_,_,_,_,_,rfl,_⟩:=hx.sa
  cases hd:defB fn x with
  | false=>
    rw[eErr_5 hA hd]
    clear hA
    refine Spec.go [] Tryz.func105 rfl rfl (by kernel_rfl) fun C _=>?_
    try simp(disch:=omega) only[go_sem,Nat.reduceBEq,reduceAdd]
    refine caN (by exact kK) ?_;rintro v1 h1 s1 ⟨_,_,_,_,_,_,_,rfl,c⟩
    try simp(disch:=omega) only[go_sem,Nat.reduceBEq,reduceAdd]
    refine caN (by exact dE (fn:=fn) c) ?_;rintro v2 h2 s2 rfl
    try simp(disch:=omega) only[go_sem,Nat.reduceBEq,reduceAdd]
    try rw[hd]
    try simp(disch:=omega) only[go_sem,Nat.reduceBEq,reduceAdd]
    exact⟨_,_,_,_,_,_,_,rfl,fun e=>by cases e⟩
  | true=>
    by_cases hl:1024 < sz x
    · rw[vX hA hd (.inl hl)]
      have hl:=decide_eq_true hl
      clear hA
      refine Spec.go [] Tryz.func105 rfl rfl (by kernel_rfl) fun C _=>?_
      try simp(disch:=omega) only[go_sem,Nat.reduceBEq,reduceAdd]
      refine caN (by exact kK) ?_;rintro v1 h1 s1 ⟨_,_,_,_,_,_,_,rfl,c⟩
      try simp(disch:=omega) only[go_sem,Nat.reduceBEq,reduceAdd]
      refine caN (by exact dE (fn:=fn) c) ?_;rintro v2 h2 s2 rfl
      try simp(disch:=omega) only[go_sem,Nat.reduceBEq,reduceAdd]
      try rw[hd]
      try simp(disch:=omega) only[go_sem,Nat.reduceBEq,reduceAdd]
      refine caN (by exact dX (c.to (h':=h2))) ?_;rintro v3 h3 s3 rfl
      try simp(disch:=omega) only[go_sem,Nat.reduceBEq,reduceAdd]
      try rw[hl]
      try simp(disch:=omega) only[go_sem,Nat.reduceBEq,reduceAdd]
      exact⟨_,_,_,_,_,_,_,rfl,fun e=>by cases e⟩
    have hl':=decide_eq_false hl
    by_cases h1:fn=1
    · subst h1
      by_cases hb:x.den*64 < x.num.natAbs
      · rw[vX hA hd (.inr (.inl ⟨rfl,hb⟩))]
        have hb':=decide_eq_true hb
        clear hA
        refine Spec.go [] Tryz.func105 rfl rfl (by kernel_rfl) fun C _=>?_
        try simp(disch:=omega) only[go_sem,Nat.reduceBEq,reduceAdd]
        refine caN (by exact kK) ?_;rintro v1 h1 s1 ⟨_,_,_,_,_,_,_,rfl,c⟩
        try simp(disch:=omega) only[go_sem,Nat.reduceBEq,reduceAdd]
        refine caN (by exact dE (fn:=1) c) ?_;rintro v2 h2 s2 rfl
        try simp(disch:=omega) only[go_sem,Nat.reduceBEq,reduceAdd]
        try rw[hd]
        try simp(disch:=omega) only[go_sem,Nat.reduceBEq,reduceAdd]
        refine caN (by exact dX (c.to (h':=h2))) ?_;rintro v3 h3 s3 rfl
        try simp(disch:=omega) only[go_sem,Nat.reduceBEq,reduceAdd]
        try rw[hl']
        try simp(disch:=omega) only[go_sem,Nat.reduceBEq,reduceAdd]
        refine caN (by exact fY (n:=64) (c.to (h':=h3)) (by omega) (by decide)) ?_;rintro v4 h4 s4 rfl
        try simp(disch:=omega) only[go_sem,Nat.reduceBEq,reduceAdd]
        try rw[hb']
        try simp(disch:=omega) only[go_sem,Nat.reduceBEq,reduceAdd]
        exact⟨_,_,_,_,_,_,_,rfl,fun e=>by cases e⟩
      · rw[E6 hA hd (by rintro(k |k |k);exact hl k;exact hb k.2;exact absurd k.1 (by decide))]
        have hb':=decide_eq_false hb
        clear hA
        refine Spec.go [] Tryz.func105 rfl rfl (by kernel_rfl) fun C _=>?_
        try simp(disch:=omega) only[go_sem,Nat.reduceBEq,reduceAdd]
        refine caN (by exact kK) ?_;rintro v1 h1 s1 ⟨_,_,_,_,_,_,_,rfl,c⟩
        try simp(disch:=omega) only[go_sem,Nat.reduceBEq,reduceAdd]
        refine caN (by exact dE (fn:=1) c) ?_;rintro v2 h2 s2 rfl
        try simp(disch:=omega) only[go_sem,Nat.reduceBEq,reduceAdd]
        try rw[hd]
        try simp(disch:=omega) only[go_sem,Nat.reduceBEq,reduceAdd]
        refine caN (by exact dX (c.to (h':=h2))) ?_;rintro v3 h3 s3 rfl
        try simp(disch:=omega) only[go_sem,Nat.reduceBEq,reduceAdd]
        try rw[hl']
        try simp(disch:=omega) only[go_sem,Nat.reduceBEq,reduceAdd]
        refine caN (by exact fY (n:=64) (c.to (h':=h3)) (by omega) (by decide)) ?_;rintro v4 h4 s4 rfl
        try simp(disch:=omega) only[go_sem,Nat.reduceBEq,reduceAdd]
        try rw[hb']
        try simp(disch:=omega) only[go_sem,Nat.reduceBEq,reduceAdd]
        exact⟨_,_,_,_,_,_,_,rfl,fun _=>c.to⟩
    by_cases h3:fn=3∨fn=4∨fn=5
    · have hb:(x.den*4294967296 < x.num.natAbs)∨¬(x.den*4294967296 < x.num.natAbs):=Decidable.em _
      rcases hb with hb |hb
      · rw[vX hA hd (.inr (.inr ⟨h3,hb⟩))]
        have hb':=decide_eq_true hb
        have kB:∀{h1 h:PH} {v:Value} [Le h1 h],Cn h1 v x→Spec mach 102 #[v,.int .u64 (4294967296:Nat)] h (fun v _=>v=.bool true) NP:=fun c=>by
          rw[←hb']
          exact fY (n:=4294967296) c (Nat.le_trans bx (by decide)) (by decide)
        clear hA hb hb' h1
        rcases h3 with rfl |rfl |rfl
        all_goals
          refine Spec.go [] Tryz.func105 rfl rfl (by kernel_rfl) fun C _=>?_
          try simp(disch:=omega) only[go_sem,Nat.reduceBEq,reduceAdd]
          refine caN (by exact kK) ?_;rintro v1 h1 s1 ⟨_,_,_,_,_,_,_,rfl,c⟩
          try simp(disch:=omega) only[go_sem,Nat.reduceBEq,reduceAdd]
          refine caN (by exact dE c) ?_;rintro v2 h2 s2 rfl
          try rw[hd]
          try simp(disch:=omega) only[go_sem,Nat.reduceBEq,reduceAdd]
          refine caN (by exact dX (c.to (h':=h2))) ?_;rintro v3 h3 s3 rfl
          try simp(disch:=omega) only[go_sem,Nat.reduceBEq,reduceAdd]
          try rw[hl']
          try simp(disch:=omega) only[go_sem,Nat.reduceBEq,reduceAdd]
          refine caN (by exact kB (c.to (h':=h3))) ?_;rintro v4 h4 s4 rfl
          try simp(disch:=omega) only[go_sem,Nat.reduceBEq,reduceAdd]
          exact⟨_,_,_,_,_,_,_,rfl,fun e=>by cases e⟩
      · rw[E6 hA hd (by rintro(k |k |k);exact hl k;exact h1 k.1;exact hb k.2)]
        have hb':=decide_eq_false hb
        have kB:∀{h1 h:PH} {v:Value} [Le h1 h],Cn h1 v x→Spec mach 102 #[v,.int .u64 (4294967296:Nat)] h (fun v _=>v=.bool false) NP:=fun c=>by
          rw[←hb']
          exact fY (n:=4294967296) c (Nat.le_trans bx (by decide)) (by decide)
        clear hA hb hb' h1
        rcases h3 with rfl |rfl |rfl
        all_goals
          refine Spec.go [] Tryz.func105 rfl rfl (by kernel_rfl) fun C _=>?_
          try simp(disch:=omega) only[go_sem,Nat.reduceBEq,reduceAdd]
          refine caN (by exact kK) ?_;rintro v1 h1 s1 ⟨_,_,_,_,_,_,_,rfl,c⟩
          try simp(disch:=omega) only[go_sem,Nat.reduceBEq,reduceAdd]
          refine caN (by exact dE c) ?_;rintro v2 h2 s2 rfl
          try rw[hd]
          try simp(disch:=omega) only[go_sem,Nat.reduceBEq,reduceAdd]
          refine caN (by exact dX (c.to (h':=h2))) ?_;rintro v3 h3 s3 rfl
          try simp(disch:=omega) only[go_sem,Nat.reduceBEq,reduceAdd]
          try rw[hl']
          try simp(disch:=omega) only[go_sem,Nat.reduceBEq,reduceAdd]
          refine caN (by exact kB (c.to (h':=h3))) ?_;rintro v4 h4 s4 rfl
          try simp(disch:=omega) only[go_sem,Nat.reduceBEq,reduceAdd]
          exact⟨_,_,_,_,_,_,_,rfl,fun _=>c.to⟩
    · rw[E6 hA hd (by rintro(k |k |k);exact hl k;exact h1 k.1;exact h3 k.1)]
      have f1:(fn == 1)=false:=by simpa using h1
      have f3:(fn == 3)=false:=by simp;omega
      have f4:(fn == 4)=false:=by simp;omega
      have f5:(fn == 5)=false:=by simp;omega
      clear hA h1 h3
      refine Spec.go [] Tryz.func105 rfl rfl (by kernel_rfl) fun C _=>?_
      try simp(disch:=omega) only[go_sem,Nat.reduceBEq,reduceAdd]
      refine caN (by exact kK) ?_;rintro v1 h1 s1 ⟨_,_,_,_,_,_,_,rfl,c⟩
      try simp(disch:=omega) only[go_sem,Nat.reduceBEq,reduceAdd]
      refine caN (by exact dE (fn:=fn) c) ?_;rintro v2 h2 s2 rfl
      try simp(disch:=omega) only[go_sem,Nat.reduceBEq,reduceAdd]
      try rw[hd]
      try simp(disch:=omega) only[go_sem,Nat.reduceBEq,reduceAdd]
      refine caN (by exact dX (c.to (h':=h2))) ?_;rintro v3 h3 s3 rfl
      try simp(disch:=omega) only[go_sem,Nat.reduceBEq,reduceAdd]
      try rw[hl']
      try simp(disch:=omega) only[go_sem,Nat.reduceBEq,reduceAdd,f1,f3,f4,f5]
      exact⟨_,_,_,_,_,_,_,rfl,fun _=>c.to⟩
def Ber (h:PH) (r:Value) (e:Int) (x y:Rat):Prop:=∃b1 a1 m1 c1 a2 m2 c2 b2 a3 m3 c3 a4 m4 c4,r=.tuple #[.agg #[.bool b1,.slice a1 m1 c1,.slice a2 m2 c2,.bool b2,.slice a3 m3 c3,.slice a4 m4 c4],.int .i64 e]∧Cn h (.agg #[.bool b1,.slice a1 m1 c1,.slice a2 m2 c2]) x∧Cn h (.agg #[.bool b2,.slice a3 m3 c3,.slice a4 m4 c4]) y
theorem Ber.no (h:PH) (e:Int):Ber h (.tuple #[.agg #[.bool false,.slice none 0 0,.slice none 0 0,.bool false,.slice none 0 0,.slice none 0 0],.int .i64 e]) e 0 0:=⟨_,_,_,_,_,_,_,_,_,_,_,_,_,_,rfl,Cn.nul h,Cn.nul h⟩
theorem Eo {h0 h:PH} [Le h0 h] {v:Value} {x:Rat} {fn p:Int} {g:FuncId} (hx:Rv h0 v x) (he:eErr fn x p≠0):Spec mach 33 #[.int .i64 fn,v,.int .i64 p,.func (.func g) #[] #[]] h (fun r h'=>Ber h' r (eErr fn x p) 0 0) NP:=by
  have kR:=fun {h} [Le h0 h]=>pJ (h:=h) (fn:=fn) (p:=p) hx
  obtain⟨_,_,_,_,_,_,_,rfl,_⟩:=hx.sa
  have f0:(eErr fn x p != 0)=true:=by simpa using he
  generalize eErr fn x p=e at*
  refine Spec.go [] Tryz.func33 rfl rfl (by kernel_rfl) fun C _=>?_
  try simp(disch:=omega) only[go_sem,Nat.reduceBEq,reduceAdd]
  refine caN (by exact kR) ?_;rintro v1 h1 s1 ⟨_,_,_,_,_,_,_,rfl,c⟩
  try simp(disch:=omega) only[go_sem,Nat.reduceBEq,reduceAdd,f0]
  exact Ber.no _ _
theorem Af {h0 h:PH} [Le h0 h] {v:Value} {x:Rat} {fn p:Int} {g:FuncId} (hx:Rv h0 v x) (he:eErr fn x p=0) (hb:exB fn x=true):Spec mach 33 #[.int .i64 fn,v,.int .i64 p,.func (.func g) #[] #[]] h (fun r h'=>Ber h' r 0 (exV fn x) (exV fn x)) NP:=by
  have kR:=fun {h} [Le h0 h]=>pJ (h:=h) (fn:=fn) (p:=p) hx
  rw[he] at kR
  have kE:=fun {h1 h:PH} {a:Value} [Le h1 h] (c:Cn h1 a x)=>ni (h:=h) (fn:=fn) c
  rw[hb] at kE
  have sv:sz (exV fn x)≤2048:=by unfold exV;split<;>decide
  obtain⟨_,_,_,_,_,_,_,rfl,_⟩:=hx.sa
  refine Spec.go [] Tryz.func33 rfl rfl (by kernel_rfl) fun C _=>?_
  try simp(disch:=omega) only[go_sem,Nat.reduceBEq,reduceAdd]
  refine caN (by exact kR) ?_;rintro v1 h1 s1 ⟨_,_,_,_,_,_,_,rfl,c⟩
  try simp(disch:=omega) only[go_sem,Nat.reduceBEq,reduceAdd]
  refine caN (by exact kE (c rfl)) ?_;rintro v2 h2 s2 ⟨_,_,_,_,_,_,_,rfl,c2⟩
  try simp(disch:=omega) only[go_sem,Nat.reduceBEq,reduceAdd]
  refine caN (by exact iW (Rv.of c2 sv)) ?_;rintro v3 h3 s3 ⟨_,_,_,_,_,_,_,rfl,c3⟩
  try simp(disch:=omega) only[go_sem,Nat.reduceBEq,reduceAdd]
  exact⟨_,_,_,_,_,_,_,_,_,_,_,_,_,_,rfl,c2.to,c3⟩
theorem Er {h0 h:PH} [Le h0 h] {v:Value} {x y z:Rat} {fn p e:Int} {g:FuncId} (hx:Rv h0 v x) (he:eErr fn x p=0) (hb:exB fn x=false) (hg:∀{h0 h:PH} {a:Value} [Le h0 h],Cn h0 a x→Spec mach g #[a,.int .i64 p] h (fun r h'=>Ber h' r e y z) NP):
    Spec mach 33 #[.int .i64 fn,v,.int .i64 p,.func (.func g) #[] #[]] h (fun r h'=>Ber h' r e y z) NP:=by
  have kR:=fun {h} [Le h0 h]=>pJ (h:=h) (fn:=fn) (p:=p) hx
  rw[he] at kR
  have kE:=fun {h1 h:PH} {a:Value} [Le h1 h] (c:Cn h1 a x)=>ni (h:=h) (fn:=fn) c
  rw[hb] at kE
  obtain⟨_,_,_,_,_,_,_,rfl,_⟩:=hx.sa
  refine Spec.go [] Tryz.func33 rfl rfl (by kernel_rfl) fun C _=>?_
  try simp(disch:=omega) only[go_sem,Nat.reduceBEq,reduceAdd]
  refine caN (by exact kR) ?_;rintro v1 h1 s1 ⟨_,_,_,_,_,_,_,rfl,c⟩
  try simp(disch:=omega) only[go_sem,Nat.reduceBEq,reduceAdd]
  refine caN (by exact kE (c rfl)) ?_;rintro v2 h2 s2 ⟨_,_,_,_,_,_,_,rfl,_⟩
  try simp(disch:=omega) only[go_sem,Nat.reduceBEq,reduceAdd]
  refine caN (by exact hg ((c rfl).to (h':=h2))) ?_;rintro v3 h3 s3 ⟨_,_,_,_,_,_,_,_,_,_,_,_,_,_,rfl,q3⟩
  try simp(disch:=omega) only[go_sem,Nat.reduceBEq,reduceAdd]
  exact⟨_,_,_,_,_,_,_,_,_,_,_,_,_,_,rfl,q3⟩
theorem IA {h0 h:PH} [Le h0 h] {v:Value} {neg:Bool} {n d:Nat} {fn p:Int} (hv:Rw h0 v neg n d) (hl:lg neg n d):Spec mach 105 #[.int .i64 fn,v,.int .i64 p] h (fun r _=>r=.tuple #[.agg #[.bool false,.slice none 0 0,.slice none 0 0],.int .i64 1]) NP:=by
  have kK:=fun {h} [Le h0 h]=>qu (h:=h) (fn:=fn) hv hl
  obtain⟨_,_,_,_,_,_,_,rfl,_⟩:=hv.sa
  refine Spec.go [] Tryz.func105 rfl rfl (by kernel_rfl) fun C _=>?_
  try simp(disch:=omega) only[go_sem,Nat.reduceBEq,reduceAdd]
  refine caN (by exact kK) ?_;rintro v1 h1 s1 rfl
  try simp(disch:=omega) only[go_sem,Nat.reduceBEq,reduceAdd]
theorem iG {h0 h:PH} [Le h0 h] {v:Value} {neg:Bool} {n d:Nat} {fn p:Int} {g:FuncId} (hv:Rw h0 v neg n d) (hl:lg neg n d):Spec mach 33 #[.int .i64 fn,v,.int .i64 p,.func (.func g) #[] #[]] h (fun r h'=>Ber h' r 1 0 0) NP:=by
  have kR:=fun {h} [Le h0 h]=>IA (h:=h) (fn:=fn) (p:=p) hv hl
  obtain⟨_,_,_,_,_,_,_,rfl,_⟩:=hv.sa
  refine Spec.go [] Tryz.func33 rfl rfl (by kernel_rfl) fun C _=>?_
  try simp(disch:=omega) only[go_sem,Nat.reduceBEq,reduceAdd]
  refine caN (by exact kR) ?_;rintro v1 h1 s1 rfl
  try simp(disch:=omega) only[go_sem,Nat.reduceBEq,reduceAdd]
  exact Ber.no _ _
set_option maxHeartbeats 16000000
theorem wv_pos {y w:Nat} (hy:y≤2^w) (hw:1≤w):0 < wvL y w 1∧0 < wvH y w 1:=by
  obtain⟨h1,h2⟩:=m9 (w:=w) (f:=1) (s:=sqL y w) (t:=sqH y w) (by decide) 23
  have hs:=mj hy
  have ht:=jV hy
  have e:wav 1 (23 - 23)=2:=rfl
  have u0:=Nat.pos_of_ne_zero (am w)
  have u2:2≤2^w:=by
    have:2^1≤2^w:=Nat.pow_le_pow_right (by decide) hw
    omega
  have m1:sqH y w*waV w 1 (sqL y w) (sqH y w) true 23≤2^w*2^w:=Nat.mul_le_mul ht h1
  have m2:sqL y w*waV w 1 (sqL y w) (sqH y w) false 23≤2^w*2^w:=Nat.mul_le_mul hs h2
  have m3:2*2^w≤2^w*2^w:=Nat.mul_le_mul_right _ u2
  unfold wvL wvH
  rw[show waV w 1 (sqL y w) (sqH y w) false 24=_ from waV_s w 1 _ _ 23,show waV w 1 (sqL y w) (sqH y w) true 24=_ from qp w 1 _ _ 23,e]
  generalize sqH y w*waV w 1 (sqL y w) (sqH y w) true 23=a at*
  generalize sqL y w*waV w 1 (sqL y w) (sqH y w) false 23=b at*
  generalize 2^w*2^w=c at*
  have n0:2*2^w≠0:=by omega
  constructor
  · exact Nat.div_pos (by omega) (by omega)
  · by_cases hz:cdiv (c*2 - b) (2*2^w)=0
    · have:=(az (a:=c*2 - b) (c:=0) n0).1 (by omega)
      omega
    · omega
theorem H6 {y w:Nat} (hy:y≤2^w) (hw:1≤w):0 < wvH y w 2:=by
  obtain⟨h1,h2⟩:=m9 (w:=w) (f:=2) (s:=sqL y w) (t:=sqH y w) (by decide) 23
  have hs:=mj hy
  have e:wav 2 (23 - 23)=6:=rfl
  have u0:=Nat.pos_of_ne_zero (am w)
  have m2:sqL y w*waV w 2 (sqL y w) (sqH y w) false 23≤2^w*2^w:=Nat.mul_le_mul hs h2
  have m3:0 < 2^w*2^w:=Nat.mul_pos u0 u0
  unfold wvH
  rw[show waV w 2 (sqL y w) (sqH y w) true 24=_ from qp w 2 _ _ 23,e]
  generalize sqL y w*waV w 2 (sqL y w) (sqH y w) false 23=b at*
  generalize 2^w*2^w=c at*
  have n0:6*2^w≠0:=by omega
  by_cases hz:cdiv (c*6 - b) (6*2^w)=0
  · have:=(az (a:=c*6 - b) (c:=0) n0).1 (by omega)
    omega
  · omega
theorem rh {n d:Nat} (hd:d≠0):0 < sgn false n d↔0 < n:=by
  have hd':(0:Rat) < (d:Rat):=by exact_mod_cast Nat.pos_of_ne_zero hd
  have e:sgn false n d*(d:Rat)=(n:Rat):=by
    unfold sgn
    rw[Rat.mkRat_eq_div]
    show((n:Int):Rat) / (d:Rat)*(d:Rat)=_
    rw[Rat.div_mul_cancel (by grind)]
    rfl
  constructor
  · intro h
    have:=Rat.mul_pos h hd'
    rw[e] at this
    exact_mod_cast this
  · intro h
    have hn:(0:Rat) < (n:Rat):=by exact_mod_cast h
    rw[←e] at hn
    generalize sgn false n d=q at*
    generalize(d:Rat)=u at*
    refine Decidable.byContradiction fun c=>?_
    have:=mlr (show q≤0 by grind) (llt hd')
    grind
theorem yC (neg:Bool) (n d:Nat):sgn neg n d=if neg=true then -sgn false n d else sgn false n d:=by
  cases neg
  · rfl
  · unfold sgn
    simp only[if_true,Bool.false_eq_true,if_false]
    rw[Rat.neg_mkRat]
theorem iC (z:Int) (w:Nat):glo ((z:Rat) / 2^w) w=z.natAbs:=by
  have hu:(0:Rat) < ((2^w:Nat):Rat):=u_pos w
  have e2:((2^w:Nat):Rat)=2^w:=by push_cast;rfl
  have e:=q_den ((z:Rat) / 2^w)
  have hd:=((z:Rat) / 2^w).den_nz
  generalize hq:(z:Rat) / 2^w=q at*
  have hz:(z:Rat)=q*((2^w:Nat):Rat):=by
    rw[←hq,e2,Rat.div_mul_cancel (by rw[←e2];grind)]
  have key:(q.num:Int)*((2^w:Nat):Int)=z*(q.den:Int):=by
    have:((q.num*((2^w:Nat):Int):Int):Rat)=((z*(q.den:Int):Int):Rat):=by
      rw[Rat.intCast_mul,Rat.intCast_mul,hz,←e]
      show q*(q.den:Rat)*((2^w:Nat):Rat)=q*((2^w:Nat):Rat)*(q.den:Rat)
      grind
    exact Rat.intCast_inj.1 this
  have key2:=congrArg Int.natAbs key
  rw[Int.natAbs_mul,Int.natAbs_mul] at key2
  simp only[Int.natAbs_natCast] at key2
  unfold glo
  rw[key2]
  exact Nat.mul_div_cancel _ (Nat.pos_of_ne_zero hd)
theorem sn_sign {x:Rat} {w:Nat} (hw:64≤w) (hw':w≤192) (hb:¬x.den*4294967296 < x.num.natAbs):(0 < snl x w→0 < snh x w)∧(snh x w < 0→snl x w < 0):=by
  obtain⟨l1,l2⟩:=uP hw hw' hb
  obtain⟨_,hAB,_⟩:=rs_bd hw hw' (iP hb)
  have gA:∃z:Int,rsA x w=(z:Rat) / 2^w:=⟨_,rfl⟩
  have gB:∃z:Int,rsB x w=(z:Rat) / 2^w:=⟨_,rfl⟩
  have pA:=H6 l1 (by omega)
  have pB:=H6 l2 (by omega)
  have nz:=am w
  have cpos:∀{y v:Nat},0 < y→0 < v→0 < cdiv (y*v) (2^w):=fun {y v} hy hv=>by
    by_cases hz:cdiv (y*v) (2^w)=0
    · have h1:=(az (c:=0) (a:=y*v) nz).1 (by omega)
      have h2:=Nat.mul_pos hy hv
      omega
    · omega
  have gpos:∀{q:Rat},(∃z:Int,q=(z:Rat) / 2^w)→q≠0→0 < glo q w:=by
    rintro q ⟨z,rfl⟩ h
    rw[iC]
    have:z≠0:=by
      rintro rfl
      exact h (by rw[Rat.div_def,Rat.intCast_zero,Rat.zero_mul])
    omega
  constructor
  · intro h
    unfold snl snAt at h
    have sA:¬(rsA x w).num < 0:=by
      intro hs
      rw[decide_eq_true hs,if_neg (by decide),yC,if_pos rfl] at h
      have:0≤sgn false (cdiv (glo (rsA x w) w*wvH (glo (rsA x w) w) w 2) (2^w)) (2^w):=by
        rcases Nat.eq_zero_or_pos (cdiv (glo (rsA x w) w*wvH (glo (rsA x w) w) w 2) (2^w)) with e |e
        · rw[e,ov];exact Rat.le_refl
        · exact llt ((rh nz).2 e)
      grind
    have nA:rsA x w≠0:=by
      intro e
      rw[e] at h
      have:glo 0 w=0:=by unfold glo;simp
      rw[this,if_pos (by decide),Nat.zero_mul,Nat.zero_div,ov] at h
      exact absurd h (by decide)
    rw[num_neg] at sA
    have pB0:0 < rsB x w:=by grind
    have nB:rsB x w≠0:=by grind
    have sB:¬(rsB x w).num < 0:=by rw[num_neg];grind
    unfold snh snAt
    rw[decide_eq_false sB,if_neg (by decide)]
    exact(rh nz).2 (cpos (gpos gB nB) pB)
  · intro h
    unfold snh snAt at h
    have sB:(rsB x w).num < 0:=by
      refine Decidable.byContradiction fun hs=>?_
      rw[decide_eq_false hs,if_neg (by decide)] at h
      have:0≤sgn false (cdiv (glo (rsB x w) w*wvH (glo (rsB x w) w) w 2) (2^w)) (2^w):=by
        rcases Nat.eq_zero_or_pos (cdiv (glo (rsB x w) w*wvH (glo (rsB x w) w) w 2) (2^w)) with e |e
        · rw[e,ov];exact Rat.le_refl
        · exact llt ((rh nz).2 e)
      grind
    rw[num_neg] at sB
    have nA:rsA x w≠0:=by grind
    have sA:(rsA x w).num < 0:=by rw[num_neg];grind
    unfold snl snAt
    rw[decide_eq_true sA,if_neg (by decide),yC,if_pos rfl]
    have:=(rh nz).2 (cpos (gpos gA nA) pA)
    grind
theorem co_ne {x:Rat} {w:Nat} (hw:64≤w) (hw':w≤192) (hb:¬x.den*4294967296 < x.num.natAbs) (hn:¬(coL x w≤0∧0≤coH x w)):coL x w≠0∧coH x w≠0:=by
  obtain⟨s1,s2⟩:=sn_sign hw hw' hb
  obtain⟨l1,l2⟩:=uP hw hw' hb
  have lX:csX (rsA x w) (rsB x w) w≤2^w:=by unfold csX;omega
  have lN:csN (rsA x w) (rsB x w) w≤2^w:=by unfold csN;split<;>omega
  have c1:0 < csl x w:=(rh (am w)).2 (wv_pos lX (by omega)).1
  have c2:0 < csh x w:=(rh (am w)).2 (wv_pos lN (by omega)).2
  unfold coL coH at*
  generalize snl x w=a at*
  generalize snh x w=b at*
  generalize csl x w=c at*
  generalize csh x w=d at*
  generalize rsK x w % 4=k at*
  by_cases h1:k=1
  · simp only[if_pos h1] at*
    grind
  · simp only[if_neg h1] at*
    by_cases h2:k=2
    · simp only[if_pos h2] at*
      grind
    · simp only[if_neg h2] at*
      by_cases h3:k=3
      · simp only[if_pos h3] at*
        grind
      · simp only[if_neg h3] at*
        grind
def tq (x:Rat) (w:Nat):Nat→Rat
  |0=>siL x w*(coL x w)⁻¹
  |1=>siL x w*(coH x w)⁻¹
  |2=>siH x w*(coL x w)⁻¹
  |_=>siH x w*(coH x w)⁻¹
def tqL (x:Rat) (w:Nat):Nat→Rat
  |0=>tq x w 0
  |n+1=>if tq x w (n+1) < tqL x w n then tq x w (n+1) else tqL x w n
def tqH (x:Rat) (w:Nat):Nat→Rat
  |0=>tq x w 0
  |n+1=>if tqH x w n < tq x w (n+1) then tq x w (n+1) else tqH x w n
theorem tq_sz {x:Rat} {w:Nat} (hb:¬x.den*4294967296 < x.num.natAbs) (hw:64≤w) (hw':w≤192):∀n,sz (tq x w n)≤2*w+4:=by
  obtain⟨z1,z2,z3,z4⟩:=sc_sz hb hw hw'
  have i1:=iQ (coL x w)
  have i2:=iQ (coH x w)
  have m1:=bV (siL x w) (coL x w)⁻¹
  have m2:=bV (siL x w) (coH x w)⁻¹
  have m3:=bV (siH x w) (coL x w)⁻¹
  have m4:=bV (siH x w) (coH x w)⁻¹
  intro n
  unfold tq
  split<;>omega
theorem BV {x:Rat} {w:Nat} (hb:¬x.den*4294967296 < x.num.natAbs) (hw:64≤w) (hw':w≤192):∀n,sz (tqL x w n)≤2*w+4∧sz (tqH x w n)≤2*w+4
  |0=>⟨tq_sz hb hw hw' 0,tq_sz hb hw hw' 0⟩
  | n+1=>by
    obtain⟨h1,h2⟩:=BV hb hw hw' n
    have h3:=tq_sz hb hw hw' (n+1)
    unfold tqL tqH
    constructor<;>split<;>assumption
theorem cmpQ_lt0 (x y:Rat):decide (cmpQ x y < 0)=decide (x < y):=by unfold cmpQ;grind
theorem cmpQ_gt0 (x y:Rat):decide (cmpQ x y > 0)=decide (y < x):=by unfold cmpQ;grind
theorem pA:Int.toNat 1=1∧(∀n:Nat,0*n=0)∧(∀n:Nat,1*n=n)∧(∀n:Nat,0+n=n)∧(∀(a b:Value) (l:List Value),(a :: l).set 0 b=b :: l)∧(∀(a b:Value) (l:List Value) (i:Nat),(a :: l).set (i+1) b=a :: l.set i b):=
  ⟨rfl,Nat.zero_mul,Nat.one_mul,Nat.zero_add,fun _ _ _=>rfl,fun _ _ _ _=>rfl⟩
theorem ym {x y:Rat} {m:Nat} (e:m=0↔x=0):(x≤0∧0≤y)↔((decide (x.num < 0)=true∨decide ((m:Int) > 0)=false)∧decide (y.num < 0)=false):=by
  have h1:=num_neg (x:=x)
  have h2:=num_neg (x:=y)
  simp only[decide_eq_true_eq,decide_eq_false_iff_not,num_neg]
  constructor
  · rintro⟨a,b⟩
    refine⟨?_,by grind⟩
    by_cases c:x < 0
    · exact .inl c
    · have:x=0:=by grind
      exact .inr (by have:=e.2 this;omega)
  · rintro⟨a |a,b⟩
    · exact⟨by grind,by grind⟩
    · have:x=0:=e.1 (by omega)
      exact⟨by grind,by grind⟩
theorem ETan_no {h0 h:PH} [Le h0 h] {v:Value} {x:Rat} {p:Nat} (hx:Cn h0 v x) (bx:sz x≤1024) (hb:¬x.den*4294967296 < x.num.natAbs) (hp:p≤128) (hq:coL x (p+64)≤0∧0≤coH x (p+64)):Spec mach 28 #[v,.int .i64 p] h (fun r h'=>Ber h' r 20 0 0) NP:=by
  have kB:=fun {h} [Le h0 h]=>oN (h:=h) (w:=p+64) hx bx hb (by omega) (by omega)
  obtain⟨_,_,_,_,_,_,_,rfl,_⟩:=hx.sa
  clear hb bx hx
  refine Spec.go [(6,.h [] [(9,11)] [2,3] [2,3,0,1,4,5])] Tryz.func28 rfl rfl (by kernel_rfl) fun C _=>?_
  try simp(maxSteps:=999999) (disch:=omega) only[go_sem,Nat.reduceBEq,reduceAdd,pA]
  refine caN (by exact kB) ?_;rintro v1 h1 s1 ⟨u,t,rfl,q1,q2⟩;obtain⟨_,_,_,_,_,_,_,_,_,_,_,_,_,_,rfl,q1⟩:=q1.sp;obtain⟨d1,e1,n1,c1,e2,n2,c2,d2,e3,n3,c3,e4,n4,c4,rfl,k1,k2⟩:=q2
  try simp(maxSteps:=999999) (disch:=omega) only[go_sem,Nat.reduceBEq,reduceAdd,pA]
  obtain⟨_,_,_,_,_,_,e,_,_,ea,_⟩:=k1.parts
  cases e
  obtain⟨_,_,_,_,_,_,e,_,_,_,_⟩:=k2.parts
  cases e
  obtain⟨hs,hy⟩:=(ym ea).1 hq
  clear hq
  cases ha:decide ((coL x (p+64)).num < 0) with
  | true=>
    try simp(maxSteps:=999999) (disch:=omega) only[go_sem,Nat.reduceBEq,reduceAdd,ha,hy,pA]
    exact Ber.no _ _
  | false=>
    have hs:=hs.resolve_left (by rw[ha];decide)
    try simp(maxSteps:=999999) (disch:=omega) only[go_sem,Nat.reduceBEq,reduceAdd,ha,hy,hs,pA]
    exact Ber.no _ _
theorem ETan_ok {h0 h:PH} [Le h0 h] {v:Value} {x:Rat} {p:Nat} (hx:Cn h0 v x) (bx:sz x≤1024) (hb:¬x.den*4294967296 < x.num.natAbs) (hp:p≤128) (hq:¬(coL x (p+64)≤0∧0≤coH x (p+64))):Spec mach 28 #[v,.int .i64 p] h (fun r h'=>Ber h' r 0 (gdown (tqL x (p+64) 3) p) (gup (tqH x (p+64) 3) p)) NP:=by
  have kB:=fun {h} [Le h0 h]=>oN (h:=h) (w:=p+64) hx bx hb (by omega) (by omega)
  obtain⟨z1,z2,z3,z4⟩:=sc_sz (w:=p+64) hb (by omega) (by omega)
  obtain⟨n1',n2'⟩:=co_ne (w:=p+64) (by omega) (by omega) hb hq
  have zq:=tq_sz (x:=x) (w:=p+64) hb (by omega) (by omega)
  have zL:=fun n=>(BV (x:=x) (w:=p+64) hb (by omega) (by omega) n).1
  have zH:=fun n=>(BV (x:=x) (w:=p+64) hb (by omega) (by omega) n).2
  have y1:=sz_gd (tqL x (p+64) 3) p
  have y2:=sz_gu (tqH x (p+64) 3) p
  have zq:∀n,sz (tq x (p+64) n)≤2048:=fun n=>by have:=zq n;omega
  have y3:=zL 3
  have y4:=zH 3
  have zL:∀n,sz (tqL x (p+64) n)≤2048:=fun n=>by have:=zL n;omega
  have zH:∀n,sz (tqH x (p+64) n)≤2048:=fun n=>by have:=zH n;omega
  have z1:sz (siL x (p+64))≤2048:=by omega
  have z2:sz (siH x (p+64))≤2048:=by omega
  have z3:sz (coL x (p+64))≤2048:=by omega
  have z4:sz (coH x (p+64))≤2048:=by omega
  have y5:sz (gdown (tqL x (p+64) 3) p)≤2048:=by omega
  have y6:sz (gup (tqH x (p+64) 3) p)≤2048:=by omega
  have L1:∀n,tq x (p+64) (n+1) < tqL x (p+64) n→tqL x (p+64) (n+1)=tq x (p+64) (n+1):=fun n h=>if_pos h
  have L2:∀n,¬tq x (p+64) (n+1) < tqL x (p+64) n→tqL x (p+64) (n+1)=tqL x (p+64) n:=fun n h=>if_neg h
  have H1:∀n,tqH x (p+64) n < tq x (p+64) (n+1)→tqH x (p+64) (n+1)=tq x (p+64) (n+1):=fun n h=>if_pos h
  have H2:∀n,¬tqH x (p+64) n < tq x (p+64) (n+1)→tqH x (p+64) (n+1)=tqH x (p+64) n:=fun n h=>if_neg h
  have e0:siL x (p+64)*(coL x (p+64))⁻¹=tq x (p+64) 0:=rfl
  have e1:siL x (p+64)*(coH x (p+64))⁻¹=tq x (p+64) 1:=rfl
  have e2:siH x (p+64)*(coL x (p+64))⁻¹=tq x (p+64) 2:=rfl
  have e3:siH x (p+64)*(coH x (p+64))⁻¹=tq x (p+64) 3:=rfl
  have b0:tqL x (p+64) 0=tq x (p+64) 0:=rfl
  have b1:tqH x (p+64) 0=tq x (p+64) 0:=rfl
  generalize tqL x (p+64)=TL at*
  generalize tqH x (p+64)=TH at*
  generalize tq x (p+64)=T at*
  obtain⟨_,_,_,_,_,_,_,rfl,_⟩:=hx.sa
  clear hb bx hx y1 y2 y3 y4
  refine Spec.go [(6,.h [] [(9,11)] [2,3] [2,3,0,1,4,5])] Tryz.func28 rfl rfl (by kernel_rfl) fun C _=>?_
  try simp(maxSteps:=999999) (disch:=omega) only[go_sem,Nat.reduceBEq,reduceAdd,pA]
  refine caN (by exact kB) ?_;rintro v1 h1 s1 ⟨u,t,rfl,q1,q2⟩;obtain⟨a1,a2,a3,a4,a5,a6,a7,a8,a9,a10,a11,a12,a13,a14,rfl,k1,k2⟩:=q1;obtain⟨d1,f1,n1,c1,f2,n2,c2,d2,f3,n3,c3,f4,n4,c4,rfl,k3,k4⟩:=q2
  try simp(maxSteps:=999999) (disch:=omega) only[go_sem,Nat.reduceBEq,reduceAdd,pA]
  obtain⟨_,_,_,_,_,_,e,_,_,ea,_⟩:=k3.parts
  cases e
  obtain⟨_,_,_,_,_,_,e,_,_,_,_⟩:=k4.parts
  cases e
  have hn:=fun c=>hq ((ym ea).2 c)
  clear hq
  generalize siL x (p+64)=sL at*
  generalize siH x (p+64)=sH at*
  generalize coL x (p+64)=cL at*
  generalize coH x (p+64)=cH at*
  have kD:=fun {h} [Le h1 h]=>o6 (h:=h) (Rv.of k1 z1) (Rv.of k3 z3) n1'
  have kD1:=fun {h} [Le h1 h]=>o6 (h:=h) (Rv.of k1 z1) (Rv.of k4 z4) n2'
  have kD2:=fun {h} [Le h1 h]=>o6 (h:=h) (Rv.of k2 z2) (Rv.of k3 z3) n1'
  have kD3:=fun {h} [Le h1 h]=>o6 (h:=h) (Rv.of k2 z2) (Rv.of k4 z4) n2'
  rw[e0] at kD
  rw[e1] at kD1
  rw[e2] at kD2
  rw[e3] at kD3
  clear e0 e1 e2 e3 z1 z2 z3 z4 n1' n2' kB k1 k2 k3 k4
  have br:(decide (cL.num < 0)=true∧(0:Nat)=0∧decide (cH.num < 0)=true)∨(decide (cL.num < 0)=false∧decide ((n1:Int) > 0)=true)∨(decide (cL.num < 0)=false∧decide ((n1:Int) > 0)=false∧decide (cH.num < 0)=true):=by
    cases h1:decide (cL.num < 0)<;>cases h2:decide ((n1:Int) > 0)<;>cases h3:decide (cH.num < 0)<;>first |exact .inl ⟨rfl,rfl,rfl⟩ |exact .inr (.inl ⟨rfl,rfl⟩) |exact .inr (.inr ⟨rfl,rfl,rfl⟩) |exact(hn ⟨.inl h1,h3⟩).elim |exact(hn ⟨.inr h2,h3⟩).elim
  clear hn
  generalize decide (cL.num < 0)=sc at*
  generalize decide (cH.num < 0)=sd at*
  obtain⟨sc',hsc⟩:∃b,b=sc:=⟨_,rfl⟩
  obtain⟨sd',hsd⟩:∃b,b=sd:=⟨_,rfl⟩
  have d1:∀i,(decide (cmpQ (T (i+1)) (TL i) < 0)=true∧TL (i+1)=T (i+1))∨(decide (cmpQ (T (i+1)) (TL i) < 0)=false∧TL (i+1)=TL i):=fun i=>by rw[cmpQ_lt0];by_cases w:T (i+1) < TL i;exact .inl ⟨decide_eq_true w,L1 i w⟩;exact .inr ⟨decide_eq_false w,L2 i w⟩
  have d2:∀i,(decide (cmpQ (T (i+1)) (TH i) > 0)=true∧TH (i+1)=T (i+1))∨(decide (cmpQ (T (i+1)) (TH i) > 0)=false∧TH (i+1)=TH i):=fun i=>by rw[cmpQ_gt0];by_cases w:TH i < T (i+1);exact .inl ⟨decide_eq_true w,H1 i w⟩;exact .inr ⟨decide_eq_false w,H2 i w⟩
  clear L1 L2 H1 H2
  rcases br with⟨rfl,hm,rfl⟩ |⟨rfl,hm⟩ |⟨rfl,hm,rfl⟩
  all_goals
    try simp(maxSteps:=999999) (disch:=omega) only[go_sem,Nat.reduceBEq,reduceAdd,hm,pA]
    refine caN (by exact kD) ?_;rintro v2 h2 s2 p2;obtain⟨x1,x2,x3,x4,x5,x6,x7,rfl,q2⟩:=p2.ok (zq 0)
    try simp(maxSteps:=999999) (disch:=omega) only[go_sem,Nat.reduceBEq,reduceAdd,pA]
    refine lp [(6,.h [] [(9,11)] [2,3] [2,3,0,1,4,5])] (fun x':(Value×Value×Value)×(Value×Value×Value)×Nat=>⟨[(1,.v (.int .i64 p)),(4,.p 1 0),(11,.p 5 0),(12,.p 6 0),(73,.s 7 0 3 3),(74,.v (.int .i64 3)),(75,.v (.int .i64 x'.2.2))],[[],[.bool false,.slice none 0 0,.slice none 0 0,.bool false,.slice none 0 0,.slice none 0 0],[],[],[],[x'.1.1,x'.1.2.1,x'.1.2.2],[x'.2.1.1,x'.2.1.2.1,x'.2.1.2.2],[.bool a1,.slice a2 a3 a4,.slice a5 a6 a7,.bool sd',.slice f3 n3 c3,.slice f4 n4 c4,.bool a8,.slice a9 a10 a11,.slice a12 a13 a14,.bool sc',.slice f1 n1 c1,.slice f2 n2 c2,.bool a8,.slice a9 a10 a11,.slice a12 a13 a14,.bool sd',.slice f3 n3 c3,.slice f4 n4 c4]]⟩) (fun x' h'=>Le h2 h'∧x'.2.2≤3∧Cn h' (.agg #[x'.1.1,x'.1.2.1,x'.1.2.2]) (TL x'.2.2)∧Cn h' (.agg #[x'.2.1.1,x'.2.1.2.1,x'.2.1.2.2]) (TH x'.2.2)) (fun x'=>3 - x'.2.2) ((.bool x1,.slice x2 x3 x4,.slice x5 x6 x7),(.bool x1,.slice x2 x3 x4,.slice x5 x6 x7),0) ?_ ⟨inferInstance,Nat.zero_le 3,by rw[b0];exact q2,by rw[b1];exact q2⟩ (by kernel_rfl) ?_
    · try simp(maxSteps:=999999) (disch:=omega) only[go_sem,Nat.reduceBEq,reduceAdd,true_or,true_and,hsc,hsd,pA]
      all_goals first |exact rfl |exact⟨rfl,.inr rfl⟩
    rintro⟨⟨l1,l2,l3⟩,⟨g1,g2,g3⟩,i⟩ h5 ⟨le5,hi,hl,hg⟩
    subst hsc
    subst hsd
    dsimp only at hi hl hg ⊢
    obtain⟨l4,l5,l6,l7,l8,l9,l10,e,hl⟩:=hl.sa
    cases e
    obtain⟨g4,g5,g6,g7,g8,g9,g10,e,hg⟩:=hg.sa
    cases e
    have le1:Le h1 h5:=Le.trn inferInstance le5
    rcases(show i=0∨i=1∨i=2∨i=3 by omega) with rfl |rfl |rfl |rfl
    · try simp(maxSteps:=999999) (disch:=omega) only[go_sem,Nat.reduceBEq,reduceAdd,pA]
      refine caN (by exact kD1) ?_;rintro v6 h6 s6 p6;obtain⟨y1,y2,y3,y4,y5,y6,y7,rfl,c6⟩:=p6.ok (zq 1)
      try simp(maxSteps:=999999) (disch:=omega) only[go_sem,Nat.reduceBEq,reduceAdd,pA]
      refine caN (by exact gY (Rv.of c6 (zq 1)) (Rv.of (hl.to (h':=h6)) (zL 0))) ?_;rintro v7 h7 s7 rfl
      try simp(maxSteps:=999999) (disch:=omega) only[go_sem,Nat.reduceBEq,reduceAdd,pA]
      rcases d1 0 with⟨w1,u1⟩ |⟨w1,u1⟩<;>rcases d2 0 with⟨w2,u2⟩ |⟨w2,u2⟩
      all_goals
        try simp(maxSteps:=999999) (disch:=omega) only[go_sem,Nat.reduceBEq,reduceAdd,w1,pA]
        refine caN (by exact gY (Rv.of (c6.to (h':=h7)) (zq 1)) (Rv.of (hg.to (h':=h7)) (zH 0))) ?_;rintro v8 h8 s8 rfl
        try simp(maxSteps:=999999) (disch:=omega) only[go_sem,Nat.reduceBEq,reduceAdd,w2,pA]
      · dsimp only[lpE];refine⟨((.bool y1,.slice y2 y3 y4,.slice y5 y6 y7),(.bool y1,.slice y2 y3 y4,.slice y5 y6 y7),1),?_,⟨Le.trn le5 inferInstance,show 1≤3 by decide,by rw[show TL 1=_ from u1];exact c6.to,by rw[show TH 1=_ from u2];exact c6.to⟩,show 3 - 1 < 3 - 0 by decide⟩
        try simp(maxSteps:=999999) (disch:=omega) only[go_sem,Nat.reduceBEq,reduceAdd,true_or,true_and,pA]
        all_goals first |exact rfl |exact⟨rfl,.inr rfl⟩
      · refine⟨((.bool y1,.slice y2 y3 y4,.slice y5 y6 y7),(.bool g4,.slice g5 g6 g7,.slice g8 g9 g10),1),?_,⟨Le.trn le5 inferInstance,show 1≤3 by decide,by rw[show TL 1=_ from u1];exact c6.to,by rw[show TH 1=_ from u2];exact hg.to⟩,show 3 - 1 < 3 - 0 by decide⟩
        try simp(maxSteps:=999999) (disch:=omega) only[go_sem,Nat.reduceBEq,reduceAdd,true_or,true_and,pA]
        all_goals first |exact rfl |exact⟨rfl,.inr rfl⟩
      · refine⟨((.bool l4,.slice l5 l6 l7,.slice l8 l9 l10),(.bool y1,.slice y2 y3 y4,.slice y5 y6 y7),1),?_,⟨Le.trn le5 inferInstance,show 1≤3 by decide,by rw[show TL 1=_ from u1];exact hl.to,by rw[show TH 1=_ from u2];exact c6.to⟩,show 3 - 1 < 3 - 0 by decide⟩
        try simp(maxSteps:=999999) (disch:=omega) only[go_sem,Nat.reduceBEq,reduceAdd,true_or,true_and,pA]
        all_goals first |exact rfl |exact⟨rfl,.inr rfl⟩
      · refine⟨((.bool l4,.slice l5 l6 l7,.slice l8 l9 l10),(.bool g4,.slice g5 g6 g7,.slice g8 g9 g10),1),?_,⟨Le.trn le5 inferInstance,show 1≤3 by decide,by rw[show TL 1=_ from u1];exact hl.to,by rw[show TH 1=_ from u2];exact hg.to⟩,show 3 - 1 < 3 - 0 by decide⟩
        try simp(maxSteps:=999999) (disch:=omega) only[go_sem,Nat.reduceBEq,reduceAdd,true_or,true_and,pA]
        all_goals first |exact rfl |exact⟨rfl,.inr rfl⟩
    · try simp(maxSteps:=999999) (disch:=omega) only[go_sem,Nat.reduceBEq,reduceAdd,pA]
      refine caN (by exact kD2) ?_;rintro v6 h6 s6 p6;obtain⟨y1,y2,y3,y4,y5,y6,y7,rfl,c6⟩:=p6.ok (zq 2)
      try simp(maxSteps:=999999) (disch:=omega) only[go_sem,Nat.reduceBEq,reduceAdd,pA]
      refine caN (by exact gY (Rv.of c6 (zq 2)) (Rv.of (hl.to (h':=h6)) (zL 1))) ?_;rintro v7 h7 s7 rfl
      try simp(maxSteps:=999999) (disch:=omega) only[go_sem,Nat.reduceBEq,reduceAdd,pA]
      rcases d1 1 with⟨w1,u1⟩ |⟨w1,u1⟩<;>rcases d2 1 with⟨w2,u2⟩ |⟨w2,u2⟩
      all_goals
        try simp(maxSteps:=999999) (disch:=omega) only[go_sem,Nat.reduceBEq,reduceAdd,w1,pA]
        refine caN (by exact gY (Rv.of (c6.to (h':=h7)) (zq 2)) (Rv.of (hg.to (h':=h7)) (zH 1))) ?_;rintro v8 h8 s8 rfl
        try simp(maxSteps:=999999) (disch:=omega) only[go_sem,Nat.reduceBEq,reduceAdd,w2,pA]
      · dsimp only[lpE];refine⟨((.bool y1,.slice y2 y3 y4,.slice y5 y6 y7),(.bool y1,.slice y2 y3 y4,.slice y5 y6 y7),2),?_,⟨Le.trn le5 inferInstance,show 2≤3 by decide,by rw[show TL 2=_ from u1];exact c6.to,by rw[show TH 2=_ from u2];exact c6.to⟩,show 3 - 2 < 3 - 1 by decide⟩
        try simp(maxSteps:=999999) (disch:=omega) only[go_sem,Nat.reduceBEq,reduceAdd,true_or,true_and,pA]
        all_goals first |exact rfl |exact⟨rfl,.inr rfl⟩
      · refine⟨((.bool y1,.slice y2 y3 y4,.slice y5 y6 y7),(.bool g4,.slice g5 g6 g7,.slice g8 g9 g10),2),?_,⟨Le.trn le5 inferInstance,show 2≤3 by decide,by rw[show TL 2=_ from u1];exact c6.to,by rw[show TH 2=_ from u2];exact hg.to⟩,show 3 - 2 < 3 - 1 by decide⟩
        try simp(maxSteps:=999999) (disch:=omega) only[go_sem,Nat.reduceBEq,reduceAdd,true_or,true_and,pA]
        all_goals first |exact rfl |exact⟨rfl,.inr rfl⟩
      · refine⟨((.bool l4,.slice l5 l6 l7,.slice l8 l9 l10),(.bool y1,.slice y2 y3 y4,.slice y5 y6 y7),2),?_,⟨Le.trn le5 inferInstance,show 2≤3 by decide,by rw[show TL 2=_ from u1];exact hl.to,by rw[show TH 2=_ from u2];exact c6.to⟩,show 3 - 2 < 3 - 1 by decide⟩
        try simp(maxSteps:=999999) (disch:=omega) only[go_sem,Nat.reduceBEq,reduceAdd,true_or,true_and,pA]
        all_goals first |exact rfl |exact⟨rfl,.inr rfl⟩
      · refine⟨((.bool l4,.slice l5 l6 l7,.slice l8 l9 l10),(.bool g4,.slice g5 g6 g7,.slice g8 g9 g10),2),?_,⟨Le.trn le5 inferInstance,show 2≤3 by decide,by rw[show TL 2=_ from u1];exact hl.to,by rw[show TH 2=_ from u2];exact hg.to⟩,show 3 - 2 < 3 - 1 by decide⟩
        try simp(maxSteps:=999999) (disch:=omega) only[go_sem,Nat.reduceBEq,reduceAdd,true_or,true_and,pA]
        all_goals first |exact rfl |exact⟨rfl,.inr rfl⟩
    · try simp(maxSteps:=999999) (disch:=omega) only[go_sem,Nat.reduceBEq,reduceAdd,pA]
      refine caN (by exact kD3) ?_;rintro v6 h6 s6 p6;obtain⟨y1,y2,y3,y4,y5,y6,y7,rfl,c6⟩:=p6.ok (zq 3)
      try simp(maxSteps:=999999) (disch:=omega) only[go_sem,Nat.reduceBEq,reduceAdd,pA]
      refine caN (by exact gY (Rv.of c6 (zq 3)) (Rv.of (hl.to (h':=h6)) (zL 2))) ?_;rintro v7 h7 s7 rfl
      try simp(maxSteps:=999999) (disch:=omega) only[go_sem,Nat.reduceBEq,reduceAdd,pA]
      rcases d1 2 with⟨w1,u1⟩ |⟨w1,u1⟩<;>rcases d2 2 with⟨w2,u2⟩ |⟨w2,u2⟩
      all_goals
        try simp(maxSteps:=999999) (disch:=omega) only[go_sem,Nat.reduceBEq,reduceAdd,w1,pA]
        refine caN (by exact gY (Rv.of (c6.to (h':=h7)) (zq 3)) (Rv.of (hg.to (h':=h7)) (zH 2))) ?_;rintro v8 h8 s8 rfl
        try simp(maxSteps:=999999) (disch:=omega) only[go_sem,Nat.reduceBEq,reduceAdd,w2,pA]
      · dsimp only[lpE];refine⟨((.bool y1,.slice y2 y3 y4,.slice y5 y6 y7),(.bool y1,.slice y2 y3 y4,.slice y5 y6 y7),3),?_,⟨Le.trn le5 inferInstance,show 3≤3 by decide,by rw[show TL 3=_ from u1];exact c6.to,by rw[show TH 3=_ from u2];exact c6.to⟩,show 3 - 3 < 3 - 2 by decide⟩
        try simp(maxSteps:=999999) (disch:=omega) only[go_sem,Nat.reduceBEq,reduceAdd,true_or,true_and,pA]
        all_goals first |exact rfl |exact⟨rfl,.inr rfl⟩
      · refine⟨((.bool y1,.slice y2 y3 y4,.slice y5 y6 y7),(.bool g4,.slice g5 g6 g7,.slice g8 g9 g10),3),?_,⟨Le.trn le5 inferInstance,show 3≤3 by decide,by rw[show TL 3=_ from u1];exact c6.to,by rw[show TH 3=_ from u2];exact hg.to⟩,show 3 - 3 < 3 - 2 by decide⟩
        try simp(maxSteps:=999999) (disch:=omega) only[go_sem,Nat.reduceBEq,reduceAdd,true_or,true_and,pA]
        all_goals first |exact rfl |exact⟨rfl,.inr rfl⟩
      · refine⟨((.bool l4,.slice l5 l6 l7,.slice l8 l9 l10),(.bool y1,.slice y2 y3 y4,.slice y5 y6 y7),3),?_,⟨Le.trn le5 inferInstance,show 3≤3 by decide,by rw[show TL 3=_ from u1];exact hl.to,by rw[show TH 3=_ from u2];exact c6.to⟩,show 3 - 3 < 3 - 2 by decide⟩
        try simp(maxSteps:=999999) (disch:=omega) only[go_sem,Nat.reduceBEq,reduceAdd,true_or,true_and,pA]
        all_goals first |exact rfl |exact⟨rfl,.inr rfl⟩
      · refine⟨((.bool l4,.slice l5 l6 l7,.slice l8 l9 l10),(.bool g4,.slice g5 g6 g7,.slice g8 g9 g10),3),?_,⟨Le.trn le5 inferInstance,show 3≤3 by decide,by rw[show TL 3=_ from u1];exact hl.to,by rw[show TH 3=_ from u2];exact hg.to⟩,show 3 - 3 < 3 - 2 by decide⟩
        try simp(maxSteps:=999999) (disch:=omega) only[go_sem,Nat.reduceBEq,reduceAdd,true_or,true_and,pA]
        all_goals first |exact rfl |exact⟨rfl,.inr rfl⟩
    · try simp(maxSteps:=999999) (disch:=omega) only[go_sem,Nat.reduceBEq,reduceAdd,pA]
      refine caN (by exact jZ (p:=p) hl hg (by omega) (zL 3) (zH 3) y5 y6) ?_;rintro v9 h9 s9 ⟨_,_,_,_,_,_,_,_,_,_,_,_,_,_,rfl,r1,r2⟩
      try simp(maxSteps:=999999) (disch:=omega) only[go_sem,Nat.reduceBEq,reduceAdd,pA]
      exact⟨_,_,_,_,_,_,_,_,_,_,_,_,_,_,rfl,r1,r2⟩
def tanLo (x:Rat) (p:Nat):Rat:=gdown (tqL x (p+64) 3) p
def tanHi (x:Rat) (p:Nat):Rat:=gup (tqH x (p+64) 3) p
def pole (x:Rat) (p:Nat):Prop:=coL x (p+64)≤0∧0≤coH x (p+64)
instance (x:Rat) (p:Nat):Decidable (pole x p):=inferInstanceAs (Decidable (_∧_))
def serL (fn:Int) (x:Rat) (p:Nat):Rat:=if fn=1 then expLo x p else if fn=2 then lnLo x.num.natAbs x.den p else if fn=3 then gdown (siL x (p+64)) p else if fn=4 then gdown (coL x (p+64)) p else if fn=5 then tanLo x p else if fn=6 then fg x p else if fn=7 then acLo x p else atLo x p
def serH (fn:Int) (x:Rat) (p:Nat):Rat:=if fn=1 then expHi x p else if fn=2 then lnHi x.num.natAbs x.den p else if fn=3 then gup (siH x (p+64)) p else if fn=4 then gup (coH x (p+64)) p else if fn=5 then tanHi x p else if fn=6 then dM x p else if fn=7 then acHi x p else atHi x p
def elE (fn:Int) (x:Rat) (p:Int):Int:=if eErr fn x p≠0 then eErr fn x p else if exB fn x=true then 0 else if fn=5∧pole x p.toNat then 20 else 0
def elL (fn:Int) (x:Rat) (p:Int):Rat:=if elE fn x p≠0 then 0 else if exB fn x=true then exV fn x else serL fn x p.toNat
def elH (fn:Int) (x:Rat) (p:Int):Rat:=if elE fn x p≠0 then 0 else if exB fn x=true then exV fn x else serH fn x p.toNat
theorem dw {fn:Int} {x:Rat} {p:Int} (he:eErr fn x p=0):(1≤fn∧fn≤8)∧0≤p∧p≤128∧defB fn x=true∧sz x≤1024∧(fn=1→¬x.den*64 < x.num.natAbs)∧(fn=3∨fn=4∨fn=5→¬x.den*4294967296 < x.num.natAbs):=by
  by_cases h:¬(1≤fn∧fn≤8)∨p < 0∨128 < p
  · rw[xM h] at he;cases he
  cases hd:defB fn x with
  |false=>rw[eErr_5 h hd] at he;cases he
  | true=>
    by_cases hb:1024 < sz x∨(fn=1∧x.den*64 < x.num.natAbs)∨((fn=3∨fn=4∨fn=5)∧x.den*4294967296 < x.num.natAbs)
    · rw[vX h hd hb] at he;cases he
    · refine⟨by omega,by omega,by omega,rfl,by omega,fun k c=>hb (.inr (.inl ⟨k,c⟩)),fun k c=>hb (.inr (.inr ⟨k,c⟩))⟩
theorem cM {h0 h:PH} [Le h0 h] {v:Value} {x:Rat} {fn p:Int} {g:FuncId} (hx:Rv h0 v x)
    (hg:eErr fn x p=0→exB fn x=false→∀{h0 h:PH} {a:Value} [Le h0 h],Cn h0 a x→Spec mach g #[a,.int .i64 (p.toNat:Nat)] h (fun r h'=>Ber h' r (elE fn x p) (if elE fn x p≠0 then 0 else serL fn x p.toNat) (if elE fn x p≠0 then 0 else serH fn x p.toNat)) NP):
    Spec mach 33 #[.int .i64 fn,v,.int .i64 p,.func (.func g) #[] #[]] h (fun r h'=>Ber h' r (elE fn x p) (elL fn x p) (elH fn x p)) NP:=by
  by_cases he:eErr fn x p=0
  · have hp:((p.toNat:Nat):Int)=p:=by have:=dw he;omega
    cases hb:exB fn x with
    | true=>
      have e1:elE fn x p=0:=by unfold elE;rw[if_neg (by simp[he]),if_pos hb]
      have e2:elL fn x p=exV fn x:=by unfold elL;rw[if_neg (by simp[e1]),if_pos hb]
      have e3:elH fn x p=exV fn x:=by unfold elH;rw[if_neg (by simp[e1]),if_pos hb]
      rw[e1,e2,e3]
      exact Af hx he hb
    | false=>
      have e2:elL fn x p=if elE fn x p≠0 then 0 else serL fn x p.toNat:=by unfold elL;split;rfl;rw[hb,if_neg (by decide)]
      have e3:elH fn x p=if elE fn x p≠0 then 0 else serH fn x p.toNat:=by unfold elH;split;rfl;rw[hb,if_neg (by decide)]
      rw[e2,e3]
      have hg:=@hg he hb
      rw[hp] at hg
      exact Er hx he hb hg
  · have e1:elE fn x p=eErr fn x p:=by unfold elE;rw[if_pos he]
    have e2:elL fn x p=0:=by unfold elL;rw[if_pos (by rw[e1];exact he)]
    have e3:elH fn x p=0:=by unfold elH;rw[if_pos (by rw[e1];exact he)]
    rw[e1,e2,e3]
    exact Eo hx he
theorem elE_0 {fn:Int} {x:Rat} {p:Int} (he:eErr fn x p=0) (hb:exB fn x=false) (h5:fn≠5):elE fn x p=0:=by
  unfold elE
  rw[if_neg (by simp[he]),hb,if_neg (by decide),if_neg (fun k=>h5 k.1)]
theorem ser1 {h0 h:PH} {a:Value} {x:Rat} {p:Int} (he:eErr 1 x p=0) (hb:exB 1 x=false) [Le h0 h] (c:Cn h0 a x):Spec mach 24 #[a,.int .i64 (p.toNat:Nat)] h (fun r h'=>Ber h' r (elE 1 x p) (if elE 1 x p≠0 then 0 else serL 1 x p.toNat) (if elE 1 x p≠0 then 0 else serH 1 x p.toNat)) NP:=by
  obtain⟨_,p0,p1,hd,bx,k1,_⟩:=dw he
  rw[elE_0 he hb (by decide)]
  exact yZ c bx (k1 rfl) (by omega)
theorem ser2 {h0 h:PH} {a:Value} {x:Rat} {p:Int} (he:eErr 2 x p=0) (hb:exB 2 x=false) [Le h0 h] (c:Cn h0 a x):Spec mach 25 #[a,.int .i64 (p.toNat:Nat)] h (fun r h'=>Ber h' r (elE 2 x p) (if elE 2 x p≠0 then 0 else serL 2 x p.toNat) (if elE 2 x p≠0 then 0 else serH 2 x p.toNat)) NP:=by
  obtain⟨_,p0,p1,hd,bx,_,_⟩:=dw he
  rw[elE_0 he hb (by decide)]
  have hx:0 < x:=by simpa[defB] using hd
  refine Iz c bx (fun e=>?_) (by omega)
  have:=Rat.num_eq_zero.1 (Int.natAbs_eq_zero.1 e)
  rw[this] at hx
  exact absurd hx (by decide)
theorem ser3 {h0 h:PH} {a:Value} {x:Rat} {p:Int} (he:eErr 3 x p=0) (hb:exB 3 x=false) [Le h0 h] (c:Cn h0 a x):Spec mach 26 #[a,.int .i64 (p.toNat:Nat)] h (fun r h'=>Ber h' r (elE 3 x p) (if elE 3 x p≠0 then 0 else serL 3 x p.toNat) (if elE 3 x p≠0 then 0 else serH 3 x p.toNat)) NP:=by
  obtain⟨_,p0,p1,hd,bx,_,k⟩:=dw he
  rw[elE_0 he hb (by decide)]
  exact IB c bx (k (.inl rfl)) (by omega)
theorem ser4 {h0 h:PH} {a:Value} {x:Rat} {p:Int} (he:eErr 4 x p=0) (hb:exB 4 x=false) [Le h0 h] (c:Cn h0 a x):Spec mach 27 #[a,.int .i64 (p.toNat:Nat)] h (fun r h'=>Ber h' r (elE 4 x p) (if elE 4 x p≠0 then 0 else serL 4 x p.toNat) (if elE 4 x p≠0 then 0 else serH 4 x p.toNat)) NP:=by
  obtain⟨_,p0,p1,hd,bx,_,k⟩:=dw he
  rw[elE_0 he hb (by decide)]
  exact Iy c bx (k (.inr (.inl rfl))) (by omega)
theorem ser5 {h0 h:PH} {a:Value} {x:Rat} {p:Int} (he:eErr 5 x p=0) (hb:exB 5 x=false) [Le h0 h] (c:Cn h0 a x):Spec mach 28 #[a,.int .i64 (p.toNat:Nat)] h (fun r h'=>Ber h' r (elE 5 x p) (if elE 5 x p≠0 then 0 else serL 5 x p.toNat) (if elE 5 x p≠0 then 0 else serH 5 x p.toNat)) NP:=by
  obtain⟨_,p0,p1,hd,bx,_,k⟩:=dw he
  by_cases hq:pole x p.toNat
  · have e:elE 5 x p=20:=by unfold elE;rw[if_neg (by simp[he]),hb,if_neg (by decide),if_pos ⟨rfl,hq⟩]
    rw[e,if_pos (by decide)]
    exact ETan_no c bx (k (.inr (.inr rfl))) (by omega) hq
  · have e:elE 5 x p=0:=by unfold elE;rw[if_neg (by simp[he]),hb,if_neg (by decide),if_neg (fun k=>hq k.2)]
    rw[e]
    exact ETan_ok c bx (k (.inr (.inr rfl))) (by omega) hq
theorem abs_1 {x:Rat} (hd:decide (x.num.natAbs≤x.den)=true):x.num.natAbs≤x.den:=of_decide_eq_true hd
theorem ser6 {h0 h:PH} {a:Value} {x:Rat} {p:Int} (he:eErr 6 x p=0) (hb:exB 6 x=false) [Le h0 h] (c:Cn h0 a x):Spec mach 29 #[a,.int .i64 (p.toNat:Nat)] h (fun r h'=>Ber h' r (elE 6 x p) (if elE 6 x p≠0 then 0 else serL 6 x p.toNat) (if elE 6 x p≠0 then 0 else serH 6 x p.toNat)) NP:=by
  obtain⟨_,p0,p1,hd,bx,_,_⟩:=dw he
  rw[elE_0 he hb (by decide)]
  exact Es c bx (abs_1 hd) (by omega)
theorem ser7 {h0 h:PH} {a:Value} {x:Rat} {p:Int} (he:eErr 7 x p=0) (hb:exB 7 x=false) [Le h0 h] (c:Cn h0 a x):Spec mach 30 #[a,.int .i64 (p.toNat:Nat)] h (fun r h'=>Ber h' r (elE 7 x p) (if elE 7 x p≠0 then 0 else serL 7 x p.toNat) (if elE 7 x p≠0 then 0 else serH 7 x p.toNat)) NP:=by
  obtain⟨_,p0,p1,hd,bx,_,_⟩:=dw he
  rw[elE_0 he hb (by decide)]
  exact Em c bx (abs_1 hd) (by omega)
theorem ser8 {h0 h:PH} {a:Value} {x:Rat} {p:Int} (he:eErr 8 x p=0) (hb:exB 8 x=false) [Le h0 h] (c:Cn h0 a x):Spec mach 31 #[a,.int .i64 (p.toNat:Nat)] h (fun r h'=>Ber h' r (elE 8 x p) (if elE 8 x p≠0 then 0 else serL 8 x p.toNat) (if elE 8 x p≠0 then 0 else serH 8 x p.toNat)) NP:=by
  obtain⟨_,p0,p1,hd,bx,_,_⟩:=dw he
  rw[elE_0 he hb (by decide)]
  exact Et c bx (by omega)
theorem Ber.sp {h:PH} {r:Value} {e:Int} {x y:Rat} (k:Ber h r e x y):∃b1 a1 m1 c1 a2 m2 c2 b2 a3 m3 c3 a4 m4 c4,r=.tuple #[.agg #[.bool b1,.slice a1 m1 c1,.slice a2 m2 c2,.bool b2,.slice a3 m3 c3,.slice a4 m4 c4],.int .i64 e]∧Ber h (.tuple #[.agg #[.bool b1,.slice a1 m1 c1,.slice a2 m2 c2,.bool b2,.slice a3 m3 c3,.slice a4 m4 c4],.int .i64 e]) e x y:=by
  obtain⟨b1,a1,m1,c1,a2,m2,c2,b2,a3,m3,c3,a4,m4,c4,rfl,k1,k2⟩:=k
  exact⟨b1,a1,m1,c1,a2,m2,c2,b2,a3,m3,c3,a4,m4,c4,rfl,_,_,_,_,_,_,_,_,_,_,_,_,_,_,rfl,k1,k2⟩
theorem elE_arg {fn:Int} {x:Rat} {p:Int} (hf:¬(1≤fn∧fn≤8)):elE fn x p=2∧elL fn x p=0∧elH fn x p=0:=by
  have e:elE fn x p=2:=by unfold elE;rw[xM (.inl hf),if_pos (by decide)]
  refine⟨e,?_,?_⟩
  · unfold elL;rw[e,if_pos (by decide)]
  · unfold elH;rw[e,if_pos (by decide)]
theorem FExp_all {h0 h:PH} [Le h0 h] {v:Value} {x:Rat} {p:Int} (hx:Rv h0 v x):Spec mach 36 #[v,.int .i64 p] h (fun r h'=>Ber h' r (elE 1 x p) (elL 1 x p) (elH 1 x p)) NP:=by
  have kA:=fun {h} [Le h0 h]=>cM (h:=h) (fn:=1) (p:=p) (g:=24) hx (fun he hb {_ _ _} _ c=>ser1 he hb c)
  obtain⟨_,_,_,_,_,_,_,rfl,_⟩:=hx.sa
  refine Spec.go [] Tryz.func36 rfl rfl (by kernel_rfl) fun C _=>?_
  try simp(disch:=omega) only[go_sem,Nat.reduceBEq,reduceAdd]
  refine caN (by exact kA) ?_;rintro v1 h1 s1 q1;obtain⟨_,_,_,_,_,_,_,_,_,_,_,_,_,_,rfl,q1⟩:=q1.sp
  try simp(disch:=omega) only[go_sem,Nat.reduceBEq,reduceAdd]
  exact q1
theorem FExp_large {h0 h:PH} [Le h0 h] {v:Value} {neg:Bool} {n d:Nat} {p:Int} (hv:Rw h0 v neg n d) (hl:lg neg n d):Spec mach 36 #[v,.int .i64 p] h (fun r h'=>Ber h' r 1 0 0) NP:=by
  have kA:=fun {h} [Le h0 h]=>iG (h:=h) (fn:=1) (p:=p) (g:=24) hv hl
  obtain⟨_,_,_,_,_,_,_,rfl,_⟩:=hv.sa
  refine Spec.go [] Tryz.func36 rfl rfl (by kernel_rfl) fun C _=>?_
  try simp(disch:=omega) only[go_sem,Nat.reduceBEq,reduceAdd]
  refine caN (by exact kA) ?_;rintro v1 h1 s1 q1;obtain⟨_,_,_,_,_,_,_,_,_,_,_,_,_,_,rfl,q1⟩:=q1.sp
  try simp(disch:=omega) only[go_sem,Nat.reduceBEq,reduceAdd]
  exact q1
theorem FLog_all {h0 h:PH} [Le h0 h] {v:Value} {x:Rat} {p:Int} (hx:Rv h0 v x):Spec mach 38 #[v,.int .i64 p] h (fun r h'=>Ber h' r (elE 2 x p) (elL 2 x p) (elH 2 x p)) NP:=by
  have kA:=fun {h} [Le h0 h]=>cM (h:=h) (fn:=2) (p:=p) (g:=25) hx (fun he hb {_ _ _} _ c=>ser2 he hb c)
  obtain⟨_,_,_,_,_,_,_,rfl,_⟩:=hx.sa
  refine Spec.go [] Tryz.func38 rfl rfl (by kernel_rfl) fun C _=>?_
  try simp(disch:=omega) only[go_sem,Nat.reduceBEq,reduceAdd]
  refine caN (by exact kA) ?_;rintro v1 h1 s1 q1;obtain⟨_,_,_,_,_,_,_,_,_,_,_,_,_,_,rfl,q1⟩:=q1.sp
  try simp(disch:=omega) only[go_sem,Nat.reduceBEq,reduceAdd]
  exact q1
theorem FLog_large {h0 h:PH} [Le h0 h] {v:Value} {neg:Bool} {n d:Nat} {p:Int} (hv:Rw h0 v neg n d) (hl:lg neg n d):Spec mach 38 #[v,.int .i64 p] h (fun r h'=>Ber h' r 1 0 0) NP:=by
  have kA:=fun {h} [Le h0 h]=>iG (h:=h) (fn:=2) (p:=p) (g:=25) hv hl
  obtain⟨_,_,_,_,_,_,_,rfl,_⟩:=hv.sa
  refine Spec.go [] Tryz.func38 rfl rfl (by kernel_rfl) fun C _=>?_
  try simp(disch:=omega) only[go_sem,Nat.reduceBEq,reduceAdd]
  refine caN (by exact kA) ?_;rintro v1 h1 s1 q1;obtain⟨_,_,_,_,_,_,_,_,_,_,_,_,_,_,rfl,q1⟩:=q1.sp
  try simp(disch:=omega) only[go_sem,Nat.reduceBEq,reduceAdd]
  exact q1
theorem FSin_all {h0 h:PH} [Le h0 h] {v:Value} {x:Rat} {p:Int} (hx:Rv h0 v x):Spec mach 39 #[v,.int .i64 p] h (fun r h'=>Ber h' r (elE 3 x p) (elL 3 x p) (elH 3 x p)) NP:=by
  have kA:=fun {h} [Le h0 h]=>cM (h:=h) (fn:=3) (p:=p) (g:=26) hx (fun he hb {_ _ _} _ c=>ser3 he hb c)
  obtain⟨_,_,_,_,_,_,_,rfl,_⟩:=hx.sa
  refine Spec.go [] Tryz.func39 rfl rfl (by kernel_rfl) fun C _=>?_
  try simp(disch:=omega) only[go_sem,Nat.reduceBEq,reduceAdd]
  refine caN (by exact kA) ?_;rintro v1 h1 s1 q1;obtain⟨_,_,_,_,_,_,_,_,_,_,_,_,_,_,rfl,q1⟩:=q1.sp
  try simp(disch:=omega) only[go_sem,Nat.reduceBEq,reduceAdd]
  exact q1
theorem FSin_large {h0 h:PH} [Le h0 h] {v:Value} {neg:Bool} {n d:Nat} {p:Int} (hv:Rw h0 v neg n d) (hl:lg neg n d):Spec mach 39 #[v,.int .i64 p] h (fun r h'=>Ber h' r 1 0 0) NP:=by
  have kA:=fun {h} [Le h0 h]=>iG (h:=h) (fn:=3) (p:=p) (g:=26) hv hl
  obtain⟨_,_,_,_,_,_,_,rfl,_⟩:=hv.sa
  refine Spec.go [] Tryz.func39 rfl rfl (by kernel_rfl) fun C _=>?_
  try simp(disch:=omega) only[go_sem,Nat.reduceBEq,reduceAdd]
  refine caN (by exact kA) ?_;rintro v1 h1 s1 q1;obtain⟨_,_,_,_,_,_,_,_,_,_,_,_,_,_,rfl,q1⟩:=q1.sp
  try simp(disch:=omega) only[go_sem,Nat.reduceBEq,reduceAdd]
  exact q1
theorem FCos_all {h0 h:PH} [Le h0 h] {v:Value} {x:Rat} {p:Int} (hx:Rv h0 v x):Spec mach 40 #[v,.int .i64 p] h (fun r h'=>Ber h' r (elE 4 x p) (elL 4 x p) (elH 4 x p)) NP:=by
  have kA:=fun {h} [Le h0 h]=>cM (h:=h) (fn:=4) (p:=p) (g:=27) hx (fun he hb {_ _ _} _ c=>ser4 he hb c)
  obtain⟨_,_,_,_,_,_,_,rfl,_⟩:=hx.sa
  refine Spec.go [] Tryz.func40 rfl rfl (by kernel_rfl) fun C _=>?_
  try simp(disch:=omega) only[go_sem,Nat.reduceBEq,reduceAdd]
  refine caN (by exact kA) ?_;rintro v1 h1 s1 q1;obtain⟨_,_,_,_,_,_,_,_,_,_,_,_,_,_,rfl,q1⟩:=q1.sp
  try simp(disch:=omega) only[go_sem,Nat.reduceBEq,reduceAdd]
  exact q1
theorem FCos_large {h0 h:PH} [Le h0 h] {v:Value} {neg:Bool} {n d:Nat} {p:Int} (hv:Rw h0 v neg n d) (hl:lg neg n d):Spec mach 40 #[v,.int .i64 p] h (fun r h'=>Ber h' r 1 0 0) NP:=by
  have kA:=fun {h} [Le h0 h]=>iG (h:=h) (fn:=4) (p:=p) (g:=27) hv hl
  obtain⟨_,_,_,_,_,_,_,rfl,_⟩:=hv.sa
  refine Spec.go [] Tryz.func40 rfl rfl (by kernel_rfl) fun C _=>?_
  try simp(disch:=omega) only[go_sem,Nat.reduceBEq,reduceAdd]
  refine caN (by exact kA) ?_;rintro v1 h1 s1 q1;obtain⟨_,_,_,_,_,_,_,_,_,_,_,_,_,_,rfl,q1⟩:=q1.sp
  try simp(disch:=omega) only[go_sem,Nat.reduceBEq,reduceAdd]
  exact q1
theorem FTan_all {h0 h:PH} [Le h0 h] {v:Value} {x:Rat} {p:Int} (hx:Rv h0 v x):Spec mach 41 #[v,.int .i64 p] h (fun r h'=>Ber h' r (elE 5 x p) (elL 5 x p) (elH 5 x p)) NP:=by
  have kA:=fun {h} [Le h0 h]=>cM (h:=h) (fn:=5) (p:=p) (g:=28) hx (fun he hb {_ _ _} _ c=>ser5 he hb c)
  obtain⟨_,_,_,_,_,_,_,rfl,_⟩:=hx.sa
  refine Spec.go [] Tryz.func41 rfl rfl (by kernel_rfl) fun C _=>?_
  try simp(disch:=omega) only[go_sem,Nat.reduceBEq,reduceAdd]
  refine caN (by exact kA) ?_;rintro v1 h1 s1 q1;obtain⟨_,_,_,_,_,_,_,_,_,_,_,_,_,_,rfl,q1⟩:=q1.sp
  try simp(disch:=omega) only[go_sem,Nat.reduceBEq,reduceAdd]
  exact q1
theorem FTan_large {h0 h:PH} [Le h0 h] {v:Value} {neg:Bool} {n d:Nat} {p:Int} (hv:Rw h0 v neg n d) (hl:lg neg n d):Spec mach 41 #[v,.int .i64 p] h (fun r h'=>Ber h' r 1 0 0) NP:=by
  have kA:=fun {h} [Le h0 h]=>iG (h:=h) (fn:=5) (p:=p) (g:=28) hv hl
  obtain⟨_,_,_,_,_,_,_,rfl,_⟩:=hv.sa
  refine Spec.go [] Tryz.func41 rfl rfl (by kernel_rfl) fun C _=>?_
  try simp(disch:=omega) only[go_sem,Nat.reduceBEq,reduceAdd]
  refine caN (by exact kA) ?_;rintro v1 h1 s1 q1;obtain⟨_,_,_,_,_,_,_,_,_,_,_,_,_,_,rfl,q1⟩:=q1.sp
  try simp(disch:=omega) only[go_sem,Nat.reduceBEq,reduceAdd]
  exact q1
theorem FAsin_all {h0 h:PH} [Le h0 h] {v:Value} {x:Rat} {p:Int} (hx:Rv h0 v x):Spec mach 42 #[v,.int .i64 p] h (fun r h'=>Ber h' r (elE 6 x p) (elL 6 x p) (elH 6 x p)) NP:=by
  have kA:=fun {h} [Le h0 h]=>cM (h:=h) (fn:=6) (p:=p) (g:=29) hx (fun he hb {_ _ _} _ c=>ser6 he hb c)
  obtain⟨_,_,_,_,_,_,_,rfl,_⟩:=hx.sa
  refine Spec.go [] Tryz.func42 rfl rfl (by kernel_rfl) fun C _=>?_
  try simp(disch:=omega) only[go_sem,Nat.reduceBEq,reduceAdd]
  refine caN (by exact kA) ?_;rintro v1 h1 s1 q1;obtain⟨_,_,_,_,_,_,_,_,_,_,_,_,_,_,rfl,q1⟩:=q1.sp
  try simp(disch:=omega) only[go_sem,Nat.reduceBEq,reduceAdd]
  exact q1
theorem FAsin_large {h0 h:PH} [Le h0 h] {v:Value} {neg:Bool} {n d:Nat} {p:Int} (hv:Rw h0 v neg n d) (hl:lg neg n d):Spec mach 42 #[v,.int .i64 p] h (fun r h'=>Ber h' r 1 0 0) NP:=by
  have kA:=fun {h} [Le h0 h]=>iG (h:=h) (fn:=6) (p:=p) (g:=29) hv hl
  obtain⟨_,_,_,_,_,_,_,rfl,_⟩:=hv.sa
  refine Spec.go [] Tryz.func42 rfl rfl (by kernel_rfl) fun C _=>?_
  try simp(disch:=omega) only[go_sem,Nat.reduceBEq,reduceAdd]
  refine caN (by exact kA) ?_;rintro v1 h1 s1 q1;obtain⟨_,_,_,_,_,_,_,_,_,_,_,_,_,_,rfl,q1⟩:=q1.sp
  try simp(disch:=omega) only[go_sem,Nat.reduceBEq,reduceAdd]
  exact q1
theorem FAcos_all {h0 h:PH} [Le h0 h] {v:Value} {x:Rat} {p:Int} (hx:Rv h0 v x):Spec mach 43 #[v,.int .i64 p] h (fun r h'=>Ber h' r (elE 7 x p) (elL 7 x p) (elH 7 x p)) NP:=by
  have kA:=fun {h} [Le h0 h]=>cM (h:=h) (fn:=7) (p:=p) (g:=30) hx (fun he hb {_ _ _} _ c=>ser7 he hb c)
  obtain⟨_,_,_,_,_,_,_,rfl,_⟩:=hx.sa
  refine Spec.go [] Tryz.func43 rfl rfl (by kernel_rfl) fun C _=>?_
  try simp(disch:=omega) only[go_sem,Nat.reduceBEq,reduceAdd]
  refine caN (by exact kA) ?_;rintro v1 h1 s1 q1;obtain⟨_,_,_,_,_,_,_,_,_,_,_,_,_,_,rfl,q1⟩:=q1.sp
  try simp(disch:=omega) only[go_sem,Nat.reduceBEq,reduceAdd]
  exact q1
theorem FAcos_large {h0 h:PH} [Le h0 h] {v:Value} {neg:Bool} {n d:Nat} {p:Int} (hv:Rw h0 v neg n d) (hl:lg neg n d):Spec mach 43 #[v,.int .i64 p] h (fun r h'=>Ber h' r 1 0 0) NP:=by
  have kA:=fun {h} [Le h0 h]=>iG (h:=h) (fn:=7) (p:=p) (g:=30) hv hl
  obtain⟨_,_,_,_,_,_,_,rfl,_⟩:=hv.sa
  refine Spec.go [] Tryz.func43 rfl rfl (by kernel_rfl) fun C _=>?_
  try simp(disch:=omega) only[go_sem,Nat.reduceBEq,reduceAdd]
  refine caN (by exact kA) ?_;rintro v1 h1 s1 q1;obtain⟨_,_,_,_,_,_,_,_,_,_,_,_,_,_,rfl,q1⟩:=q1.sp
  try simp(disch:=omega) only[go_sem,Nat.reduceBEq,reduceAdd]
  exact q1
theorem FAtan_all {h0 h:PH} [Le h0 h] {v:Value} {x:Rat} {p:Int} (hx:Rv h0 v x):Spec mach 44 #[v,.int .i64 p] h (fun r h'=>Ber h' r (elE 8 x p) (elL 8 x p) (elH 8 x p)) NP:=by
  have kA:=fun {h} [Le h0 h]=>cM (h:=h) (fn:=8) (p:=p) (g:=31) hx (fun he hb {_ _ _} _ c=>ser8 he hb c)
  obtain⟨_,_,_,_,_,_,_,rfl,_⟩:=hx.sa
  refine Spec.go [] Tryz.func44 rfl rfl (by kernel_rfl) fun C _=>?_
  try simp(disch:=omega) only[go_sem,Nat.reduceBEq,reduceAdd]
  refine caN (by exact kA) ?_;rintro v1 h1 s1 q1;obtain⟨_,_,_,_,_,_,_,_,_,_,_,_,_,_,rfl,q1⟩:=q1.sp
  try simp(disch:=omega) only[go_sem,Nat.reduceBEq,reduceAdd]
  exact q1
theorem FAtan_large {h0 h:PH} [Le h0 h] {v:Value} {neg:Bool} {n d:Nat} {p:Int} (hv:Rw h0 v neg n d) (hl:lg neg n d):Spec mach 44 #[v,.int .i64 p] h (fun r h'=>Ber h' r 1 0 0) NP:=by
  have kA:=fun {h} [Le h0 h]=>iG (h:=h) (fn:=8) (p:=p) (g:=31) hv hl
  obtain⟨_,_,_,_,_,_,_,rfl,_⟩:=hv.sa
  refine Spec.go [] Tryz.func44 rfl rfl (by kernel_rfl) fun C _=>?_
  try simp(disch:=omega) only[go_sem,Nat.reduceBEq,reduceAdd]
  refine caN (by exact kA) ?_;rintro v1 h1 s1 q1;obtain⟨_,_,_,_,_,_,_,_,_,_,_,_,_,_,rfl,q1⟩:=q1.sp
  try simp(disch:=omega) only[go_sem,Nat.reduceBEq,reduceAdd]
  exact q1
theorem n7 {h0 h:PH} [Le h0 h] {v:Value} {x:Rat} {p:Int} (hx:Rv h0 v x):Spec mach 8 #[.int .i64 1,v,.int .i64 p] h (fun r h'=>Ber h' r (elE 1 x p) (elL 1 x p) (elH 1 x p)) NP:=by
  have kA:=fun {h} [Le h0 h]=>cM (h:=h) (fn:=1) (p:=p) (g:=24) hx (fun he hb {_ _ _} _ c=>ser1 he hb c)
  obtain⟨_,_,_,_,_,_,_,rfl,_⟩:=hx.sa
  refine Spec.go [] Tryz.func8 rfl rfl (by kernel_rfl) fun C _=>?_
  try simp(disch:=omega) only[go_sem,Nat.reduceBEq,reduceAdd]
  change op2 (some (Value.func (.func 24) #[] #[])) _
  try simp(disch:=omega) only[go_sem,Nat.reduceBEq,reduceAdd]
  refine caN (by exact kA) ?_;rintro v1 h1 s1 q1;obtain⟨_,_,_,_,_,_,_,_,_,_,_,_,_,_,rfl,q1⟩:=q1.sp
  try simp(disch:=omega) only[go_sem,Nat.reduceBEq,reduceAdd]
  exact q1
theorem pE {h0 h:PH} [Le h0 h] {v:Value} {x:Rat} {p:Int} (hx:Rv h0 v x):Spec mach 8 #[.int .i64 2,v,.int .i64 p] h (fun r h'=>Ber h' r (elE 2 x p) (elL 2 x p) (elH 2 x p)) NP:=by
  have kA:=fun {h} [Le h0 h]=>cM (h:=h) (fn:=2) (p:=p) (g:=25) hx (fun he hb {_ _ _} _ c=>ser2 he hb c)
  obtain⟨_,_,_,_,_,_,_,rfl,_⟩:=hx.sa
  refine Spec.go [] Tryz.func8 rfl rfl (by kernel_rfl) fun C _=>?_
  try simp(disch:=omega) only[go_sem,Nat.reduceBEq,reduceAdd]
  change op2 (some (Value.func (.func 25) #[] #[])) _
  try simp(disch:=omega) only[go_sem,Nat.reduceBEq,reduceAdd]
  refine caN (by exact kA) ?_;rintro v1 h1 s1 q1;obtain⟨_,_,_,_,_,_,_,_,_,_,_,_,_,_,rfl,q1⟩:=q1.sp
  try simp(disch:=omega) only[go_sem,Nat.reduceBEq,reduceAdd]
  exact q1
theorem n8 {h0 h:PH} [Le h0 h] {v:Value} {x:Rat} {p:Int} (hx:Rv h0 v x):Spec mach 8 #[.int .i64 3,v,.int .i64 p] h (fun r h'=>Ber h' r (elE 3 x p) (elL 3 x p) (elH 3 x p)) NP:=by
  have kA:=fun {h} [Le h0 h]=>cM (h:=h) (fn:=3) (p:=p) (g:=26) hx (fun he hb {_ _ _} _ c=>ser3 he hb c)
  obtain⟨_,_,_,_,_,_,_,rfl,_⟩:=hx.sa
  refine Spec.go [] Tryz.func8 rfl rfl (by kernel_rfl) fun C _=>?_
  try simp(disch:=omega) only[go_sem,Nat.reduceBEq,reduceAdd]
  change op2 (some (Value.func (.func 26) #[] #[])) _
  try simp(disch:=omega) only[go_sem,Nat.reduceBEq,reduceAdd]
  refine caN (by exact kA) ?_;rintro v1 h1 s1 q1;obtain⟨_,_,_,_,_,_,_,_,_,_,_,_,_,_,rfl,q1⟩:=q1.sp
  try simp(disch:=omega) only[go_sem,Nat.reduceBEq,reduceAdd]
  exact q1
theorem wL {h0 h:PH} [Le h0 h] {v:Value} {x:Rat} {p:Int} (hx:Rv h0 v x):Spec mach 8 #[.int .i64 4,v,.int .i64 p] h (fun r h'=>Ber h' r (elE 4 x p) (elL 4 x p) (elH 4 x p)) NP:=by
  have kA:=fun {h} [Le h0 h]=>cM (h:=h) (fn:=4) (p:=p) (g:=27) hx (fun he hb {_ _ _} _ c=>ser4 he hb c)
  obtain⟨_,_,_,_,_,_,_,rfl,_⟩:=hx.sa
  refine Spec.go [] Tryz.func8 rfl rfl (by kernel_rfl) fun C _=>?_
  try simp(disch:=omega) only[go_sem,Nat.reduceBEq,reduceAdd]
  change op2 (some (Value.func (.func 27) #[] #[])) _
  try simp(disch:=omega) only[go_sem,Nat.reduceBEq,reduceAdd]
  refine caN (by exact kA) ?_;rintro v1 h1 s1 q1;obtain⟨_,_,_,_,_,_,_,_,_,_,_,_,_,_,rfl,q1⟩:=q1.sp
  try simp(disch:=omega) only[go_sem,Nat.reduceBEq,reduceAdd]
  exact q1
theorem wM {h0 h:PH} [Le h0 h] {v:Value} {x:Rat} {p:Int} (hx:Rv h0 v x):Spec mach 8 #[.int .i64 5,v,.int .i64 p] h (fun r h'=>Ber h' r (elE 5 x p) (elL 5 x p) (elH 5 x p)) NP:=by
  have kA:=fun {h} [Le h0 h]=>cM (h:=h) (fn:=5) (p:=p) (g:=28) hx (fun he hb {_ _ _} _ c=>ser5 he hb c)
  obtain⟨_,_,_,_,_,_,_,rfl,_⟩:=hx.sa
  refine Spec.go [] Tryz.func8 rfl rfl (by kernel_rfl) fun C _=>?_
  try simp(disch:=omega) only[go_sem,Nat.reduceBEq,reduceAdd]
  change op2 (some (Value.func (.func 28) #[] #[])) _
  try simp(disch:=omega) only[go_sem,Nat.reduceBEq,reduceAdd]
  refine caN (by exact kA) ?_;rintro v1 h1 s1 q1;obtain⟨_,_,_,_,_,_,_,_,_,_,_,_,_,_,rfl,q1⟩:=q1.sp
  try simp(disch:=omega) only[go_sem,Nat.reduceBEq,reduceAdd]
  exact q1
theorem sE {h0 h:PH} [Le h0 h] {v:Value} {x:Rat} {p:Int} (hx:Rv h0 v x):Spec mach 8 #[.int .i64 6,v,.int .i64 p] h (fun r h'=>Ber h' r (elE 6 x p) (elL 6 x p) (elH 6 x p)) NP:=by
  have kA:=fun {h} [Le h0 h]=>cM (h:=h) (fn:=6) (p:=p) (g:=29) hx (fun he hb {_ _ _} _ c=>ser6 he hb c)
  obtain⟨_,_,_,_,_,_,_,rfl,_⟩:=hx.sa
  refine Spec.go [] Tryz.func8 rfl rfl (by kernel_rfl) fun C _=>?_
  try simp(disch:=omega) only[go_sem,Nat.reduceBEq,reduceAdd]
  change op2 (some (Value.func (.func 29) #[] #[])) _
  try simp(disch:=omega) only[go_sem,Nat.reduceBEq,reduceAdd]
  refine caN (by exact kA) ?_;rintro v1 h1 s1 q1;obtain⟨_,_,_,_,_,_,_,_,_,_,_,_,_,_,rfl,q1⟩:=q1.sp
  try simp(disch:=omega) only[go_sem,Nat.reduceBEq,reduceAdd]
  exact q1
theorem Cc {h0 h:PH} [Le h0 h] {v:Value} {x:Rat} {p:Int} (hx:Rv h0 v x):Spec mach 8 #[.int .i64 7,v,.int .i64 p] h (fun r h'=>Ber h' r (elE 7 x p) (elL 7 x p) (elH 7 x p)) NP:=by
  have kA:=fun {h} [Le h0 h]=>cM (h:=h) (fn:=7) (p:=p) (g:=30) hx (fun he hb {_ _ _} _ c=>ser7 he hb c)
  obtain⟨_,_,_,_,_,_,_,rfl,_⟩:=hx.sa
  refine Spec.go [] Tryz.func8 rfl rfl (by kernel_rfl) fun C _=>?_
  try simp(disch:=omega) only[go_sem,Nat.reduceBEq,reduceAdd]
  change op2 (some (Value.func (.func 30) #[] #[])) _
  try simp(disch:=omega) only[go_sem,Nat.reduceBEq,reduceAdd]
  refine caN (by exact kA) ?_;rintro v1 h1 s1 q1;obtain⟨_,_,_,_,_,_,_,_,_,_,_,_,_,_,rfl,q1⟩:=q1.sp
  try simp(disch:=omega) only[go_sem,Nat.reduceBEq,reduceAdd]
  exact q1
theorem pF {h0 h:PH} [Le h0 h] {v:Value} {x:Rat} {p:Int} (hx:Rv h0 v x):Spec mach 8 #[.int .i64 8,v,.int .i64 p] h (fun r h'=>Ber h' r (elE 8 x p) (elL 8 x p) (elH 8 x p)) NP:=by
  have kA:=fun {h} [Le h0 h]=>cM (h:=h) (fn:=8) (p:=p) (g:=31) hx (fun he hb {_ _ _} _ c=>ser8 he hb c)
  obtain⟨_,_,_,_,_,_,_,rfl,_⟩:=hx.sa
  refine Spec.go [] Tryz.func8 rfl rfl (by kernel_rfl) fun C _=>?_
  try simp(disch:=omega) only[go_sem,Nat.reduceBEq,reduceAdd]
  change op2 (some (Value.func (.func 31) #[] #[])) _
  try simp(disch:=omega) only[go_sem,Nat.reduceBEq,reduceAdd]
  refine caN (by exact kA) ?_;rintro v1 h1 s1 q1;obtain⟨_,_,_,_,_,_,_,_,_,_,_,_,_,_,rfl,q1⟩:=q1.sp
  try simp(disch:=omega) only[go_sem,Nat.reduceBEq,reduceAdd]
  exact q1
theorem Iu {h0 h:PH} [Le h0 h] {v:Value} {x:Rat} {fn p:Int} (hx:Rv h0 v x) (hf:¬(1≤fn∧fn≤8)):Spec mach 8 #[.int .i64 fn,v,.int .i64 p] h (fun r h'=>Ber h' r (elE fn x p) (elL fn x p) (elH fn x p)) NP:=by
  obtain⟨e1,e2,e3⟩:=elE_arg (x:=x) (p:=p) hf
  rw[e1,e2,e3]
  have kK:=fun {h} [Le h0 h]=>oO (h:=h) hx hf
  obtain⟨_,_,_,_,_,_,_,rfl,_⟩:=hx.sa
  rcases Int.lt_or_le fn 1 with f1 |f1
  · refine Spec.go [] Tryz.func8 rfl rfl (by kernel_rfl) fun C _=>?_
    try simp(disch:=omega) only[go_sem,Nat.reduceBEq,reduceAdd]
    refine caN (by exact kK) ?_;rintro v1 h1 s1 rfl
    try simp(disch:=omega) only[go_sem,Nat.reduceBEq,reduceAdd]
    exact Ber.no _ _
  · have f8:fn > 8:=by omega
    refine Spec.go [] Tryz.func8 rfl rfl (by kernel_rfl) fun C _=>?_
    try simp(disch:=omega) only[go_sem,Nat.reduceBEq,reduceAdd]
    refine caN (by exact kK) ?_;rintro v1 h1 s1 rfl
    try simp(disch:=omega) only[go_sem,Nat.reduceBEq,reduceAdd]
    exact Ber.no _ _
theorem rD {h0 h:PH} [Le h0 h] {v:Value} {x:Rat} {fn p:Int} (f3:fn≠3) (f4:fn≠4) (f5:fn≠5) (hx:Rv h0 v x):Spec mach 8 #[.int .i64 fn,v,.int .i64 p] h (fun r h'=>Ber h' r (elE fn x p) (elL fn x p) (elH fn x p)) NP:=by
  by_cases hf:1≤fn∧fn≤8
  · have hc:fn=1∨fn=2∨fn=6∨fn=7∨fn=8:=by omega
    rcases hc with rfl |rfl |rfl |rfl |rfl
    · exact n7 hx
    · exact pE hx
    · exact sE hx
    · exact Cc hx
    · exact pF hx
  · exact Iu hx hf
theorem uh {h0 h:PH} [Le h0 h] {v:Value} {x:Rat} {fn p:Int} (hf:fn=3∨fn=4∨fn=5∨fn=6∨fn=8) (hx:Rv h0 v x):Spec mach 8 #[.int .i64 fn,v,.int .i64 p] h (fun r h'=>Ber h' r (elE fn x p) (elL fn x p) (elH fn x p)) NP:=by
  rcases hf with rfl |rfl |rfl |rfl |rfl
  · exact n8 hx
  · exact wL hx
  · exact wM hx
  · exact sE hx
  · exact pF hx
theorem pH {h0 h:PH} [Le h0 h] {v:Value} {x:Rat} {fn p:Int} (hx:Rv h0 v x):Spec mach 8 #[.int .i64 fn,v,.int .i64 p] h (fun r h'=>Ber h' r (elE fn x p) (elL fn x p) (elH fn x p)) NP:=by
  by_cases hf:fn=3∨fn=4∨fn=5
  · exact uh (by omega) hx
  · exact rD (by omega) (by omega) (by omega) hx
theorem pG {h0 h:PH} [Le h0 h] {v:Value} {neg:Bool} {n d:Nat} {fn p:Int} (hv:Rw h0 v neg n d) (hl:lg neg n d):Spec mach 8 #[.int .i64 fn,v,.int .i64 p] h (fun r h'=>Ber h' r 1 0 0) NP:=by
  by_cases hf:1≤fn∧fn≤8
  · have hc:fn=1∨fn=2∨fn=3∨fn=4∨fn=5∨fn=6∨fn=7∨fn=8:=by omega
    clear hf
    have kA:=fun {h} {g:FuncId} [Le h0 h]=>iG (h:=h) (fn:=fn) (p:=p) (g:=g) hv hl
    obtain⟨_,_,_,_,_,_,_,rfl,_⟩:=hv.sa
    rcases hc with rfl |rfl |rfl |rfl |rfl |rfl |rfl |rfl
    all_goals
      refine Spec.go [] Tryz.func8 rfl rfl (by kernel_rfl) fun C _=>?_
      try simp(disch:=omega) only[go_sem,Nat.reduceBEq,reduceAdd]
    · change op2 (some (Value.func (.func 24) #[] #[])) _
      try simp(disch:=omega) only[go_sem,Nat.reduceBEq,reduceAdd]
      refine caN (by exact kA) ?_;rintro v1 h1 s1 q1;obtain⟨_,_,_,_,_,_,_,_,_,_,_,_,_,_,rfl,q1⟩:=q1.sp
      try simp(disch:=omega) only[go_sem,Nat.reduceBEq,reduceAdd]
      exact q1
    · change op2 (some (Value.func (.func 25) #[] #[])) _
      try simp(disch:=omega) only[go_sem,Nat.reduceBEq,reduceAdd]
      refine caN (by exact kA) ?_;rintro v1 h1 s1 q1;obtain⟨_,_,_,_,_,_,_,_,_,_,_,_,_,_,rfl,q1⟩:=q1.sp
      try simp(disch:=omega) only[go_sem,Nat.reduceBEq,reduceAdd]
      exact q1
    · change op2 (some (Value.func (.func 26) #[] #[])) _
      try simp(disch:=omega) only[go_sem,Nat.reduceBEq,reduceAdd]
      refine caN (by exact kA) ?_;rintro v1 h1 s1 q1;obtain⟨_,_,_,_,_,_,_,_,_,_,_,_,_,_,rfl,q1⟩:=q1.sp
      try simp(disch:=omega) only[go_sem,Nat.reduceBEq,reduceAdd]
      exact q1
    · change op2 (some (Value.func (.func 27) #[] #[])) _
      try simp(disch:=omega) only[go_sem,Nat.reduceBEq,reduceAdd]
      refine caN (by exact kA) ?_;rintro v1 h1 s1 q1;obtain⟨_,_,_,_,_,_,_,_,_,_,_,_,_,_,rfl,q1⟩:=q1.sp
      try simp(disch:=omega) only[go_sem,Nat.reduceBEq,reduceAdd]
      exact q1
    · change op2 (some (Value.func (.func 28) #[] #[])) _
      try simp(disch:=omega) only[go_sem,Nat.reduceBEq,reduceAdd]
      refine caN (by exact kA) ?_;rintro v1 h1 s1 q1;obtain⟨_,_,_,_,_,_,_,_,_,_,_,_,_,_,rfl,q1⟩:=q1.sp
      try simp(disch:=omega) only[go_sem,Nat.reduceBEq,reduceAdd]
      exact q1
    · change op2 (some (Value.func (.func 29) #[] #[])) _
      try simp(disch:=omega) only[go_sem,Nat.reduceBEq,reduceAdd]
      refine caN (by exact kA) ?_;rintro v1 h1 s1 q1;obtain⟨_,_,_,_,_,_,_,_,_,_,_,_,_,_,rfl,q1⟩:=q1.sp
      try simp(disch:=omega) only[go_sem,Nat.reduceBEq,reduceAdd]
      exact q1
    · change op2 (some (Value.func (.func 30) #[] #[])) _
      try simp(disch:=omega) only[go_sem,Nat.reduceBEq,reduceAdd]
      refine caN (by exact kA) ?_;rintro v1 h1 s1 q1;obtain⟨_,_,_,_,_,_,_,_,_,_,_,_,_,_,rfl,q1⟩:=q1.sp
      try simp(disch:=omega) only[go_sem,Nat.reduceBEq,reduceAdd]
      exact q1
    · change op2 (some (Value.func (.func 31) #[] #[])) _
      try simp(disch:=omega) only[go_sem,Nat.reduceBEq,reduceAdd]
      refine caN (by exact kA) ?_;rintro v1 h1 s1 q1;obtain⟨_,_,_,_,_,_,_,_,_,_,_,_,_,_,rfl,q1⟩:=q1.sp
      try simp(disch:=omega) only[go_sem,Nat.reduceBEq,reduceAdd]
      exact q1
  · have kK:=fun {h} [Le h0 h]=>qu (h:=h) (fn:=fn) hv hl
    obtain⟨_,_,_,_,_,_,_,rfl,_⟩:=hv.sa
    rcases Int.lt_or_le fn 1 with f1 |f1
    · refine Spec.go [] Tryz.func8 rfl rfl (by kernel_rfl) fun C _=>?_
      try simp(disch:=omega) only[go_sem,Nat.reduceBEq,reduceAdd]
      refine caN (by exact kK) ?_;rintro v1 h1 s1 rfl
      try simp(disch:=omega) only[go_sem,Nat.reduceBEq,reduceAdd]
      exact Ber.no _ _
    · have f8:fn > 8:=by omega
      refine Spec.go [] Tryz.func8 rfl rfl (by kernel_rfl) fun C _=>?_
      try simp(disch:=omega) only[go_sem,Nat.reduceBEq,reduceAdd]
      refine caN (by exact kK) ?_;rintro v1 h1 s1 rfl
      try simp(disch:=omega) only[go_sem,Nat.reduceBEq,reduceAdd]
      exact Ber.no _ _
end Go.Q
