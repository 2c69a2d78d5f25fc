/-
  The statements' helper right; the reference's domains and exact values. Conditions: the values are numbers (Cn, Qr).
  The bracket of a function as the statements read it (bracket), for every number. Conditions: the number has at most 2^35 binary digits.
  The brackets that Apply returns at a number and at its opposite: no program. Conditions: a function of sine, cosine, tangent, arcsine, arctangent; of the first three: no tie.
  What Turns returns. Conditions: the ends are numbers as they come in.
  Quarter turns in a range: a wide range has them; a wider one has what a narrower one has. Plain. Conditions: none.
  The reference's helpers of layer 2: natural numbers, quotients rounded, numbers of a grid; its domains and exact values. Conditions: the values are natural numbers (N16) and numbers (Qr).
  The reference of layer 2: its grid, the series of the arctangent, pi. Conditions: the values are natural numbers (N16) and numbers (Qr).
  Contracts of package elem: the argument of exp made ready; what Exp returns. Conditions: the argument is small enough, the value is not exact.
  The statements' check of one bracket (sane); the statement ElemPi. Conditions: none.
  The reference of layer 2: quarter turns. Conditions: the values are numbers (Qr).
  The reference of layer 2: the rest of a number by quarter turns. Conditions: the number has at most 2048 binary digits; the working precision is from 64 to 192.
-/
import Derived.Test.YtaadbcpohbamlaaGreatDoorK309e69PkF
import Derived.Test.YtaadbcpohbamlaaGreatDoorK1d1240PkM
import Derived.Test.YtaadbcpohbamlaaGreatDoorKb66c94PkL
import Derived.Test.YtaadbcpohbamlaaGreatDoorKebf1adPkQ
import Derived.Test.YtaadbcpohbamlaaGreatDoorK142d62PkO
import Derived.Test.YtaadbcpohbamlaaGreatDoorKfadf7aPkN
import Derived.Test.YtaadbcpohbamlaaGreatDoorK85ae52PkP
set_option linter.unusedVariables false
set_option linter.unusedSimpArgs false
namespace Go.Q
open Go.Proofs
set_option maxRecDepth 100000
set_option maxHeartbeats 8000000
theorem Right_spec {h0 h:PH} [Le h0 h] {v w:Value} {x y:Rat} (hx:Cn h0 v x) (hy:Qr h0 w y) (bx:sz x≤2^30) (by_:sz y≤2^30):Spec mach 17 #[v,w] h (fun r _=>r=.bool (decide (x=y))) NP:=by
  have kC:=fun {h} [Le h0 h]=>Canonical_cn (h:=h) hx bx
  have hw:=hx.rw bx
  have kO:=fun {h} [Le h0 h]=>QOf_spec (h:=h) hw
  rw[qof_cn] at kO
  have e3:(cmpQ x y == 0)=decide (x=y):=by unfold cmpQ;grind
  obtain⟨_,_,_,_,_,_,_,rfl,_⟩:=hx.sa
  have hy0:=hy
  obtain⟨_,_,_,_,_,_,_,rfl,_⟩:=hy.sl
  refine Spec.go [(1,.o [0,1,2,3,5,4,6,7,8,9])] Tryz.func17 rfl rfl (by kernel_rfl) fun C _=>?_
  try simp(disch:=omega) only[go_sem,Nat.reduceBEq,Nat.reduceAdd]
  refine caN (by exact kC) ?_;rintro v1 h1 s1 rfl
  try simp(disch:=omega) only[go_sem,Nat.reduceBEq,Nat.reduceAdd]
  refine caN (by exact kO) ?_;rintro v2 h2 s2 q2;have q2':=q2;obtain⟨_,_,_,_,_,_,_,rfl,_⟩:=q2'.sl
  try simp(disch:=omega) only[go_sem,Nat.reduceBEq,Nat.reduceAdd]
  refine caN (by exact QCmp_spec q2 (hy0.to (h':=h2)) (Nat.le_trans bx (by decide)) (Nat.le_trans by_ (by decide))) ?_;rintro v3 h3 s3 rfl
  try simp(disch:=omega) only[go_sem,Nat.reduceBEq,Nat.reduceAdd,e3]
end Go.Q
namespace Go.Q
open Go.Proofs
set_option maxRecDepth 100000
set_option maxHeartbeats 8000000
def brE (fn:Int) (x:Rat) (p:Int):Int:=if 2048 < sz x then 1 else elE fn x p
def brL (fn:Int) (x:Rat) (p:Int):Rat:=if 2048 < sz x then 0 else elL fn x p
def brH (fn:Int) (x:Rat) (p:Int):Rat:=if 2048 < sz x then 0 else elH fn x p
theorem br_sz (fn:Int) (x:Rat) (p:Int):sz (brL fn x p)≤2048∧sz (brH fn x p)≤2048:=by
  unfold brL brH
  by_cases h:2048 < sz x
  · rw[if_pos h,if_pos h];decide
  · rw[if_neg h,if_neg h];exact el_sz
theorem len32 (n:Nat):(W 4294967296 n).length≤(bl n+31) / 32:=
  W_length_le (by decide) (by rw[←B_pow];exact Nat.lt_of_lt_of_le (bl_le.1 (Nat.le_refl _)) (Nat.pow_le_pow_right (by decide) (by omega)))
theorem Cn.rwb {h:PH} {v:Value} {x:Rat} (r:Cn h v x) (bx:sz x≤2^35):Rw h v (decide (x.num < 0)) x.num.natAbs (if x.den=1 then 0 else x.den):=by
  obtain⟨sn,sd,rfl,h2,h3⟩:=r
  have b1:=sz_num x;have b2:=sz_den x
  have b3:bl (if x.den=1 then 0 else x.den)≤bl x.den:=bl_mono (by split<;>omega)
  obtain⟨a,c,xs,rfl,ha,hx,hm⟩:=h2.out
  obtain⟨a',c',ys,rfl,ha',hy,hm'⟩:=h3.out
  have l1:=len32 x.num.natAbs
  have l2:=len32 (if x.den=1 then 0 else x.den)
  rw[hx] at l1
  rw[hy] at l2
  exact⟨_,_,_,_,_,_,rfl,ha,ha',hm,hm',by omega,by omega⟩
theorem Apply_cn {h0 h:PH} [Le h0 h] {v:Value} {x:Rat} {fn p:Int} (hk:∀{h0 h:PH} {w:Value} [Le h0 h],Rv h0 w x→Spec mach 16 #[.int .i64 fn,w,.int .i64 p] h (fun r h'=>Ber h' r (elE fn x p) (elL fn x p) (elH fn x p)) NP) (hx:Cn h0 v x) (bx:sz x≤2^35):Spec mach 16 #[.int .i64 fn,v,.int .i64 p] h (fun r h'=>Ber h' r (brE fn x p) (brL fn x p) (brH fn x p)) NP:=by
  unfold brE brL brH
  by_cases hs:2048 < sz x
  · rw[if_pos hs,if_pos hs,if_pos hs];exact Apply_no (hx.rwb bx) (lg_cn.2 hs)
  · rw[if_neg hs,if_neg hs,if_neg hs];exact hk (Rv.of hx (by omega))
theorem QOf_can {h0 h:PH} [Le h0 h] {v:Value} {x:Rat} (hv:Cn h0 v x) (bx:sz x≤2^30):Spec mach 7 #[v] h (fun v h'=>Qr h' v x) NP:=by
  have:=QOf_spec (h:=h) (hv.rw bx)
  rw[qof_cn] at this
  exact this
def Qb (h:PH) (r:Value) (x y:Rat) (b:Bool):Prop:=∃b1 a1 m1 c1 a2 m2 c2 b2 a3 m3 c3 a4 m4 c4,r=.tuple #[.agg #[.bool b1,.slice a1 m1 c1,.slice a2 m2 c2],.agg #[.bool b2,.slice a3 m3 c3,.slice a4 m4 c4],.bool b]∧Qr h (.agg #[.bool b1,.slice a1 m1 c1,.slice a2 m2 c2]) x∧Qr h (.agg #[.bool b2,.slice a3 m3 c3,.slice a4 m4 c4]) y
theorem LBracket_spec {h0 h:PH} [Le h0 h] {v:Value} {x:Rat} {fn p:Int} (hk:∀{h0 h:PH} {w:Value} [Le h0 h],Rv h0 w x→Spec mach 16 #[.int .i64 fn,w,.int .i64 p] h (fun r h'=>Ber h' r (elE fn x p) (elL fn x p) (elH fn x p)) NP) (hx:Qr h0 v x) (bx:sz x≤2^35):Spec mach 8 #[.int .i64 fn,v,.int .i64 p] h (fun r h'=>Qb h' r (brL fn x p) (brH fn x p) (decide (brE fn x p=0))) NP:=by
  obtain⟨z1,z2⟩:=br_sz fn x p
  have kA:=fun {h0 h:PH} {w:Value} [Le h0 h] (c:Cn h0 w x)=>Apply_cn (h:=h) (fn:=fn) (p:=p) hk c bx
  clear hk
  generalize brE fn x p=e at*
  generalize brL fn x p=lo at*
  generalize brH fn x p=hi at*
  have ee:(e == 0)=decide (e=0):=by rw[Bool.eq_iff_iff];simp
  obtain⟨_,_,_,_,_,_,_,rfl,hx⟩:=hx.sa
  refine Spec.go [(2,.h [] [] [] [0,1,3,4,6,7,2,5,8,9,10])] Tryz.func8 rfl rfl (by kernel_rfl) fun C _=>?_
  try simp(maxSteps:=999999) (disch:=omega) only[go_sem,Nat.reduceBEq,Nat.reduceAdd]
  refine caN (by exact QRat_spec hx (Nat.le_trans bx (by decide))) ?_;rintro v1 h1 s1 q1;obtain⟨_,_,_,_,_,_,_,rfl,q1⟩:=q1.sa
  try simp(maxSteps:=999999) (disch:=omega) only[go_sem,Nat.reduceBEq,Nat.reduceAdd]
  refine caN (by exact kA q1) ?_;rintro v2 h2 s2 q2;obtain⟨_,_,_,_,_,_,_,_,_,_,_,_,_,_,rfl,c1,c2⟩:=q2
  try simp(maxSteps:=999999) (disch:=omega) only[go_sem,Nat.reduceBEq,Nat.reduceAdd]
  refine caN (by exact QOf_can c1 (Nat.le_trans z1 (by decide))) ?_;rintro v3 h3 s3 q3;obtain⟨_,_,_,_,_,_,_,rfl,q3⟩:=q3.sa
  try simp(maxSteps:=999999) (disch:=omega) only[go_sem,Nat.reduceBEq,Nat.reduceAdd]
  refine caN (by exact QOf_can (c2.to (h':=h3)) (Nat.le_trans z2 (by decide))) ?_;rintro v4 h4 s4 q4;obtain⟨_,_,_,_,_,_,_,rfl,q4⟩:=q4.sa
  try simp(maxSteps:=999999) (disch:=omega) only[go_sem,Nat.reduceBEq,Nat.reduceAdd]
  rw[ee]
  exact⟨_,_,_,_,_,_,_,_,_,_,_,_,_,_,rfl,q3.to,q4⟩
end Go.Q
namespace Go.Q
set_option maxRecDepth 100000
set_option maxHeartbeats 4000000
theorem eErr_opp {fn:Int} {x:Rat} {p:Int} (h2:fn≠2):eErr fn (-x) p=eErr fn x p:=by
  have e:defB fn (-x)=defB fn x:=by
    unfold defB
    rw[if_neg h2,if_neg h2,(opp_parts x).2.1,(opp_parts x).2.2]
  unfold eErr
  rw[e,sz_neg,(opp_parts x).2.1,(opp_parts x).2.2]
theorem opp_zero {x:Rat}: -x=0↔x=0:=by constructor<;>intro h<;>grind
theorem exB_opp {fn:Int} {x:Rat} (h2:fn≠2) (h7:fn≠7):exB fn (-x)=exB fn x:=by
  unfold exB
  rw[if_neg (by omega),if_neg (by omega),decide_eq_decide,opp_zero]
theorem pole_opp {x:Rat} {p:Nat} (h:rsK (-x) (p+64)= -rsK x (p+64)):pole (-x) p↔pole x p:=by
  obtain⟨_,_,e3,e4⟩:=sc_opp h
  unfold pole
  rw[e3,e4]
theorem elE_opp {fn:Int} {x:Rat} {p:Int} (h2:fn≠2) (h7:fn≠7) (h:fn≠5∨rsK (-x) (p.toNat+64)= -rsK x (p.toNat+64)):elE fn (-x) p=elE fn x p:=by
  unfold elE
  rw[eErr_opp h2,exB_opp h2 h7]
  rcases h with h |h
  · rw[if_neg (c:=fn=5∧pole (-x) p.toNat) (fun k=>h k.1),if_neg (c:=fn=5∧pole x p.toNat) (fun k=>h k.1)]
  · have e:=pole_opp (p:=p.toNat) h
    simp only[e]
theorem brE_opp {fn:Int} {x:Rat} {p:Int} (h2:fn≠2) (h7:fn≠7) (h:fn≠5∨rsK (-x) (p.toNat+64)= -rsK x (p.toNat+64)):brE fn (-x) p=brE fn x p:=by
  unfold brE
  rw[sz_neg,elE_opp h2 h7 h]
theorem br_p {fn:Int} {x:Rat} {p:Int} (h:brE fn x p=0):sz x≤1024∧0≤p∧p≤128:=by
  unfold brE at h
  split at h
  · cases h
  · unfold elE at h
    by_cases he:eErr fn x p=0
    · have:=eErr_p he;omega
    · rw[if_pos he] at h;exact absurd h he
theorem br_ser {fn:Int} {x:Rat} {p:Int} (h:brE fn x p=0):brL fn x p=(if exB fn x=true then exV fn x else serL fn x p.toNat)∧brH fn x p=(if exB fn x=true then exV fn x else serH fn x p.toNat):=by
  have b:=br_p h
  unfold brE at h
  rw[if_neg (by omega)] at h
  have n1:¬2048 < sz x:=by omega
  constructor
  · show(if 2048 < sz x then 0 else elL fn x p)=_
    rw[if_neg n1]
    show(if elE fn x p≠0 then 0 else if exB fn x=true then exV fn x else serL fn x p.toNat)=_
    rw[if_neg (fun c=>c h)]
  · show(if 2048 < sz x then 0 else elH fn x p)=_
    rw[if_neg n1]
    show(if elE fn x p≠0 then 0 else if exB fn x=true then exV fn x else serH fn x p.toNat)=_
    rw[if_neg (fun c=>c h)]
theorem ser_opp {fn:Int} {x:Rat} {p:Nat} (hf:fn=3∨fn=5∨fn=6∨fn=8) (h0:x≠0) (h:fn=6∨fn=8∨rsK (-x) (p+64)= -rsK x (p+64)):serL fn (-x) p= -serH fn x p∧serH fn (-x) p= -serL fn x p:=by
  rcases hf with rfl |rfl |rfl |rfl
  · have h:rsK (-x) (p+64)= -rsK x (p+64):=by rcases h with h |h |h<;>first |exact h |omega
    obtain⟨e1,e2,_,_⟩:=sc_opp h
    simp only[serL,serH]
    simp only[show((3:Int)=1)=False by decide,show((3:Int)=2)=False by decide,if_false,if_true,e1,e2,gd_opp,gu_opp,and_self]
  · have h:rsK (-x) (p+64)= -rsK x (p+64):=by rcases h with h |h |h<;>first |exact h |omega
    obtain⟨e1,e2⟩:=tq_opp h
    simp only[serL,serH,tanLo,tanHi]
    simp only[show((5:Int)=1)=False by decide,show((5:Int)=2)=False by decide,show((5:Int)=3)=False by decide,show((5:Int)=4)=False by decide,if_false,if_true,e1,e2,gd_opp,gu_opp,and_self]
  · simp only[serL,serH]
    simp only[show((6:Int)=1)=False by decide,show((6:Int)=2)=False by decide,show((6:Int)=3)=False by decide,show((6:Int)=4)=False by decide,show((6:Int)=5)=False by decide,if_false,if_true]
    exact as_opp h0
  · simp only[serL,serH]
    simp only[show((8:Int)=1)=False by decide,show((8:Int)=2)=False by decide,show((8:Int)=3)=False by decide,show((8:Int)=4)=False by decide,show((8:Int)=5)=False by decide,show((8:Int)=6)=False by decide,show((8:Int)=7)=False by decide,if_false]
    exact at_opp h0
theorem ser_opp4 {x:Rat} {p:Nat} (h:rsK (-x) (p+64)= -rsK x (p+64)):serL 4 (-x) p=serL 4 x p∧serH 4 (-x) p=serH 4 x p:=by
  obtain⟨_,_,e1,e2⟩:=sc_opp h
  simp only[serL,serH]
  simp only[show((4:Int)=1)=False by decide,show((4:Int)=2)=False by decide,show((4:Int)=3)=False by decide,if_false,if_true,e1,e2,and_self]
theorem br_odd {fn:Int} {x:Rat} {p:Int} (hf:fn=3∨fn=5∨fn=6∨fn=8) (h1:brE fn x p=0) (h2:brE fn (-x) p=0) (h:fn=6∨fn=8∨rsK (-x) (p.toNat+64)= -rsK x (p.toNat+64)):brL fn (-x) p= -brH fn x p∧brH fn (-x) p= -brL fn x p:=by
  obtain⟨a1,a2⟩:=br_ser h1
  obtain⟨a3,a4⟩:=br_ser h2
  rw[a1,a2,a3,a4,exB_opp (by omega) (by omega)]
  by_cases h0:x=0
  · have e:exB fn x=true:=by unfold exB;rw[if_neg (by omega)];exact decide_eq_true h0
    have e2:∀z,exV fn z=0:=fun z=>by unfold exV;rw[if_neg (by omega)]
    rw[e,e2,e2]
    show(0:Rat)= -0∧(0:Rat)= -0
    decide
  · have e:exB fn x=false:=by unfold exB;rw[if_neg (by omega)];exact decide_eq_false h0
    rw[e,if_neg (by decide),if_neg (by decide),if_neg (by decide),if_neg (by decide)]
    exact ser_opp hf h0 h
theorem br_even {x:Rat} {p:Int} (h1:brE 4 x p=0) (h2:brE 4 (-x) p=0) (h:rsK (-x) (p.toNat+64)= -rsK x (p.toNat+64)):brL 4 (-x) p=brL 4 x p∧brH 4 (-x) p=brH 4 x p:=by
  obtain⟨a1,a2⟩:=br_ser h1
  obtain⟨a3,a4⟩:=br_ser h2
  have e:exV 4 (-x)=exV 4 x:=by unfold exV;simp only[opp_zero]
  obtain⟨s1,s2⟩:=ser_opp4 h
  rw[a1,a2,a3,a4,exB_opp (by decide) (by decide),e,s1,s2]
  exact⟨rfl,rfl⟩
end Go.Q
namespace Go.Q
open Go.Proofs
set_option maxRecDepth 100000
set_option maxHeartbeats 16000000
def wideB (x:Rat):Prop:=1024 < sz x∨x.den*4294967296 < x.num.natAbs
instance (x:Rat):Decidable (wideB x):=inferInstanceAs (Decidable (_∨_))
end Go.Q
namespace Go.Q
open Go.Proofs
set_option maxRecDepth 100000
end Go.Q
namespace Go.Q
open Go.Proofs
set_option maxRecDepth 100000
set_option maxHeartbeats 8000000
theorem RNat_spec {h:PH} {k:Int} {n:Nat} (ek:IntKind.u64.wrap k=(n:Int)) (hn:n < 2^64):Spec mach 153 #[.int .i64 k] h (fun v h'=>N16 h' v n) NP:=by
  refine Spec.go [] Tryz.func153 rfl rfl (by kernel_rfl) fun C _=>?_
  try simp(disch:=omega) only[go_sem,Nat.reduceBEq,Nat.reduceAdd,ek]
  refine caN (by exact NatOf_spec (n:=n) hn) ?_;rintro _ g1 _ q1;obtain⟨v1,_,_,rfl,q1⟩:=q1.sl
  try simp(disch:=omega) only[go_sem,Nat.reduceBEq,Nat.reduceAdd]
  exact q1
theorem RDown_spec {h0 h:PH} [Le h0 h] {v w:Value} {a d:Nat} (hv:N16 h0 v a) (hw:N16 h0 w d) (hd:d≠0) (ba:bl a≤2^36) (bd:bl d≤2^36):Spec mach 183 #[v,w] h (fun v h'=>N16 h' v (a / d)) NP:=by
  have kD:=fun {h} [Le h0 h]=>NatDiv_spec (h:=h) hv hw hd (by omega) (by omega)
  obtain⟨_,_,_,rfl,_⟩:=hv.sl
  obtain⟨_,_,_,rfl,_⟩:=hw.sl
  refine Spec.go [] Tryz.func183 rfl rfl (by kernel_rfl) fun C _=>?_
  try simp(disch:=omega) only[go_sem,Nat.reduceBEq,Nat.reduceAdd]
  refine caN (by exact kD) ?_;rintro v1 h1 s1 ⟨q,r,rfl,hq,hr⟩;obtain⟨_,_,_,rfl,hq⟩:=hq.sl;obtain⟨_,_,_,rfl,hr⟩:=hr.sl
  try simp(disch:=omega) only[go_sem,Nat.reduceBEq,Nat.reduceAdd]
  exact hq
theorem RUp_spec {h0 h:PH} [Le h0 h] {v w:Value} {a d:Nat} (hv:N16 h0 v a) (hw:N16 h0 w d) (hd:d≠0) (ba:bl a≤2^36) (bd:bl d≤2^36):Spec mach 185 #[v,w] h (fun v h'=>N16 h' v (cdiv a d)) NP:=by
  have b1:=bl_div_le a d
  have kD:=fun {h} [Le h0 h]=>NatDiv_spec (h:=h) hv hw hd (by omega) (by omega)
  obtain⟨_,_,_,rfl,_⟩:=hv.sl
  obtain⟨_,_,_,rfl,_⟩:=hw.sl
  have e0:decide (cmp3 (a % d) 0 > 0)=decide (a % d≠0):=by unfold cmp3;grind
  by_cases he:a % d=0
  · rw[cdiv_0 hd he]
    rw[decide_eq_false (show ¬a % d≠0 from fun k=>k he)] at e0
    refine Spec.go [] Tryz.func185 rfl rfl (by kernel_rfl) fun C _=>?_
    try simp(disch:=omega) only[go_sem,Nat.reduceBEq,Nat.reduceAdd]
    refine caN (by exact kD) ?_;rintro v1 h1 s1 ⟨q,r,rfl,hq,hr⟩;obtain⟨_,_,_,rfl,hq⟩:=hq.sl;obtain⟨_,_,_,rfl,hr⟩:=hr.sl
    try simp(disch:=omega) only[go_sem,Nat.reduceBEq,Nat.reduceAdd]
    refine caN (by exact RNat_spec (k:=0) (n:=0) (by decide) (by decide)) ?_;rintro _ g2 _ q2;obtain⟨v2,_,_,rfl,q2⟩:=q2.sl
    try simp(disch:=omega) only[go_sem,Nat.reduceBEq,Nat.reduceAdd]
    refine caN (by exact NatCmp_spec (hr.to (h':=g2)) q2) ?_;rintro v3 h3 s3 rfl
    try simp(disch:=omega) only[go_sem,Nat.reduceBEq,Nat.reduceAdd,e0]
    exact hq.to
  · rw[cdiv_1 hd he]
    rw[decide_eq_true he] at e0
    refine Spec.go [] Tryz.func185 rfl rfl (by kernel_rfl) fun C _=>?_
    try simp(disch:=omega) only[go_sem,Nat.reduceBEq,Nat.reduceAdd]
    refine caN (by exact kD) ?_;rintro v1 h1 s1 ⟨q,r,rfl,hq,hr⟩;obtain⟨_,_,_,rfl,hq⟩:=hq.sl;obtain⟨_,_,_,rfl,hr⟩:=hr.sl
    try simp(disch:=omega) only[go_sem,Nat.reduceBEq,Nat.reduceAdd]
    refine caN (by exact RNat_spec (k:=0) (n:=0) (by decide) (by decide)) ?_;rintro _ g2 _ q2;obtain⟨v2,_,_,rfl,q2⟩:=q2.sl
    try simp(disch:=omega) only[go_sem,Nat.reduceBEq,Nat.reduceAdd]
    refine caN (by exact NatCmp_spec (hr.to (h':=g2)) q2) ?_;rintro v3 h3 s3 rfl
    try simp(disch:=omega) only[go_sem,Nat.reduceBEq,Nat.reduceAdd,e0]
    refine caN (by exact RNat_spec (k:=1) (n:=1) (by decide) (by decide)) ?_;rintro _ g4 _ q4;obtain⟨v4,_,_,rfl,q4⟩:=q4.sl
    try simp(disch:=omega) only[go_sem,Nat.reduceBEq,Nat.reduceAdd]
    refine caN (by exact NatAdd_spec (hq.to (h':=g4)) q4 (by omega) (by decide)) ?_;rintro _ g5 _ q5;obtain⟨v5,_,_,rfl,q5⟩:=q5.sl
    try simp(disch:=omega) only[go_sem,Nat.reduceBEq,Nat.reduceAdd]
    exact q5
theorem ROne_spec {h:PH} {w:Nat} (hw:w≤2^30):Spec mach 184 #[.int .i64 w] h (fun v h'=>N16 h' v (2^w)) NP:=by
  have e:=Nat.one_mul (2^w)
  refine Spec.go [] Tryz.func184 rfl rfl (by kernel_rfl) fun C _=>?_
  try simp(disch:=omega) only[go_sem,Nat.reduceBEq,Nat.reduceAdd]
  refine caN (by exact RNat_spec (k:=1) (n:=1) (by decide) (by decide)) ?_;rintro _ g1 _ q1;obtain⟨v1,_,_,rfl,q1⟩:=q1.sl
  try simp(disch:=omega) only[go_sem,Nat.reduceBEq,Nat.reduceAdd]
  refine caN (by exact NatShl_spec (n:=w) q1 (by have:=bl_one;omega)) ?_;rintro _ g2 _ q2;obtain⟨v2,_,_,rfl,q2⟩:=q2.sl
  try simp(disch:=omega) only[go_sem,Nat.reduceBEq,Nat.reduceAdd]
  rw[e] at q2
  exact q2
theorem RTimes_spec {h0 h:PH} [Le h0 h] {v w:Value} {a b n:Nat} {u:Bool} (hv:N16 h0 v a) (hw:N16 h0 w b) (ba:bl a≤2^30) (bb:bl b≤2^30) (hn:n≤2^30):Spec mach 191 #[v,w,.int .i64 n,.bool u] h (fun v h'=>N16 h' v (odiv (a*b) (2^n) u)) NP:=by
  have b1:=bl_mul a b
  have b2:=bl_pow2 n
  have kM:=fun {h} [Le h0 h]=>NatMul_spec (h:=h) hv hw (by omega) (by omega)
  obtain⟨_,_,_,rfl,_⟩:=hv.sl
  obtain⟨_,_,_,rfl,_⟩:=hw.sl
  cases u with
  | true=>
    refine Spec.go [] Tryz.func191 rfl rfl (by kernel_rfl) fun C _=>?_
    try simp(disch:=omega) only[go_sem,Nat.reduceBEq,Nat.reduceAdd]
    refine caN (by exact kM) ?_;rintro _ g1 _ q1;obtain⟨v1,_,_,rfl,q1⟩:=q1.sl
    try simp(disch:=omega) only[go_sem,Nat.reduceBEq,Nat.reduceAdd]
    refine caN (by exact ROne_spec (w:=n) (by omega)) ?_;rintro _ g2 _ q2;obtain⟨v2,_,_,rfl,q2⟩:=q2.sl
    try simp(disch:=omega) only[go_sem,Nat.reduceBEq,Nat.reduceAdd]
    refine caN (by exact RUp_spec (q1.to (h':=g2)) q2 (pow2_ne n) (by omega) (by omega)) ?_;rintro _ g3 _ q3;obtain⟨v3,_,_,rfl,q3⟩:=q3.sl
    try simp(disch:=omega) only[go_sem,Nat.reduceBEq,Nat.reduceAdd]
    exact q3
  | false=>
    refine Spec.go [] Tryz.func191 rfl rfl (by kernel_rfl) fun C _=>?_
    try simp(disch:=omega) only[go_sem,Nat.reduceBEq,Nat.reduceAdd]
    refine caN (by exact kM) ?_;rintro _ g1 _ q1;obtain⟨v1,_,_,rfl,q1⟩:=q1.sl
    try simp(disch:=omega) only[go_sem,Nat.reduceBEq,Nat.reduceAdd]
    refine caN (by exact ROne_spec (w:=n) (by omega)) ?_;rintro _ g2 _ q2;obtain⟨v2,_,_,rfl,q2⟩:=q2.sl
    try simp(disch:=omega) only[go_sem,Nat.reduceBEq,Nat.reduceAdd]
    refine caN (by exact RDown_spec (q1.to (h':=g2)) q2 (pow2_ne n) (by omega) (by omega)) ?_;rintro _ g3 _ q3;obtain⟨v3,_,_,rfl,q3⟩:=q3.sl
    try simp(disch:=omega) only[go_sem,Nat.reduceBEq,Nat.reduceAdd]
    exact q3
def altN (k x y d w:Nat) (u:Bool):Nat:=odiv (2^w*d - k*(x*y)) (k*d) u
theorem RAlternating_spec {h0 h:PH} [Le h0 h] {vx vy vd:Value} {x y d w k:Nat} {u:Bool} (hx:N16 h0 vx x) (hy:N16 h0 vy y) (hd:N16 h0 vd d) (hk:0 < k) (hk':k < 2^60) (hd0:d≠0) (hs:k*(x*y)≤2^w*d) (bx:bl x≤2^30) (by_:bl y≤2^30) (bd:bl d≤2^30) (hw:w≤2^30):
    Spec mach 192 #[.int .i64 k,vx,vy,vd,.int .i64 w,.bool u] h (fun v h'=>N16 h' v (altN k x y d w u)) NP:=by
  have b1:=bl_mul x y
  have b2:=bl_pow2 w
  have b3:=bl_mul (2^w) d
  have b4:=bl_mul k (x*y)
  have b5:bl k≤60:=bl_le.2 hk'
  have b6:=bl_mul k d
  have b7:bl (2^w*d - k*(x*y))≤bl (2^w*d):=bl_mono (Nat.sub_le _ _)
  have ek:IntKind.u64.wrap (k:Int)=(k:Int):=wu64 (by omega) (by omega)
  have hkd:k*d≠0:=Nat.mul_ne_zero (by omega) hd0
  obtain⟨_,_,_,rfl,_⟩:=hx.sl
  obtain⟨_,_,_,rfl,_⟩:=hy.sl
  obtain⟨_,_,_,rfl,_⟩:=hd.sl
  cases u
  all_goals
    refine Spec.go [] Tryz.func192 rfl rfl (by kernel_rfl) fun C _=>?_
    try simp(disch:=omega) only[go_sem,Nat.reduceBEq,Nat.reduceAdd]
    refine caN (by exact ROne_spec (w:=w) (by omega)) ?_;rintro _ g1 _ q1;obtain⟨v1,_,_,rfl,q1⟩:=q1.sl
    try simp(disch:=omega) only[go_sem,Nat.reduceBEq,Nat.reduceAdd]
    refine caN (by exact NatMul_spec q1 (hd.to (h':=g1)) (by omega) (by omega)) ?_;rintro _ g2 _ q2;obtain⟨v2,_,_,rfl,q2⟩:=q2.sl
    try simp(disch:=omega) only[go_sem,Nat.reduceBEq,Nat.reduceAdd]
    refine caN (by exact RNat_spec (n:=k) ek (by omega)) ?_;rintro _ g3 _ q3;obtain⟨v3,_,_,rfl,q3⟩:=q3.sl
    try simp(disch:=omega) only[go_sem,Nat.reduceBEq,Nat.reduceAdd]
    refine caN (by exact NatMul_spec (hx.to (h':=g3)) (hy.to (h':=g3)) (by omega) (by omega)) ?_;rintro _ g4 _ q4;obtain⟨v4,_,_,rfl,q4⟩:=q4.sl
    try simp(disch:=omega) only[go_sem,Nat.reduceBEq,Nat.reduceAdd]
    refine caN (by exact NatMul_spec (q3.to (h':=g4)) q4 (by omega) (by omega)) ?_;rintro _ g5 _ q5;obtain⟨v5,_,_,rfl,q5⟩:=q5.sl
    try simp(disch:=omega) only[go_sem,Nat.reduceBEq,Nat.reduceAdd]
    refine caN (by exact NatSub_spec (q2.to (h':=g5)) q5 hs (by omega)) ?_;rintro _ g6 _ q6;obtain⟨_,_,_,rfl,q6⟩:=q6.sl
    try simp(disch:=omega) only[go_sem,Nat.reduceBEq,Nat.reduceAdd]
    refine caN (by exact RNat_spec (n:=k) ek (by omega)) ?_;rintro _ g7 _ q7;obtain⟨_,_,_,rfl,q7⟩:=q7.sl
    try simp(disch:=omega) only[go_sem,Nat.reduceBEq,Nat.reduceAdd]
    refine caN (by exact NatMul_spec q7 (hd.to (h':=g7)) (by omega) (by omega)) ?_;rintro _ g8 _ q8;obtain⟨_,_,_,rfl,q8⟩:=q8.sl
    try simp(disch:=omega) only[go_sem,Nat.reduceBEq,Nat.reduceAdd]
  · refine caN (by exact RDown_spec (q6.to (h':=g8)) q8 hkd (by omega) (by omega)) ?_;rintro _ g9 _ q9;obtain⟨v9,_,_,rfl,q9⟩:=q9.sl
    try simp(disch:=omega) only[go_sem,Nat.reduceBEq,Nat.reduceAdd]
    exact q9
  · refine caN (by exact RUp_spec (q6.to (h':=g8)) q8 hkd (by omega) (by omega)) ?_;rintro _ g9 _ q9;obtain⟨v9,_,_,rfl,q9⟩:=q9.sl
    try simp(disch:=omega) only[go_sem,Nat.reduceBEq,Nat.reduceAdd]
    exact q9
end Go.Q
namespace Go.Q
open Go.Proofs
set_option maxRecDepth 100000
set_option maxHeartbeats 8000000
theorem RDen_spec {h0 h:PH} [Le h0 h] {v:Value} {x:Rat} (hx:Qr h0 v x):Spec mach 193 #[v] h (fun v h'=>N16 h' v x.den) NP:=by
  obtain⟨na,nl,nc,da,dl,dc,e,rfl,hn,hd,he⟩:=hx.sl
  have ld:=hd.len0
  by_cases h0:e=0
  · have e3:((dl:Int) == 0)=true:=by simp;omega
    refine Spec.go [] Tryz.func193 rfl rfl (by kernel_rfl) fun C _=>?_
    try simp(disch:=omega) only[go_sem,Nat.reduceBEq,Nat.reduceAdd,e3]
    refine caN (by exact RNat_spec (k:=1) (n:=1) (by decide) (by decide)) ?_;rintro _ g1 _ q1;obtain⟨v1,v1_l,v1_c,rfl,q1⟩:=q1.sl
    try simp(disch:=omega) only[go_sem,Nat.reduceBEq,Nat.reduceAdd]
    rw[←he,h0];exact q1
  · have e3:((dl:Int) == 0)=false:=by simp;omega
    refine Spec.go [] Tryz.func193 rfl rfl (by kernel_rfl) fun C _=>?_
    try simp(disch:=omega) only[go_sem,Nat.reduceBEq,Nat.reduceAdd,e3]
    rw[←he,dz_self h0];exact hd.to
theorem RGrid_spec {h0 h:PH} [Le h0 h] {v:Value} {x:Rat} {w:Nat} {u:Bool} (hx:Qr h0 v x) (bx:sz x≤2^30) (hw:w≤2^30):Spec mach 152 #[v,.int .i64 w,.bool u] h (fun v h'=>N16 h' v (odiv (x.num.natAbs*2^w) x.den u)) NP:=by
  have b1:=sz_num x
  have b2:=sz_den x
  have b3:=bl_shl x.num.natAbs w
  have hd0:x.den≠0:=x.den_nz
  have kD:=fun {h} [Le h0 h]=>RDen_spec (h:=h) hx
  obtain⟨na,nl,nc,da,dl,dc,e,rfl,hn,hd,he⟩:=hx.sl
  cases u with
  | true=>
    refine Spec.go [] Tryz.func152 rfl rfl (by kernel_rfl) fun C _=>?_
    try simp(disch:=omega) only[go_sem,Nat.reduceBEq,Nat.reduceAdd]
    refine caN (by exact NatShl_spec (n:=w) hn (by omega)) ?_;rintro _ g1 _ q1;obtain⟨v1,v1_l,v1_c,rfl,q1⟩:=q1.sl
    try simp(disch:=omega) only[go_sem,Nat.reduceBEq,Nat.reduceAdd]
    refine caN (by exact kD) ?_;rintro _ g2 _ q2;obtain⟨v2,v2_l,v2_c,rfl,q2⟩:=q2.sl
    try simp(disch:=omega) only[go_sem,Nat.reduceBEq,Nat.reduceAdd]
    refine caN (by exact RUp_spec (q1.to (h':=g2)) q2 hd0 (by omega) (by omega)) ?_;rintro _ g3 _ q3;obtain⟨v3,v3_l,v3_c,rfl,q3⟩:=q3.sl
    try simp(disch:=omega) only[go_sem,Nat.reduceBEq,Nat.reduceAdd]
    exact q3
  | false=>
    refine Spec.go [] Tryz.func152 rfl rfl (by kernel_rfl) fun C _=>?_
    try simp(disch:=omega) only[go_sem,Nat.reduceBEq,Nat.reduceAdd]
    refine caN (by exact NatShl_spec (n:=w) hn (by omega)) ?_;rintro _ g1 _ q1;obtain⟨v1,v1_l,v1_c,rfl,q1⟩:=q1.sl
    try simp(disch:=omega) only[go_sem,Nat.reduceBEq,Nat.reduceAdd]
    refine caN (by exact kD) ?_;rintro _ g2 _ q2;obtain⟨v2,v2_l,v2_c,rfl,q2⟩:=q2.sl
    try simp(disch:=omega) only[go_sem,Nat.reduceBEq,Nat.reduceAdd]
    refine caN (by exact RDown_spec (q1.to (h':=g2)) q2 hd0 (by omega) (by omega)) ?_;rintro _ g3 _ q3;obtain⟨v3,v3_l,v3_c,rfl,q3⟩:=q3.sl
    try simp(disch:=omega) only[go_sem,Nat.reduceBEq,Nat.reduceAdd]
    exact q3
theorem sgn_div_pow (n w:Nat):sgn false n 1 / 2^w=sgn false n (2^w):=by
  have e1:(1:Rat)⁻¹=1:=by grind
  simp[sgn,Rat.mkRat_eq_div,Rat.natCast_pow,Rat.div_def,e1]
theorem sz_sgn1 (n:Nat):sz (sgn false n 1)≤bl n+1:=by
  have:=sz_sgn false n (d:=1) (by decide)
  have:=bl_one
  omega
theorem RBack_spec {h0 h:PH} [Le h0 h] {v:Value} {n w:Nat} (hv:N16 h0 v n) (bn:bl n≤2^20) (hw:w≤2^20):Spec mach 106 #[v,.int .i64 w] h (fun v h'=>Qr h' v (sgn false n (2^w))) NP:=by
  have ew:IntKind.i64.wrap (0 - (w:Int))= -(w:Int):=by rw[wi64 (by omega) (by omega)];omega
  have b1:=sz_sgn1 n
  have kM:=fun {h1 h2:PH} {d:Value} [Le h0 h1] [Le h1 h2] (hd:N16 h1 d 1)=>Make_1 (h0:=h1) (h:=h2) (neg:=false) (hv.to (h':=h1)) hd (by omega)
  obtain⟨_,_,_,rfl,_⟩:=hv.sl
  refine Spec.go [] Tryz.func106 rfl rfl (by kernel_rfl) fun C _=>?_
  try simp(disch:=omega) only[go_sem,Nat.reduceBEq,Nat.reduceAdd]
  refine caN (by exact RNat_spec (k:=1) (n:=1) (by decide) (by decide)) ?_;rintro _ g1 _ q1;obtain⟨v1,v1_l,v1_c,rfl,q1⟩:=q1.sl
  try simp(disch:=omega) only[go_sem,Nat.reduceBEq,Nat.reduceAdd]
  refine caN (by exact kM q1) ?_;rintro v2 g2 s2 q2;obtain⟨_,_,_,_,_,_,_,rfl,q2⟩:=q2.sa
  try simp(disch:=omega) only[go_sem,Nat.reduceBEq,Nat.reduceAdd,ew]
  refine caN (by exact Unscaled_spec (p:=w) q2 rfl (by omega) (by omega)) ?_;rintro v3 g3 s3 q3;rw[sgn_div_pow] at q3;obtain⟨_,_,_,_,_,_,_,rfl,q3⟩:=q3.sa
  try simp(disch:=omega) only[go_sem,Nat.reduceBEq,Nat.reduceAdd]
  exact q3
theorem RFrac_spec {h:PH} {n:Nat} (hn:n < 2^20):Spec mach 23 #[.int .i64 1,.int .i64 n] h (fun v h'=>Qr h' v (1 / (n:Rat))) NP:=by
  have b1:sz ((1:Int):Rat)≤2^35:=by decide
  have b2:sz (((n:Int)):Rat)≤2^35:=by
    unfold sz
    have e1:bl ((((n:Int)):Rat).num.natAbs)≤64:=bl_le.2 (by simp;omega)
    have e2:bl ((((n:Int)):Rat).den)≤64:=bl_le.2 (by simp)
    omega
  have e:(((1:Int):Rat) / (((n:Int)):Rat))=1 / (n:Rat):=rfl
  refine Spec.go [] Tryz.func23 rfl rfl (by kernel_rfl) fun C _=>?_
  try simp(disch:=omega) only[go_sem,Nat.reduceBEq,Nat.reduceAdd]
  refine caN (by exact QInt_spec (n:=1) (by decide) (by decide)) ?_;rintro v1 g1 s1 q1;obtain⟨_,_,_,_,_,_,_,rfl,q1⟩:=q1.sa
  try simp(disch:=omega) only[go_sem,Nat.reduceBEq,Nat.reduceAdd]
  refine caN (by exact QInt_spec (n:=n) (by omega) (by omega)) ?_;rintro v2 g2 s2 q2;obtain⟨_,_,_,_,_,_,_,rfl,q2⟩:=q2.sa
  try simp(disch:=omega) only[go_sem,Nat.reduceBEq,Nat.reduceAdd]
  refine caN (by exact QDiv_spec (q1.to (h':=g2)) q2 b1 b2) ?_;rintro v3 g3 s3 q3;rw[e] at q3;obtain⟨_,_,_,_,_,_,_,rfl,q3⟩:=q3.sa
  try simp(disch:=omega) only[go_sem,Nat.reduceBEq,Nat.reduceAdd]
  exact q3
theorem frac_num {n:Nat} (hn:n≠0):(1 / (n:Rat)).num.natAbs=1∧(1 / (n:Rat)).den=n:=by
  obtain⟨h1,h2⟩:=sgn_num (neg:=false) hn (Nat.gcd_one_left n)
  have e:1 / (n:Rat)=sgn false 1 n:=by simp[sgn,Rat.mkRat_eq_div]
  rw[e,h1,h2]
  exact⟨rfl,rfl⟩
theorem arc_first {w t:Nat}:altN 79 t 1 81 w false=(2^w*81 - t*79) / (79*81):=by
  show(2^w*81 - 79*(t*1)) / (79*81)=_
  rw[Nat.mul_one,Nat.mul_comm 79 t]
theorem arc_firstU {w s:Nat}:altN 79 s 0 1 w true=cdiv (2^w) 79:=by
  show cdiv (2^w*1 - 79*(s*0)) (79*1)=_
  rw[Nat.mul_zero,Nat.mul_zero,Nat.mul_one,Nat.sub_zero,Nat.mul_one]
theorem alt_arc {w k x y:Nat} {u:Bool}:altN k x y (2^w) w u=odiv (2^w*2^w - x*y*k) (k*2^w) u:=by
  unfold altN
  rw[Nat.mul_comm k (x*y)]
theorem RArc_spec {h0 h:PH} [Le h0 h] {va vb:Value} {a b w:Nat} (hva:N16 h0 va a) (hvb:N16 h0 vb b) (la:a≤2^w) (lb:b≤2^w) (hw:20≤w) (hw':w≤1000):Spec mach 151 #[va,vb,.int .i64 w] h (fun v h'=>∃x m c y n d,v=.tuple #[.slice x m c,.slice y n d]∧N16 h' (.slice x m c) (arcL a b w)∧N16 h' (.slice y n d) (arcH a b w)) NP:=by
  have ba:bl a≤w+2:=bl_pow_le (by omega)
  have bb:bl b≤w+2:=bl_pow_le (by omega)
  obtain⟨bs,_⟩:=bl_sq (a:=a) la
  obtain⟨_,bt⟩:=bl_sq (a:=b) lb
  have hs:=sqL_le la
  have ht:=sqH_le lb
  have bA:∀{j c},j≤39→bl (arcV w (sqL a w) (sqH b w) c j)≤w+2:=fun hj=>bl_arcV hj
  have sA:∀{j},j < 39→_:=fun {j} hj=>arcV_sub (j:=j) hw hs ht hj
  have u1:=bl_pow2 w
  have u2:bl 0≤2^30:=by decide
  have u3:bl 1≤2^30:=by decide
  have u4:bl 81≤2^30:=by decide
  have w0:=pow2_ne w
  obtain⟨xa,ma,ca,rfl,hva⟩:=hva.sl
  obtain⟨xb,mb,cb,rfl,hvb⟩:=hvb.sl
  have w0:=Hid.mk w0
  have u3':=Hid.mk u3
  have u2':=Hid.mk u2
  have u4':=Hid.mk u4
  have h79:79*(sqH b w*1)≤2^w*81:=by omega
  have h79':79*(sqL a w*0)≤2^w*1:=by omega
  clear hs la lb
  have F:=Hid.mk (And.intro ba (And.intro bb (And.intro bs (And.intro bt (And.intro ht (And.intro u1 (And.intro u2 (And.intro u3 (And.intro u4 (And.intro h79 h79'))))))))));clear ba bb bs bt ht u1 u2 u3 u4 h79 h79'
  refine Spec.go [] Tryz.func151 rfl rfl (by kernel_rfl) fun C _=>?_
  try simp(disch:=omega) only[go_sem,Nat.reduceBEq,Nat.reduceAdd]
  refine caN (by exact RTimes_spec (u:=false) hva hva (by have:=F.out;omega) (by have:=F.out;omega) (by have:=F.out;omega)) ?_;rintro _ h1 _ q1;obtain⟨v1,v1_l,v1_c,rfl,q1⟩:=q1.sl
  try simp(disch:=omega) only[go_sem,Nat.reduceBEq,Nat.reduceAdd]
  have q1:N16 h1 (.slice v1 v1_l v1_c) (sqL a w):=q1
  refine caN (by exact RTimes_spec (u:=true) (hvb.to (h':=h1)) (hvb.to (h':=h1)) (by have:=F.out;omega) (by have:=F.out;omega) (by have:=F.out;omega)) ?_;rintro _ h2 _ q2;obtain⟨v2,v2_l,v2_c,rfl,q2⟩:=q2.sl
  try simp(disch:=omega) only[go_sem,Nat.reduceBEq,Nat.reduceAdd]
  have q2:N16 h2 (.slice v2 v2_l v2_c) (sqH b w):=q2
  have q1:=q1.to (h':=h2)
  refine caN (by exact RNat_spec (k:=0) (n:=0) (by decide) (by decide)) ?_;rintro _ h3 _ q3;obtain⟨v3,v3_l,v3_c,rfl,q3⟩:=q3.sl
  try simp(disch:=omega) only[go_sem,Nat.reduceBEq,Nat.reduceAdd]
  refine caN (by exact RNat_spec (k:=1) (n:=1) (by decide) (by decide)) ?_;rintro _ h4 _ q4;obtain⟨v4,v4_l,v4_c,rfl,q4⟩:=q4.sl
  try simp(disch:=omega) only[go_sem,Nat.reduceBEq,Nat.reduceAdd]
  refine caN (by exact RNat_spec (k:=1) (n:=1) (by decide) (by decide)) ?_;rintro _ h5 _ q5;obtain⟨v5,v5_l,v5_c,rfl,q5⟩:=q5.sl
  try simp(disch:=omega) only[go_sem,Nat.reduceBEq,Nat.reduceAdd]
  refine caN (by exact RNat_spec (k:=81) (n:=81) (by decide) (by decide)) ?_;rintro _ h6 _ q6;obtain⟨v6,v6_l,v6_c,rfl,q6⟩:=q6.sl
  try simp(disch:=omega) only[go_sem,Nat.reduceBEq,Nat.reduceAdd]
  refine lp [] (fun x':Value×Value×Value×Value×Nat=>⟨[(0,.v (.slice xa ma ca)),(1,.v (.slice xb mb cb)),(2,.v (.int .i64 w)),(8,.v (.slice v1 v1_l v1_c)),(9,.v (.slice v2 v2_l v2_c)),(10,.v x'.1),(11,.v x'.2.1),(12,.v x'.2.2.1),(13,.v x'.2.2.2.1),(14,.v (.int .i64 ((x'.2.2.2.2:Int) - 1)))],[]⟩) (fun x' h'=>Le h2 h'∧(x'.2.2.2.2=40∧N16 h' x'.1 0∧N16 h' x'.2.1 1∧N16 h' x'.2.2.1 1∧N16 h' x'.2.2.2.1 81∨x'.2.2.2.2≤39∧N16 h' x'.1 (arcV w (sqL a w) (sqH b w) false (39 - x'.2.2.2.2))∧N16 h' x'.2.1 (2^w)∧N16 h' x'.2.2.1 (arcV w (sqL a w) (sqH b w) true (39 - x'.2.2.2.2))∧N16 h' x'.2.2.2.1 (2^w))) (fun x'=>x'.2.2.2.2) (.slice v3 v3_l v3_c,.slice v4 v4_l v4_c,.slice v5 v5_l v5_c,.slice v6 v6_l v6_c,40) ?_ ⟨inferInstance,.inl ⟨rfl,q3.to,q4.to,q5.to,q6⟩⟩ (by kernel_rfl) ?_
  · try simp(disch:=omega) only[go_sem,Nat.reduceBEq,Nat.reduceAdd]
    all_goals rfl
  rintro⟨vl,vld,vu,vud,i⟩ g0 ⟨le0,hi⟩
  dsimp only at hi ⊢
  rcases hi with⟨rfl,hl,hld,hu,hud⟩ |⟨hi,hl,hld,hu,hud⟩
  · try simp(disch:=omega) only[go_sem,Nat.reduceBEq,Nat.reduceAdd]
    refine caN (by exact RAlternating_spec (k:=79) (w:=w) (u:=false) (q2.to (h':=g0)) hu hud (by decide) (by decide) (by decide) (by have:=F.out;omega) (show bl (sqH b w)≤2^30 by have:=F.out;omega) u3'.out u4'.out (by have:=F.out;omega)) ?_;rintro _ g1 _ r1;obtain⟨w1,w1_l,w1_c,rfl,r1⟩:=r1.sl
    try simp(disch:=omega) only[go_sem,Nat.reduceBEq,Nat.reduceAdd]
    refine caN (by exact RAlternating_spec (k:=79) (w:=w) (u:=true) (q1.to (h':=g1)) (hl.to (h':=g1)) (hld.to (h':=g1)) (by decide) (by decide) (by decide) (by have:=F.out;omega) (show bl (sqL a w)≤2^30 by have:=F.out;omega) u2'.out u3'.out (by have:=F.out;omega)) ?_;rintro _ g2 _ r2;obtain⟨w2,w2_l,w2_c,rfl,r2⟩:=r2.sl
    try simp(disch:=omega) only[go_sem,Nat.reduceBEq,Nat.reduceAdd]
    rw[arc_first] at r1
    rw[arc_firstU] at r2
    try simp(disch:=omega) only[go_sem,Nat.reduceBEq,Nat.reduceAdd]
    refine caN (by exact ROne_spec (w:=w) (by have:=F.out;omega)) ?_;rintro _ g3 _ r3;obtain⟨w3,w3_l,w3_c,rfl,r3⟩:=r3.sl
    try simp(disch:=omega) only[go_sem,Nat.reduceBEq,Nat.reduceAdd]
    refine caN (by exact ROne_spec (w:=w) (by have:=F.out;omega)) ?_;rintro _ g4 _ r4;obtain⟨w4,w4_l,w4_c,rfl,r4⟩:=r4.sl
    try simp(disch:=omega) only[go_sem,Nat.reduceBEq,Nat.reduceAdd]
    dsimp only[lpE];refine⟨(_,_,_,_,39),?_,⟨Le.trn le0 inferInstance,.inr ⟨(show 39≤39 by decide),by show N16 _ _ (arcV _ _ _ _ (39 - 39));rw[Nat.sub_self,arcV_0];exact r1.to,r3.to,by show N16 _ _ (arcV _ _ _ _ (39 - 39));rw[Nat.sub_self,arcV_0'];exact r2.to,r4⟩⟩,(show 39 < 40 by decide)⟩
    try simp(disch:=omega) only[go_sem,Nat.reduceBEq,Nat.reduceAdd]
    all_goals rfl
  · cases i with
    | zero=>
      rw[Nat.sub_zero] at hl hu
      have b1:=bA (j:=39) (c:=false) (Nat.le_refl _)
      have b2:=bA (j:=39) (c:=true) (Nat.le_refl _)
      have le1:Le h0 g0:=Le.trn inferInstance le0
      obtain⟨_,_,_,rfl,hl⟩:=hl.sl
      obtain⟨_,_,_,rfl,hu⟩:=hu.sl
      have F:=Hid.mk (And.intro F.out (And.intro b1 b2));clear b1 b2
      try simp(disch:=omega) only[go_sem,Nat.reduceBEq,Nat.reduceAdd]
      refine caN (by exact RTimes_spec (u:=false) (hva.to (h':=g0)) hl (by have:=F.out;omega) (show bl (arcV w (sqL a w) (sqH b w) false 39)≤2^30 by have:=F.out;omega) (by have:=F.out;omega)) ?_;rintro _ g1 _ r1;obtain⟨w1,w1_l,w1_c,rfl,r1⟩:=r1.sl
      try simp(disch:=omega) only[go_sem,Nat.reduceBEq,Nat.reduceAdd]
      refine caN (by exact RTimes_spec (u:=true) (hvb.to (h':=g1)) (hu.to (h':=g1)) (by have:=F.out;omega) (show bl (arcV w (sqL a w) (sqH b w) true 39)≤2^30 by have:=F.out;omega) (by have:=F.out;omega)) ?_;rintro _ g2 _ r2;obtain⟨w2,w2_l,w2_c,rfl,r2⟩:=r2.sl
      try simp(disch:=omega) only[go_sem,Nat.reduceBEq,Nat.reduceAdd]
      exact⟨_,_,_,_,_,_,rfl,r1.to,r2⟩
    | succ i=>
      obtain⟨j,hj,ej⟩:∃j,j < 39∧39 - (i+1)=j:=⟨_,by have:=F.out;omega,rfl⟩
      have en:39 - i=j+1:=by have:=F.out;omega
      have eo:77 - 2*j=2*i+1:=by have:=F.out;omega
      rw[ej] at hl hu
      obtain⟨s1,s2⟩:=sA hj
      rw[eo] at s1 s2
      rw[Nat.mul_comm _ (2*i+1)] at s1 s2
      have b1:=bA (j:=j) (c:=false) (by have:=F.out;omega)
      have b2:=bA (j:=j) (c:=true) (by have:=F.out;omega)
      have s1:=Hid.mk s1
      have s2:=Hid.mk s2
      have eo:=Hid.mk eo
      have en:=Hid.mk en
      clear ej hj
      have F:=Hid.mk (And.intro F.out (And.intro b1 b2));clear b1 b2
      try simp(disch:=omega) only[go_sem,Nat.reduceBEq,Nat.reduceAdd]
      refine caN (by exact RAlternating_spec (k:=2*i+1) (w:=w) (u:=false) (q2.to (h':=g0)) hu hud (by have:=F.out;omega) (by have:=F.out;omega) w0.out s1.out (show bl (sqH b w)≤2^30 by have:=F.out;omega) (by have:=F.out;omega) (by have:=F.out;omega) (by have:=F.out;omega)) ?_;rintro _ g1 _ r1;obtain⟨w1,w1_l,w1_c,rfl,r1⟩:=r1.sl
      try simp(disch:=omega) only[go_sem,Nat.reduceBEq,Nat.reduceAdd]
      refine caN (by exact RAlternating_spec (k:=2*i+1) (w:=w) (u:=true) (q1.to (h':=g1)) (hl.to (h':=g1)) (hld.to (h':=g1)) (by have:=F.out;omega) (by have:=F.out;omega) w0.out s2.out (show bl (sqL a w)≤2^30 by have:=F.out;omega) (by have:=F.out;omega) (by have:=F.out;omega) (by have:=F.out;omega)) ?_;rintro _ g2 _ r2;obtain⟨w2,w2_l,w2_c,rfl,r2⟩:=r2.sl
      try simp(disch:=omega) only[go_sem,Nat.reduceBEq,Nat.reduceAdd]
      rw[alt_arc] at r1 r2
      try simp(disch:=omega) only[go_sem,Nat.reduceBEq,Nat.reduceAdd]
      refine caN (by exact ROne_spec (w:=w) (by have:=F.out;omega)) ?_;rintro _ g3 _ r3;obtain⟨w3,w3_l,w3_c,rfl,r3⟩:=r3.sl
      try simp(disch:=omega) only[go_sem,Nat.reduceBEq,Nat.reduceAdd]
      refine caN (by exact ROne_spec (w:=w) (by have:=F.out;omega)) ?_;rintro _ g4 _ r4;obtain⟨w4,w4_l,w4_c,rfl,r4⟩:=r4.sl
      try simp(disch:=omega) only[go_sem,Nat.reduceBEq,Nat.reduceAdd]
      dsimp only[lpE];refine⟨(.slice w1 w1_l w1_c,.slice w3 w3_l w3_c,.slice w2 w2_l w2_c,.slice w4 w4_l w4_c,i),?_,⟨Le.trn le0 inferInstance,.inr ⟨(show i≤39 by have:=F.out;omega),?_,r3.to,?_,r4⟩⟩,(show i < i+1 by have:=F.out;omega)⟩
      · try simp(disch:=omega) only[go_sem,Nat.reduceBEq,Nat.reduceAdd]
        all_goals rfl
      · show N16 _ _ (arcV _ _ _ false (39 - i))
        rw[en.out,arcV_s,eo.out]
        exact r1.to
      · show N16 _ _ (arcV _ _ _ true (39 - i))
        rw[en.out,arcV_s',eo.out]
        exact r2.to
theorem RPi_spec {h:PH} {w:Nat} (hw:32≤w) (hw':w≤192):Spec mach 105 #[.int .i64 w] h (fun v h'=>∃x m c y n d,v=.tuple #[.slice x m c,.slice y n d]∧N16 h' (.slice x m c) (piL w)∧N16 h' (.slice y n d) (piH w)) NP:=by
  obtain⟨z1,z2,_,_⟩:=pi_sub hw hw'
  obtain⟨b1,b2⟩:=bl_fif (n:=5) (w:=w) (by decide)
  obtain⟨b3,b4⟩:=bl_fif (n:=239) (w:=w) (by decide)
  have b5:=bl_mul 16 (fifL 5 w)
  have b6:=bl_mul 16 (fifH 5 w)
  have u1:bl 16=5:=by decide
  have u2:bl 4=3:=by decide
  obtain⟨l1,l2⟩:=fif_le 5 (w:=w) (by decide)
  obtain⟨l3,l4⟩:=fif_le 239 (w:=w) (by decide)
  have s5:sz (1 / ((5:Nat):Rat))≤2^30:=by unfold sz;rw[(frac_num (n:=5) (by decide)).1,(frac_num (n:=5) (by decide)).2];decide
  have s9:sz (1 / ((239:Nat):Rat))≤2^30:=by unfold sz;rw[(frac_num (n:=239) (by decide)).1,(frac_num (n:=239) (by decide)).2];decide
  have G:∀{n:Nat} {u:Bool} {h0 h:PH} {v:Value} [Le h0 h],n≠0→sz (1 / (n:Rat))≤2^30→Qr h0 v (1 / (n:Rat))→Spec mach 152 #[v,.int .i64 w,.bool u] h (fun v h'=>N16 h' v (odiv (2^w) n u)) NP:=by
    intro n u h0 h v _ hn hs hq
    have:=RGrid_spec (h:=h) (w:=w) (u:=u) hq hs (by omega)
    rw[(frac_num hn).1,(frac_num hn).2,Nat.one_mul] at this
    exact this
  have e1:16*fifL 5 w - 4*fifH 239 w=piL w:=by unfold piL;omega
  have e2:16*fifH 5 w - 4*fifL 239 w=piH w:=by unfold piH;omega
  have e1:=Hid.mk e1
  have e2:=Hid.mk e2
  have s5:=Hid.mk s5
  have s9:=Hid.mk s9
  have l1:=Hid.mk l1
  have l2:=Hid.mk l2
  have l3:=Hid.mk l3
  have l4:=Hid.mk l4
  have z1':4*fifH 239 w≤16*fifL 5 w:=by omega
  have z2':4*fifL 239 w≤16*fifH 5 w:=by omega
  clear z1 z2
  have F:=Hid.mk (And.intro z1' (And.intro z2' (And.intro b1 (And.intro b2 (And.intro b3 (And.intro b4 (And.intro b5 (And.intro b6 (And.intro u1 u2)))))))));clear z1' z2' b1 b2 b3 b4 b5 b6 u1 u2
  refine Spec.go [] Tryz.func105 rfl rfl (by kernel_rfl) fun C _=>?_
  try simp(disch:=omega) only[go_sem,Nat.reduceBEq,Nat.reduceAdd]
  refine caN (by exact RFrac_spec (n:=5) (by decide)) ?_;rintro v1 h1 s1 q1;obtain⟨_,_,_,_,_,_,_,rfl,q1⟩:=q1.sa
  try simp(disch:=omega) only[go_sem,Nat.reduceBEq,Nat.reduceAdd]
  refine caN (by exact G (u:=false) (by decide) s5.out q1) ?_;rintro _ h2 _ q2;obtain⟨v2,v2_l,v2_c,rfl,q2⟩:=q2.sl
  try simp(disch:=omega) only[go_sem,Nat.reduceBEq,Nat.reduceAdd]
  refine caN (by exact RFrac_spec (n:=5) (by decide)) ?_;rintro v3 h3 s3 q3;obtain⟨_,_,_,_,_,_,_,rfl,q3⟩:=q3.sa
  try simp(disch:=omega) only[go_sem,Nat.reduceBEq,Nat.reduceAdd]
  refine caN (by exact G (u:=true) (by decide) s5.out q3) ?_;rintro _ h4 _ q4;obtain⟨v4,v4_l,v4_c,rfl,q4⟩:=q4.sl
  try simp(disch:=omega) only[go_sem,Nat.reduceBEq,Nat.reduceAdd]
  refine caN (by exact RArc_spec (a:=2^w / 5) (b:=cdiv (2^w) 5) (w:=w) (q2.to (h':=h4)) q4 l1.out l2.out (by have:=F.out;omega) (by have:=F.out;omega)) ?_;rintro v5 h5 s5' ⟨_,_,_,_,_,_,rfl,q5,q6⟩
  try simp(disch:=omega) only[go_sem,Nat.reduceBEq,Nat.reduceAdd]
  refine caN (by exact RFrac_spec (n:=239) (by decide)) ?_;rintro v6 h6 s6 q7;obtain⟨_,_,_,_,_,_,_,rfl,q7⟩:=q7.sa
  try simp(disch:=omega) only[go_sem,Nat.reduceBEq,Nat.reduceAdd]
  refine caN (by exact G (u:=false) (by decide) s9.out q7) ?_;rintro _ h7 _ q8;obtain⟨_,_,_,rfl,q8⟩:=q8.sl
  try simp(disch:=omega) only[go_sem,Nat.reduceBEq,Nat.reduceAdd]
  refine caN (by exact RFrac_spec (n:=239) (by decide)) ?_;rintro v8 h8 s8 q9;obtain⟨_,_,_,_,_,_,_,rfl,q9⟩:=q9.sa
  try simp(disch:=omega) only[go_sem,Nat.reduceBEq,Nat.reduceAdd]
  refine caN (by exact G (u:=true) (by decide) s9.out q9) ?_;rintro _ h9 _ q10;obtain⟨_,_,_,rfl,q10⟩:=q10.sl
  try simp(disch:=omega) only[go_sem,Nat.reduceBEq,Nat.reduceAdd]
  refine caN (by exact RArc_spec (a:=2^w / 239) (b:=cdiv (2^w) 239) (w:=w) (q8.to (h':=h9)) q10 l3.out l4.out (by have:=F.out;omega) (by have:=F.out;omega)) ?_;rintro v10 h10 s10 ⟨_,_,_,_,_,_,rfl,q11,q12⟩
  try simp(disch:=omega) only[go_sem,Nat.reduceBEq,Nat.reduceAdd]
  have q5:N16 h5 _ (fifL 5 w):=q5
  have q6:N16 h5 _ (fifH 5 w):=q6
  have q11:N16 h10 _ (fifL 239 w):=q11
  have q12:N16 h10 _ (fifH 239 w):=q12
  try simp(disch:=omega) only[go_sem,Nat.reduceBEq,Nat.reduceAdd]
  refine caN (by exact RNat_spec (k:=16) (n:=16) (by decide) (by decide)) ?_;rintro _ h11 _ q13;obtain⟨_,_,_,rfl,q13⟩:=q13.sl
  try simp(disch:=omega) only[go_sem,Nat.reduceBEq,Nat.reduceAdd]
  refine caN (by exact NatMul_spec q13 (q5.to (h':=h11)) (by have:=F.out;omega) (by have:=F.out;omega)) ?_;rintro _ h12 _ q14;obtain⟨v12,_,_,rfl,q14⟩:=q14.sl
  try simp(disch:=omega) only[go_sem,Nat.reduceBEq,Nat.reduceAdd]
  refine caN (by exact RNat_spec (k:=4) (n:=4) (by decide) (by decide)) ?_;rintro _ h13 _ q15;obtain⟨_,_,_,rfl,q15⟩:=q15.sl
  try simp(disch:=omega) only[go_sem,Nat.reduceBEq,Nat.reduceAdd]
  refine caN (by exact NatMul_spec q15 (q12.to (h':=h13)) (by have:=F.out;omega) (by have:=F.out;omega)) ?_;rintro _ h14 _ q16;obtain⟨v14,_,_,rfl,q16⟩:=q16.sl
  try simp(disch:=omega) only[go_sem,Nat.reduceBEq,Nat.reduceAdd]
  refine caN (by exact NatSub_spec (q14.to (h':=h14)) q16 (by have:=F.out;omega) (by have:=F.out;omega)) ?_;rintro _ h15 _ q17;obtain⟨v15,_,_,rfl,q17⟩:=q17.sl
  try simp(disch:=omega) only[go_sem,Nat.reduceBEq,Nat.reduceAdd]
  refine caN (by exact RNat_spec (k:=16) (n:=16) (by decide) (by decide)) ?_;rintro _ h16 _ q18;obtain⟨_,_,_,rfl,q18⟩:=q18.sl
  try simp(disch:=omega) only[go_sem,Nat.reduceBEq,Nat.reduceAdd]
  refine caN (by exact NatMul_spec q18 (q6.to (h':=h16)) (by have:=F.out;omega) (by have:=F.out;omega)) ?_;rintro _ h17 _ q19;obtain⟨v17,_,_,rfl,q19⟩:=q19.sl
  try simp(disch:=omega) only[go_sem,Nat.reduceBEq,Nat.reduceAdd]
  refine caN (by exact RNat_spec (k:=4) (n:=4) (by decide) (by decide)) ?_;rintro _ h18 _ q20;obtain⟨_,_,_,rfl,q20⟩:=q20.sl
  try simp(disch:=omega) only[go_sem,Nat.reduceBEq,Nat.reduceAdd]
  refine caN (by exact NatMul_spec q20 (q11.to (h':=h18)) (by have:=F.out;omega) (by have:=F.out;omega)) ?_;rintro _ h19 _ q21;obtain⟨v19,_,_,rfl,q21⟩:=q21.sl
  try simp(disch:=omega) only[go_sem,Nat.reduceBEq,Nat.reduceAdd]
  refine caN (by exact NatSub_spec (q19.to (h':=h19)) q21 (by have:=F.out;omega) (by have:=F.out;omega)) ?_;rintro _ h20 _ q22;obtain⟨v20,_,_,rfl,q22⟩:=q22.sl
  try simp(disch:=omega) only[go_sem,Nat.reduceBEq,Nat.reduceAdd]
  rw[e1.out] at q17
  rw[e2.out] at q22
  exact⟨_,_,_,_,_,_,rfl,q17.to,q22⟩
end Go.Q
namespace Go.Q
open Go.Proofs
set_option maxRecDepth 100000
set_option maxHeartbeats 8000000
theorem EReady_exp {h0 h:PH} [Le h0 h] {v:Value} {x:Rat} {p:Int} (hx:Rv h0 v x) (hp:0≤p∧p≤128) (hl:¬1024 < sz x) (hb:¬x.den*64 < x.num.natAbs):Spec mach 94 #[.int .i64 1,v,.int .i64 p] h (fun r h'=>∃b na nl nc da dl dc,r=.tuple #[.agg #[.bool b,.slice na nl nc,.slice da dl dc],.int .i64 0]∧Cn h' (.agg #[.bool b,.slice na nl nc,.slice da dl dc]) x) NP:=by
  have kK:=fun {h} [Le h0 h]=>EKnown_ok (h:=h) (fn:=1) hx (by decide)
  have bx:=hx.sz
  obtain⟨_,_,_,_,_,_,_,rfl,_⟩:=hx.sa
  have d1:defB 1 x=true:=rfl
  refine Spec.go [] Tryz.func94 rfl rfl (by kernel_rfl) fun C _=>?_
  try simp(disch:=omega) only[go_sem,Nat.reduceBEq,Nat.reduceAdd]
  refine caN (by exact kK) ?_;rintro v1 h1 s1 ⟨_,_,_,_,_,_,_,rfl,c⟩
  try simp(disch:=omega) only[go_sem,Nat.reduceBEq,Nat.reduceAdd]
  refine caN (by exact EDefined_spec (fn:=1) c) ?_;rintro v2 h2 s2 rfl
  try simp(disch:=omega) only[go_sem,Nat.reduceBEq,Nat.reduceAdd]
  rw[d1]
  try simp(disch:=omega) only[go_sem,Nat.reduceBEq,Nat.reduceAdd]
  refine caN (by exact TooLong_spec (c.to (h':=h2))) ?_;rintro v3 h3 s3 rfl
  try simp(disch:=omega) only[go_sem,Nat.reduceBEq,Nat.reduceAdd]
  try rw[decide_eq_false hl]
  try simp(disch:=omega) only[go_sem,Nat.reduceBEq,Nat.reduceAdd]
  refine caN (by exact Beyond_spec (n:=64) (c.to (h':=h3)) (by omega) (by decide)) ?_;rintro v4 h4 s4 rfl
  try simp(disch:=omega) only[go_sem,Nat.reduceBEq,Nat.reduceAdd]
  try rw[decide_eq_false hb]
  try simp(disch:=omega) only[go_sem,Nat.reduceBEq,Nat.reduceAdd]
  exact⟨_,_,_,_,_,_,_,rfl,c.to⟩
theorem EApply_exp {h0 h:PH} [Le h0 h] {v:Value} {x y z:Rat} {p:Int} {g:FuncId} (hx:Rv h0 v x) (hp:0≤p∧p≤128) (hl:¬1024 < sz x) (hb:¬x.den*64 < x.num.natAbs) (hx0:x≠0) (hg:∀{h0 h:PH} {a:Value} [Le h0 h],Cn h0 a x→Spec mach g #[a,.int .i64 p] h (fun r h'=>Be h' r y z) NP):
    Spec mach 43 #[.int .i64 1,v,.int .i64 p,.func (.func g) #[] #[]] h (fun r h'=>Be h' r y z) NP:=by
  have kK:=fun {h} [Le h0 h]=>EReady_exp (h:=h) hx hp hl hb
  have e1:exB 1 x=false:=by unfold exB;rw[if_neg (by decide)];exact decide_eq_false hx0
  have kE:=fun {h1 h:PH} {a:Value} [Le h1 h] (c:Cn h1 a x)=>EExact_spec (h:=h) (fn:=1) c
  rw[e1] at kE
  obtain⟨_,_,_,_,_,_,_,rfl,_⟩:=hx.sa
  refine Spec.go [] Tryz.func43 rfl rfl (by kernel_rfl) fun C _=>?_
  try simp(disch:=omega) only[go_sem,Nat.reduceBEq,Nat.reduceAdd]
  refine caN (by exact kK) ?_;rintro v1 h1 s1 ⟨_,_,_,_,_,_,_,rfl,c⟩
  try simp(disch:=omega) only[go_sem,Nat.reduceBEq,Nat.reduceAdd]
  refine caN (by exact kE c) ?_;rintro v2 h2 s2 ⟨_,_,_,_,_,_,_,rfl,_⟩
  try simp(disch:=omega) only[go_sem,Nat.reduceBEq,Nat.reduceAdd]
  refine caN (by exact hg (c.to (h':=h2))) ?_;rintro v3 h3 s3 ⟨_,_,_,_,_,_,_,_,_,_,_,_,_,_,rfl,q3⟩
  try simp(disch:=omega) only[go_sem,Nat.reduceBEq,Nat.reduceAdd]
  exact⟨_,_,_,_,_,_,_,_,_,_,_,_,_,_,rfl,q3⟩
theorem FExp_ok {h0 h:PH} [Le h0 h] {v:Value} {x:Rat} {p:Nat} (hx:Rv h0 v x) (hp:p≤128) (hl:¬1024 < sz x) (hb:¬x.den*64 < x.num.natAbs) (hx0:x≠0):Spec mach 22 #[v,.int .i64 p] h (fun r h'=>Be h' r (expLo x p) (expHi x p)) NP:=by
  have kA:=fun {h} [Le h0 h]=>EApply_exp (h:=h) (p:=p) (g:=34) hx (by omega) hl hb hx0 (fun {h0 h a} _ c=>EExp_spec c (by omega) hb hp)
  obtain⟨_,_,_,_,_,_,_,rfl,_⟩:=hx.sa
  clear hl hb
  refine Spec.go [] Tryz.func22 rfl rfl (by kernel_rfl) fun C _=>?_
  try simp(disch:=omega) only[go_sem,Nat.reduceBEq,Nat.reduceAdd]
  refine caN (by exact kA) ?_;rintro v1 h1 s1 ⟨_,_,_,_,_,_,_,_,_,_,_,_,_,_,rfl,r1,r2⟩
  try simp(disch:=omega) only[go_sem,Nat.reduceBEq,Nat.reduceAdd]
  exact⟨_,_,_,_,_,_,_,_,_,_,_,_,_,_,rfl,r1,r2⟩
end Go.Q
namespace Go.Q
open Go.Proofs
set_option maxRecDepth 100000
set_option maxHeartbeats 8000000
theorem RFrac2_spec {h:PH} {a b:Nat} (ha:a < 2^20) (hb:b < 2^20):Spec mach 23 #[.int .i64 a,.int .i64 b] h (fun v h'=>Qr h' v ((a:Rat) / (b:Rat))) NP:=by
  have S:∀{n:Nat},n < 2^20→sz (((n:Int)):Rat)≤2^35:=by
    intro n hn
    unfold sz
    have e1:bl ((((n:Int)):Rat).num.natAbs)≤64:=bl_le.2 (by simp;omega)
    have e2:bl ((((n:Int)):Rat).den)≤64:=bl_le.2 (by simp)
    omega
  have b1:=S ha
  have b2:=S hb
  have e:((((a:Int)):Rat) / (((b:Int)):Rat))=(a:Rat) / (b:Rat):=rfl
  refine Spec.go [] Tryz.func23 rfl rfl (by kernel_rfl) fun C _=>?_
  try simp(disch:=omega) only[go_sem,Nat.reduceBEq,Nat.reduceAdd]
  refine caN (by exact QInt_spec (n:=a) (by omega) (by omega)) ?_;rintro v1 g1 s1 q1;obtain⟨_,_,_,_,_,_,_,rfl,q1⟩:=q1.sa
  try simp(disch:=omega) only[go_sem,Nat.reduceBEq,Nat.reduceAdd]
  refine caN (by exact QInt_spec (n:=b) (by omega) (by omega)) ?_;rintro v2 g2 s2 q2;obtain⟨_,_,_,_,_,_,_,rfl,q2⟩:=q2.sa
  try simp(disch:=omega) only[go_sem,Nat.reduceBEq,Nat.reduceAdd]
  refine caN (by exact QDiv_spec (q1.to (h':=g2)) q2 b1 b2) ?_;rintro v3 g3 s3 q3;rw[e] at q3;obtain⟨_,_,_,_,_,_,_,rfl,q3⟩:=q3.sa
  try simp(disch:=omega) only[go_sem,Nat.reduceBEq,Nat.reduceAdd]
  exact q3
theorem exp_sane1:expLo 1 3=((21:Nat):Rat) / ((8:Nat):Rat):=by
  unfold expLo
  rw[if_neg (by decide),show expL 1 3 / 2^112=21 by decide+kernel]
  decide+kernel
theorem exp_sane2:expHi 1 3=((11:Nat):Rat) / ((4:Nat):Rat):=by
  unfold expHi
  rw[if_neg (by decide),show cdiv (expH 1 3) (2^112)=22 by decide+kernel]
  decide+kernel
theorem one_rv {h:PH} {b:Nat} (hb:h b=some #[.int .u32 1]):Rv h (.agg #[.bool false,.slice (some ⟨b,0,none⟩) 1 1,.slice none 0 0]) 1:=by
  have e:qof false 1 0=1:=by decide+kernel
  refine⟨false,1,0,⟨some ⟨b,0,none⟩,1,[1],none,0,[],rfl,Arr.of_row (fun _=>hb) (by decide) (by decide) (by decide),Arr.nil _,rfl,rfl,by decide,by decide⟩,?_,e⟩
  unfold lg
  rw[e]
  decide+kernel
theorem sane_spec {h:PH}:Spec mach 6 #[] h (fun r _=>r=.bool true) NP:=by
  have z1:sz (((21:Nat):Rat) / ((8:Nat):Rat))≤2^30:=by decide+kernel
  have z2:sz (((11:Nat):Rat) / ((4:Nat):Rat))≤2^30:=by decide+kernel
  have e1:decide (((21:Nat):Rat) / ((8:Nat):Rat)=((21:Nat):Rat) / ((8:Nat):Rat))=true:=decide_eq_true rfl
  have e2:decide (((11:Nat):Rat) / ((4:Nat):Rat)=((11:Nat):Rat) / ((4:Nat):Rat))=true:=decide_eq_true rfl
  have z1:=Hid.mk z1
  have z2:=Hid.mk z2
  refine Spec.go [(1,.t (.s [0] (.p 0 (.s [1,2,3,4,5,6,7,8] .d))))] Tryz.func6 rfl rfl (by kernel_rfl) fun C _=>?_
  try simp(disch:=omega) only[go_sem,Nat.reduceBEq,Nat.reduceAdd]
  intro b h1 st1 hb
  try simp(disch:=omega) only[go_sem,Nat.reduceBEq,Nat.reduceAdd]
  have hb:=hb (by simp[uw])
  try simp(disch:=omega) only[go_sem,Nat.reduceBEq,Nat.reduceAdd]
  refine caN (by exact FExp_ok (x:=1) (p:=3) (one_rv hb) (by decide) (by decide) (by decide) (by decide)) ?_;rintro v2 h2 s2 ⟨_,_,_,_,_,_,_,_,_,_,_,_,_,_,rfl,r1,r2⟩
  try simp(disch:=omega) only[go_sem,Nat.reduceBEq,Nat.reduceAdd]
  rw[exp_sane1] at r1
  rw[exp_sane2] at r2
  try simp(disch:=omega) only[go_sem,Nat.reduceBEq,Nat.reduceAdd]
  refine caN (by exact RFrac2_spec (a:=21) (b:=8) (by decide) (by decide)) ?_;rintro v3 h3 s3 q3;obtain⟨_,_,_,_,_,_,_,rfl,q3⟩:=q3.sa
  try simp(disch:=omega) only[go_sem,Nat.reduceBEq,Nat.reduceAdd]
  refine caN (by exact Right_spec (r1.to (h':=h3)) q3 z1.out z1.out) ?_;rintro v4 h4 s4 rfl
  try simp(disch:=omega) only[go_sem,Nat.reduceBEq,Nat.reduceAdd,e1,decide_true]
  refine caN (by exact RFrac2_spec (a:=11) (b:=4) (by decide) (by decide)) ?_;rintro v5 h5 s5 q5;obtain⟨_,_,_,_,_,_,_,rfl,q5⟩:=q5.sa
  try simp(disch:=omega) only[go_sem,Nat.reduceBEq,Nat.reduceAdd]
  refine caN (by exact Right_spec (r2.to (h':=h5)) q5 z2.out z2.out) ?_;rintro v6 h6 s6 rfl
  try simp(disch:=omega) only[go_sem,Nat.reduceBEq,Nat.reduceAdd,e2,decide_true]
end Go.Q
namespace Go.Q
open Go.Proofs
set_option maxRecDepth 100000
set_option maxHeartbeats 16000000
theorem RQuarter_spec {h:PH} {w:Nat} (hw:32≤w) (hw':w≤192):Spec mach 58 #[.int .i64 w] h (fun r h'=>∃b1 a1 m1 c1 a2 m2 c2 b2 a3 m3 c3 a4 m4 c4,r=.tuple #[.agg #[.bool b1,.slice a1 m1 c1,.slice a2 m2 c2],.agg #[.bool b2,.slice a3 m3 c3,.slice a4 m4 c4]]∧Qr h' (.agg #[.bool b1,.slice a1 m1 c1,.slice a2 m2 c2]) (sgn false (piL w) (2^(w+1)))∧Qr h' (.agg #[.bool b2,.slice a3 m3 c3,.slice a4 m4 c4]) (sgn false (piH w) (2^(w+1)))) NP:=by
  obtain⟨b1,b2⟩:=bl_pi (w:=w)
  have F:=Hid.mk (And.intro b1 b2);clear b1 b2
  refine Spec.go [] Tryz.func58 rfl rfl (by kernel_rfl) fun C _=>?_
  try simp(disch:=omega) only[go_sem,Nat.reduceBEq,Nat.reduceAdd]
  refine caN (by exact RPi_spec (w:=w) hw hw') ?_;rintro v1 h1 s1 ⟨_,_,_,_,_,_,rfl,q1,q2⟩
  try simp(disch:=omega) only[go_sem,Nat.reduceBEq,Nat.reduceAdd]
  refine caN (by exact RBack_spec (w:=w+1) q1 (by have:=F.out;omega) (by have:=F.out;omega)) ?_;rintro v2 h2 s2 q3;obtain⟨_,_,_,_,_,_,_,rfl,q3⟩:=q3.sa
  try simp(disch:=omega) only[go_sem,Nat.reduceBEq,Nat.reduceAdd]
  refine caN (by exact RBack_spec (w:=w+1) (q2.to (h':=h2)) (by have:=F.out;omega) (by have:=F.out;omega)) ?_;rintro v3 h3 s3 q4;obtain⟨_,_,_,_,_,_,_,rfl,q4⟩:=q4.sa
  try simp(disch:=omega) only[go_sem,Nat.reduceBEq,Nat.reduceAdd]
  exact⟨_,_,_,_,_,_,_,_,_,_,_,_,_,_,rfl,q3.to,q4⟩
theorem RProd_spec {h0 h:PH} [Le h0 h] {v w:Value} {x y:Rat} (hx:Qr h0 v x) (hy:Qr h0 w y) (bx:sz x≤2^35) (by_:sz y≤2^35):
    Spec mach 12 #[v,w] h (fun v h'=>Qr h' v (x*y)) NP:=by
  have hx0:=hx
  have hy0:=hy
  obtain⟨na,nl,nc,da,dl,dc,e,rfl,hn,hd,he⟩:=hx.sl
  obtain⟨na',nl',nc',da',dl',dc',e',rfl,hn',hd',he'⟩:=hy.sl
  have b1:=sz_num x;have b2:=sz_den x;have b3:=sz_num y;have b4:=sz_den y
  have b5:=bl_mul x.num.natAbs y.num.natAbs
  have b6:=bl_mul x.den y.den
  refine Spec.go [(1,.o [0,1,2,3,4,5,6,7,8,10,12,9,11,13,14,15,16])] Tryz.func12 rfl rfl (by kernel_rfl) fun C _=>?_
  try simp(disch:=omega) only[go_sem,Nat.reduceBEq,Nat.reduceAdd]
  refine caN (by exact NatMul_spec hn hn' (by omega) (by omega)) ?_;rintro _ h1 _ hv1;obtain⟨v1,_,_,rfl,hv1⟩:=hv1.sl
  try simp(disch:=omega) only[go_sem,Nat.reduceBEq,Nat.reduceAdd]
  refine caN (by exact den_spec hx0) ?_;rintro _ g1 _ hd1;obtain⟨_,_,_,rfl,hd1⟩:=hd1.sl
  try simp(disch:=omega) only[go_sem,Nat.reduceBEq,Nat.reduceAdd]
  refine caN (by exact den_spec hy0) ?_;rintro _ g2 _ hd2;obtain⟨_,_,_,rfl,hd2⟩:=hd2.sl
  try simp(disch:=omega) only[go_sem,Nat.reduceBEq,Nat.reduceAdd]
  refine caN (by exact NatMul_spec (hd1.to (h':=g2)) hd2 (by omega) (by omega)) ?_;rintro _ h2 _ hv2;obtain⟨v2,_,_,rfl,hv2⟩:=hv2.sl
  try simp(disch:=omega) only[go_sem,Nat.reduceBEq,Nat.reduceAdd]
  refine caN (by exact Make_spec (hv1.to (h':=h2)) hv2 (by omega) (by omega)) ?_;rintro _ h3 _ hv3;obtain⟨_,_,_,_,_,_,_,rfl,hv3⟩:=hv3.sa
  try simp(disch:=omega) only[go_sem,Nat.reduceBEq,Nat.reduceAdd]
  rw[sgn_mul] at hv3
  exact hv3
end Go.Q
namespace Go.Q
open Go.Proofs
set_option maxRecDepth 100000
set_option maxHeartbeats 8000000
def Q3 (h:PH) (r:Value) (x y z:Rat):Prop:=∃b1 a1 m1 c1 a2 m2 c2 b2 a3 m3 c3 a4 m4 c4 b3 a5 m5 c5 a6 m6 c6,r=.tuple #[.agg #[.bool b1,.slice a1 m1 c1,.slice a2 m2 c2],.agg #[.bool b2,.slice a3 m3 c3,.slice a4 m4 c4],.agg #[.bool b3,.slice a5 m5 c5,.slice a6 m6 c6]]∧Qr h (.agg #[.bool b1,.slice a1 m1 c1,.slice a2 m2 c2]) x∧Qr h (.agg #[.bool b2,.slice a3 m3 c3,.slice a4 m4 c4]) y∧Qr h (.agg #[.bool b3,.slice a5 m5 c5,.slice a6 m6 c6]) z
theorem fWq_sz {w:Nat} (h2:w≤192):sz (fW w)≤400∧sz (gW w)≤400:=by
  obtain⟨b1,b2⟩:=fW_sz (w:=w)
  omega
theorem sgn3_neg (z:Int):decide (sgn3 (z:Rat) < 0)=decide (z < 0):=by
  have:(z:Rat) < 0↔z < 0:=by
    have:=@Rat.intCast_lt_intCast z 0
    simpa using this
  rw[decide_eq_decide]
  unfold sgn3
  grind
theorem RRest_spec {h0 h:PH} [Le h0 h] {v:Value} {x:Rat} {w:Nat} (hx:Qr h0 v x) (bx:sz x≤2048) (h1:64≤w) (h2:w≤192):Spec mach 27 #[v,.int .i64 w] h (fun r h'=>Q3 h' r (rsK x w:Rat) (rsA x w) (rsB x w)) NP:=by
  obtain⟨bf,bg⟩:=fWq_sz h2
  have kQ:=fun {h}=>RQuarter_spec (h:=h) (w:=w) (by omega) h2
  have ef:sgn false (piL w) (2^(w+1))=fW w:=rfl
  have eg:sgn false (piH w) (2^(w+1))=gW w:=rfl
  rw[ef,eg] at kQ
  have ek:(x / fW w+1 / ((2:Nat):Rat)).floor=rsK x w:=rfl
  have eA:gdown (x - (rsK x w:Rat)*(if rsK x w < 0 then fW w else gW w)) w=rsA x w:=by unfold rsA;rw[Rat.sub_eq_add_neg]
  have eB:gup (x - (rsK x w:Rat)*(if rsK x w < 0 then gW w else fW w)) w=rsB x w:=by unfold rsB;rw[Rat.sub_eq_add_neg]
  have b1:sz (x / fW w)≤4096:=by
    rw[Rat.div_def]
    have:=sz_mul x (fW w)⁻¹
    have:=sz_inv (fW w)
    omega
  have b2:sz (1 / ((2:Nat):Rat))≤4096:=by decide+kernel
  have b3:=sz_add (x / fW w) (1 / ((2:Nat):Rat))
  have b4:=sz_floor (x / fW w+1 / ((2:Nat):Rat))
  rw[ek] at b4
  have b5:=sz_mul (rsK x w:Rat) (fW w)
  have b6:=sz_mul (rsK x w:Rat) (gW w)
  have b7:=sz_sub x ((rsK x w:Rat)*fW w)
  have b8:=sz_sub x ((rsK x w:Rat)*gW w)
  have c1:sz (x / fW w+1 / ((2:Nat):Rat))≤16384:=by omega
  have c2:sz (rsK x w:Rat)≤16384:=by omega
  have c5:sz ((rsK x w:Rat)*fW w)≤65536:=by omega
  have c6:sz ((rsK x w:Rat)*gW w)≤65536:=by omega
  have c7:sz (x - (rsK x w:Rat)*fW w)≤131072:=by omega
  have c8:sz (x - (rsK x w:Rat)*gW w)≤131072:=by omega
  have es:=sgn3_neg (rsK x w)
  clear b3 b4 b5 b6 b7 b8 ef eg
  generalize rsK x w=k at*
  generalize rsA x w=A at*
  generalize rsB x w=B at*
  generalize fW w=f at*
  generalize gW w=g at*
  have w3:w≤2^30:=by omega
  obtain⟨_,_,_,_,_,_,_,rfl,hx⟩:=hx.sa
  by_cases hk:k < 0
  · rw[if_pos hk] at eA eB
    rw[decide_eq_true hk] at es
    refine Spec.go [(5,.h [] [] [7] [7,0,1,2,5,3,4,6,8]),(6,.h [] [] [7] [7,0,1,2,5,3,4,6,8]),(7,.h [(10,4),(11,4),(11,5)] [] [] [0,1,2,3,4,5])] Tryz.func27 rfl rfl (by kernel_rfl) fun C _=>?_
    try simp(maxSteps:=999999) (disch:=omega) only[go_sem,Nat.reduceBEq,Nat.reduceAdd]
    refine caN (by exact kQ) ?_;rintro v1 g1 s1 ⟨_,_,_,_,_,_,_,_,_,_,_,_,_,_,rfl,qf,qg⟩
    try simp(maxSteps:=999999) (disch:=omega) only[go_sem,Nat.reduceBEq,Nat.reduceAdd]
    refine caN (by exact QDiv_spec (hx.to (h':=g1)) qf (Nat.le_trans bx (by decide)) (Nat.le_trans bf (by decide))) ?_;rintro v2 g2 s2 q2;obtain⟨_,_,_,_,_,_,_,rfl,q2⟩:=q2.sa
    try simp(maxSteps:=999999) (disch:=omega) only[go_sem,Nat.reduceBEq,Nat.reduceAdd]
    refine caN (by exact RFrac_spec (n:=2) (by decide)) ?_;rintro v3 g3 s3 q3;obtain⟨_,_,_,_,_,_,_,rfl,q3⟩:=q3.sa
    try simp(maxSteps:=999999) (disch:=omega) only[go_sem,Nat.reduceBEq,Nat.reduceAdd]
    refine caN (by exact Sum_spec (q2.to (h':=g3)) q3 (Nat.le_trans b1 (by decide)) (Nat.le_trans b2 (by decide))) ?_;rintro v4 g4 s4 q4;obtain⟨_,_,_,_,_,_,_,rfl,q4⟩:=q4.sa
    try simp(maxSteps:=999999) (disch:=omega) only[go_sem,Nat.reduceBEq,Nat.reduceAdd]
    refine caN (by exact Bottom_spec q4 (Nat.le_trans c1 (by decide))) ?_;rintro v5 g5 s5 q5;rw[ek] at q5;obtain⟨_,_,_,_,_,_,_,rfl,q5⟩:=q5.sa
    try simp(maxSteps:=999999) (disch:=omega) only[go_sem,Nat.reduceBEq,Nat.reduceAdd]
    refine caN (by exact Sgn_spec q5) ?_;rintro v6 g6 s6 rfl
    try simp(maxSteps:=999999) (disch:=omega) only[go_sem,Nat.reduceBEq,Nat.reduceAdd,es]
    refine caN (by exact RProd_spec (q5.to (h':=g6)) (qf.to (h':=g6)) (Nat.le_trans c2 (by decide)) (Nat.le_trans bf (by decide))) ?_;rintro v7 g7 s7 q7;obtain⟨_,_,_,_,_,_,_,rfl,q7⟩:=q7.sa
    try simp(maxSteps:=999999) (disch:=omega) only[go_sem,Nat.reduceBEq,Nat.reduceAdd]
    refine caN (by exact Diff_spec (hx.to (h':=g7)) q7 (Nat.le_trans bx (by decide)) (Nat.le_trans c5 (by decide))) ?_;rintro v8 g8 s8 q8;obtain⟨_,_,_,_,_,_,_,rfl,q8⟩:=q8.sa
    try simp(maxSteps:=999999) (disch:=omega) only[go_sem,Nat.reduceBEq,Nat.reduceAdd]
    refine caN (by exact GridDown_spec q8 (Nat.le_trans c7 (by decide)) w3) ?_;rintro v9 g9 s9 q9;rw[eA] at q9;obtain⟨_,_,_,_,_,_,_,rfl,q9⟩:=q9.sa
    try simp(maxSteps:=999999) (disch:=omega) only[go_sem,Nat.reduceBEq,Nat.reduceAdd]
    refine caN (by exact RProd_spec (q5.to (h':=g9)) (qg.to (h':=g9)) (Nat.le_trans c2 (by decide)) (Nat.le_trans bg (by decide))) ?_;rintro v10 g10 s10 q10;obtain⟨_,_,_,_,_,_,_,rfl,q10⟩:=q10.sa
    try simp(maxSteps:=999999) (disch:=omega) only[go_sem,Nat.reduceBEq,Nat.reduceAdd]
    refine caN (by exact Diff_spec (hx.to (h':=g10)) q10 (Nat.le_trans bx (by decide)) (Nat.le_trans c6 (by decide))) ?_;rintro v11 g11 s11 q11;obtain⟨_,_,_,_,_,_,_,rfl,q11⟩:=q11.sa
    try simp(maxSteps:=999999) (disch:=omega) only[go_sem,Nat.reduceBEq,Nat.reduceAdd]
    refine caN (by exact GridUp_spec q11 (Nat.le_trans c8 (by decide)) w3) ?_;rintro v12 g12 s12 q12;rw[eB] at q12;obtain⟨_,_,_,_,_,_,_,rfl,q12⟩:=q12.sa
    try simp(maxSteps:=999999) (disch:=omega) only[go_sem,Nat.reduceBEq,Nat.reduceAdd]
    exact⟨_,_,_,_,_,_,_,_,_,_,_,_,_,_,_,_,_,_,_,_,_,rfl,q5.to,q9.to,q12⟩
  · rw[if_neg hk] at eA eB
    rw[decide_eq_false hk] at es
    refine Spec.go [(5,.h [] [] [7] [7,0,1,2,5,3,4,6,8]),(6,.h [] [] [7] [7,0,1,2,5,3,4,6,8]),(7,.h [(10,4),(11,4),(11,5)] [] [] [0,1,2,3,4,5])] Tryz.func27 rfl rfl (by kernel_rfl) fun C _=>?_
    try simp(maxSteps:=999999) (disch:=omega) only[go_sem,Nat.reduceBEq,Nat.reduceAdd]
    refine caN (by exact kQ) ?_;rintro v1 g1 s1 ⟨_,_,_,_,_,_,_,_,_,_,_,_,_,_,rfl,qf,qg⟩
    try simp(maxSteps:=999999) (disch:=omega) only[go_sem,Nat.reduceBEq,Nat.reduceAdd]
    refine caN (by exact QDiv_spec (hx.to (h':=g1)) qf (Nat.le_trans bx (by decide)) (Nat.le_trans bf (by decide))) ?_;rintro v2 g2 s2 q2;obtain⟨_,_,_,_,_,_,_,rfl,q2⟩:=q2.sa
    try simp(maxSteps:=999999) (disch:=omega) only[go_sem,Nat.reduceBEq,Nat.reduceAdd]
    refine caN (by exact RFrac_spec (n:=2) (by decide)) ?_;rintro v3 g3 s3 q3;obtain⟨_,_,_,_,_,_,_,rfl,q3⟩:=q3.sa
    try simp(maxSteps:=999999) (disch:=omega) only[go_sem,Nat.reduceBEq,Nat.reduceAdd]
    refine caN (by exact Sum_spec (q2.to (h':=g3)) q3 (Nat.le_trans b1 (by decide)) (Nat.le_trans b2 (by decide))) ?_;rintro v4 g4 s4 q4;obtain⟨_,_,_,_,_,_,_,rfl,q4⟩:=q4.sa
    try simp(maxSteps:=999999) (disch:=omega) only[go_sem,Nat.reduceBEq,Nat.reduceAdd]
    refine caN (by exact Bottom_spec q4 (Nat.le_trans c1 (by decide))) ?_;rintro v5 g5 s5 q5;rw[ek] at q5;obtain⟨_,_,_,_,_,_,_,rfl,q5⟩:=q5.sa
    try simp(maxSteps:=999999) (disch:=omega) only[go_sem,Nat.reduceBEq,Nat.reduceAdd]
    refine caN (by exact Sgn_spec q5) ?_;rintro v6 g6 s6 rfl
    try simp(maxSteps:=999999) (disch:=omega) only[go_sem,Nat.reduceBEq,Nat.reduceAdd,es]
    refine caN (by exact RProd_spec (q5.to (h':=g6)) (qg.to (h':=g6)) (Nat.le_trans c2 (by decide)) (Nat.le_trans bg (by decide))) ?_;rintro v7 g7 s7 q7;obtain⟨_,_,_,_,_,_,_,rfl,q7⟩:=q7.sa
    try simp(maxSteps:=999999) (disch:=omega) only[go_sem,Nat.reduceBEq,Nat.reduceAdd]
    refine caN (by exact Diff_spec (hx.to (h':=g7)) q7 (Nat.le_trans bx (by decide)) (Nat.le_trans c6 (by decide))) ?_;rintro v8 g8 s8 q8;obtain⟨_,_,_,_,_,_,_,rfl,q8⟩:=q8.sa
    try simp(maxSteps:=999999) (disch:=omega) only[go_sem,Nat.reduceBEq,Nat.reduceAdd]
    refine caN (by exact GridDown_spec q8 (Nat.le_trans c8 (by decide)) w3) ?_;rintro v9 g9 s9 q9;rw[eA] at q9;obtain⟨_,_,_,_,_,_,_,rfl,q9⟩:=q9.sa
    try simp(maxSteps:=999999) (disch:=omega) only[go_sem,Nat.reduceBEq,Nat.reduceAdd]
    refine caN (by exact RProd_spec (q5.to (h':=g9)) (qf.to (h':=g9)) (Nat.le_trans c2 (by decide)) (Nat.le_trans bf (by decide))) ?_;rintro v10 g10 s10 q10;obtain⟨_,_,_,_,_,_,_,rfl,q10⟩:=q10.sa
    try simp(maxSteps:=999999) (disch:=omega) only[go_sem,Nat.reduceBEq,Nat.reduceAdd]
    refine caN (by exact Diff_spec (hx.to (h':=g10)) q10 (Nat.le_trans bx (by decide)) (Nat.le_trans c5 (by decide))) ?_;rintro v11 g11 s11 q11;obtain⟨_,_,_,_,_,_,_,rfl,q11⟩:=q11.sa
    try simp(maxSteps:=999999) (disch:=omega) only[go_sem,Nat.reduceBEq,Nat.reduceAdd]
    refine caN (by exact GridUp_spec q11 (Nat.le_trans c7 (by decide)) w3) ?_;rintro v12 g12 s12 q12;rw[eB] at q12;obtain⟨_,_,_,_,_,_,_,rfl,q12⟩:=q12.sa
    try simp(maxSteps:=999999) (disch:=omega) only[go_sem,Nat.reduceBEq,Nat.reduceAdd]
    exact⟨_,_,_,_,_,_,_,_,_,_,_,_,_,_,_,_,_,_,_,_,_,rfl,q5.to,q9.to,q12⟩
end Go.Q
