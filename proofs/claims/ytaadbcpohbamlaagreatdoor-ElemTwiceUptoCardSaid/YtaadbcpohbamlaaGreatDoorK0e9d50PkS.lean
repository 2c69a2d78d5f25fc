/-
  The statements' check of one bracket (sane); the statement ElemPi. Conditions: none.
  The reference of layer 2: quarter turns. Conditions: the values are numbers (Qr).
  The statement ElemTwice. Conditions: the argument is a number as it comes in (Rw).
-/
import Derived.Test.YtaadbcpohbamlaaGreatDoorK76c129PkF
import Derived.Test.YtaadbcpohbamlaaGreatDoorKcca1efPkR
import Derived.Test.YtaadbcpohbamlaaGreatDoorKbf2bc4PkN
import Derived.Test.YtaadbcpohbamlaaGreatDoorKe21766PkL
set_option linter.unusedVariables false
set_option linter.unusedSimpArgs false
namespace Go.Q
open Go.Proofs
set_option maxRecDepth 100000
set_option maxHeartbeats 8000000
theorem RFrac2_spec {h:PH} {a b:Nat} (ha:a < 2^20) (hb:b < 2^20):Spec mach 23 #[.int .i64 a,.int .i64 b] h (fun v h'=>Qr h' v ((a:Rat) / (b:Rat))) NP:=by
  have S:∀{n:Nat},n < 2^20→sz (((n:Int)):Rat)≤2^35:=by
    intro n hn
    unfold sz
    have e1:bl ((((n:Int)):Rat).num.natAbs)≤64:=bl_le.2 (by simp;omega)
    have e2:bl ((((n:Int)):Rat).den)≤64:=bl_le.2 (by simp)
    omega
  have b1:=S ha
  have b2:=S hb
  have e:((((a:Int)):Rat) / (((b:Int)):Rat))=(a:Rat) / (b:Rat):=rfl
  refine Spec.go [] Tryz.func23 rfl rfl (by kernel_rfl) fun C _=>?_
  try simp(disch:=omega) only[go_sem,Nat.reduceBEq,Nat.reduceAdd]
  refine caN (by exact QInt_spec (n:=a) (by omega) (by omega)) ?_;rintro v1 g1 s1 q1;obtain⟨_,_,_,_,_,_,_,rfl,q1⟩:=q1.sa
  try simp(disch:=omega) only[go_sem,Nat.reduceBEq,Nat.reduceAdd]
  refine caN (by exact QInt_spec (n:=b) (by omega) (by omega)) ?_;rintro v2 g2 s2 q2;obtain⟨_,_,_,_,_,_,_,rfl,q2⟩:=q2.sa
  try simp(disch:=omega) only[go_sem,Nat.reduceBEq,Nat.reduceAdd]
  refine caN (by exact QDiv_spec (q1.to (h':=g2)) q2 b1 b2) ?_;rintro v3 g3 s3 q3;rw[e] at q3;obtain⟨_,_,_,_,_,_,_,rfl,q3⟩:=q3.sa
  try simp(disch:=omega) only[go_sem,Nat.reduceBEq,Nat.reduceAdd]
  exact q3
theorem exp_sane1:expLo 1 3=((21:Nat):Rat) / ((8:Nat):Rat):=by
  unfold expLo
  rw[if_neg (by decide),show expL 1 3 / 2^112=21 by decide+kernel]
  decide+kernel
theorem exp_sane2:expHi 1 3=((11:Nat):Rat) / ((4:Nat):Rat):=by
  unfold expHi
  rw[if_neg (by decide),show cdiv (expH 1 3) (2^112)=22 by decide+kernel]
  decide+kernel
theorem one_rv {h:PH} {b:Nat} (hb:h b=some #[.int .u32 1]):Rv h (.agg #[.bool false,.slice (some ⟨b,0,none⟩) 1 1,.slice none 0 0]) 1:=by
  have e:qof false 1 0=1:=by decide+kernel
  refine⟨false,1,0,⟨some ⟨b,0,none⟩,1,[1],none,0,[],rfl,Arr.of_row (fun _=>hb) (by decide) (by decide) (by decide),Arr.nil _,rfl,rfl,by decide,by decide⟩,?_,e⟩
  unfold lg
  rw[e]
  decide+kernel
theorem sane_spec {h:PH}:Spec mach 6 #[] h (fun r _=>r=.bool true) NP:=by
  have z1:sz (((21:Nat):Rat) / ((8:Nat):Rat))≤2^30:=by decide+kernel
  have z2:sz (((11:Nat):Rat) / ((4:Nat):Rat))≤2^30:=by decide+kernel
  have e1:decide (((21:Nat):Rat) / ((8:Nat):Rat)=((21:Nat):Rat) / ((8:Nat):Rat))=true:=decide_eq_true rfl
  have e2:decide (((11:Nat):Rat) / ((4:Nat):Rat)=((11:Nat):Rat) / ((4:Nat):Rat))=true:=decide_eq_true rfl
  have z1:=Hid.mk z1
  have z2:=Hid.mk z2
  refine Spec.go [(1,.t (.s [0] (.p 0 (.s [1,2,3,4,5,6,7,8] .d))))] Tryz.func6 rfl rfl (by kernel_rfl) fun C _=>?_
  try simp(disch:=omega) only[go_sem,Nat.reduceBEq,Nat.reduceAdd]
  intro b h1 st1 hb
  try simp(disch:=omega) only[go_sem,Nat.reduceBEq,Nat.reduceAdd]
  have hb:=hb (by simp[uw])
  try simp(disch:=omega) only[go_sem,Nat.reduceBEq,Nat.reduceAdd]
  refine caN (by exact FExp_ok (x:=1) (p:=3) (one_rv hb) (by decide) (by decide) (by decide) (by decide)) ?_;rintro v2 h2 s2 ⟨_,_,_,_,_,_,_,_,_,_,_,_,_,_,rfl,r1,r2⟩
  try simp(disch:=omega) only[go_sem,Nat.reduceBEq,Nat.reduceAdd]
  rw[exp_sane1] at r1
  rw[exp_sane2] at r2
  try simp(disch:=omega) only[go_sem,Nat.reduceBEq,Nat.reduceAdd]
  refine caN (by exact RFrac2_spec (a:=21) (b:=8) (by decide) (by decide)) ?_;rintro v3 h3 s3 q3;obtain⟨_,_,_,_,_,_,_,rfl,q3⟩:=q3.sa
  try simp(disch:=omega) only[go_sem,Nat.reduceBEq,Nat.reduceAdd]
  refine caN (by exact Right_spec (r1.to (h':=h3)) q3 z1.out z1.out) ?_;rintro v4 h4 s4 rfl
  try simp(disch:=omega) only[go_sem,Nat.reduceBEq,Nat.reduceAdd,e1,decide_true]
  refine caN (by exact RFrac2_spec (a:=11) (b:=4) (by decide) (by decide)) ?_;rintro v5 h5 s5 q5;obtain⟨_,_,_,_,_,_,_,rfl,q5⟩:=q5.sa
  try simp(disch:=omega) only[go_sem,Nat.reduceBEq,Nat.reduceAdd]
  refine caN (by exact Right_spec (r2.to (h':=h5)) q5 z2.out z2.out) ?_;rintro v6 h6 s6 rfl
  try simp(disch:=omega) only[go_sem,Nat.reduceBEq,Nat.reduceAdd,e2,decide_true]
end Go.Q
namespace Go.Q
open Go.Proofs
set_option maxRecDepth 100000
set_option maxHeartbeats 16000000
theorem RProd_spec {h0 h:PH} [Le h0 h] {v w:Value} {x y:Rat} (hx:Qr h0 v x) (hy:Qr h0 w y) (bx:sz x≤2^35) (by_:sz y≤2^35):
    Spec mach 12 #[v,w] h (fun v h'=>Qr h' v (x*y)) NP:=by
  have hx0:=hx
  have hy0:=hy
  obtain⟨na,nl,nc,da,dl,dc,e,rfl,hn,hd,he⟩:=hx.sl
  obtain⟨na',nl',nc',da',dl',dc',e',rfl,hn',hd',he'⟩:=hy.sl
  have b1:=sz_num x;have b2:=sz_den x;have b3:=sz_num y;have b4:=sz_den y
  have b5:=bl_mul x.num.natAbs y.num.natAbs
  have b6:=bl_mul x.den y.den
  refine Spec.go [(1,.o [0,1,2,3,4,5,6,7,8,10,12,9,11,13,14,15,16])] Tryz.func12 rfl rfl (by kernel_rfl) fun C _=>?_
  try simp(disch:=omega) only[go_sem,Nat.reduceBEq,Nat.reduceAdd]
  refine caN (by exact NatMul_spec hn hn' (by omega) (by omega)) ?_;rintro _ h1 _ hv1;obtain⟨v1,_,_,rfl,hv1⟩:=hv1.sl
  try simp(disch:=omega) only[go_sem,Nat.reduceBEq,Nat.reduceAdd]
  refine caN (by exact den_spec hx0) ?_;rintro _ g1 _ hd1;obtain⟨_,_,_,rfl,hd1⟩:=hd1.sl
  try simp(disch:=omega) only[go_sem,Nat.reduceBEq,Nat.reduceAdd]
  refine caN (by exact den_spec hy0) ?_;rintro _ g2 _ hd2;obtain⟨_,_,_,rfl,hd2⟩:=hd2.sl
  try simp(disch:=omega) only[go_sem,Nat.reduceBEq,Nat.reduceAdd]
  refine caN (by exact NatMul_spec (hd1.to (h':=g2)) hd2 (by omega) (by omega)) ?_;rintro _ h2 _ hv2;obtain⟨v2,_,_,rfl,hv2⟩:=hv2.sl
  try simp(disch:=omega) only[go_sem,Nat.reduceBEq,Nat.reduceAdd]
  refine caN (by exact Make_spec (hv1.to (h':=h2)) hv2 (by omega) (by omega)) ?_;rintro _ h3 _ hv3;obtain⟨_,_,_,_,_,_,_,rfl,hv3⟩:=hv3.sa
  try simp(disch:=omega) only[go_sem,Nat.reduceBEq,Nat.reduceAdd]
  rw[sgn_mul] at hv3
  exact hv3
end Go.Q
namespace Go.Q
open Go.Proofs
set_option maxRecDepth 100000
set_option maxHeartbeats 8000000
def Ra (h:PH) (v:Value) (n:Nat):Prop:=∃a c xs,v=.slice a xs.length c∧Arr h a c xs∧val 4294967296 xs=n∧xs.length≤2^30
theorem Ra.to {h h':PH} {v:Value} {n:Nat} (r:Ra h v n) [Le h h']:Ra h' v n:=let ⟨a,c,xs,h1,h2,h3⟩:=r;⟨a,c,xs,h1,h2.to,h3⟩
theorem Rw.ra {h:PH} {b:Bool} {s t:Value} {neg:Bool} {n d:Nat} (r:Rw h (.agg #[.bool b,s,t]) neg n d):b=neg∧Ra h s n∧Ra h t d:=by
  obtain⟨a,c,xs,a',c',ys,e,k1,k2,k3,k4,k5,k6⟩:=r
  cases e
  exact⟨rfl,⟨a,c,xs,rfl,k1,k3,k5⟩,⟨a',c',ys,rfl,k2,k4,k6⟩⟩
theorem Ra.rw {h:PH} {s t:Value} {neg:Bool} {n d:Nat} (r1:Ra h s n) (r2:Ra h t d):Rw h (.agg #[.bool neg,s,t]) neg n d:=by
  obtain⟨a,c,xs,rfl,k1,k3,k5⟩:=r1
  obtain⟨a',c',ys,rfl,k2,k4,k6⟩:=r2
  exact⟨a,c,xs,a',c',ys,rfl,k1,k2,k3,k4,k5,k6⟩
theorem Ra.nul (h:PH):Ra h (.slice none 0 0) 0:=((Cn.nul h).rw (by decide)).ra.2.1
theorem qof_nat (n:Nat):qof false n 0=(n:Rat):=by unfold qof dz;rw[if_pos rfl];simp only[sgn,Bool.false_eq_true,if_false];exact Rat.mkRat_one n
theorem sgn_k {neg:Bool} {k n d:Nat} (hk:k≠0) (hd:d≠0):sgn neg (k*n) (k*d)=sgn neg n d:=
  sgn_eq (Nat.mul_ne_zero hk hd) hd (by rw[Nat.mul_left_comm,Nat.mul_assoc])
theorem qof_k {neg:Bool} {k n d:Nat} (hk:k≠0):qof neg (k*n) (k*dz d)=qof neg n d:=by
  unfold qof
  rw[show dz (k*dz d)=k*dz d from if_neg (Nat.mul_ne_zero hk (dz_ne d)),sgn_k hk (dz_ne d)]
theorem sz_nat {m:Nat} (h:bl m≤8192):sz ((m:Nat):Rat)≤8192:=by
  have:=sz_int (m:Int)
  simp only[Int.natAbs_natCast] at this
  exact Nat.le_trans this (by omega)
theorem QOf_cn {h0 h:PH} [Le h0 h] {v:Value} {x:Rat} (hv:Cn h0 v x) (bx:sz x≤2^30):Spec mach 7 #[v] h (fun v h'=>Qr h' v x) NP:=by
  have:=QOf_spec (h:=h) (hv.rw bx)
  rw[qof_cn] at this
  exact this
theorem two_calls {fn:Int} {neg:Bool} {k n d:Nat} (hk:k≠0) (bn:bl (k*n)≤8192) (bd:bl (k*dz d)≤8192):
    ∃e lo hi,sz lo≤2048∧sz hi≤2048∧(∀{h0 h:PH} [Le h0 h] {w:Value},Rw h0 w neg (k*n) (k*dz d)→Spec mach 16 #[.int .i64 fn,w,.int .i64 24] h (fun r h'=>Ber h' r e lo hi) NP)∧(∀{h0 h:PH} [Le h0 h] {w:Value},Cn h0 w (qof neg n d)→sz (qof neg n d)≤2^30→Spec mach 16 #[.int .i64 fn,w,.int .i64 24] h (fun r h'=>Ber h' r e lo hi) NP):=by
  by_cases hs:2048 < sz (qof neg n d)
  · refine⟨1,0,0,by decide,by decide,fun hw=>Apply_no hw (.inr (.inr ?_)),fun hw b=>Apply_no (hw.rw b) (lg_cn.2 hs)⟩
    rw[qof_k hk]
    exact hs
  · obtain⟨z1,z2⟩:=el_sz (fn:=fn) (x:=qof neg n d) (p:=24)
    refine⟨elE fn (qof neg n d) 24,_,_,z1,z2,fun hw=>Apply_ok ⟨neg,k*n,k*dz d,hw,?_,qof_k hk⟩,fun hw b=>Apply_ok (Rv.of hw (by omega))⟩
    unfold lg
    rw[qof_k hk]
    omega
theorem Twice_law {h0 h:PH} [Le h0 h] {v:Value} {neg:Bool} {n d k:Nat} {fn:Int} (hv:Rw h0 v neg n d) (hk:k < 4294967296):Spec mach 4 #[.int .i64 fn,v,.int .u32 k] h (fun r _=>r=.bool true) NP:=by
  have kO:=fun {h} [Le h0 h]=>QOf_spec (h:=h) hv
  obtain⟨a,c,xs,a',c',ys,rfl,ha,ha',en,ed,lx,ly⟩:=hv
  have rn:Ra h0 (.slice a xs.length c) n:=⟨a,c,xs,rfl,ha,en,lx⟩
  have rd:Ra h0 (.slice a' ys.length c') d:=⟨a',c',ys,rfl,ha',ed,ly⟩
  have bn:=val_bl ha.lt
  have bd:=val_bl ha'.lt
  rw[en] at bn
  rw[ed] at bd
  clear ha ha' en ed
  generalize xs.length=ln at*
  generalize ys.length=ld at*
  by_cases k0:k=0
  · subst k0
    refine Spec.go [(4,.h [] [] [8] [8,0,1,3,4,5,2,6,7,9]),(5,.h [] [] [8] [8,0,1,3,4,5,2,6,7,9]),(8,.h [] [] [9] [9,0,1,2,5,3,4,6,7,8,10])] Tryz.func4 rfl rfl (by kernel_rfl) fun C _=>?_
    try simp(disch:=omega) only[go_sem,Nat.reduceBEq,Nat.reduceAdd]
    refine caN (by exact sane_spec) ?_;rintro v1 h1 s1 rfl
    try simp(disch:=omega) only[go_sem,Nat.reduceBEq,Nat.reduceAdd]
  have e0:((k:Int) == 0)=false:=by simp;(omega)
  by_cases l1:200 < ln
  · have e1:decide ((ln:Int) > 200)=true:=decide_eq_true (by omega)
    refine Spec.go [(4,.h [] [] [8] [8,0,1,3,4,5,2,6,7,9]),(5,.h [] [] [8] [8,0,1,3,4,5,2,6,7,9]),(8,.h [] [] [9] [9,0,1,2,5,3,4,6,7,8,10])] Tryz.func4 rfl rfl (by kernel_rfl) fun C _=>?_
    try simp(disch:=omega) only[go_sem,Nat.reduceBEq,Nat.reduceAdd,e0,e1]
    refine caN (by exact sane_spec) ?_;rintro v1 h1 s1 rfl
    try simp(disch:=omega) only[go_sem,Nat.reduceBEq,Nat.reduceAdd]
  have e1:decide ((ln:Int) > 200)=false:=decide_eq_false (by omega)
  by_cases l2:200 < ld
  · have e2:decide ((ld:Int) > 200)=true:=decide_eq_true (by omega)
    refine Spec.go [(4,.h [] [] [8] [8,0,1,3,4,5,2,6,7,9]),(5,.h [] [] [8] [8,0,1,3,4,5,2,6,7,9]),(8,.h [] [] [9] [9,0,1,2,5,3,4,6,7,8,10])] Tryz.func4 rfl rfl (by kernel_rfl) fun C _=>?_
    try simp(disch:=omega) only[go_sem,Nat.reduceBEq,Nat.reduceAdd,e0,e1,e2]
    refine caN (by exact sane_spec) ?_;rintro v1 h1 s1 rfl
    try simp(disch:=omega) only[go_sem,Nat.reduceBEq,Nat.reduceAdd]
  have e2:decide ((ld:Int) > 200)=false:=decide_eq_false (by omega)
  have bk:bl k≤32:=bl_le.2 hk
  have bz:=bl_dz d
  have b1:=bl_mul k n
  have b2:=bl_mul k (dz d)
  have b3:=bl_mul k d
  obtain⟨e,lo,hi,z1,z2,kA,kB⟩:=two_calls (fn:=fn) (neg:=neg) (n:=n) (d:=d) (k:=k) (by omega) (by omega) (by omega)
  have ee:decide ((e:Int)=e)=true:=decide_eq_true rfl
  have ell:decide (lo=lo)=true:=decide_eq_true rfl
  have ehh:decide (hi=hi)=true:=decide_eq_true rfl
  have zq:sz (qof neg n d)≤8192:=by
    have:=sz_sgn neg n (dz_ne d)
    unfold qof
    omega
  have kN:=fun {h} [Le h0 h]=>QOf_spec (h:=h) (Ra.rw (neg:=false) rn (Ra.nul h0))
  have kD:=fun {h} [Le h0 h]=>QOf_spec (h:=h) (Ra.rw (neg:=false) rd (Ra.nul h0))
  simp only[qof_nat] at kN kD
  have kI:=fun {h}=>QInt_spec (h:=h) (n:=(k:Int)) (by omega) (by omega)
  rw[show((k:Int):Rat)=((k:Nat):Rat) from rfl] at kI
  have zk:=sz_nat (m:=k) (by omega)
  have zn:=sz_nat (m:=n) (by omega)
  have zd:=sz_nat (m:=d) (by omega)
  have m1:((k:Nat):Rat)*((n:Nat):Rat)=((k*n:Nat):Rat):=(Rat.natCast_mul k n).symm
  have m2:((k:Nat):Rat)*((d:Nat):Rat)=((k*d:Nat):Rat):=(Rat.natCast_mul k d).symm
  have zkn:=sz_nat (m:=k*n) (by omega)
  have zkd:=sz_nat (m:=k*d) (by omega)
  have zkz:=sz_nat (m:=k*dz d) (by omega)
  have es:(sgn3 ((k*d:Nat):Rat) == 0)=decide (d=0):=by
    have:((k*d:Nat):Rat)=0↔d=0:=by
      rw[Rat.natCast_eq_zero_iff,Nat.mul_eq_zero];omega
    unfold sgn3
    grind
  generalize hkn:k*n=KN at*
  generalize hkd:k*d=KD at*
  generalize hkz:k*dz d=KZ at*
  generalize qof neg n d=Q at*
  clear bn bd bz b1 b2 b3 rn rd l1 l2
  refine Spec.go [(4,.h [] [] [8] [8,0,1,3,4,5,2,6,7,9]),(5,.h [] [] [8] [8,0,1,3,4,5,2,6,7,9]),(8,.h [] [] [9] [9,0,1,2,5,3,4,6,7,8,10])] Tryz.func4 rfl rfl (by kernel_rfl) fun C _=>?_
  try simp(disch:=omega) only[go_sem,Nat.reduceBEq,Nat.reduceAdd,e0,e1,e2]
  refine caN (by exact kO) ?_;rintro v1 h1 s1 q1;obtain⟨_,_,_,_,_,_,_,rfl,q1⟩:=q1.sa
  try simp(disch:=omega) only[go_sem,Nat.reduceBEq,Nat.reduceAdd]
  refine caN (by exact kI) ?_;rintro v2 h2 s2 q2;obtain⟨_,_,_,_,_,_,_,rfl,q2⟩:=q2.sa
  try simp(disch:=omega) only[go_sem,Nat.reduceBEq,Nat.reduceAdd]
  refine caN (by exact kN) ?_;rintro v3 h3 s3 q3;obtain⟨_,_,_,_,_,_,_,rfl,q3⟩:=q3.sa
  try simp(disch:=omega) only[go_sem,Nat.reduceBEq,Nat.reduceAdd]
  refine caN (by exact RProd_spec (q2.to (h':=h3)) q3 (Nat.le_trans zk (by decide)) (Nat.le_trans zn (by decide))) ?_;rintro v4 h4 s4 q4;obtain⟨_,_,_,_,_,_,_,rfl,q4⟩:=q4.sa
  try simp(disch:=omega) only[go_sem,Nat.reduceBEq,Nat.reduceAdd]
  rw[m1] at q4
  refine caN (by exact kI) ?_;rintro v5 h5 s5 q5;obtain⟨_,_,_,_,_,_,_,rfl,q5⟩:=q5.sa
  try simp(disch:=omega) only[go_sem,Nat.reduceBEq,Nat.reduceAdd]
  refine caN (by exact kD) ?_;rintro v6 h6 s6 q6;obtain⟨_,_,_,_,_,_,_,rfl,q6⟩:=q6.sa
  try simp(disch:=omega) only[go_sem,Nat.reduceBEq,Nat.reduceAdd]
  refine caN (by exact RProd_spec (q5.to (h':=h6)) q6 (Nat.le_trans zk (by decide)) (Nat.le_trans zd (by decide))) ?_;rintro v7 h7 s7 q7;obtain⟨_,_,_,_,_,_,_,rfl,q7⟩:=q7.sa
  try simp(disch:=omega) only[go_sem,Nat.reduceBEq,Nat.reduceAdd]
  rw[m2] at q7
  refine caN (by exact Sgn_spec q7) ?_;rintro v8 h8 s8 rfl
  try simp(disch:=omega) only[go_sem,Nat.reduceBEq,Nat.reduceAdd]
  by_cases d0:d=0
  · rw[decide_eq_true d0] at es
    have ez:KZ=k:=by rw[←hkz,d0];exact Nat.mul_one k
    rw[ez] at kA
    try simp(disch:=omega) only[go_sem,Nat.reduceBEq,Nat.reduceAdd,es]
    refine caN (by exact kI) ?_;rintro v9 h9 s9 q9;obtain⟨_,_,_,_,_,_,_,rfl,q9⟩:=q9.sa
    try simp(disch:=omega) only[go_sem,Nat.reduceBEq,Nat.reduceAdd]
    refine caN (by exact QRat_spec (q4.to (h':=h9)) (Nat.le_trans zkn (by decide))) ?_;rintro v10 h10 s10 q10;obtain⟨_,_,_,_,_,_,_,rfl,q10⟩:=q10.sa
    try simp(disch:=omega) only[go_sem,Nat.reduceBEq,Nat.reduceAdd]
    refine caN (by exact QRat_spec (q9.to (h':=h10)) (Nat.le_trans zk (by decide))) ?_;rintro v11 h11 s11 q11;obtain⟨_,_,_,_,_,_,_,rfl,q11⟩:=q11.sa
    try simp(disch:=omega) only[go_sem,Nat.reduceBEq,Nat.reduceAdd]
    have r1:=(q10.rw (Nat.le_trans zkn (by decide))).ra.2.1
    have r2:=(q11.rw (Nat.le_trans zk (by decide))).ra.2.1
    simp only[Rat.num_natCast,Int.natAbs_natCast] at r1 r2
    refine caN (by exact kA (Ra.rw (r1.to (h':=h11)) r2)) ?_;rintro v12 h12 s12 q12;obtain⟨_,_,_,_,_,_,_,_,_,_,_,_,_,_,rfl,c1,c2⟩:=q12
    try simp(disch:=omega) only[go_sem,Nat.reduceBEq,Nat.reduceAdd]
    refine caN (by exact QRat_spec (q1.to (h':=h12)) (Nat.le_trans zq (by decide))) ?_;rintro v13 h13 s13 q13;obtain⟨_,_,_,_,_,_,_,rfl,q13⟩:=q13.sa
    try simp(disch:=omega) only[go_sem,Nat.reduceBEq,Nat.reduceAdd]
    refine caN (by exact kB q13 (Nat.le_trans zq (by decide))) ?_;rintro v14 h14 s14 q14;obtain⟨_,_,_,_,_,_,_,_,_,_,_,_,_,_,rfl,c3,c4⟩:=q14
    try simp(disch:=omega) only[go_sem,Nat.reduceBEq,Nat.reduceAdd]
    refine caN (by exact sane_spec) ?_;rintro v15 h15 s15 rfl
    try simp(disch:=omega) only[go_sem,Nat.reduceBEq,Nat.reduceAdd,ee]
    refine caN (by exact QOf_cn (c3.to (h':=h15)) (Nat.le_trans z1 (by decide))) ?_;rintro v16 h16 s16 q16;obtain⟨_,_,_,_,_,_,_,rfl,q16⟩:=q16.sa
    try simp(disch:=omega) only[go_sem,Nat.reduceBEq,Nat.reduceAdd]
    refine caN (by exact Right_spec (c1.to (h':=h16)) q16 (Nat.le_trans z1 (by decide)) (Nat.le_trans z1 (by decide))) ?_;rintro v17 h17 s17 rfl
    try simp(disch:=omega) only[go_sem,Nat.reduceBEq,Nat.reduceAdd,ell,decide_true]
    refine caN (by exact QOf_cn (c4.to (h':=h17)) (Nat.le_trans z2 (by decide))) ?_;rintro v18 h18 s18 q18;obtain⟨_,_,_,_,_,_,_,rfl,q18⟩:=q18.sa
    try simp(disch:=omega) only[go_sem,Nat.reduceBEq,Nat.reduceAdd]
    refine caN (by exact Right_spec (c2.to (h':=h18)) q18 (Nat.le_trans z2 (by decide)) (Nat.le_trans z2 (by decide))) ?_;rintro v19 h19 s19 rfl
    try simp(disch:=omega) only[go_sem,Nat.reduceBEq,Nat.reduceAdd,ehh,decide_true]
  · rw[decide_eq_false d0] at es
    have ez:KZ=KD:=by rw[←hkz,←hkd];unfold dz;rw[if_neg d0]
    rw[ez] at kA
    try simp(disch:=omega) only[go_sem,Nat.reduceBEq,Nat.reduceAdd,es]
    refine caN (by exact QRat_spec (q4.to (h':=h8)) (Nat.le_trans zkn (by decide))) ?_;rintro v10 h10 s10 q10;obtain⟨_,_,_,_,_,_,_,rfl,q10⟩:=q10.sa
    try simp(disch:=omega) only[go_sem,Nat.reduceBEq,Nat.reduceAdd]
    refine caN (by exact QRat_spec (q7.to (h':=h10)) (Nat.le_trans zkd (by decide))) ?_;rintro v11 h11 s11 q11;obtain⟨_,_,_,_,_,_,_,rfl,q11⟩:=q11.sa
    try simp(disch:=omega) only[go_sem,Nat.reduceBEq,Nat.reduceAdd]
    have r1:=(q10.rw (Nat.le_trans zkn (by decide))).ra.2.1
    have r2:=(q11.rw (Nat.le_trans zkd (by decide))).ra.2.1
    simp only[Rat.num_natCast,Int.natAbs_natCast] at r1 r2
    refine caN (by exact kA (Ra.rw (r1.to (h':=h11)) r2)) ?_;rintro v12 h12 s12 q12;obtain⟨_,_,_,_,_,_,_,_,_,_,_,_,_,_,rfl,c1,c2⟩:=q12
    try simp(disch:=omega) only[go_sem,Nat.reduceBEq,Nat.reduceAdd]
    refine caN (by exact QRat_spec (q1.to (h':=h12)) (Nat.le_trans zq (by decide))) ?_;rintro v13 h13 s13 q13;obtain⟨_,_,_,_,_,_,_,rfl,q13⟩:=q13.sa
    try simp(disch:=omega) only[go_sem,Nat.reduceBEq,Nat.reduceAdd]
    refine caN (by exact kB q13 (Nat.le_trans zq (by decide))) ?_;rintro v14 h14 s14 q14;obtain⟨_,_,_,_,_,_,_,_,_,_,_,_,_,_,rfl,c3,c4⟩:=q14
    try simp(disch:=omega) only[go_sem,Nat.reduceBEq,Nat.reduceAdd]
    refine caN (by exact sane_spec) ?_;rintro v15 h15 s15 rfl
    try simp(disch:=omega) only[go_sem,Nat.reduceBEq,Nat.reduceAdd,ee]
    refine caN (by exact QOf_cn (c3.to (h':=h15)) (Nat.le_trans z1 (by decide))) ?_;rintro v16 h16 s16 q16;obtain⟨_,_,_,_,_,_,_,rfl,q16⟩:=q16.sa
    try simp(disch:=omega) only[go_sem,Nat.reduceBEq,Nat.reduceAdd]
    refine caN (by exact Right_spec (c1.to (h':=h16)) q16 (Nat.le_trans z1 (by decide)) (Nat.le_trans z1 (by decide))) ?_;rintro v17 h17 s17 rfl
    try simp(disch:=omega) only[go_sem,Nat.reduceBEq,Nat.reduceAdd,ell,decide_true]
    refine caN (by exact QOf_cn (c4.to (h':=h17)) (Nat.le_trans z2 (by decide))) ?_;rintro v18 h18 s18 q18;obtain⟨_,_,_,_,_,_,_,rfl,q18⟩:=q18.sa
    try simp(disch:=omega) only[go_sem,Nat.reduceBEq,Nat.reduceAdd]
    refine caN (by exact Right_spec (c2.to (h':=h18)) q18 (Nat.le_trans z2 (by decide)) (Nat.le_trans z2 (by decide))) ?_;rintro v19 h19 s19 rfl
    try simp(disch:=omega) only[go_sem,Nat.reduceBEq,Nat.reduceAdd,ehh,decide_true]
end Go.Q
