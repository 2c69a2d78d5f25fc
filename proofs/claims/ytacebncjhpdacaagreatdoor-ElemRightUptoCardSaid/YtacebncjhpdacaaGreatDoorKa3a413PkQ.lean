/-
  The statement ElemRight. Conditions: the argument is a number as it comes in (Rw).
-/
import Derived.Test.YtacebncjhpdacaaGreatDoorK8c97aaPkF
import Derived.Test.YtacebncjhpdacaaGreatDoorKd31c34PkP
set_option linter.unusedVariables false
set_option linter.unusedSimpArgs false
namespace Go.Q
open Go.Proofs
set_option maxRecDepth 100000
set_option maxHeartbeats 8000000
theorem right_E (x:Rat) (p:Int):brE 7 x p=brE 6 x p:=by
  have e:eErr 7 x p=eErr 6 x p:=by
    have d:defB 7 x=defB 6 x:=rfl
    unfold eErr
    rw[d]
    simp
  unfold brE elE
  rw[e]
  simp
theorem right_S6 {x:Rat} {n:Nat} (h:brE 6 x n=0):brL 6 x n+brL 7 x n≤(piHi n+0) / 2∧(piLo n+0) / 2≤brH 6 x n+brH 7 x n:=by
  have h7:brE 7 x n=0:=by rw[right_E];exact h
  obtain⟨_,_,p1⟩:=br_p h
  obtain⟨_,_,_,dx,_⟩:=eErr_p (br_e h)
  have d1:x.num.natAbs≤x.den:=of_decide_eq_true dx
  obtain⟨a1,a2⟩:=br_ser h
  obtain⟨a3,a4⟩:=br_ser h7
  have v6:exV 6 x=0:=by unfold exV;rw[if_neg (by omega)]
  have v7:exV 7 x=0:=by unfold exV;rw[if_neg (by omega)]
  have b6:exB 6 x=decide (x=0):=rfl
  have b7:exB 7 x=decide (x=1):=rfl
  have k:=right_as (x:=x) (p:=n) (by omega) d1
  rw[a1,a2,a3,a4,v6,v7,b6,b7]
  simp only[decide_eq_true_eq]
  exact k
theorem right_E8 {x:Rat} {p:Int} (h:0 < x):brE 8 x⁻¹ p=brE 8 x p:=by
  obtain⟨n1,n2,n3,_,_⟩:=inv_parts h
  have es:sz x⁻¹=sz x:=by unfold sz;rw[n1,n2,Nat.max_comm]
  have eb:exB 8 x⁻¹=exB 8 x:=by
    show decide (x⁻¹=0)=decide (x=0)
    rw[decide_eq_false (by grind),decide_eq_false (by grind)]
  have ee:eErr 8 x⁻¹ p=eErr 8 x p:=by
    have d:defB 8 x⁻¹=defB 8 x:=rfl
    unfold eErr
    rw[d,es]
    simp
  unfold brE elE
  rw[es,ee,eb]
  simp
theorem right_S8 {x:Rat} {n:Nat} (h0:0 < x) (h:brE 8 x n=0):brL 8 x n+brL 8 x⁻¹ n≤(piHi n+0) / 2∧(piLo n+0) / 2≤brH 8 x n+brH 8 x⁻¹ n:=by
  have h7:brE 8 x⁻¹ n=0:=by rw[right_E8 h0];exact h
  obtain⟨_,_,p1⟩:=br_p h
  obtain⟨a1,a2⟩:=br_ser h
  obtain⟨a3,a4⟩:=br_ser h7
  have n3:=(inv_parts h0).2.2.1
  have b6:exB 8 x=false:=decide_eq_false (by grind)
  have b7:exB 8 x⁻¹=false:=decide_eq_false (by grind)
  have k:=right_at (x:=x) (p:=n) (by omega) h0
  rw[a1,a2,a3,a4,b6,b7]
  exact k
theorem pi_sz {p:Nat} (hp:p≤128):sz (piLo p)≤1024∧sz (piHi p)≤1024:=by
  obtain⟨b1,b2⟩:=bl_pi (w:=p+32)
  have b3:=bl_div_le (piL (p+32)) (2^32)
  have b4:=bl_cdiv (piH (p+32)) (pow2_ne 32)
  exact⟨sgn_szp (by omega) (by omega),sgn_szp (by omega) (by omega)⟩
theorem sgn3_le0 (x:Rat):decide (sgn3 x≤0)=decide (x≤0):=by unfold sgn3;grind
theorem cmpQ_leO (x y:Rat):decide (cmpQ x y≤0)=decide (x≤y):=by unfold cmpQ;grind
theorem LMeets_yes {h0 h:PH} [Le h0 h] {va vb vc vd:Value} {a b c d:Rat} (ha:Qr h0 va a) (hb:Qr h0 vb b) (hc:Qr h0 vc c) (hd:Qr h0 vd d) (sa:sz a≤2^34) (sb:sz b≤2^34) (sc:sz c≤2^34) (sd:sz d≤2^34) (h1:a≤d) (h2:c≤b):Spec mach 20 #[va,vb,vc,vd] h (fun r _=>r=.bool true) NP:=by
  have e1:=cmpQ_leO a d
  have e2:=cmpQ_leO c b
  rw[decide_eq_true h1] at e1
  rw[decide_eq_true h2] at e2
  obtain⟨_,_,_,_,_,_,_,rfl,ha⟩:=ha.sa
  obtain⟨_,_,_,_,_,_,_,rfl,hb⟩:=hb.sa
  obtain⟨_,_,_,_,_,_,_,rfl,hc⟩:=hc.sa
  obtain⟨_,_,_,_,_,_,_,rfl,hd⟩:=hd.sa
  refine Spec.go [] Tryz.func20 rfl rfl (by kernel_rfl) fun C _=>?_
  try simp(maxSteps:=999999) (disch:=omega) only[go_sem,Nat.reduceBEq,Nat.reduceAdd]
  refine caN (by exact QCmp_spec ha hd sa sd) ?_;rintro v1 g1 s1 rfl
  try simp(maxSteps:=999999) (disch:=omega) only[go_sem,Nat.reduceBEq,Nat.reduceAdd,e1]
  refine caN (by exact QCmp_spec (hc.to (h':=g1)) (hb.to (h':=g1)) sc sb) ?_;rintro v2 g2 s2 rfl
  try simp(maxSteps:=999999) (disch:=omega) only[go_sem,Nat.reduceBEq,Nat.reduceAdd,e2]
theorem ElRight_law {h0 h:PH} [Le h0 h] {v:Value} {neg:Bool} {n d:Nat} {p:Int} (hv:Rw h0 v neg n d):Spec mach 6 #[v,.int .i64 p] h (fun r _=>r=.bool true) NP:=by
  have kO:=fun {h} [Le h0 h]=>QOf_spec (h:=h) hv
  have bx:=hv.sz35
  generalize qof neg n d=x at*
  obtain⟨_,_,_,_,_,_,_,rfl,_⟩:=hv.sa
  clear hv
  by_cases hp:0≤p∧p≤128
  · obtain⟨q,rfl⟩:=Int.eq_ofNat_of_zero_le hp.1
    have hq:q≤128:=by omega
    have kP:=fun {h}=>FPi_ok (h:=h) hq
    have S6:=right_S6 (x:=x) (n:=q)
    have S8:=right_S8 (x:=x) (n:=q)
    have hE7:=right_E x (q:Int)
    have hE8:=right_E8 (x:=x) (p:=(q:Int))
    obtain⟨zl,zh⟩:=pi_sz hq
    have z0:sz (0:Rat)≤2^33:=by decide
    have zL : sz ((piLo q + 0) / 2) ≤ 2 ^ 34 := by rw[Rat.add_zero,Rat.div_def];have:=sz_mul (piLo q) (2:Rat)⁻¹;have:sz (2:Rat)⁻¹≤8:=by decide+kernel
                                                   omega
    have zH : sz ((piHi q + 0) / 2) ≤ 2 ^ 34 := by rw[Rat.add_zero,Rat.div_def];have:=sz_mul (piHi q) (2:Rat)⁻¹;have:sz (2:Rat)⁻¹≤8:=by decide+kernel
                                                   omega
    obtain⟨a1,a2⟩:=br_sz 6 x q
    obtain⟨a3,a4⟩:=br_sz 7 x q
    obtain⟨a5,a6⟩:=br_sz 8 x q
    obtain⟨a7,a8⟩:=br_sz 8 x⁻¹ q
    have t1:sz (brL 6 x q+brL 7 x q)≤2^34:=by have:=sz_add (brL 6 x q) (brL 7 x q);omega
    have t2:sz (brH 6 x q+brH 7 x q)≤2^34:=by have:=sz_add (brH 6 x q) (brH 7 x q);omega
    have t3:sz (brL 8 x q+brL 8 x⁻¹ q)≤2^34:=by have:=sz_add (brL 8 x q) (brL 8 x⁻¹ q);omega
    have t4:sz (brH 8 x q+brH 8 x⁻¹ q)≤2^34:=by have:=sz_add (brH 8 x q) (brH 8 x⁻¹ q);omega
    have k6:=fun {h0 h:PH} {w:Value} [Le h0 h] (c:Qr h0 w x)=>LBracket_spec (h:=h) (fn:=6) (p:=(q:Int)) Apply_e6 c bx
    have k7:=fun {h0 h:PH} {w:Value} [Le h0 h] (c:Qr h0 w x)=>LBracket_spec (h:=h) (fn:=7) (p:=(q:Int)) Apply_e7 c bx
    have k8:=fun {h0 h:PH} {w:Value} [Le h0 h] (c:Qr h0 w x)=>LBracket_spec (h:=h) (fn:=8) (p:=(q:Int)) Apply_e8 c bx
    have k9:=fun {h0 h:PH} {w:Value} [Le h0 h] (c:Qr h0 w x⁻¹)=>LBracket_spec (h:=h) (fn:=8) (p:=(q:Int)) Apply_e8 c (by have:=sz_inv x;omega)
    have i1:((1:Int):Rat) / x=x⁻¹:=by rw[Rat.div_def];exact Rat.one_mul _
    have i0:sz ((1:Int):Rat)≤2^35:=by decide
    have kI:=fun {h}=>QInt_spec (h:=h) (n:=1) (by decide) (by decide)
    have eS:=sgn3_le0 x
    rw[hE7] at k7
    obtain⟨ok,hok⟩:∃b,decide (brE 6 x (q:Int)=0)=b:=⟨_,rfl⟩
    rw[hok] at k6 k7
    have S6:ok=true→_:=fun e=>S6 (of_decide_eq_true (hok.trans e))
    generalize((1:Int):Rat)=One at*
    generalize hLL:(piLo q+0) / 2=LL at*
    generalize hHH:(piHi q+0) / 2=HH at*
    generalize brL 6 x q=A1 at*
    generalize brH 6 x q=A2 at*
    generalize brL 7 x q=A3 at*
    generalize brH 7 x q=A4 at*
    generalize brL 8 x q=A5 at*
    generalize brH 8 x q=A6 at*
    generalize brL 8 x⁻¹ q=A7 at*
    generalize brH 8 x⁻¹ q=A8 at*
    generalize piLo q=PL at*
    generalize piHi q=PH' at*
    have zl:=Hid.mk zl
    have zh:=Hid.mk zh
    clear hE7 hq hp hok
    by_cases x0:x≤0
    · rw[decide_eq_true x0] at eS
      clear S8 hE8 k8 k9 i1 a5 a6 a7 a8 t3 t4 x0
      cases ok
      · clear S6
        refine Spec.go [(5,.h [] [] [10,11] [10,11,0,1,3,5,6,8,2,4,7,9,12,13]),(8,.o [0,1,2,3,4,5,6,7,8,9,10,11,13,14,16,17,12,15,18,19,20,21]),(13,.h [] [] [] [1,3,0,2,4,5,6,7,8,9,10,11]),(14,.o [0,1,2,3,4,5,6,7,8,10,11,13,14,9,12,15,16,17,18])] Tryz.func6 rfl rfl (by kernel_rfl) fun C _=>?_
        try simp(maxSteps:=999999) (disch:=omega) only[go_sem,Nat.reduceBEq,Nat.reduceAdd]
        refine caN (by exact kO) ?_;rintro v1 h1 s1 q1;obtain⟨_,_,_,_,_,_,_,rfl,q1⟩:=q1.sa
        try simp(maxSteps:=999999) (disch:=omega) only[go_sem,Nat.reduceBEq,Nat.reduceAdd]
        refine caN (by exact kP) ?_;rintro v2 h2 s2 ⟨_,_,_,_,_,_,_,_,_,_,_,_,_,_,rfl,c1,c2⟩
        try simp(maxSteps:=999999) (disch:=omega) only[go_sem,Nat.reduceBEq,Nat.reduceAdd]
        refine caN (by exact QOf_can c1 (Nat.le_trans zl.out (by decide))) ?_;rintro v3 h3 s3 q3;obtain⟨_,_,_,_,_,_,_,rfl,q3⟩:=q3.sa
        try simp(maxSteps:=999999) (disch:=omega) only[go_sem,Nat.reduceBEq,Nat.reduceAdd]
        refine caN (by exact Half_spec q3 (Qr_nil h3) (Nat.le_trans zl.out (by decide)) z0) ?_;rintro v4 h4 s4 q4;rw[hLL] at q4;obtain⟨_,_,_,_,_,_,_,rfl,q4⟩:=q4.sa
        try simp(maxSteps:=999999) (disch:=omega) only[go_sem,Nat.reduceBEq,Nat.reduceAdd]
        refine caN (by exact QOf_can (c2.to (h':=h4)) (Nat.le_trans zh.out (by decide))) ?_;rintro v5 h5 s5 q5;obtain⟨_,_,_,_,_,_,_,rfl,q5⟩:=q5.sa
        try simp(maxSteps:=999999) (disch:=omega) only[go_sem,Nat.reduceBEq,Nat.reduceAdd]
        refine caN (by exact Half_spec q5 (Qr_nil h5) (Nat.le_trans zh.out (by decide)) z0) ?_;rintro v6 h6 s6 q6;rw[hHH] at q6;obtain⟨_,_,_,_,_,_,_,rfl,q6⟩:=q6.sa
        try simp(maxSteps:=999999) (disch:=omega) only[go_sem,Nat.reduceBEq,Nat.reduceAdd]
        refine caN (by exact k6 (q1.to (h':=h6))) ?_;rintro v7 h7 s7 ⟨_,_,_,_,_,_,_,_,_,_,_,_,_,_,rfl,r1,r2⟩
        try simp(maxSteps:=999999) (disch:=omega) only[go_sem,Nat.reduceBEq,Nat.reduceAdd]
        refine caN (by exact k7 (q1.to (h':=h7))) ?_;rintro v8 h8 s8 ⟨_,_,_,_,_,_,_,_,_,_,_,_,_,_,rfl,r3,r4⟩
        try simp(maxSteps:=999999) (disch:=omega) only[go_sem,Nat.reduceBEq,Nat.reduceAdd]
        refine caN (by exact sane_spec) ?_;rintro v9 h9 s9 rfl
        try simp(maxSteps:=999999) (disch:=omega) only[go_sem,Nat.reduceBEq,Nat.reduceAdd]
        refine caN (by exact Sgn_spec (q1.to (h':=h9))) ?_;rintro v13 h13 s13 rfl
        try simp(maxSteps:=999999) (disch:=omega) only[go_sem,Nat.reduceBEq,Nat.reduceAdd,eS]
      · have S6:=S6 rfl
        refine Spec.go [(5,.h [] [] [10,11] [10,11,0,1,3,5,6,8,2,4,7,9,12,13]),(8,.o [0,1,2,3,4,5,6,7,8,9,10,11,13,14,16,17,12,15,18,19,20,21]),(13,.h [] [] [] [1,3,0,2,4,5,6,7,8,9,10,11]),(14,.o [0,1,2,3,4,5,6,7,8,10,11,13,14,9,12,15,16,17,18])] Tryz.func6 rfl rfl (by kernel_rfl) fun C _=>?_
        try simp(maxSteps:=999999) (disch:=omega) only[go_sem,Nat.reduceBEq,Nat.reduceAdd]
        refine caN (by exact kO) ?_;rintro v1 h1 s1 q1;obtain⟨_,_,_,_,_,_,_,rfl,q1⟩:=q1.sa
        try simp(maxSteps:=999999) (disch:=omega) only[go_sem,Nat.reduceBEq,Nat.reduceAdd]
        refine caN (by exact kP) ?_;rintro v2 h2 s2 ⟨_,_,_,_,_,_,_,_,_,_,_,_,_,_,rfl,c1,c2⟩
        try simp(maxSteps:=999999) (disch:=omega) only[go_sem,Nat.reduceBEq,Nat.reduceAdd]
        refine caN (by exact QOf_can c1 (Nat.le_trans zl.out (by decide))) ?_;rintro v3 h3 s3 q3;obtain⟨_,_,_,_,_,_,_,rfl,q3⟩:=q3.sa
        try simp(maxSteps:=999999) (disch:=omega) only[go_sem,Nat.reduceBEq,Nat.reduceAdd]
        refine caN (by exact Half_spec q3 (Qr_nil h3) (Nat.le_trans zl.out (by decide)) z0) ?_;rintro v4 h4 s4 q4;rw[hLL] at q4;obtain⟨_,_,_,_,_,_,_,rfl,q4⟩:=q4.sa
        try simp(maxSteps:=999999) (disch:=omega) only[go_sem,Nat.reduceBEq,Nat.reduceAdd]
        refine caN (by exact QOf_can (c2.to (h':=h4)) (Nat.le_trans zh.out (by decide))) ?_;rintro v5 h5 s5 q5;obtain⟨_,_,_,_,_,_,_,rfl,q5⟩:=q5.sa
        try simp(maxSteps:=999999) (disch:=omega) only[go_sem,Nat.reduceBEq,Nat.reduceAdd]
        refine caN (by exact Half_spec q5 (Qr_nil h5) (Nat.le_trans zh.out (by decide)) z0) ?_;rintro v6 h6 s6 q6;rw[hHH] at q6;obtain⟨_,_,_,_,_,_,_,rfl,q6⟩:=q6.sa
        try simp(maxSteps:=999999) (disch:=omega) only[go_sem,Nat.reduceBEq,Nat.reduceAdd]
        refine caN (by exact k6 (q1.to (h':=h6))) ?_;rintro v7 h7 s7 ⟨_,_,_,_,_,_,_,_,_,_,_,_,_,_,rfl,r1,r2⟩
        try simp(maxSteps:=999999) (disch:=omega) only[go_sem,Nat.reduceBEq,Nat.reduceAdd]
        refine caN (by exact k7 (q1.to (h':=h7))) ?_;rintro v8 h8 s8 ⟨_,_,_,_,_,_,_,_,_,_,_,_,_,_,rfl,r3,r4⟩
        try simp(maxSteps:=999999) (disch:=omega) only[go_sem,Nat.reduceBEq,Nat.reduceAdd]
        refine caN (by exact sane_spec) ?_;rintro v9 h9 s9 rfl
        try simp(maxSteps:=999999) (disch:=omega) only[go_sem,Nat.reduceBEq,Nat.reduceAdd]
        refine caN (by exact Sum_spec (r1.to (h':=h9)) (r3.to (h':=h9)) (Nat.le_trans a1 (by decide)) (Nat.le_trans a3 (by decide))) ?_;rintro v10 h10 s10 q10;obtain⟨_,_,_,_,_,_,_,rfl,q10⟩:=q10.sa
        try simp(maxSteps:=999999) (disch:=omega) only[go_sem,Nat.reduceBEq,Nat.reduceAdd]
        refine caN (by exact Sum_spec (r2.to (h':=h10)) (r4.to (h':=h10)) (Nat.le_trans a2 (by decide)) (Nat.le_trans a4 (by decide))) ?_;rintro v11 h11 s11 q11;obtain⟨_,_,_,_,_,_,_,rfl,q11⟩:=q11.sa
        try simp(maxSteps:=999999) (disch:=omega) only[go_sem,Nat.reduceBEq,Nat.reduceAdd]
        refine caN (by exact LMeets_yes (q10.to (h':=h11)) q11 (q4.to (h':=h11)) (q6.to (h':=h11)) t1 t2 zL zH S6.1 S6.2) ?_;rintro v12 h12 s12 rfl
        try simp(maxSteps:=999999) (disch:=omega) only[go_sem,Nat.reduceBEq,Nat.reduceAdd]
        refine caN (by exact Sgn_spec (q1.to (h':=h12))) ?_;rintro v13 h13 s13 rfl
        try simp(maxSteps:=999999) (disch:=omega) only[go_sem,Nat.reduceBEq,Nat.reduceAdd,eS]
    rw[decide_eq_false x0] at eS
    have x0:0 < x:=by grind
    have hE8:=hE8 x0
    have S8:=S8 x0
    by_cases hv:2048 < sz x
    · have eV:decide (2048 < sz x)=true:=decide_eq_true hv
      clear S8 hE8 k8 k9 i1 a5 a6 a7 a8 t3 t4 x0 hv
      cases ok
      · clear S6
        refine Spec.go [(5,.h [] [] [10,11] [10,11,0,1,3,5,6,8,2,4,7,9,12,13]),(8,.o [0,1,2,3,4,5,6,7,8,9,10,11,13,14,16,17,12,15,18,19,20,21]),(13,.h [] [] [] [1,3,0,2,4,5,6,7,8,9,10,11]),(14,.o [0,1,2,3,4,5,6,7,8,10,11,13,14,9,12,15,16,17,18])] Tryz.func6 rfl rfl (by kernel_rfl) fun C _=>?_
        try simp(maxSteps:=999999) (disch:=omega) only[go_sem,Nat.reduceBEq,Nat.reduceAdd]
        refine caN (by exact kO) ?_;rintro v1 h1 s1 q1;obtain⟨_,_,_,_,_,_,_,rfl,q1⟩:=q1.sa
        try simp(maxSteps:=999999) (disch:=omega) only[go_sem,Nat.reduceBEq,Nat.reduceAdd]
        refine caN (by exact kP) ?_;rintro v2 h2 s2 ⟨_,_,_,_,_,_,_,_,_,_,_,_,_,_,rfl,c1,c2⟩
        try simp(maxSteps:=999999) (disch:=omega) only[go_sem,Nat.reduceBEq,Nat.reduceAdd]
        refine caN (by exact QOf_can c1 (Nat.le_trans zl.out (by decide))) ?_;rintro v3 h3 s3 q3;obtain⟨_,_,_,_,_,_,_,rfl,q3⟩:=q3.sa
        try simp(maxSteps:=999999) (disch:=omega) only[go_sem,Nat.reduceBEq,Nat.reduceAdd]
        refine caN (by exact Half_spec q3 (Qr_nil h3) (Nat.le_trans zl.out (by decide)) z0) ?_;rintro v4 h4 s4 q4;rw[hLL] at q4;obtain⟨_,_,_,_,_,_,_,rfl,q4⟩:=q4.sa
        try simp(maxSteps:=999999) (disch:=omega) only[go_sem,Nat.reduceBEq,Nat.reduceAdd]
        refine caN (by exact QOf_can (c2.to (h':=h4)) (Nat.le_trans zh.out (by decide))) ?_;rintro v5 h5 s5 q5;obtain⟨_,_,_,_,_,_,_,rfl,q5⟩:=q5.sa
        try simp(maxSteps:=999999) (disch:=omega) only[go_sem,Nat.reduceBEq,Nat.reduceAdd]
        refine caN (by exact Half_spec q5 (Qr_nil h5) (Nat.le_trans zh.out (by decide)) z0) ?_;rintro v6 h6 s6 q6;rw[hHH] at q6;obtain⟨_,_,_,_,_,_,_,rfl,q6⟩:=q6.sa
        try simp(maxSteps:=999999) (disch:=omega) only[go_sem,Nat.reduceBEq,Nat.reduceAdd]
        refine caN (by exact k6 (q1.to (h':=h6))) ?_;rintro v7 h7 s7 ⟨_,_,_,_,_,_,_,_,_,_,_,_,_,_,rfl,r1,r2⟩
        try simp(maxSteps:=999999) (disch:=omega) only[go_sem,Nat.reduceBEq,Nat.reduceAdd]
        refine caN (by exact k7 (q1.to (h':=h7))) ?_;rintro v8 h8 s8 ⟨_,_,_,_,_,_,_,_,_,_,_,_,_,_,rfl,r3,r4⟩
        try simp(maxSteps:=999999) (disch:=omega) only[go_sem,Nat.reduceBEq,Nat.reduceAdd]
        refine caN (by exact sane_spec) ?_;rintro v9 h9 s9 rfl
        try simp(maxSteps:=999999) (disch:=omega) only[go_sem,Nat.reduceBEq,Nat.reduceAdd]
        refine caN (by exact Sgn_spec (q1.to (h':=h9))) ?_;rintro v13 h13 s13 rfl
        try simp(maxSteps:=999999) (disch:=omega) only[go_sem,Nat.reduceBEq,Nat.reduceAdd,eS]
        refine caN (by exact Over_spec (q1.to (h':=h13))) ?_;rintro v14 h14 s14 rfl
        try simp(maxSteps:=999999) (disch:=omega) only[go_sem,Nat.reduceBEq,Nat.reduceAdd,eV]
      · have S6:=S6 rfl
        refine Spec.go [(5,.h [] [] [10,11] [10,11,0,1,3,5,6,8,2,4,7,9,12,13]),(8,.o [0,1,2,3,4,5,6,7,8,9,10,11,13,14,16,17,12,15,18,19,20,21]),(13,.h [] [] [] [1,3,0,2,4,5,6,7,8,9,10,11]),(14,.o [0,1,2,3,4,5,6,7,8,10,11,13,14,9,12,15,16,17,18])] Tryz.func6 rfl rfl (by kernel_rfl) fun C _=>?_
        try simp(maxSteps:=999999) (disch:=omega) only[go_sem,Nat.reduceBEq,Nat.reduceAdd]
        refine caN (by exact kO) ?_;rintro v1 h1 s1 q1;obtain⟨_,_,_,_,_,_,_,rfl,q1⟩:=q1.sa
        try simp(maxSteps:=999999) (disch:=omega) only[go_sem,Nat.reduceBEq,Nat.reduceAdd]
        refine caN (by exact kP) ?_;rintro v2 h2 s2 ⟨_,_,_,_,_,_,_,_,_,_,_,_,_,_,rfl,c1,c2⟩
        try simp(maxSteps:=999999) (disch:=omega) only[go_sem,Nat.reduceBEq,Nat.reduceAdd]
        refine caN (by exact QOf_can c1 (Nat.le_trans zl.out (by decide))) ?_;rintro v3 h3 s3 q3;obtain⟨_,_,_,_,_,_,_,rfl,q3⟩:=q3.sa
        try simp(maxSteps:=999999) (disch:=omega) only[go_sem,Nat.reduceBEq,Nat.reduceAdd]
        refine caN (by exact Half_spec q3 (Qr_nil h3) (Nat.le_trans zl.out (by decide)) z0) ?_;rintro v4 h4 s4 q4;rw[hLL] at q4;obtain⟨_,_,_,_,_,_,_,rfl,q4⟩:=q4.sa
        try simp(maxSteps:=999999) (disch:=omega) only[go_sem,Nat.reduceBEq,Nat.reduceAdd]
        refine caN (by exact QOf_can (c2.to (h':=h4)) (Nat.le_trans zh.out (by decide))) ?_;rintro v5 h5 s5 q5;obtain⟨_,_,_,_,_,_,_,rfl,q5⟩:=q5.sa
        try simp(maxSteps:=999999) (disch:=omega) only[go_sem,Nat.reduceBEq,Nat.reduceAdd]
        refine caN (by exact Half_spec q5 (Qr_nil h5) (Nat.le_trans zh.out (by decide)) z0) ?_;rintro v6 h6 s6 q6;rw[hHH] at q6;obtain⟨_,_,_,_,_,_,_,rfl,q6⟩:=q6.sa
        try simp(maxSteps:=999999) (disch:=omega) only[go_sem,Nat.reduceBEq,Nat.reduceAdd]
        refine caN (by exact k6 (q1.to (h':=h6))) ?_;rintro v7 h7 s7 ⟨_,_,_,_,_,_,_,_,_,_,_,_,_,_,rfl,r1,r2⟩
        try simp(maxSteps:=999999) (disch:=omega) only[go_sem,Nat.reduceBEq,Nat.reduceAdd]
        refine caN (by exact k7 (q1.to (h':=h7))) ?_;rintro v8 h8 s8 ⟨_,_,_,_,_,_,_,_,_,_,_,_,_,_,rfl,r3,r4⟩
        try simp(maxSteps:=999999) (disch:=omega) only[go_sem,Nat.reduceBEq,Nat.reduceAdd]
        refine caN (by exact sane_spec) ?_;rintro v9 h9 s9 rfl
        try simp(maxSteps:=999999) (disch:=omega) only[go_sem,Nat.reduceBEq,Nat.reduceAdd]
        refine caN (by exact Sum_spec (r1.to (h':=h9)) (r3.to (h':=h9)) (Nat.le_trans a1 (by decide)) (Nat.le_trans a3 (by decide))) ?_;rintro v10 h10 s10 q10;obtain⟨_,_,_,_,_,_,_,rfl,q10⟩:=q10.sa
        try simp(maxSteps:=999999) (disch:=omega) only[go_sem,Nat.reduceBEq,Nat.reduceAdd]
        refine caN (by exact Sum_spec (r2.to (h':=h10)) (r4.to (h':=h10)) (Nat.le_trans a2 (by decide)) (Nat.le_trans a4 (by decide))) ?_;rintro v11 h11 s11 q11;obtain⟨_,_,_,_,_,_,_,rfl,q11⟩:=q11.sa
        try simp(maxSteps:=999999) (disch:=omega) only[go_sem,Nat.reduceBEq,Nat.reduceAdd]
        refine caN (by exact LMeets_yes (q10.to (h':=h11)) q11 (q4.to (h':=h11)) (q6.to (h':=h11)) t1 t2 zL zH S6.1 S6.2) ?_;rintro v12 h12 s12 rfl
        try simp(maxSteps:=999999) (disch:=omega) only[go_sem,Nat.reduceBEq,Nat.reduceAdd]
        refine caN (by exact Sgn_spec (q1.to (h':=h12))) ?_;rintro v13 h13 s13 rfl
        try simp(maxSteps:=999999) (disch:=omega) only[go_sem,Nat.reduceBEq,Nat.reduceAdd,eS]
        refine caN (by exact Over_spec (q1.to (h':=h13))) ?_;rintro v14 h14 s14 rfl
        try simp(maxSteps:=999999) (disch:=omega) only[go_sem,Nat.reduceBEq,Nat.reduceAdd,eV]
    have eV:decide (2048 < sz x)=false:=decide_eq_false hv
    rw[hE8] at k9
    obtain⟨is,his⟩:∃b,decide (brE 8 x (q:Int)=0)=b:=⟨_,rfl⟩
    rw[his] at k8 k9
    have S8:is=true→_:=fun e=>S8 (of_decide_eq_true (his.trans e))
    clear hE8 x0 hv his
    cases is
    · clear S8
      cases ok
      · clear S6
        refine Spec.go [(5,.h [] [] [10,11] [10,11,0,1,3,5,6,8,2,4,7,9,12,13]),(8,.o [0,1,2,3,4,5,6,7,8,9,10,11,13,14,16,17,12,15,18,19,20,21]),(13,.h [] [] [] [1,3,0,2,4,5,6,7,8,9,10,11]),(14,.o [0,1,2,3,4,5,6,7,8,10,11,13,14,9,12,15,16,17,18])] Tryz.func6 rfl rfl (by kernel_rfl) fun C _=>?_
        try simp(maxSteps:=999999) (disch:=omega) only[go_sem,Nat.reduceBEq,Nat.reduceAdd]
        refine caN (by exact kO) ?_;rintro v1 h1 s1 q1;obtain⟨_,_,_,_,_,_,_,rfl,q1⟩:=q1.sa
        try simp(maxSteps:=999999) (disch:=omega) only[go_sem,Nat.reduceBEq,Nat.reduceAdd]
        refine caN (by exact kP) ?_;rintro v2 h2 s2 ⟨_,_,_,_,_,_,_,_,_,_,_,_,_,_,rfl,c1,c2⟩
        try simp(maxSteps:=999999) (disch:=omega) only[go_sem,Nat.reduceBEq,Nat.reduceAdd]
        refine caN (by exact QOf_can c1 (Nat.le_trans zl.out (by decide))) ?_;rintro v3 h3 s3 q3;obtain⟨_,_,_,_,_,_,_,rfl,q3⟩:=q3.sa
        try simp(maxSteps:=999999) (disch:=omega) only[go_sem,Nat.reduceBEq,Nat.reduceAdd]
        refine caN (by exact Half_spec q3 (Qr_nil h3) (Nat.le_trans zl.out (by decide)) z0) ?_;rintro v4 h4 s4 q4;rw[hLL] at q4;obtain⟨_,_,_,_,_,_,_,rfl,q4⟩:=q4.sa
        try simp(maxSteps:=999999) (disch:=omega) only[go_sem,Nat.reduceBEq,Nat.reduceAdd]
        refine caN (by exact QOf_can (c2.to (h':=h4)) (Nat.le_trans zh.out (by decide))) ?_;rintro v5 h5 s5 q5;obtain⟨_,_,_,_,_,_,_,rfl,q5⟩:=q5.sa
        try simp(maxSteps:=999999) (disch:=omega) only[go_sem,Nat.reduceBEq,Nat.reduceAdd]
        refine caN (by exact Half_spec q5 (Qr_nil h5) (Nat.le_trans zh.out (by decide)) z0) ?_;rintro v6 h6 s6 q6;rw[hHH] at q6;obtain⟨_,_,_,_,_,_,_,rfl,q6⟩:=q6.sa
        try simp(maxSteps:=999999) (disch:=omega) only[go_sem,Nat.reduceBEq,Nat.reduceAdd]
        refine caN (by exact k6 (q1.to (h':=h6))) ?_;rintro v7 h7 s7 ⟨_,_,_,_,_,_,_,_,_,_,_,_,_,_,rfl,r1,r2⟩
        try simp(maxSteps:=999999) (disch:=omega) only[go_sem,Nat.reduceBEq,Nat.reduceAdd]
        refine caN (by exact k7 (q1.to (h':=h7))) ?_;rintro v8 h8 s8 ⟨_,_,_,_,_,_,_,_,_,_,_,_,_,_,rfl,r3,r4⟩
        try simp(maxSteps:=999999) (disch:=omega) only[go_sem,Nat.reduceBEq,Nat.reduceAdd]
        refine caN (by exact sane_spec) ?_;rintro v9 h9 s9 rfl
        try simp(maxSteps:=999999) (disch:=omega) only[go_sem,Nat.reduceBEq,Nat.reduceAdd]
        refine caN (by exact Sgn_spec (q1.to (h':=h9))) ?_;rintro v13 h13 s13 rfl
        try simp(maxSteps:=999999) (disch:=omega) only[go_sem,Nat.reduceBEq,Nat.reduceAdd,eS]
        refine caN (by exact Over_spec (q1.to (h':=h13))) ?_;rintro v14 h14 s14 rfl
        try simp(maxSteps:=999999) (disch:=omega) only[go_sem,Nat.reduceBEq,Nat.reduceAdd,eV]
        refine caN (by exact k8 (q1.to (h':=h14))) ?_;rintro v15 h15 s15 ⟨_,_,_,_,_,_,_,_,_,_,_,_,_,_,rfl,u1,u2⟩
        try simp(maxSteps:=999999) (disch:=omega) only[go_sem,Nat.reduceBEq,Nat.reduceAdd]
        refine caN (by exact kI) ?_;rintro v16 h16 s16 q16;obtain⟨_,_,_,_,_,_,_,rfl,q16⟩:=q16.sa
        try simp(maxSteps:=999999) (disch:=omega) only[go_sem,Nat.reduceBEq,Nat.reduceAdd]
        refine caN (by exact QDiv_spec q16 (q1.to (h':=h16)) i0 bx) ?_;rintro v17 h17 s17 q17;rw[i1] at q17;obtain⟨_,_,_,_,_,_,_,rfl,q17⟩:=q17.sa
        try simp(maxSteps:=999999) (disch:=omega) only[go_sem,Nat.reduceBEq,Nat.reduceAdd]
        refine caN (by exact k9 q17) ?_;rintro v18 h18 s18 ⟨_,_,_,_,_,_,_,_,_,_,_,_,_,_,rfl,u3,u4⟩
        try simp(maxSteps:=999999) (disch:=omega) only[go_sem,Nat.reduceBEq,Nat.reduceAdd]
      · have S6:=S6 rfl
        refine Spec.go [(5,.h [] [] [10,11] [10,11,0,1,3,5,6,8,2,4,7,9,12,13]),(8,.o [0,1,2,3,4,5,6,7,8,9,10,11,13,14,16,17,12,15,18,19,20,21]),(13,.h [] [] [] [1,3,0,2,4,5,6,7,8,9,10,11]),(14,.o [0,1,2,3,4,5,6,7,8,10,11,13,14,9,12,15,16,17,18])] Tryz.func6 rfl rfl (by kernel_rfl) fun C _=>?_
        try simp(maxSteps:=999999) (disch:=omega) only[go_sem,Nat.reduceBEq,Nat.reduceAdd]
        refine caN (by exact kO) ?_;rintro v1 h1 s1 q1;obtain⟨_,_,_,_,_,_,_,rfl,q1⟩:=q1.sa
        try simp(maxSteps:=999999) (disch:=omega) only[go_sem,Nat.reduceBEq,Nat.reduceAdd]
        refine caN (by exact kP) ?_;rintro v2 h2 s2 ⟨_,_,_,_,_,_,_,_,_,_,_,_,_,_,rfl,c1,c2⟩
        try simp(maxSteps:=999999) (disch:=omega) only[go_sem,Nat.reduceBEq,Nat.reduceAdd]
        refine caN (by exact QOf_can c1 (Nat.le_trans zl.out (by decide))) ?_;rintro v3 h3 s3 q3;obtain⟨_,_,_,_,_,_,_,rfl,q3⟩:=q3.sa
        try simp(maxSteps:=999999) (disch:=omega) only[go_sem,Nat.reduceBEq,Nat.reduceAdd]
        refine caN (by exact Half_spec q3 (Qr_nil h3) (Nat.le_trans zl.out (by decide)) z0) ?_;rintro v4 h4 s4 q4;rw[hLL] at q4;obtain⟨_,_,_,_,_,_,_,rfl,q4⟩:=q4.sa
        try simp(maxSteps:=999999) (disch:=omega) only[go_sem,Nat.reduceBEq,Nat.reduceAdd]
        refine caN (by exact QOf_can (c2.to (h':=h4)) (Nat.le_trans zh.out (by decide))) ?_;rintro v5 h5 s5 q5;obtain⟨_,_,_,_,_,_,_,rfl,q5⟩:=q5.sa
        try simp(maxSteps:=999999) (disch:=omega) only[go_sem,Nat.reduceBEq,Nat.reduceAdd]
        refine caN (by exact Half_spec q5 (Qr_nil h5) (Nat.le_trans zh.out (by decide)) z0) ?_;rintro v6 h6 s6 q6;rw[hHH] at q6;obtain⟨_,_,_,_,_,_,_,rfl,q6⟩:=q6.sa
        try simp(maxSteps:=999999) (disch:=omega) only[go_sem,Nat.reduceBEq,Nat.reduceAdd]
        refine caN (by exact k6 (q1.to (h':=h6))) ?_;rintro v7 h7 s7 ⟨_,_,_,_,_,_,_,_,_,_,_,_,_,_,rfl,r1,r2⟩
        try simp(maxSteps:=999999) (disch:=omega) only[go_sem,Nat.reduceBEq,Nat.reduceAdd]
        refine caN (by exact k7 (q1.to (h':=h7))) ?_;rintro v8 h8 s8 ⟨_,_,_,_,_,_,_,_,_,_,_,_,_,_,rfl,r3,r4⟩
        try simp(maxSteps:=999999) (disch:=omega) only[go_sem,Nat.reduceBEq,Nat.reduceAdd]
        refine caN (by exact sane_spec) ?_;rintro v9 h9 s9 rfl
        try simp(maxSteps:=999999) (disch:=omega) only[go_sem,Nat.reduceBEq,Nat.reduceAdd]
        refine caN (by exact Sum_spec (r1.to (h':=h9)) (r3.to (h':=h9)) (Nat.le_trans a1 (by decide)) (Nat.le_trans a3 (by decide))) ?_;rintro v10 h10 s10 q10;obtain⟨_,_,_,_,_,_,_,rfl,q10⟩:=q10.sa
        try simp(maxSteps:=999999) (disch:=omega) only[go_sem,Nat.reduceBEq,Nat.reduceAdd]
        refine caN (by exact Sum_spec (r2.to (h':=h10)) (r4.to (h':=h10)) (Nat.le_trans a2 (by decide)) (Nat.le_trans a4 (by decide))) ?_;rintro v11 h11 s11 q11;obtain⟨_,_,_,_,_,_,_,rfl,q11⟩:=q11.sa
        try simp(maxSteps:=999999) (disch:=omega) only[go_sem,Nat.reduceBEq,Nat.reduceAdd]
        refine caN (by exact LMeets_yes (q10.to (h':=h11)) q11 (q4.to (h':=h11)) (q6.to (h':=h11)) t1 t2 zL zH S6.1 S6.2) ?_;rintro v12 h12 s12 rfl
        try simp(maxSteps:=999999) (disch:=omega) only[go_sem,Nat.reduceBEq,Nat.reduceAdd]
        refine caN (by exact Sgn_spec (q1.to (h':=h12))) ?_;rintro v13 h13 s13 rfl
        try simp(maxSteps:=999999) (disch:=omega) only[go_sem,Nat.reduceBEq,Nat.reduceAdd,eS]
        refine caN (by exact Over_spec (q1.to (h':=h13))) ?_;rintro v14 h14 s14 rfl
        try simp(maxSteps:=999999) (disch:=omega) only[go_sem,Nat.reduceBEq,Nat.reduceAdd,eV]
        refine caN (by exact k8 (q1.to (h':=h14))) ?_;rintro v15 h15 s15 ⟨_,_,_,_,_,_,_,_,_,_,_,_,_,_,rfl,u1,u2⟩
        try simp(maxSteps:=999999) (disch:=omega) only[go_sem,Nat.reduceBEq,Nat.reduceAdd]
        refine caN (by exact kI) ?_;rintro v16 h16 s16 q16;obtain⟨_,_,_,_,_,_,_,rfl,q16⟩:=q16.sa
        try simp(maxSteps:=999999) (disch:=omega) only[go_sem,Nat.reduceBEq,Nat.reduceAdd]
        refine caN (by exact QDiv_spec q16 (q1.to (h':=h16)) i0 bx) ?_;rintro v17 h17 s17 q17;rw[i1] at q17;obtain⟨_,_,_,_,_,_,_,rfl,q17⟩:=q17.sa
        try simp(maxSteps:=999999) (disch:=omega) only[go_sem,Nat.reduceBEq,Nat.reduceAdd]
        refine caN (by exact k9 q17) ?_;rintro v18 h18 s18 ⟨_,_,_,_,_,_,_,_,_,_,_,_,_,_,rfl,u3,u4⟩
        try simp(maxSteps:=999999) (disch:=omega) only[go_sem,Nat.reduceBEq,Nat.reduceAdd]
    · have S8:=S8 rfl
      cases ok
      · clear S6
        refine Spec.go [(5,.h [] [] [10,11] [10,11,0,1,3,5,6,8,2,4,7,9,12,13]),(8,.o [0,1,2,3,4,5,6,7,8,9,10,11,13,14,16,17,12,15,18,19,20,21]),(13,.h [] [] [] [1,3,0,2,4,5,6,7,8,9,10,11]),(14,.o [0,1,2,3,4,5,6,7,8,10,11,13,14,9,12,15,16,17,18])] Tryz.func6 rfl rfl (by kernel_rfl) fun C _=>?_
        try simp(maxSteps:=999999) (disch:=omega) only[go_sem,Nat.reduceBEq,Nat.reduceAdd]
        refine caN (by exact kO) ?_;rintro v1 h1 s1 q1;obtain⟨_,_,_,_,_,_,_,rfl,q1⟩:=q1.sa
        try simp(maxSteps:=999999) (disch:=omega) only[go_sem,Nat.reduceBEq,Nat.reduceAdd]
        refine caN (by exact kP) ?_;rintro v2 h2 s2 ⟨_,_,_,_,_,_,_,_,_,_,_,_,_,_,rfl,c1,c2⟩
        try simp(maxSteps:=999999) (disch:=omega) only[go_sem,Nat.reduceBEq,Nat.reduceAdd]
        refine caN (by exact QOf_can c1 (Nat.le_trans zl.out (by decide))) ?_;rintro v3 h3 s3 q3;obtain⟨_,_,_,_,_,_,_,rfl,q3⟩:=q3.sa
        try simp(maxSteps:=999999) (disch:=omega) only[go_sem,Nat.reduceBEq,Nat.reduceAdd]
        refine caN (by exact Half_spec q3 (Qr_nil h3) (Nat.le_trans zl.out (by decide)) z0) ?_;rintro v4 h4 s4 q4;rw[hLL] at q4;obtain⟨_,_,_,_,_,_,_,rfl,q4⟩:=q4.sa
        try simp(maxSteps:=999999) (disch:=omega) only[go_sem,Nat.reduceBEq,Nat.reduceAdd]
        refine caN (by exact QOf_can (c2.to (h':=h4)) (Nat.le_trans zh.out (by decide))) ?_;rintro v5 h5 s5 q5;obtain⟨_,_,_,_,_,_,_,rfl,q5⟩:=q5.sa
        try simp(maxSteps:=999999) (disch:=omega) only[go_sem,Nat.reduceBEq,Nat.reduceAdd]
        refine caN (by exact Half_spec q5 (Qr_nil h5) (Nat.le_trans zh.out (by decide)) z0) ?_;rintro v6 h6 s6 q6;rw[hHH] at q6;obtain⟨_,_,_,_,_,_,_,rfl,q6⟩:=q6.sa
        try simp(maxSteps:=999999) (disch:=omega) only[go_sem,Nat.reduceBEq,Nat.reduceAdd]
        refine caN (by exact k6 (q1.to (h':=h6))) ?_;rintro v7 h7 s7 ⟨_,_,_,_,_,_,_,_,_,_,_,_,_,_,rfl,r1,r2⟩
        try simp(maxSteps:=999999) (disch:=omega) only[go_sem,Nat.reduceBEq,Nat.reduceAdd]
        refine caN (by exact k7 (q1.to (h':=h7))) ?_;rintro v8 h8 s8 ⟨_,_,_,_,_,_,_,_,_,_,_,_,_,_,rfl,r3,r4⟩
        try simp(maxSteps:=999999) (disch:=omega) only[go_sem,Nat.reduceBEq,Nat.reduceAdd]
        refine caN (by exact sane_spec) ?_;rintro v9 h9 s9 rfl
        try simp(maxSteps:=999999) (disch:=omega) only[go_sem,Nat.reduceBEq,Nat.reduceAdd]
        refine caN (by exact Sgn_spec (q1.to (h':=h9))) ?_;rintro v13 h13 s13 rfl
        try simp(maxSteps:=999999) (disch:=omega) only[go_sem,Nat.reduceBEq,Nat.reduceAdd,eS]
        refine caN (by exact Over_spec (q1.to (h':=h13))) ?_;rintro v14 h14 s14 rfl
        try simp(maxSteps:=999999) (disch:=omega) only[go_sem,Nat.reduceBEq,Nat.reduceAdd,eV]
        refine caN (by exact k8 (q1.to (h':=h14))) ?_;rintro v15 h15 s15 ⟨_,_,_,_,_,_,_,_,_,_,_,_,_,_,rfl,u1,u2⟩
        try simp(maxSteps:=999999) (disch:=omega) only[go_sem,Nat.reduceBEq,Nat.reduceAdd]
        refine caN (by exact kI) ?_;rintro v16 h16 s16 q16;obtain⟨_,_,_,_,_,_,_,rfl,q16⟩:=q16.sa
        try simp(maxSteps:=999999) (disch:=omega) only[go_sem,Nat.reduceBEq,Nat.reduceAdd]
        refine caN (by exact QDiv_spec q16 (q1.to (h':=h16)) i0 bx) ?_;rintro v17 h17 s17 q17;rw[i1] at q17;obtain⟨_,_,_,_,_,_,_,rfl,q17⟩:=q17.sa
        try simp(maxSteps:=999999) (disch:=omega) only[go_sem,Nat.reduceBEq,Nat.reduceAdd]
        refine caN (by exact k9 q17) ?_;rintro v18 h18 s18 ⟨_,_,_,_,_,_,_,_,_,_,_,_,_,_,rfl,u3,u4⟩
        try simp(maxSteps:=999999) (disch:=omega) only[go_sem,Nat.reduceBEq,Nat.reduceAdd]
        refine caN (by exact Sum_spec (u1.to (h':=h18)) (u3.to (h':=h18)) (Nat.le_trans a5 (by decide)) (Nat.le_trans a7 (by decide))) ?_;rintro v20 h20 s20 q20;obtain⟨_,_,_,_,_,_,_,rfl,q20⟩:=q20.sa
        try simp(maxSteps:=999999) (disch:=omega) only[go_sem,Nat.reduceBEq,Nat.reduceAdd]
        refine caN (by exact Sum_spec (u2.to (h':=h20)) (u4.to (h':=h20)) (Nat.le_trans a6 (by decide)) (Nat.le_trans a8 (by decide))) ?_;rintro v21 h21 s21 q21;obtain⟨_,_,_,_,_,_,_,rfl,q21⟩:=q21.sa
        try simp(maxSteps:=999999) (disch:=omega) only[go_sem,Nat.reduceBEq,Nat.reduceAdd]
        refine caN (by exact LMeets_yes (q20.to (h':=h21)) q21 (q4.to (h':=h21)) (q6.to (h':=h21)) t3 t4 zL zH S8.1 S8.2) ?_;rintro v22 h22 s22 rfl
        try simp(maxSteps:=999999) (disch:=omega) only[go_sem,Nat.reduceBEq,Nat.reduceAdd]
      · have S6:=S6 rfl
        refine Spec.go [(5,.h [] [] [10,11] [10,11,0,1,3,5,6,8,2,4,7,9,12,13]),(8,.o [0,1,2,3,4,5,6,7,8,9,10,11,13,14,16,17,12,15,18,19,20,21]),(13,.h [] [] [] [1,3,0,2,4,5,6,7,8,9,10,11]),(14,.o [0,1,2,3,4,5,6,7,8,10,11,13,14,9,12,15,16,17,18])] Tryz.func6 rfl rfl (by kernel_rfl) fun C _=>?_
        try simp(maxSteps:=999999) (disch:=omega) only[go_sem,Nat.reduceBEq,Nat.reduceAdd]
        refine caN (by exact kO) ?_;rintro v1 h1 s1 q1;obtain⟨_,_,_,_,_,_,_,rfl,q1⟩:=q1.sa
        try simp(maxSteps:=999999) (disch:=omega) only[go_sem,Nat.reduceBEq,Nat.reduceAdd]
        refine caN (by exact kP) ?_;rintro v2 h2 s2 ⟨_,_,_,_,_,_,_,_,_,_,_,_,_,_,rfl,c1,c2⟩
        try simp(maxSteps:=999999) (disch:=omega) only[go_sem,Nat.reduceBEq,Nat.reduceAdd]
        refine caN (by exact QOf_can c1 (Nat.le_trans zl.out (by decide))) ?_;rintro v3 h3 s3 q3;obtain⟨_,_,_,_,_,_,_,rfl,q3⟩:=q3.sa
        try simp(maxSteps:=999999) (disch:=omega) only[go_sem,Nat.reduceBEq,Nat.reduceAdd]
        refine caN (by exact Half_spec q3 (Qr_nil h3) (Nat.le_trans zl.out (by decide)) z0) ?_;rintro v4 h4 s4 q4;rw[hLL] at q4;obtain⟨_,_,_,_,_,_,_,rfl,q4⟩:=q4.sa
        try simp(maxSteps:=999999) (disch:=omega) only[go_sem,Nat.reduceBEq,Nat.reduceAdd]
        refine caN (by exact QOf_can (c2.to (h':=h4)) (Nat.le_trans zh.out (by decide))) ?_;rintro v5 h5 s5 q5;obtain⟨_,_,_,_,_,_,_,rfl,q5⟩:=q5.sa
        try simp(maxSteps:=999999) (disch:=omega) only[go_sem,Nat.reduceBEq,Nat.reduceAdd]
        refine caN (by exact Half_spec q5 (Qr_nil h5) (Nat.le_trans zh.out (by decide)) z0) ?_;rintro v6 h6 s6 q6;rw[hHH] at q6;obtain⟨_,_,_,_,_,_,_,rfl,q6⟩:=q6.sa
        try simp(maxSteps:=999999) (disch:=omega) only[go_sem,Nat.reduceBEq,Nat.reduceAdd]
        refine caN (by exact k6 (q1.to (h':=h6))) ?_;rintro v7 h7 s7 ⟨_,_,_,_,_,_,_,_,_,_,_,_,_,_,rfl,r1,r2⟩
        try simp(maxSteps:=999999) (disch:=omega) only[go_sem,Nat.reduceBEq,Nat.reduceAdd]
        refine caN (by exact k7 (q1.to (h':=h7))) ?_;rintro v8 h8 s8 ⟨_,_,_,_,_,_,_,_,_,_,_,_,_,_,rfl,r3,r4⟩
        try simp(maxSteps:=999999) (disch:=omega) only[go_sem,Nat.reduceBEq,Nat.reduceAdd]
        refine caN (by exact sane_spec) ?_;rintro v9 h9 s9 rfl
        try simp(maxSteps:=999999) (disch:=omega) only[go_sem,Nat.reduceBEq,Nat.reduceAdd]
        refine caN (by exact Sum_spec (r1.to (h':=h9)) (r3.to (h':=h9)) (Nat.le_trans a1 (by decide)) (Nat.le_trans a3 (by decide))) ?_;rintro v10 h10 s10 q10;obtain⟨_,_,_,_,_,_,_,rfl,q10⟩:=q10.sa
        try simp(maxSteps:=999999) (disch:=omega) only[go_sem,Nat.reduceBEq,Nat.reduceAdd]
        refine caN (by exact Sum_spec (r2.to (h':=h10)) (r4.to (h':=h10)) (Nat.le_trans a2 (by decide)) (Nat.le_trans a4 (by decide))) ?_;rintro v11 h11 s11 q11;obtain⟨_,_,_,_,_,_,_,rfl,q11⟩:=q11.sa
        try simp(maxSteps:=999999) (disch:=omega) only[go_sem,Nat.reduceBEq,Nat.reduceAdd]
        refine caN (by exact LMeets_yes (q10.to (h':=h11)) q11 (q4.to (h':=h11)) (q6.to (h':=h11)) t1 t2 zL zH S6.1 S6.2) ?_;rintro v12 h12 s12 rfl
        try simp(maxSteps:=999999) (disch:=omega) only[go_sem,Nat.reduceBEq,Nat.reduceAdd]
        refine caN (by exact Sgn_spec (q1.to (h':=h12))) ?_;rintro v13 h13 s13 rfl
        try simp(maxSteps:=999999) (disch:=omega) only[go_sem,Nat.reduceBEq,Nat.reduceAdd,eS]
        refine caN (by exact Over_spec (q1.to (h':=h13))) ?_;rintro v14 h14 s14 rfl
        try simp(maxSteps:=999999) (disch:=omega) only[go_sem,Nat.reduceBEq,Nat.reduceAdd,eV]
        refine caN (by exact k8 (q1.to (h':=h14))) ?_;rintro v15 h15 s15 ⟨_,_,_,_,_,_,_,_,_,_,_,_,_,_,rfl,u1,u2⟩
        try simp(maxSteps:=999999) (disch:=omega) only[go_sem,Nat.reduceBEq,Nat.reduceAdd]
        refine caN (by exact kI) ?_;rintro v16 h16 s16 q16;obtain⟨_,_,_,_,_,_,_,rfl,q16⟩:=q16.sa
        try simp(maxSteps:=999999) (disch:=omega) only[go_sem,Nat.reduceBEq,Nat.reduceAdd]
        refine caN (by exact QDiv_spec q16 (q1.to (h':=h16)) i0 bx) ?_;rintro v17 h17 s17 q17;rw[i1] at q17;obtain⟨_,_,_,_,_,_,_,rfl,q17⟩:=q17.sa
        try simp(maxSteps:=999999) (disch:=omega) only[go_sem,Nat.reduceBEq,Nat.reduceAdd]
        refine caN (by exact k9 q17) ?_;rintro v18 h18 s18 ⟨_,_,_,_,_,_,_,_,_,_,_,_,_,_,rfl,u3,u4⟩
        try simp(maxSteps:=999999) (disch:=omega) only[go_sem,Nat.reduceBEq,Nat.reduceAdd]
        refine caN (by exact Sum_spec (u1.to (h':=h18)) (u3.to (h':=h18)) (Nat.le_trans a5 (by decide)) (Nat.le_trans a7 (by decide))) ?_;rintro v20 h20 s20 q20;obtain⟨_,_,_,_,_,_,_,rfl,q20⟩:=q20.sa
        try simp(maxSteps:=999999) (disch:=omega) only[go_sem,Nat.reduceBEq,Nat.reduceAdd]
        refine caN (by exact Sum_spec (u2.to (h':=h20)) (u4.to (h':=h20)) (Nat.le_trans a6 (by decide)) (Nat.le_trans a8 (by decide))) ?_;rintro v21 h21 s21 q21;obtain⟨_,_,_,_,_,_,_,rfl,q21⟩:=q21.sa
        try simp(maxSteps:=999999) (disch:=omega) only[go_sem,Nat.reduceBEq,Nat.reduceAdd]
        refine caN (by exact LMeets_yes (q20.to (h':=h21)) q21 (q4.to (h':=h21)) (q6.to (h':=h21)) t3 t4 zL zH S8.1 S8.2) ?_;rintro v22 h22 s22 rfl
        try simp(maxSteps:=999999) (disch:=omega) only[go_sem,Nat.reduceBEq,Nat.reduceAdd]
  · have kN:=fun {h}=>FPi_no (h:=h) hp
    refine Spec.go [(5,.h [] [] [10,11] [10,11,0,1,3,5,6,8,2,4,7,9,12,13]),(8,.o [0,1,2,3,4,5,6,7,8,9,10,11,13,14,16,17,12,15,18,19,20,21]),(13,.h [] [] [] [1,3,0,2,4,5,6,7,8,9,10,11]),(14,.o [0,1,2,3,4,5,6,7,8,10,11,13,14,9,12,15,16,17,18])] Tryz.func6 rfl rfl (by kernel_rfl) fun C _=>?_
    try simp(maxSteps:=999999) (disch:=omega) only[go_sem,Nat.reduceBEq,Nat.reduceAdd]
    refine caN (by exact kO) ?_;rintro v1 h1 s1 q1;obtain⟨_,_,_,_,_,_,_,rfl,q1⟩:=q1.sa
    try simp(maxSteps:=999999) (disch:=omega) only[go_sem,Nat.reduceBEq,Nat.reduceAdd]
    refine caN (by exact kN) ?_;rintro v2 h2 s2 rfl
    try simp(maxSteps:=999999) (disch:=omega) only[go_sem,Nat.reduceBEq,Nat.reduceAdd]
    refine caN (by exact sane_spec) ?_;rintro v3 h3 s3 rfl
    try simp(maxSteps:=999999) (disch:=omega) only[go_sem,Nat.reduceBEq,Nat.reduceAdd]
end Go.Q
