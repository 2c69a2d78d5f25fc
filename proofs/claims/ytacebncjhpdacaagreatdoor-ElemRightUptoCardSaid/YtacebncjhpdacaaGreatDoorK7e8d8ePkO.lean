/-
  What package number returns for roots on a grid: positive numbers. Conditions: the number is not large, the index from 2 to 8, the precision at most 256. (Printed by a program.)
  What package number returns for roots on a grid: negative numbers. Conditions: the number is not large, the index from 2 to 8, the precision at most 256. (Printed by a program.)
  What number.root returns, of any number. Conditions: the number is not large, the index from 2 to 8, the precision at most 256; no even root of a number below 0.
  Contracts of package number: roots rounded down and up. Conditions: the values are numbers of at most 2048 binary digits.
  What arcsine, asin and acos return. Conditions: the number's absolute value is at most 1, of at most 1024 binary digits; the precision is at most 128.
  What sine and cosine return. Conditions: the numbers' absolute values are at most 1, of at most 2048 binary digits; the working precision is from 20 to 200.
  What modulo, rest and both return. Conditions: the number's absolute value is at most 2^32, of at most 1024 binary digits; the working precision is from 64 to 192.
  What both, sin and cos return. Conditions: the number's absolute value is at most 2^32, of at most 1024 binary digits; the precision is at most 128.
  What ready returns: the first error of an argument. Conditions: the argument is a number as it comes in that is not large.
  What tan returns. Conditions: the number's absolute value is at most 2^32, of at most 1024 binary digits; the precision is at most 128.
  What tan returns: the walk. Conditions: the number's absolute value is at most 2^32, of at most 1024 binary digits; the precision is at most 128.
  What Apply and the functions of their own names return, for every function, number and precision. Conditions: the argument is a number as it comes in.
  The brackets of a number and of its opposite: no program. Conditions: the numbers of quarter turns are opposite (no tie).
-/
import Derived.Test.YtacebncjhpdacaaGreatDoorK8c97aaPkF
import Derived.Test.YtacebncjhpdacaaGreatDoorK133544PkN
import Derived.Test.YtacebncjhpdacaaGreatDoorK50c18cPkM
set_option linter.unusedVariables false
set_option linter.unusedSimpArgs false
namespace Go.Q
open Go.Proofs
set_option maxRecDepth 100000
set_option maxHeartbeats 8000000
theorem root_pos {h0 h:PH} [Le h0 h] {v:Value} {neg:Bool} {a d n p:Nat} {u:Bool} (hv:Rw h0 v neg a d) (hl:¬lg neg a d) (hn:2≤n) (hn8:n≤8) (hp:p≤256) (hd:¬((qof neg a d).num < 0∧n % 2=0)) (en:decide ((qof neg a d).num < 0)=false):
    Spec mach 141 #[v,.int .i64 n,.int .i64 p,.bool u] h (fun r h'=>∃w,r=.tuple #[w,.int .i64 0]∧Cn h' w (rootg u (qof neg a d) n p)) NP:=by
  have kR:=fun {h} [Le h0 h]=>Read_ok (h:=h) hv hl
  have hz:sz (qof neg a d)≤2048:=by unfold Go.Q.lg at hl;omega
  obtain⟨_,_,_,_,_,_,_,rfl,_⟩:=hv.sa
  generalize qof neg a d=x at*
  have b1:=sz_num x
  have b2:=sz_den x
  have hpn:p*n≤2048:=Nat.mul_le_mul hp hn8
  have b3:=bl_shl x.num.natAbs (p*n)
  have bw:=rtw_bl (p:=p) hz hn
  have bw':n*(1024+p)≤8*1280:=Nat.mul_le_mul hn8 (by omega)
  have bi:=irt_bl (n:=n) (by omega) bw
  have bi2:=bl_add (irt n (rtw x n p)) 1
  rw[bl_one] at bi2
  have b6:=bl_pow2 p
  have b0:=bl_one
  have hsz:=rootg_sz (up:=u) (p:=p) hz hn hp
  have m1:¬(n:Int) < 2:=by omega
  have m2:¬(8:Int) < n:=by omega
  have m3:¬(p:Int) < 0:=by omega
  have m4:¬(256:Int) < p:=by omega
  have hr:rootg u x n p=sgn (decide (x.num < 0)) (rtm u x n p) (2^p):=rfl
  have hm:rtm u x n p=if (u != decide (x.num < 0))=true∧rtx x n p=false then irt n (rtw x n p)+1 else irt n (rtw x n p):=rfl
  have hx0:rtx x n p=(decide (irt n (rtw x n p)^n=rtw x n p) && decide (x.num.natAbs*2^(p*n) % x.den=0)):=rfl
  have hw0:x.num.natAbs*2^(p*n) / x.den=rtw x n p:=rfl
  have hdn:=x.den_nz
  have b4:bl (x.num.natAbs*2^(p*n))≤8192:=by omega
  generalize hk:p*n=k at*
  have kS:=fun {h1 h:PH} [Le h1 h] {v:Value} (y:N32 h1 v x.num.natAbs)=>Shl_spec (h:=h) (n:=k) y (by omega)
  have kD:=fun {h1 h:PH} [Le h1 h] {v w:Value} (y:N32 h1 v (x.num.natAbs*2^k)) (l:N32 h1 w x.den)=>Div_spec (h:=h) y l hdn (by omega) (by omega)
  rw[hw0] at kD
  have hbw:bl (rtw x n p)≤2^20:=by omega
  have hi1:bl (irt n (rtw x n p))≤2^38:=by omega
  have hi2:bl (irt n (rtw x n p)+1)≤2^38:=by omega
  have hp2:bl (2^p)≤2^38:=by omega
  have hb1:bl 1≤1:=by omega
  clear b0 b1 b2 b3 b4 b6 bw bw' bi bi2 hz hw0
  rw[en] at hr hm
  cases u with
  | false=>
    generalize eB:decide (irt n (rtw x n p)^n=rtw x n p)=B
    have hr0:rootg false x n p=sgn false (irt n (rtw x n p)) (2^p):=by rw[hr,hm,if_neg (by intro k;cases k.1)]
    clear hm hr hx0
    refine Spec.go [(8,.o [0,1,2,3,4,6,7,5,8,9,10,11,12,13]),(12,.o [0,1,2,4,3,5,6,7,8,9,10,11])] Tryz.func141 rfl rfl (by kernel_rfl) fun C _=>?_
    try simp(disch:=omega) only[go_sem,Nat.reduceBEq,Nat.reduceAdd]
    refine caN (by exact kR) ?_;rintro v1 h1 s1 ⟨f,rfl,hf⟩;obtain⟨na,nl,nc,da,dl,dc,rfl,hnn,hdd⟩:=hf.sl
    try simp(disch:=omega) only[go_sem,Nat.reduceBEq,Nat.reduceAdd]
    rw[en]
    try simp(disch:=omega) only[go_sem,Nat.reduceBEq,Nat.reduceAdd]
    rw[hk]
    refine caN (by exact kS hnn) ?_;rintro v2 h2 s2 q2
    try simp(disch:=omega) only[go_sem,Nat.reduceBEq,Nat.reduceAdd]
    refine caN (by exact kD q2 (hdd.to (h':=h2))) ?_;rintro v3 h3 s3 ⟨q,r,rfl,hq,hr⟩
    try simp(disch:=omega) only[go_sem,Nat.reduceBEq,Nat.reduceAdd]
    refine caN (by exact NRoot_spec (n:=n) hq hn hn8 (by omega)) ?_;rintro v4 h4 s4 ⟨t,rfl,ht⟩
    try simp(disch:=omega) only[go_sem,Nat.reduceBEq,Nat.reduceAdd]
    rw[eB]
    try simp(disch:=omega) only[go_sem,Nat.reduceBEq,Nat.reduceAdd]
    refine caN (by exact Small_spec (n:=1) (by decide)) ?_;rintro _ g1 _ t1;obtain⟨_,_,_,rfl,t1⟩:=t1.sl
    try simp(disch:=omega) only[go_sem,Nat.reduceBEq,Nat.reduceAdd]
    refine caN (by exact Shl_spec (n:=p) t1 (by omega)) ?_;rintro _ g2 _ t2;obtain⟨_,_,_,rfl,t2⟩:=t2.sl
    try simp(disch:=omega) only[go_sem,Nat.reduceBEq,Nat.reduceAdd]
    rw[Nat.one_mul] at t2
    refine caN (by exact Reduce_spec (neg:=false) (ht.to (h':=g2)) t2 (Nat.ne_of_gt (Nat.pow_pos (by decide))) (by omega) (by omega)) ?_;rintro _ g3 _ t3;obtain⟨_,_,_,_,_,_,_,rfl,t3⟩:=t3.sa
    try simp(disch:=omega) only[go_sem,Nat.reduceBEq,Nat.reduceAdd]
    rw[←hr0] at t3
    refine caN (by exact Give_ok t3 hsz) ?_;rintro w4 g4 s4' ⟨z,rfl,hz4⟩;obtain⟨_,_,_,_,_,_,_,rfl,hz5⟩:=hz4.sa
    try simp(disch:=omega) only[go_sem,Nat.reduceBEq,Nat.reduceAdd]
    exact⟨_,rfl,hz5⟩
  | true=>
    cases eB:decide (irt n (rtw x n p)^n=rtw x n p) with
    | false=>
      have hr0:rootg true x n p=sgn false (irt n (rtw x n p)+1) (2^p):=by rw[hr,hm,if_pos ⟨rfl,by rw[hx0,eB];rfl⟩]
      clear hm hr hx0
      refine Spec.go [(8,.o [0,1,2,3,4,6,7,5,8,9,10,11,12,13]),(12,.o [0,1,2,4,3,5,6,7,8,9,10,11])] Tryz.func141 rfl rfl (by kernel_rfl) fun C _=>?_
      try simp(disch:=omega) only[go_sem,Nat.reduceBEq,Nat.reduceAdd]
      refine caN (by exact kR) ?_;rintro v1 h1 s1 ⟨f,rfl,hf⟩;obtain⟨na,nl,nc,da,dl,dc,rfl,hnn,hdd⟩:=hf.sl
      try simp(disch:=omega) only[go_sem,Nat.reduceBEq,Nat.reduceAdd]
      rw[en]
      try simp(disch:=omega) only[go_sem,Nat.reduceBEq,Nat.reduceAdd]
      rw[hk]
      refine caN (by exact kS hnn) ?_;rintro v2 h2 s2 q2
      try simp(disch:=omega) only[go_sem,Nat.reduceBEq,Nat.reduceAdd]
      refine caN (by exact kD q2 (hdd.to (h':=h2))) ?_;rintro v3 h3 s3 ⟨q,r,rfl,hq,hr⟩
      try simp(disch:=omega) only[go_sem,Nat.reduceBEq,Nat.reduceAdd]
      refine caN (by exact NRoot_spec (n:=n) hq hn hn8 (by omega)) ?_;rintro v4 h4 s4 ⟨t,rfl,ht⟩
      try simp(disch:=omega) only[go_sem,Nat.reduceBEq,Nat.reduceAdd]
      rw[eB]
      try simp(disch:=omega) only[go_sem,Nat.reduceBEq,Nat.reduceAdd]
      refine caN (by exact Small_spec (n:=1) (by decide)) ?_;rintro _ k1 _ y1;obtain⟨_,_,_,rfl,y1⟩:=y1.sl
      try simp(disch:=omega) only[go_sem,Nat.reduceBEq,Nat.reduceAdd]
      refine caN (by exact Add_spec (ht.to (h':=k1)) y1 (by omega) (by omega)) ?_;rintro _ k2 _ y2;obtain⟨_,_,_,rfl,y2⟩:=y2.sl
      try simp(disch:=omega) only[go_sem,Nat.reduceBEq,Nat.reduceAdd]
      refine caN (by exact Small_spec (n:=1) (by decide)) ?_;rintro _ g1 _ t1;obtain⟨_,_,_,rfl,t1⟩:=t1.sl
      try simp(disch:=omega) only[go_sem,Nat.reduceBEq,Nat.reduceAdd]
      refine caN (by exact Shl_spec (n:=p) t1 (by omega)) ?_;rintro _ g2 _ t2;obtain⟨_,_,_,rfl,t2⟩:=t2.sl
      try simp(disch:=omega) only[go_sem,Nat.reduceBEq,Nat.reduceAdd]
      rw[Nat.one_mul] at t2
      refine caN (by exact Reduce_spec (neg:=false) (y2.to (h':=g2)) t2 (Nat.ne_of_gt (Nat.pow_pos (by decide))) (by omega) (by omega)) ?_;rintro _ g3 _ t3;obtain⟨_,_,_,_,_,_,_,rfl,t3⟩:=t3.sa
      try simp(disch:=omega) only[go_sem,Nat.reduceBEq,Nat.reduceAdd]
      rw[←hr0] at t3
      refine caN (by exact Give_ok t3 hsz) ?_;rintro w4 g4 s4' ⟨z,rfl,hz4⟩;obtain⟨_,_,_,_,_,_,_,rfl,hz5⟩:=hz4.sa
      try simp(disch:=omega) only[go_sem,Nat.reduceBEq,Nat.reduceAdd]
      exact⟨_,rfl,hz5⟩
    | true=>
      by_cases hrm:x.num.natAbs*2^k % x.den=0
      · have hr0:rootg true x n p=sgn false (irt n (rtw x n p)) (2^p):=by rw[hr,hm,if_neg (by rw[hx0,eB,decide_eq_true hrm];intro k;cases k.2)]
        clear hm hr hx0
        refine Spec.go [(8,.o [0,1,2,3,4,6,7,5,8,9,10,11,12,13]),(12,.o [0,1,2,4,3,5,6,7,8,9,10,11])] Tryz.func141 rfl rfl (by kernel_rfl) fun C _=>?_
        try simp(disch:=omega) only[go_sem,Nat.reduceBEq,Nat.reduceAdd]
        refine caN (by exact kR) ?_;rintro v1 h1 s1 ⟨f,rfl,hf⟩;obtain⟨na,nl,nc,da,dl,dc,rfl,hnn,hdd⟩:=hf.sl
        try simp(disch:=omega) only[go_sem,Nat.reduceBEq,Nat.reduceAdd]
        rw[en]
        try simp(disch:=omega) only[go_sem,Nat.reduceBEq,Nat.reduceAdd]
        rw[hk]
        refine caN (by exact kS hnn) ?_;rintro v2 h2 s2 q2
        try simp(disch:=omega) only[go_sem,Nat.reduceBEq,Nat.reduceAdd]
        refine caN (by exact kD q2 (hdd.to (h':=h2))) ?_;rintro v3 h3 s3 ⟨q,r,rfl,hq,hr⟩
        try simp(disch:=omega) only[go_sem,Nat.reduceBEq,Nat.reduceAdd]
        refine caN (by exact NRoot_spec (n:=n) hq hn hn8 (by omega)) ?_;rintro v4 h4 s4 ⟨t,rfl,ht⟩
        try simp(disch:=omega) only[go_sem,Nat.reduceBEq,Nat.reduceAdd]
        rw[eB]
        try simp(disch:=omega) only[go_sem,Nat.reduceBEq,Nat.reduceAdd]
        refine caN (by exact Zero_spec (hr.to (h':=h4))) ?_;rintro v5 h5 s5 rfl
        try simp(disch:=omega) only[go_sem,Nat.reduceBEq,Nat.reduceAdd]
        refine caN (by exact Small_spec (n:=1) (by decide)) ?_;rintro _ g1 _ t1;obtain⟨_,_,_,rfl,t1⟩:=t1.sl
        try simp(disch:=omega) only[go_sem,Nat.reduceBEq,Nat.reduceAdd]
        refine caN (by exact Shl_spec (n:=p) t1 (by omega)) ?_;rintro _ g2 _ t2;obtain⟨_,_,_,rfl,t2⟩:=t2.sl
        try simp(disch:=omega) only[go_sem,Nat.reduceBEq,Nat.reduceAdd]
        rw[Nat.one_mul] at t2
        refine caN (by exact Reduce_spec (neg:=false) (ht.to (h':=g2)) t2 (Nat.ne_of_gt (Nat.pow_pos (by decide))) (by omega) (by omega)) ?_;rintro _ g3 _ t3;obtain⟨_,_,_,_,_,_,_,rfl,t3⟩:=t3.sa
        try simp(disch:=omega) only[go_sem,Nat.reduceBEq,Nat.reduceAdd]
        rw[←hr0] at t3
        refine caN (by exact Give_ok t3 hsz) ?_;rintro w4 g4 s4' ⟨z,rfl,hz4⟩;obtain⟨_,_,_,_,_,_,_,rfl,hz5⟩:=hz4.sa
        try simp(disch:=omega) only[go_sem,Nat.reduceBEq,Nat.reduceAdd]
        exact⟨_,rfl,hz5⟩
      · have hr0:rootg true x n p=sgn false (irt n (rtw x n p)+1) (2^p):=by rw[hr,hm,if_pos ⟨rfl,by rw[hx0,eB,decide_eq_false hrm];rfl⟩]
        clear hm hr hx0
        refine Spec.go [(8,.o [0,1,2,3,4,6,7,5,8,9,10,11,12,13]),(12,.o [0,1,2,4,3,5,6,7,8,9,10,11])] Tryz.func141 rfl rfl (by kernel_rfl) fun C _=>?_
        try simp(disch:=omega) only[go_sem,Nat.reduceBEq,Nat.reduceAdd]
        refine caN (by exact kR) ?_;rintro v1 h1 s1 ⟨f,rfl,hf⟩;obtain⟨na,nl,nc,da,dl,dc,rfl,hnn,hdd⟩:=hf.sl
        try simp(disch:=omega) only[go_sem,Nat.reduceBEq,Nat.reduceAdd]
        rw[en]
        try simp(disch:=omega) only[go_sem,Nat.reduceBEq,Nat.reduceAdd]
        rw[hk]
        refine caN (by exact kS hnn) ?_;rintro v2 h2 s2 q2
        try simp(disch:=omega) only[go_sem,Nat.reduceBEq,Nat.reduceAdd]
        refine caN (by exact kD q2 (hdd.to (h':=h2))) ?_;rintro v3 h3 s3 ⟨q,r,rfl,hq,hr⟩
        try simp(disch:=omega) only[go_sem,Nat.reduceBEq,Nat.reduceAdd]
        refine caN (by exact NRoot_spec (n:=n) hq hn hn8 (by omega)) ?_;rintro v4 h4 s4 ⟨t,rfl,ht⟩
        try simp(disch:=omega) only[go_sem,Nat.reduceBEq,Nat.reduceAdd]
        rw[eB]
        try simp(disch:=omega) only[go_sem,Nat.reduceBEq,Nat.reduceAdd]
        refine caN (by exact Zero_spec (hr.to (h':=h4))) ?_;rintro v5 h5 s5 rfl
        try simp(disch:=omega) only[go_sem,Nat.reduceBEq,Nat.reduceAdd]
        refine caN (by exact Small_spec (n:=1) (by decide)) ?_;rintro _ k1 _ y1;obtain⟨_,_,_,rfl,y1⟩:=y1.sl
        try simp(disch:=omega) only[go_sem,Nat.reduceBEq,Nat.reduceAdd]
        refine caN (by exact Add_spec (ht.to (h':=k1)) y1 (by omega) (by omega)) ?_;rintro _ k2 _ y2;obtain⟨_,_,_,rfl,y2⟩:=y2.sl
        try simp(disch:=omega) only[go_sem,Nat.reduceBEq,Nat.reduceAdd]
        refine caN (by exact Small_spec (n:=1) (by decide)) ?_;rintro _ g1 _ t1;obtain⟨_,_,_,rfl,t1⟩:=t1.sl
        try simp(disch:=omega) only[go_sem,Nat.reduceBEq,Nat.reduceAdd]
        refine caN (by exact Shl_spec (n:=p) t1 (by omega)) ?_;rintro _ g2 _ t2;obtain⟨_,_,_,rfl,t2⟩:=t2.sl
        try simp(disch:=omega) only[go_sem,Nat.reduceBEq,Nat.reduceAdd]
        rw[Nat.one_mul] at t2
        refine caN (by exact Reduce_spec (neg:=false) (y2.to (h':=g2)) t2 (Nat.ne_of_gt (Nat.pow_pos (by decide))) (by omega) (by omega)) ?_;rintro _ g3 _ t3;obtain⟨_,_,_,_,_,_,_,rfl,t3⟩:=t3.sa
        try simp(disch:=omega) only[go_sem,Nat.reduceBEq,Nat.reduceAdd]
        rw[←hr0] at t3
        refine caN (by exact Give_ok t3 hsz) ?_;rintro w4 g4 s4' ⟨z,rfl,hz4⟩;obtain⟨_,_,_,_,_,_,_,rfl,hz5⟩:=hz4.sa
        try simp(disch:=omega) only[go_sem,Nat.reduceBEq,Nat.reduceAdd]
        exact⟨_,rfl,hz5⟩
end Go.Q
namespace Go.Q
open Go.Proofs
set_option maxRecDepth 100000
set_option maxHeartbeats 8000000
theorem root_neg {h0 h:PH} [Le h0 h] {v:Value} {neg:Bool} {a d n p:Nat} {u:Bool} (hv:Rw h0 v neg a d) (hl:¬lg neg a d) (hn:2≤n) (hn8:n≤8) (hp:p≤256) (hd:¬((qof neg a d).num < 0∧n % 2=0)) (en:decide ((qof neg a d).num < 0)=true):
    Spec mach 141 #[v,.int .i64 n,.int .i64 p,.bool u] h (fun r h'=>∃w,r=.tuple #[w,.int .i64 0]∧Cn h' w (rootg u (qof neg a d) n p)) NP:=by
  have kR:=fun {h} [Le h0 h]=>Read_ok (h:=h) hv hl
  have hz:sz (qof neg a d)≤2048:=by unfold Go.Q.lg at hl;omega
  obtain⟨_,_,_,_,_,_,_,rfl,_⟩:=hv.sa
  generalize qof neg a d=x at*
  have b1:=sz_num x
  have b2:=sz_den x
  have hpn:p*n≤2048:=Nat.mul_le_mul hp hn8
  have b3:=bl_shl x.num.natAbs (p*n)
  have bw:=rtw_bl (p:=p) hz hn
  have bw':n*(1024+p)≤8*1280:=Nat.mul_le_mul hn8 (by omega)
  have bi:=irt_bl (n:=n) (by omega) bw
  have bi2:=bl_add (irt n (rtw x n p)) 1
  rw[bl_one] at bi2
  have b6:=bl_pow2 p
  have b0:=bl_one
  have hsz:=rootg_sz (up:=u) (p:=p) hz hn hp
  have m1:¬(n:Int) < 2:=by omega
  have m2:¬(8:Int) < n:=by omega
  have m3:¬(p:Int) < 0:=by omega
  have m4:¬(256:Int) < p:=by omega
  have hr:rootg u x n p=sgn (decide (x.num < 0)) (rtm u x n p) (2^p):=rfl
  have hm:rtm u x n p=if (u != decide (x.num < 0))=true∧rtx x n p=false then irt n (rtw x n p)+1 else irt n (rtw x n p):=rfl
  have hx0:rtx x n p=(decide (irt n (rtw x n p)^n=rtw x n p) && decide (x.num.natAbs*2^(p*n) % x.den=0)):=rfl
  have hw0:x.num.natAbs*2^(p*n) / x.den=rtw x n p:=rfl
  have hdn:=x.den_nz
  have b4:bl (x.num.natAbs*2^(p*n))≤8192:=by omega
  generalize hk:p*n=k at*
  have kS:=fun {h1 h:PH} [Le h1 h] {v:Value} (y:N32 h1 v x.num.natAbs)=>Shl_spec (h:=h) (n:=k) y (by omega)
  have kD:=fun {h1 h:PH} [Le h1 h] {v w:Value} (y:N32 h1 v (x.num.natAbs*2^k)) (l:N32 h1 w x.den)=>Div_spec (h:=h) y l hdn (by omega) (by omega)
  rw[hw0] at kD
  have hbw:bl (rtw x n p)≤2^20:=by omega
  have hi1:bl (irt n (rtw x n p))≤2^38:=by omega
  have hi2:bl (irt n (rtw x n p)+1)≤2^38:=by omega
  have hp2:bl (2^p)≤2^38:=by omega
  have hb1:bl 1≤1:=by omega
  clear b0 b1 b2 b3 b4 b6 bw bw' bi bi2 hz hw0
  rw[en] at hr hm
  have hodd:n % 2=1:=by
    have:x.num < 0:=of_decide_eq_true en
    have:=fun k=>hd ⟨this,k⟩
    omega
  cases u with
  | false=>
    cases eB:decide (irt n (rtw x n p)^n=rtw x n p) with
    | false=>
      have hr0:rootg false x n p=sgn true (irt n (rtw x n p)+1) (2^p):=by rw[hr,hm,if_pos ⟨rfl,by rw[hx0,eB];rfl⟩]
      clear hm hr hx0
      refine Spec.go [(8,.o [0,1,2,3,4,6,7,5,8,9,10,11,12,13]),(12,.o [0,1,2,4,3,5,6,7,8,9,10,11])] Tryz.func141 rfl rfl (by kernel_rfl) fun C _=>?_
      try simp(disch:=omega) only[go_sem,Nat.reduceBEq,Nat.reduceAdd]
      refine caN (by exact kR) ?_;rintro v1 h1 s1 ⟨f,rfl,hf⟩;obtain⟨na,nl,nc,da,dl,dc,rfl,hnn,hdd⟩:=hf.sl
      try simp(disch:=omega) only[go_sem,Nat.reduceBEq,Nat.reduceAdd]
      rw[en]
      try simp(disch:=omega) only[go_sem,Nat.reduceBEq,Nat.reduceAdd]
      rw[hk]
      refine caN (by exact kS hnn) ?_;rintro v2 h2 s2 q2
      try simp(disch:=omega) only[go_sem,Nat.reduceBEq,Nat.reduceAdd]
      refine caN (by exact kD q2 (hdd.to (h':=h2))) ?_;rintro v3 h3 s3 ⟨q,r,rfl,hq,hr⟩
      try simp(disch:=omega) only[go_sem,Nat.reduceBEq,Nat.reduceAdd]
      refine caN (by exact NRoot_spec (n:=n) hq hn hn8 (by omega)) ?_;rintro v4 h4 s4 ⟨t,rfl,ht⟩
      try simp(disch:=omega) only[go_sem,Nat.reduceBEq,Nat.reduceAdd]
      rw[eB]
      try simp(disch:=omega) only[go_sem,Nat.reduceBEq,Nat.reduceAdd]
      refine caN (by exact Small_spec (n:=1) (by decide)) ?_;rintro _ k1 _ y1;obtain⟨_,_,_,rfl,y1⟩:=y1.sl
      try simp(disch:=omega) only[go_sem,Nat.reduceBEq,Nat.reduceAdd]
      refine caN (by exact Add_spec (ht.to (h':=k1)) y1 (by omega) (by omega)) ?_;rintro _ k2 _ y2;obtain⟨_,_,_,rfl,y2⟩:=y2.sl
      try simp(disch:=omega) only[go_sem,Nat.reduceBEq,Nat.reduceAdd]
      refine caN (by exact Small_spec (n:=1) (by decide)) ?_;rintro _ g1 _ t1;obtain⟨_,_,_,rfl,t1⟩:=t1.sl
      try simp(disch:=omega) only[go_sem,Nat.reduceBEq,Nat.reduceAdd]
      refine caN (by exact Shl_spec (n:=p) t1 (by omega)) ?_;rintro _ g2 _ t2;obtain⟨_,_,_,rfl,t2⟩:=t2.sl
      try simp(disch:=omega) only[go_sem,Nat.reduceBEq,Nat.reduceAdd]
      rw[Nat.one_mul] at t2
      refine caN (by exact Reduce_spec (neg:=true) (y2.to (h':=g2)) t2 (Nat.ne_of_gt (Nat.pow_pos (by decide))) (by omega) (by omega)) ?_;rintro _ g3 _ t3;obtain⟨_,_,_,_,_,_,_,rfl,t3⟩:=t3.sa
      try simp(disch:=omega) only[go_sem,Nat.reduceBEq,Nat.reduceAdd]
      rw[←hr0] at t3
      refine caN (by exact Give_ok t3 hsz) ?_;rintro w4 g4 s4' ⟨z,rfl,hz4⟩;obtain⟨_,_,_,_,_,_,_,rfl,hz5⟩:=hz4.sa
      try simp(disch:=omega) only[go_sem,Nat.reduceBEq,Nat.reduceAdd]
      exact⟨_,rfl,hz5⟩
    | true=>
      by_cases hrm:x.num.natAbs*2^k % x.den=0
      · have hr0:rootg false x n p=sgn true (irt n (rtw x n p)) (2^p):=by rw[hr,hm,if_neg (by rw[hx0,eB,decide_eq_true hrm];intro k;cases k.2)]
        clear hm hr hx0
        refine Spec.go [(8,.o [0,1,2,3,4,6,7,5,8,9,10,11,12,13]),(12,.o [0,1,2,4,3,5,6,7,8,9,10,11])] Tryz.func141 rfl rfl (by kernel_rfl) fun C _=>?_
        try simp(disch:=omega) only[go_sem,Nat.reduceBEq,Nat.reduceAdd]
        refine caN (by exact kR) ?_;rintro v1 h1 s1 ⟨f,rfl,hf⟩;obtain⟨na,nl,nc,da,dl,dc,rfl,hnn,hdd⟩:=hf.sl
        try simp(disch:=omega) only[go_sem,Nat.reduceBEq,Nat.reduceAdd]
        rw[en]
        try simp(disch:=omega) only[go_sem,Nat.reduceBEq,Nat.reduceAdd]
        rw[hk]
        refine caN (by exact kS hnn) ?_;rintro v2 h2 s2 q2
        try simp(disch:=omega) only[go_sem,Nat.reduceBEq,Nat.reduceAdd]
        refine caN (by exact kD q2 (hdd.to (h':=h2))) ?_;rintro v3 h3 s3 ⟨q,r,rfl,hq,hr⟩
        try simp(disch:=omega) only[go_sem,Nat.reduceBEq,Nat.reduceAdd]
        refine caN (by exact NRoot_spec (n:=n) hq hn hn8 (by omega)) ?_;rintro v4 h4 s4 ⟨t,rfl,ht⟩
        try simp(disch:=omega) only[go_sem,Nat.reduceBEq,Nat.reduceAdd]
        rw[eB]
        try simp(disch:=omega) only[go_sem,Nat.reduceBEq,Nat.reduceAdd]
        refine caN (by exact Zero_spec (hr.to (h':=h4))) ?_;rintro v5 h5 s5 rfl
        try simp(disch:=omega) only[go_sem,Nat.reduceBEq,Nat.reduceAdd]
        refine caN (by exact Small_spec (n:=1) (by decide)) ?_;rintro _ g1 _ t1;obtain⟨_,_,_,rfl,t1⟩:=t1.sl
        try simp(disch:=omega) only[go_sem,Nat.reduceBEq,Nat.reduceAdd]
        refine caN (by exact Shl_spec (n:=p) t1 (by omega)) ?_;rintro _ g2 _ t2;obtain⟨_,_,_,rfl,t2⟩:=t2.sl
        try simp(disch:=omega) only[go_sem,Nat.reduceBEq,Nat.reduceAdd]
        rw[Nat.one_mul] at t2
        refine caN (by exact Reduce_spec (neg:=true) (ht.to (h':=g2)) t2 (Nat.ne_of_gt (Nat.pow_pos (by decide))) (by omega) (by omega)) ?_;rintro _ g3 _ t3;obtain⟨_,_,_,_,_,_,_,rfl,t3⟩:=t3.sa
        try simp(disch:=omega) only[go_sem,Nat.reduceBEq,Nat.reduceAdd]
        rw[←hr0] at t3
        refine caN (by exact Give_ok t3 hsz) ?_;rintro w4 g4 s4' ⟨z,rfl,hz4⟩;obtain⟨_,_,_,_,_,_,_,rfl,hz5⟩:=hz4.sa
        try simp(disch:=omega) only[go_sem,Nat.reduceBEq,Nat.reduceAdd]
        exact⟨_,rfl,hz5⟩
      · have hr0:rootg false x n p=sgn true (irt n (rtw x n p)+1) (2^p):=by rw[hr,hm,if_pos ⟨rfl,by rw[hx0,eB,decide_eq_false hrm];rfl⟩]
        clear hm hr hx0
        refine Spec.go [(8,.o [0,1,2,3,4,6,7,5,8,9,10,11,12,13]),(12,.o [0,1,2,4,3,5,6,7,8,9,10,11])] Tryz.func141 rfl rfl (by kernel_rfl) fun C _=>?_
        try simp(disch:=omega) only[go_sem,Nat.reduceBEq,Nat.reduceAdd]
        refine caN (by exact kR) ?_;rintro v1 h1 s1 ⟨f,rfl,hf⟩;obtain⟨na,nl,nc,da,dl,dc,rfl,hnn,hdd⟩:=hf.sl
        try simp(disch:=omega) only[go_sem,Nat.reduceBEq,Nat.reduceAdd]
        rw[en]
        try simp(disch:=omega) only[go_sem,Nat.reduceBEq,Nat.reduceAdd]
        rw[hk]
        refine caN (by exact kS hnn) ?_;rintro v2 h2 s2 q2
        try simp(disch:=omega) only[go_sem,Nat.reduceBEq,Nat.reduceAdd]
        refine caN (by exact kD q2 (hdd.to (h':=h2))) ?_;rintro v3 h3 s3 ⟨q,r,rfl,hq,hr⟩
        try simp(disch:=omega) only[go_sem,Nat.reduceBEq,Nat.reduceAdd]
        refine caN (by exact NRoot_spec (n:=n) hq hn hn8 (by omega)) ?_;rintro v4 h4 s4 ⟨t,rfl,ht⟩
        try simp(disch:=omega) only[go_sem,Nat.reduceBEq,Nat.reduceAdd]
        rw[eB]
        try simp(disch:=omega) only[go_sem,Nat.reduceBEq,Nat.reduceAdd]
        refine caN (by exact Zero_spec (hr.to (h':=h4))) ?_;rintro v5 h5 s5 rfl
        try simp(disch:=omega) only[go_sem,Nat.reduceBEq,Nat.reduceAdd]
        refine caN (by exact Small_spec (n:=1) (by decide)) ?_;rintro _ k1 _ y1;obtain⟨_,_,_,rfl,y1⟩:=y1.sl
        try simp(disch:=omega) only[go_sem,Nat.reduceBEq,Nat.reduceAdd]
        refine caN (by exact Add_spec (ht.to (h':=k1)) y1 (by omega) (by omega)) ?_;rintro _ k2 _ y2;obtain⟨_,_,_,rfl,y2⟩:=y2.sl
        try simp(disch:=omega) only[go_sem,Nat.reduceBEq,Nat.reduceAdd]
        refine caN (by exact Small_spec (n:=1) (by decide)) ?_;rintro _ g1 _ t1;obtain⟨_,_,_,rfl,t1⟩:=t1.sl
        try simp(disch:=omega) only[go_sem,Nat.reduceBEq,Nat.reduceAdd]
        refine caN (by exact Shl_spec (n:=p) t1 (by omega)) ?_;rintro _ g2 _ t2;obtain⟨_,_,_,rfl,t2⟩:=t2.sl
        try simp(disch:=omega) only[go_sem,Nat.reduceBEq,Nat.reduceAdd]
        rw[Nat.one_mul] at t2
        refine caN (by exact Reduce_spec (neg:=true) (y2.to (h':=g2)) t2 (Nat.ne_of_gt (Nat.pow_pos (by decide))) (by omega) (by omega)) ?_;rintro _ g3 _ t3;obtain⟨_,_,_,_,_,_,_,rfl,t3⟩:=t3.sa
        try simp(disch:=omega) only[go_sem,Nat.reduceBEq,Nat.reduceAdd]
        rw[←hr0] at t3
        refine caN (by exact Give_ok t3 hsz) ?_;rintro w4 g4 s4' ⟨z,rfl,hz4⟩;obtain⟨_,_,_,_,_,_,_,rfl,hz5⟩:=hz4.sa
        try simp(disch:=omega) only[go_sem,Nat.reduceBEq,Nat.reduceAdd]
        exact⟨_,rfl,hz5⟩
  | true=>
    generalize eB:decide (irt n (rtw x n p)^n=rtw x n p)=B
    have hr0:rootg true x n p=sgn true (irt n (rtw x n p)) (2^p):=by rw[hr,hm,if_neg (by intro k;cases k.1)]
    clear hm hr hx0
    refine Spec.go [(8,.o [0,1,2,3,4,6,7,5,8,9,10,11,12,13]),(12,.o [0,1,2,4,3,5,6,7,8,9,10,11])] Tryz.func141 rfl rfl (by kernel_rfl) fun C _=>?_
    try simp(disch:=omega) only[go_sem,Nat.reduceBEq,Nat.reduceAdd]
    refine caN (by exact kR) ?_;rintro v1 h1 s1 ⟨f,rfl,hf⟩;obtain⟨na,nl,nc,da,dl,dc,rfl,hnn,hdd⟩:=hf.sl
    try simp(disch:=omega) only[go_sem,Nat.reduceBEq,Nat.reduceAdd]
    rw[en]
    try simp(disch:=omega) only[go_sem,Nat.reduceBEq,Nat.reduceAdd]
    rw[hk]
    refine caN (by exact kS hnn) ?_;rintro v2 h2 s2 q2
    try simp(disch:=omega) only[go_sem,Nat.reduceBEq,Nat.reduceAdd]
    refine caN (by exact kD q2 (hdd.to (h':=h2))) ?_;rintro v3 h3 s3 ⟨q,r,rfl,hq,hr⟩
    try simp(disch:=omega) only[go_sem,Nat.reduceBEq,Nat.reduceAdd]
    refine caN (by exact NRoot_spec (n:=n) hq hn hn8 (by omega)) ?_;rintro v4 h4 s4 ⟨t,rfl,ht⟩
    try simp(disch:=omega) only[go_sem,Nat.reduceBEq,Nat.reduceAdd]
    rw[eB]
    try simp(disch:=omega) only[go_sem,Nat.reduceBEq,Nat.reduceAdd]
    refine caN (by exact Small_spec (n:=1) (by decide)) ?_;rintro _ g1 _ t1;obtain⟨_,_,_,rfl,t1⟩:=t1.sl
    try simp(disch:=omega) only[go_sem,Nat.reduceBEq,Nat.reduceAdd]
    refine caN (by exact Shl_spec (n:=p) t1 (by omega)) ?_;rintro _ g2 _ t2;obtain⟨_,_,_,rfl,t2⟩:=t2.sl
    try simp(disch:=omega) only[go_sem,Nat.reduceBEq,Nat.reduceAdd]
    rw[Nat.one_mul] at t2
    refine caN (by exact Reduce_spec (neg:=true) (ht.to (h':=g2)) t2 (Nat.ne_of_gt (Nat.pow_pos (by decide))) (by omega) (by omega)) ?_;rintro _ g3 _ t3;obtain⟨_,_,_,_,_,_,_,rfl,t3⟩:=t3.sa
    try simp(disch:=omega) only[go_sem,Nat.reduceBEq,Nat.reduceAdd]
    rw[←hr0] at t3
    refine caN (by exact Give_ok t3 hsz) ?_;rintro w4 g4 s4' ⟨z,rfl,hz4⟩;obtain⟨_,_,_,_,_,_,_,rfl,hz5⟩:=hz4.sa
    try simp(disch:=omega) only[go_sem,Nat.reduceBEq,Nat.reduceAdd]
    exact⟨_,rfl,hz5⟩
end Go.Q
namespace Go.Q
open Go.Proofs
set_option maxRecDepth 100000
set_option maxHeartbeats 8000000
theorem root_any {h0 h:PH} [Le h0 h] {v:Value} {neg:Bool} {a d n p:Nat} {u:Bool} (hv:Rw h0 v neg a d) (hl:¬lg neg a d) (hn:2≤n) (hn8:n≤8) (hp:p≤256) (hd:¬((qof neg a d).num < 0∧n % 2=0)):
    Spec mach 141 #[v,.int .i64 n,.int .i64 p,.bool u] h (fun r h'=>∃w,r=.tuple #[w,.int .i64 0]∧Cn h' w (rootg u (qof neg a d) n p)) NP:=by
  cases en:decide ((qof neg a d).num < 0) with
  |false=>exact root_pos hv hl hn hn8 hp hd en
  |true=>exact root_neg hv hl hn hn8 hp hd en
end Go.Q
namespace Go.Q
open Go.Proofs
set_option maxRecDepth 100000
set_option maxHeartbeats 8000000
theorem NumRoot {h0 h:PH} [Le h0 h] {v:Value} {x:Rat} {n p:Nat} {u:Bool} (hv:Rv h0 v x) (hn:2≤n) (hn8:n≤8) (hp:p≤256) (hd:¬(x < 0∧n % 2=0)):Spec mach 141 #[v,.int .i64 n,.int .i64 p,.bool u] h (fun r h'=>∃b na nl nc da dl dc,r=.tuple #[.agg #[.bool b,.slice na nl nc,.slice da dl dc],.int .i64 0]∧Rv h' (.agg #[.bool b,.slice na nl nc,.slice da dl dc]) (rootg u x n p)) NP:=by
  have sr:=rootg_sz (up:=u) hv.sz hn hp
  obtain⟨_,_,_,h1,h2,rfl⟩:=hv
  refine(root_any (u:=u) (p:=p) h1 h2 hn hn8 hp (by rw[num_neg];exact hd)).mono (fun r h' _ k=>?_) (fun _ _ _ k=>k)
  obtain⟨w,rfl,c⟩:=k
  obtain⟨_,_,_,_,_,_,_,rfl,c⟩:=c.sa
  exact⟨_,_,_,_,_,_,_,rfl,Rv.of c sr⟩
theorem NumDown {h0 h:PH} [Le h0 h] {v:Value} {x:Rat} {n p:Nat} (hv:Rv h0 v x) (hn:2≤n) (hn8:n≤8) (hp:p≤256) (hd:¬(x < 0∧n % 2=0)):Spec mach 108 #[v,.int .i64 n,.int .i64 p] h (fun r h'=>∃b na nl nc da dl dc,r=.tuple #[.agg #[.bool b,.slice na nl nc,.slice da dl dc],.int .i64 0]∧Rv h' (.agg #[.bool b,.slice na nl nc,.slice da dl dc]) (rootg false x n p)) NP:=by
  have kR:=fun {h} [Le h0 h]=>NumRoot (h:=h) (u:=false) hv hn hn8 hp hd
  obtain⟨_,_,_,_,_,_,_,rfl,_⟩:=hv.sa
  refine Spec.go [] Tryz.func108 rfl rfl (by kernel_rfl) fun C _=>?_
  try simp(disch:=omega) only[go_sem,Nat.reduceBEq,Nat.reduceAdd]
  refine caN (by exact kR) ?_;rintro v1 h1 s1 ⟨_,_,_,_,_,_,_,rfl,q1⟩
  try simp(disch:=omega) only[go_sem,Nat.reduceBEq,Nat.reduceAdd]
  exact⟨_,_,_,_,_,_,_,rfl,q1⟩
theorem NumUp {h0 h:PH} [Le h0 h] {v:Value} {x:Rat} {n p:Nat} (hv:Rv h0 v x) (hn:2≤n) (hn8:n≤8) (hp:p≤256) (hd:¬(x < 0∧n % 2=0)):Spec mach 107 #[v,.int .i64 n,.int .i64 p] h (fun r h'=>∃b na nl nc da dl dc,r=.tuple #[.agg #[.bool b,.slice na nl nc,.slice da dl dc],.int .i64 0]∧Rv h' (.agg #[.bool b,.slice na nl nc,.slice da dl dc]) (rootg true x n p)) NP:=by
  have kR:=fun {h} [Le h0 h]=>NumRoot (h:=h) (u:=true) hv hn hn8 hp hd
  obtain⟨_,_,_,_,_,_,_,rfl,_⟩:=hv.sa
  refine Spec.go [] Tryz.func107 rfl rfl (by kernel_rfl) fun C _=>?_
  try simp(disch:=omega) only[go_sem,Nat.reduceBEq,Nat.reduceAdd]
  refine caN (by exact kR) ?_;rintro v1 h1 s1 ⟨_,_,_,_,_,_,_,rfl,q1⟩
  try simp(disch:=omega) only[go_sem,Nat.reduceBEq,Nat.reduceAdd]
  exact⟨_,_,_,_,_,_,_,rfl,q1⟩
end Go.Q
namespace Go.Q
open Go.Proofs
set_option maxRecDepth 100000
set_option maxHeartbeats 8000000
def abQ (x:Rat):Rat:=sgn false x.num.natAbs x.den
def asR (x:Rat):Rat:=1+ -(abQ x*abQ x)
def asG (u:Bool) (x:Rat) (w:Nat):Rat:=rootg u (asR x) 2 w
def asH (u:Bool) (x:Rat) (w:Nat):Rat:=abQ x*(1+asG u x w)⁻¹
def asL (x:Rat) (w:Nat):Nat:=anL (glo (asH true x w) w) (ghi (asH false x w) w) w*2^1
def asU (x:Rat) (w:Nat):Nat:=anH (glo (asH true x w) w) (ghi (asH false x w) w) w*2^1
theorem abQ_parts (x:Rat):(abQ x).num=(x.num.natAbs:Int)∧(abQ x).den=x.den:=by
  have:=sgn_num (neg:=false) (n:=x.num.natAbs) (d:=x.den) x.den_nz x.reduced
  simpa[abQ] using this
theorem abQ_sz (x:Rat):sz (abQ x)=sz x:=by
  obtain⟨e1,e2⟩:=abQ_parts x
  unfold sz
  rw[e1,e2]
  simp
theorem abQ_bd {x:Rat} (h:x.num.natAbs≤x.den):0≤abQ x∧abQ x≤1:=by
  obtain⟨e1,e2⟩:=abQ_parts x
  have hd:(0:Rat) < (x.den:Rat):=by exact_mod_cast x.den_pos
  have e:abQ x*(x.den:Rat)=(x.num.natAbs:Rat):=by
    have:=q_den (abQ x)
    rw[e1,e2] at this
    exact_mod_cast this
  have h':(x.num.natAbs:Rat)≤(x.den:Rat):=by exact_mod_cast h
  have h0:(0:Rat)≤(x.num.natAbs:Rat):=by exact_mod_cast Nat.zero_le _
  generalize(x.num.natAbs:Rat)=n at*
  generalize(x.den:Rat)=d at*
  exact⟨Rat.le_of_mul_le_mul_right (by grind) hd,Rat.le_of_mul_le_mul_right (by grind) hd⟩
theorem abQ_cn {h:PH} {b:Bool} {x:Rat} {v w:Value} (hx:Cn h (.agg #[.bool b,v,w]) x):Cn h (.agg #[.bool false,v,w]) (abQ x):=by
  obtain⟨sn,sd,e,h1,h2⟩:=hx
  obtain⟨e1,e2⟩:=abQ_parts x
  simp only[Value.agg.injEq,Array.mk.injEq,List.cons.injEq,and_true] at e
  obtain⟨_,rfl,rfl⟩:=e
  refine⟨v,w,?_,?_,?_⟩
  · rw[e1,decide_eq_false (by omega)]
  · rw[e1];exact h1
  · rw[e2];exact h2
theorem sq_sgn (x:Rat):abQ x*abQ x=sgn false (x.num.natAbs*x.num.natAbs) (x.den*x.den)∧asR x=mkRat ((x.den*x.den:Nat) - (x.num.natAbs*x.num.natAbs:Nat):Int) (x.den*x.den):=by
  have hd:(x.den:Rat)≠0:=by exact_mod_cast x.den_nz
  have e1:abQ x=(x.num.natAbs:Rat) / (x.den:Rat):=by unfold abQ sgn;rw[Rat.mkRat_eq_div];rfl
  have e2:(((x.den*x.den:Nat) - (x.num.natAbs*x.num.natAbs:Nat):Int):Rat)=(x.den:Rat)*(x.den:Rat) - (x.num.natAbs:Rat)*(x.num.natAbs:Rat):=by push_cast;rfl
  unfold asR sgn
  rw[e1,Rat.mkRat_eq_div,Rat.mkRat_eq_div,e2]
  push_cast
  generalize(x.num.natAbs:Rat)=n
  generalize(x.den:Rat)=d at*
  constructor<;>grind
theorem sq_sz {x:Rat} (bx:sz x≤1024) (h:x.num.natAbs≤x.den):sz (abQ x*abQ x)≤2048∧sz (asR x)≤2048:=by
  obtain⟨e1,e2⟩:=sq_sgn x
  have b1:=bl_mul x.num.natAbs x.num.natAbs
  have b2:=bl_mul x.den x.den
  have b3:=sz_num x
  have b4:=sz_den x
  have hd:x.den*x.den≠0:=Nat.mul_ne_zero x.den_nz x.den_nz
  rw[e1,e2]
  constructor
  · have:=sz_sgn false (x.num.natAbs*x.num.natAbs) hd
    omega
  · have hm:x.num.natAbs*x.num.natAbs≤x.den*x.den:=Nat.mul_le_mul h h
    rw[show((x.den*x.den:Nat) - (x.num.natAbs*x.num.natAbs:Nat):Int)=((x.den*x.den - x.num.natAbs*x.num.natAbs:Nat):Int) by omega]
    have:=sz_sgn false (x.den*x.den - x.num.natAbs*x.num.natAbs) hd
    have b5:bl (x.den*x.den - x.num.natAbs*x.num.natAbs)≤_:=bl_mono (Nat.sub_le _ _)
    simp only[sgn,Bool.false_eq_true,if_false] at this
    omega
theorem asR_bd {x:Rat} (h:x.num.natAbs≤x.den):0≤asR x∧asR x≤1:=by
  obtain⟨h1,h2⟩:=abQ_bd h
  have m1:=Rat.mul_le_mul_of_nonneg_left h2 h1
  have m2:=Rat.mul_nonneg h1 h1
  unfold asR
  generalize abQ x=a at*
  constructor<;>grind
theorem rtw_le {q:Rat} {w:Nat} (h0:0≤q) (h1:q≤1):rtw q 2 w≤2^(w*2):=by
  have:=abs_num (q:=q) (by grind) h1
  unfold rtw
  exact Nat.div_le_of_le_mul (Nat.mul_le_mul_right _ (by omega))
theorem asG_m {u:Bool} {q:Rat} {w:Nat} (h0:0≤q) (h1:q≤1):∃m,rootg u q 2 w=sgn false m (2^w)∧m≤2^w+1:=by
  have hw:=rtw_le (w:=w) h0 h1
  have hi:irt 2 (rtw q 2 w)≤2^w:=by
    have h2:=irt_le (n:=2) (a:=rtw q 2 w) (by decide)
    have h3:irt 2 (rtw q 2 w)^2≤(2^w)^2:=by rw[←Nat.pow_mul];exact Nat.le_trans h2 hw
    exact(Nat.pow_le_pow_iff_left (by decide)).1 h3
  refine⟨rtm u q 2 w,?_,?_⟩
  · unfold rootg
    rw[show decide (q.num < 0)=false from decide_eq_false (by rw[num_neg];grind)]
  · unfold rtm
    split<;>omega
theorem one_sgn (m w:Nat):1+sgn false m (2^w)=sgn false (2^w+m) (2^w):=by
  have hd:((2^w:Nat):Rat)≠0:=by exact_mod_cast pow2_ne w
  have e1:=sgn_u m w
  have e2:=sgn_u (2^w+m) w
  have e3:((2^w+m:Nat):Rat)=((2^w:Nat):Rat)+(m:Rat):=by push_cast;rfl
  rw[e3] at e2
  generalize sgn false m (2^w)=a at*
  generalize sgn false (2^w+m) (2^w)=b at*
  generalize((2^w:Nat):Rat)=u at*
  have:(1+a)*u=b*u:=by grind
  grind
theorem asG_bd {u:Bool} {x:Rat} {w:Nat} (h:x.num.natAbs≤x.den):0≤asG u x w∧sz (1+asG u x w)≤w+3:=by
  obtain⟨h0,h1⟩:=asR_bd h
  obtain⟨m,e,hm⟩:=asG_m (u:=u) (w:=w) h0 h1
  unfold asG
  rw[e]
  constructor
  · have:=sgn_u m w
    have hp:=u_pos w
    have hm0:(0:Rat)≤(m:Rat):=by exact_mod_cast Nat.zero_le _
    exact Rat.le_of_mul_le_mul_right (by grind) hp
  · rw[one_sgn]
    have b1:=sz_sgn false (2^w+m) (pow2_ne w)
    have b2:bl (2^w+m)≤w+3:=bl_le.2 (by
      have:2^(w+3)=2^w*8:=Nat.pow_add _ _ _
      have:=Nat.pos_of_ne_zero (pow2_ne w)
      omega)
    have b3:=bl_pow2 w
    omega
theorem asH_bd {u:Bool} {x:Rat} {w:Nat} (h:x.num.natAbs≤x.den):0≤asH u x w∧asH u x w≤1:=by
  obtain⟨h0,h1⟩:=abQ_bd h
  obtain⟨g0,_⟩:=asG_bd (u:=u) (w:=w) h
  unfold asH
  generalize asG u x w=g at*
  generalize abQ x=a at*
  have hp:(0:Rat) < 1+g:=by grind
  have e:(1+g)*(1+g)⁻¹=1:=Rat.mul_inv_cancel _ (by grind)
  have hi:0≤(1+g)⁻¹:=Rat.le_of_lt (Rat.inv_pos.2 hp)
  constructor
  · exact Rat.mul_nonneg h0 hi
  · have:=Rat.mul_le_mul_of_nonneg_right (show a≤1+g by grind) hi
    grind
theorem asH_sz {u:Bool} {x:Rat} {w:Nat} (bx:sz x≤1024) (h:x.num.natAbs≤x.den):sz (asH u x w)≤1027+w:=by
  obtain⟨_,h1⟩:=asG_bd (u:=u) (w:=w) h
  have h2:=sz_mul (abQ x) (1+asG u x w)⁻¹
  have h3:=sz_inv (1+asG u x w)
  rw[abQ_sz] at h2
  unfold asH
  omega
theorem as_arg {x:Rat} {w:Nat} (h:x.num.natAbs≤x.den):glo (asH true x w) w≤2^w∧ghi (asH false x w) w≤2^w:=by
  obtain⟨a1,a2⟩:=asH_bd (u:=true) (w:=w) h
  obtain⟨b1,b2⟩:=asH_bd (u:=false) (w:=w) h
  exact⟨(g_le (abs_num (by grind) a2)).1,(g_le (abs_num (by grind) b2)).2⟩
theorem at_rowB {h:PH} {b:Nat} {cs:List Value} (hb:h b=some cs.toArray) (j:Nat) (v:Value) (hj:cs[j]?=some v):h.at ((⟨b,0,none⟩:Addr).add j)=some v:=by
  cases j<;>simp[PH.at,Addr.add,hb,hj]
theorem pub_to {h h':PH} [l:Le h h'] {b:Nat} {cs:Array Value} (hb:h b=some cs):h' b=some cs:=l.sub _ _ hb
theorem EHalf1_spec {h0 h:PH} [Le h0 h] {b:Nat} {na da:Option Addr} {nl nc dl dc:Nat} {w:Value} {x r:Rat} (hb:h0 b=some #[.bool false,.slice na nl nc,.slice da dl dc]) (hx:Cn h0 (.agg #[.bool false,.slice na nl nc,.slice da dl dc]) x) (hr:Rv h0 w r) (sx:sz x≤2048) (s1:sz (1+r)≤2048) (n1:1+r≠0) (s2:sz (x*(1+r)⁻¹)≤2048):
    Spec mach 109 #[w,.pointer (some ⟨b,0,none⟩)] h (fun v h'=>Cn h' v (x*(1+r)⁻¹)) NP:=by
  obtain⟨_,_,_,_,_,_,_,rfl,hr⟩:=hr.sa
  refine Spec.go [(1,.h [] [] [6] [6,1,0,2,3,4,5,7,8])] Tryz.func109 rfl rfl (by kernel_rfl) fun C _=>?_
  try simp(disch:=omega) only[go_sem,Nat.reduceBEq,Nat.reduceAdd]
  refine caN (by exact FromInt_spec (n:=1) (by decide) (by decide)) ?_;rintro v1 h1 s1' c;have c:Cn h1 v1 1:=c;obtain⟨_,_,_,_,_,_,_,rfl,c⟩:=c.sa
  try simp(disch:=omega) only[go_sem,Nat.reduceBEq,Nat.reduceAdd]
  refine caN (by exact NumAdd (Rv.of c (by decide)) (hr.to (h':=h1))) ?_;rintro v2 h2 s2' p2;obtain⟨_,_,_,_,_,_,_,rfl,q2⟩:=p2.ok s1
  try simp(disch:=omega) only[go_sem,Nat.reduceBEq,Nat.reduceAdd]
  refine ldm_of [.bool false,.slice na nl nc,.slice da dl dc] rfl (at_rowB (pub_to (h':=h2) hb)) ?_
  try simp(disch:=omega) only[go_sem,Nat.reduceBEq,Nat.reduceAdd]
  refine caN (by exact NumDiv (Rv.of (hx.to (h':=h2)) sx) (Rv.of q2 s1) n1) ?_;rintro v3 h3 s3' p3;obtain⟨_,_,_,_,_,_,_,rfl,q3⟩:=p3.ok s2
  try simp(disch:=omega) only[go_sem,Nat.reduceBEq,Nat.reduceAdd]
  exact q3
theorem EArcsine_spec {h0 h:PH} [Le h0 h] {v:Value} {x:Rat} {w:Nat} (hx:Cn h0 v x) (bx:sz x≤1024) (hd:x.num.natAbs≤x.den) (hw:32≤w) (hw':w≤192):Spec mach 74 #[v,.int .i64 w] h (fun r h'=>Pr h' r (asL x w) (asU x w)) NP:=by
  obtain⟨na,nl,nc,da,dl,dc,rfl,_,_,_,_⟩:=hx.parts
  have hA:=abQ_cn hx
  obtain⟨z1,z2⟩:=sq_sz bx hd
  have zA:sz (abQ x)≤2048:=by rw[abQ_sz];omega
  obtain⟨r0,r1⟩:=asR_bd hd
  have nR:¬(asR x < 0∧2 % 2=0):=fun k=>by have:=k.1;grind
  obtain⟨g0,g1⟩:=asG_bd (u:=true) (w:=w) hd
  obtain⟨g2,g3⟩:=asG_bd (u:=false) (w:=w) hd
  have n0:1+asG true x w≠0:=by grind
  have n1:1+asG false x w≠0:=by grind
  have s0:sz (asH true x w)≤2048:=Nat.le_trans (asH_sz bx hd) (by omega)
  have s1:sz (asH false x w)≤2048:=Nat.le_trans (asH_sz bx hd) (by omega)
  have g1:sz (1+asG true x w)≤2048:=by omega
  have g3:sz (1+asG false x w)≤2048:=by omega
  obtain⟨l1,l2⟩:=as_arg (w:=w) hd
  obtain⟨m1,m2⟩:=an_le (w:=w) (by omega) l1 l2
  have b1:=bl_w3 (by omega) m1
  have b2:=bl_w3 (by omega) m2
  have z1:=Hid.mk z1
  have z2:=Hid.mk z2
  have zA:=Hid.mk zA
  have s0:=Hid.mk s0
  have s1:=Hid.mk s1
  have g1:=Hid.mk g1
  have g3:=Hid.mk g3
  have l1:=Hid.mk l1
  have l2:=Hid.mk l2
  have nR:=Hid.mk nR
  have n0:=Hid.mk n0
  have n1:=Hid.mk n1
  clear m1 m2 r0 r1 g0 g2 bx hd hx
  generalize decide (x.num < 0)=neg at*
  have F:=Hid.mk (And.intro b1 b2);clear b1 b2
  refine Spec.go [(3,.h [] [] [6] [6,1,0,2,3,4,5,7,8]),(7,.o [0,1,3,6,7,9,13,2,4,5,8,10,11,12,14,15,16]),(6,.t (.p 0 (.s [0,1] .d)))] Tryz.func74 rfl rfl (by kernel_rfl) fun C _=>?_
  try simp(disch:=omega) only[go_sem,Nat.reduceBEq,Nat.reduceAdd]
  refine caN (by exact NumMul (Rv.of hA zA.out) (Rv.of hA zA.out)) ?_;rintro v1 h1 s1' p1;obtain⟨_,_,_,_,_,_,_,rfl,q1⟩:=p1.ok z1.out
  try simp(disch:=omega) only[go_sem,Nat.reduceBEq,Nat.reduceAdd]
  refine caN (by exact FromInt_spec (n:=1) (by decide) (by decide)) ?_;rintro v2 h2 s2' c;have c:Cn h2 v2 1:=c;obtain⟨_,_,_,_,_,_,_,rfl,c⟩:=c.sa
  try simp(disch:=omega) only[go_sem,Nat.reduceBEq,Nat.reduceAdd]
  refine caN (by exact NumSub (Rv.of c (by decide)) (Rv.of (q1.to (h':=h2)) z1.out)) ?_;rintro v3 h3 s3' p3;obtain⟨_,_,_,_,_,_,_,rfl,q3⟩:=p3.ok z2.out
  try simp(disch:=omega) only[go_sem,Nat.reduceBEq,Nat.reduceAdd]
  refine caN (by exact NumUp (n:=2) (p:=w) (Rv.of q3 z2.out) (by decide) (by decide) (by have:=F.out;omega) nR.out) ?_;rintro v4 h4 s4' ⟨_,_,_,_,_,_,_,rfl,q4⟩
  try simp(disch:=omega) only[go_sem,Nat.reduceBEq,Nat.reduceAdd]
  refine caN (by exact NumDown (n:=2) (p:=w) (Rv.of (q3.to (h':=h4)) z2.out) (by decide) (by decide) (by have:=F.out;omega) nR.out) ?_;rintro v5 h5 s5' ⟨_,_,_,_,_,_,_,rfl,q5⟩
  try simp(disch:=omega) only[go_sem,Nat.reduceBEq,Nat.reduceAdd]
  intro b h6 st6 hb
  try simp(disch:=omega) only[go_sem,Nat.reduceBEq,Nat.reduceAdd]
  have hb:h6 b=some #[.bool false,.slice na nl nc,.slice da dl dc]:=hb (by simp)
  try simp(disch:=omega) only[go_sem,Nat.reduceBEq,Nat.reduceAdd]
  refine caN (by exact EHalf1_spec (h0:=h6) hb hA.to (q4.to (h':=h6)) zA.out g1.out n0.out s0.out) ?_;rintro v7 h7 s7' q7;obtain⟨_,_,_,_,_,_,_,rfl,q7⟩:=q7.sa
  try simp(disch:=omega) only[go_sem,Nat.reduceBEq,Nat.reduceAdd]
  refine caN (by exact EScaled_spec (x:=asH true x w) (w:=w) q7 (Nat.le_trans s0.out (by decide)) (by have:=F.out;omega)) ?_;rintro v8 h8 s8' ⟨_,_,_,_,_,_,rfl,q8,_⟩
  try simp(disch:=omega) only[go_sem,Nat.reduceBEq,Nat.reduceAdd]
  refine caN (by exact EHalf1_spec (h0:=h8) (pub_to hb) hA.to (q5.to (h':=h8)) zA.out g3.out n1.out s1.out) ?_;rintro v9 h9 s9' q9;obtain⟨_,_,_,_,_,_,_,rfl,q9⟩:=q9.sa
  try simp(disch:=omega) only[go_sem,Nat.reduceBEq,Nat.reduceAdd]
  refine caN (by exact EScaled_spec (x:=asH false x w) (w:=w) q9 (Nat.le_trans s1.out (by decide)) (by have:=F.out;omega)) ?_;rintro v10 h10 s10' ⟨_,_,_,_,_,_,rfl,_,q10⟩
  try simp(disch:=omega) only[go_sem,Nat.reduceBEq,Nat.reduceAdd]
  refine caN (by exact EAngle_spec ⟨_,_,_,_,_,_,rfl,q8.to (h':=h10),q10⟩ l1.out l2.out (by have:=F.out;omega) (by have:=F.out;omega)) ?_;rintro v11 h11 s11' q11;obtain⟨_,_,_,_,_,_,rfl,q11⟩:=q11.sp
  try simp(disch:=omega) only[go_sem,Nat.reduceBEq,Nat.reduceAdd]
  refine caN (by exact PTimes_spec (n:=1) q11 (by have:=F.out;omega) (by have:=F.out;omega) (by decide)) ?_;rintro v12 h12 s12' q12;obtain⟨_,_,_,_,_,_,rfl,q12⟩:=q12.sp
  try simp(disch:=omega) only[go_sem,Nat.reduceBEq,Nat.reduceAdd]
  exact q12
def asinLo (x:Rat) (p:Nat):Rat:=bkL (decide (x.num < 0)) (asL x (p+32)) (asU x (p+32)) 32 p
def asinHi (x:Rat) (p:Nat):Rat:=bkH (decide (x.num < 0)) (asL x (p+32)) (asU x (p+32)) 32 p
theorem bl_as {x:Rat} {w:Nat} (hw:2≤w) (h:x.num.natAbs≤x.den):bl (asL x w)≤w+4∧bl (asU x w)≤w+4:=by
  obtain⟨l1,l2⟩:=as_arg (w:=w) h
  obtain⟨m1,m2⟩:=an_le hw l1 l2
  have b1:=bl_w3 hw m1
  have b2:=bl_w3 hw m2
  have b3:=bl_shl (anL (glo (asH true x w) w) (ghi (asH false x w) w) w) 1
  have b4:=bl_shl (anH (glo (asH true x w) w) (ghi (asH false x w) w) w) 1
  unfold asL asU
  omega
theorem EAsin_spec {h0 h:PH} [Le h0 h] {v:Value} {x:Rat} {p:Nat} (hx:Cn h0 v x) (bx:sz x≤1024) (hd:x.num.natAbs≤x.den) (hp:p≤128):Spec mach 30 #[v,.int .i64 p] h (fun r h'=>Be h' r (asinLo x p) (asinHi x p)) NP:=by
  have kA:=fun {h} [Le h0 h]=>EArcsine_spec (h:=h) (w:=p+32) hx bx hd (by omega) (by omega)
  obtain⟨b1,b2⟩:=bl_as (w:=p+32) (by omega) hd
  have b7:=bl_div_le (asL x (p+32)) (2^(p+32 - p))
  have b8:=bl_cdiv (asU x (p+32)) (pow2_ne (p+32 - p))
  have ep:Hid (p+32 - p=32):=⟨by omega⟩
  obtain⟨na,nl,nc,da,dl,dc,rfl,_,_,_,_⟩:=hx.parts
  unfold asinLo asinHi
  generalize decide (x.num < 0)=neg at*
  generalize asL x (p+32)=ga at*
  generalize asU x (p+32)=gb at*
  clear hd hx bx
  have F:=Hid.mk (And.intro b1 (And.intro b2 (And.intro b7 b8)));clear b1 b2 b7 b8
  refine Spec.go [(2,.o [0,1,3,4,5,6,2,7,8,9])] Tryz.func30 rfl rfl (by kernel_rfl) fun C _=>?_
  try simp(disch:=omega) only[go_sem,Nat.reduceBEq,Nat.reduceAdd]
  refine caN (by exact kA) ?_;rintro v1 h1 s1 q1;obtain⟨_,_,_,_,_,_,rfl,q1⟩:=q1.sp
  try simp(disch:=omega) only[go_sem,Nat.reduceBEq,Nat.reduceAdd]
  refine caN (by exact Bracket_spec (w:=p+32) (p:=p) (neg:=neg) q1 (by have:=F.out;omega) (by have:=F.out;omega) (by have:=F.out;omega) (by have:=F.out;omega) (by have:=F.out;omega) (by have:=F.out;omega) (by have:=F.out;omega)) ?_;rintro v10 h10 s10 ⟨_,_,_,_,_,_,_,_,_,_,_,_,_,_,rfl,r1,r2⟩
  try simp(disch:=omega) only[go_sem,Nat.reduceBEq,Nat.reduceAdd]
  rw[ep.out] at r1 r2
  exact⟨_,_,_,_,_,_,_,_,_,_,_,_,_,_,rfl,r1,r2⟩
def acLo (x:Rat) (p:Nat):Rat:=if x=0 then bkL false (piL (p+32)) (piH (p+32)) 33 p else if x.num < 0 then bkL false (piL (p+32)+asL x (p+32)*2^1) (piH (p+32)+asU x (p+32)*2^1) 33 p else gdown (sgn false (piL (p+32)) (2^(p+32+1))+ -sgn false (asU x (p+32)*2^1) (2^(p+32+1))) p
def acHi (x:Rat) (p:Nat):Rat:=if x=0 then bkH false (piL (p+32)) (piH (p+32)) 33 p else if x.num < 0 then bkH false (piL (p+32)+asL x (p+32)*2^1) (piH (p+32)+asU x (p+32)*2^1) 33 p else gup (sgn false (piH (p+32)) (2^(p+32+1))+ -sgn false (asL x (p+32)*2^1) (2^(p+32+1))) p
theorem EAcos_spec {h0 h:PH} [Le h0 h] {v:Value} {x:Rat} {p:Nat} (hx:Cn h0 v x) (bx:sz x≤1024) (hd:x.num.natAbs≤x.den) (hp:p≤128):Spec mach 31 #[v,.int .i64 p] h (fun r h'=>Be h' r (acLo x p) (acHi x p)) NP:=by
  have kA:=fun {h} [Le h0 h]=>EArcsine_spec (h:=h) (w:=p+32) hx bx hd (by omega) (by omega)
  obtain⟨b1,b2⟩:=bl_as (w:=p+32) (by omega) hd
  obtain⟨b3,b4⟩:=bl_pi (w:=p+32)
  have ep:Hid (p+32+1 - p=33):=⟨by omega⟩
  obtain⟨na,nl,nc,da,dl,dc,rfl,_,_,e1,_⟩:=hx.parts
  generalize hL:asL x (p+32)=ga at*
  generalize hU:asU x (p+32)=gb at*
  have b5:=bl_shl ga 1
  have b6:=bl_shl gb 1
  by_cases h0':x=0
  · have e3:((nl:Int) == 0)=true:=by simp[e1.2 h0']
    rw[show acLo x p=bkL false (piL (p+32)) (piH (p+32)) 33 p from if_pos h0',show acHi x p=bkH false (piL (p+32)) (piH (p+32)) 33 p from if_pos h0']
    have b7:=bl_div_le (piL (p+32)) (2^(p+32+1 - p))
    have b8:=bl_cdiv (piH (p+32)) (pow2_ne (p+32+1 - p))
    clear hL hU hx bx hd kA
    have F:=Hid.mk (And.intro b3 (And.intro b4 (And.intro b7 b8)));clear b3 b4 b7 b8
    refine Spec.go [(7,.o [0,1,2,3,5,6,7,8,11,12,13,4,9,10,14,15,16])] Tryz.func31 rfl rfl (by kernel_rfl) fun C _=>?_
    try simp(disch:=omega) only[go_sem,Nat.reduceBEq,Nat.reduceAdd]
    refine caN (by exact EPi_spec (w:=p+32) (by have:=F.out;omega) (by have:=F.out;omega)) ?_;rintro v1 h1 s1 q1;obtain⟨_,_,_,_,_,_,rfl,q1⟩:=q1.sp
    try simp(disch:=omega) only[go_sem,Nat.reduceBEq,Nat.reduceAdd,e3]
    refine caN (by exact Bracket_spec (w:=p+32+1) (p:=p) (neg:=false) q1 (by have:=F.out;omega) (by have:=F.out;omega) (by have:=F.out;omega) (by have:=F.out;omega) (by have:=F.out;omega) (by have:=F.out;omega) (by have:=F.out;omega)) ?_;rintro v10 h10 s10 ⟨_,_,_,_,_,_,_,_,_,_,_,_,_,_,rfl,r1,r2⟩
    try simp(disch:=omega) only[go_sem,Nat.reduceBEq,Nat.reduceAdd]
    rw[ep.out] at r1 r2
    exact⟨_,_,_,_,_,_,_,_,_,_,_,_,_,_,rfl,r1,r2⟩
  · have e3:((nl:Int) == 0)=false:=by have:=fun c=>h0' (e1.1 c);simp;(omega)
    by_cases hs:x.num < 0
    · have eL:acLo x p=bkL false (piL (p+32)+ga*2^1) (piH (p+32)+gb*2^1) 33 p:=by unfold acLo;rw[if_neg h0',if_pos hs,hL,hU]
      have eH:acHi x p=bkH false (piL (p+32)+ga*2^1) (piH (p+32)+gb*2^1) 33 p:=by unfold acHi;rw[if_neg h0',if_pos hs,hL,hU]
      rw[eL,eH]
      rw[decide_eq_true hs] at kA ⊢
      have b9:=bl_add (piL (p+32)) (ga*2^1)
      have b10:=bl_add (piH (p+32)) (gb*2^1)
      have b7:=bl_div_le (piL (p+32)+ga*2^1) (2^(p+32+1 - p))
      have b8:=bl_cdiv (piH (p+32)+gb*2^1) (pow2_ne (p+32+1 - p))
      clear hL hU hx bx hd hs eL eH
      have F:=Hid.mk (And.intro b1 (And.intro b2 (And.intro b3 (And.intro b4 (And.intro b5 (And.intro b6 (And.intro b7 (And.intro b8 (And.intro b9 b10)))))))));clear b1 b2 b3 b4 b5 b6 b7 b8 b9 b10
      refine Spec.go [(7,.o [0,1,2,3,5,6,7,8,11,12,13,4,9,10,14,15,16])] Tryz.func31 rfl rfl (by kernel_rfl) fun C _=>?_
      try simp(disch:=omega) only[go_sem,Nat.reduceBEq,Nat.reduceAdd]
      refine caN (by exact EPi_spec (w:=p+32) (by have:=F.out;omega) (by have:=F.out;omega)) ?_;rintro v1 h1 s1 ⟨x5,m5,c5,y5,n5,d5,rfl,q5,q6⟩
      try simp(disch:=omega) only[go_sem,Nat.reduceBEq,Nat.reduceAdd,e3]
      refine caN (by exact kA) ?_;rintro v2 h2 s2 q2;obtain⟨_,_,_,_,_,_,rfl,q2⟩:=q2.sp
      try simp(disch:=omega) only[go_sem,Nat.reduceBEq,Nat.reduceAdd]
      refine caN (by exact PTimes_spec (n:=1) q2 (by have:=F.out;omega) (by have:=F.out;omega) (by decide)) ?_;rintro v3 h3 s3 ⟨x4,m4,c4,y4,n4,d4,rfl,a4,a5⟩
      try simp(disch:=omega) only[go_sem,Nat.reduceBEq,Nat.reduceAdd]
      refine caN (by exact Add_spec (q5.to (h':=h3)) a4 (show bl (piL (p+32))≤2^40 by have:=F.out;omega) (by have:=F.out;omega)) ?_;rintro _ h6 _ q7;obtain⟨v6,_,_,rfl,q7⟩:=q7.sl
      try simp(disch:=omega) only[go_sem,Nat.reduceBEq,Nat.reduceAdd]
      refine caN (by exact Add_spec (q6.to (h':=h6)) (a5.to (h':=h6)) (show bl (piH (p+32))≤2^40 by have:=F.out;omega) (by have:=F.out;omega)) ?_;rintro _ h7 _ q8;obtain⟨v7,_,_,rfl,q8⟩:=q8.sl
      try simp(disch:=omega) only[go_sem,Nat.reduceBEq,Nat.reduceAdd]
      refine caN (by exact Bracket_spec (w:=p+32+1) (p:=p) (neg:=false) ⟨_,_,_,_,_,_,rfl,q7.to (h':=h7),q8⟩ (by have:=F.out;omega) (by have:=F.out;omega) (by have:=F.out;omega) (by have:=F.out;omega) (by have:=F.out;omega) (by have:=F.out;omega) (by have:=F.out;omega)) ?_;rintro v10 h10 s10 ⟨_,_,_,_,_,_,_,_,_,_,_,_,_,_,rfl,r1,r2⟩
      try simp(disch:=omega) only[go_sem,Nat.reduceBEq,Nat.reduceAdd]
      rw[ep.out] at r1 r2
      exact⟨_,_,_,_,_,_,_,_,_,_,_,_,_,_,rfl,r1,r2⟩
    · skip
      have eL:acLo x p=gdown (sgn false (piL (p+32)) (2^(p+32+1))+ -sgn false (gb*2^1) (2^(p+32+1))) p:=by unfold acLo;rw[if_neg h0',if_neg hs,hU]
      have eH:acHi x p=gup (sgn false (piH (p+32)) (2^(p+32+1))+ -sgn false (ga*2^1) (2^(p+32+1))) p:=by unfold acHi;rw[if_neg h0',if_neg hs,hL]
      rw[eL,eH]
      rw[decide_eq_false hs] at kA ⊢
      have u1':=sz_dif (a:=piL (p+32)) (b:=gb*2^1) (w:=p+32+1) (k:=p+40) (by omega) (by omega) (by omega)
      have u2':=sz_dif (a:=piH (p+32)) (b:=ga*2^1) (w:=p+32+1) (k:=p+40) (by omega) (by omega) (by omega)
      have u3':=sz_gd (sgn false (piL (p+32)) (2^(p+32+1))+ -sgn false (gb*2^1) (2^(p+32+1))) p
      have u4':=sz_gu (sgn false (piH (p+32)) (2^(p+32+1))+ -sgn false (ga*2^1) (2^(p+32+1))) p
      have u1:=Hid.mk (Nat.le_trans u1' (show 2*(p+40)+1≤2048 by omega))
      have u2:=Hid.mk (Nat.le_trans u2' (show 2*(p+40)+1≤2048 by omega))
      have u3:=Hid.mk (Nat.le_trans u3' (show _≤2048 by omega))
      have u4:=Hid.mk (Nat.le_trans u4' (show _≤2048 by omega))
      clear u1' u2' u3' u4' hL hU hx bx hd hs eL eH
      have F:=Hid.mk (And.intro b1 (And.intro b2 (And.intro b3 (And.intro b4 (And.intro b5 b6)))));clear b1 b2 b3 b4 b5 b6
      refine Spec.go [(7,.o [0,1,2,3,5,6,7,8,11,12,13,4,9,10,14,15,16])] Tryz.func31 rfl rfl (by kernel_rfl) fun C _=>?_
      try simp(disch:=omega) only[go_sem,Nat.reduceBEq,Nat.reduceAdd]
      refine caN (by exact EPi_spec (w:=p+32) (by have:=F.out;omega) (by have:=F.out;omega)) ?_;rintro v1 h1 s1 ⟨x5,m5,c5,y5,n5,d5,rfl,q5,q6⟩
      try simp(disch:=omega) only[go_sem,Nat.reduceBEq,Nat.reduceAdd,e3]
      refine caN (by exact kA) ?_;rintro v2 h2 s2 q2;obtain⟨_,_,_,_,_,_,rfl,q2⟩:=q2.sp
      try simp(disch:=omega) only[go_sem,Nat.reduceBEq,Nat.reduceAdd]
      refine caN (by exact PTimes_spec (n:=1) q2 (by have:=F.out;omega) (by have:=F.out;omega) (by decide)) ?_;rintro v3 h3 s3 ⟨x4,m4,c4,y4,n4,d4,rfl,a4,a5⟩
      try simp(disch:=omega) only[go_sem,Nat.reduceBEq,Nat.reduceAdd]
      refine caN (by exact EBelow_spec (w:=p+32+1) (p:=p) (a5.to (h':=h3)) (q5.to (h':=h3)) a4 (q6.to (h':=h3)) (by have:=F.out;omega) (show bl (piL (p+32))≤2048 by have:=F.out;omega) (by have:=F.out;omega) (show bl (piH (p+32))≤2048 by have:=F.out;omega) (by have:=F.out;omega) (by have:=F.out;omega) u1.out u2.out u3.out u4.out) ?_;rintro w6 g6 z6 ⟨_,_,_,_,_,_,_,_,_,_,_,_,_,_,rfl,t6,t7⟩
      try simp(disch:=omega) only[go_sem,Nat.reduceBEq,Nat.reduceAdd]
      exact⟨_,_,_,_,_,_,_,_,_,_,_,_,_,_,rfl,t6,t7⟩
end Go.Q
namespace Go.Q
open Go.Proofs
set_option maxRecDepth 100000
set_option maxHeartbeats 8000000
def snAt (x:Rat) (w:Nat) (low:Bool):Rat:=if (!(low == decide (x.num < 0)))=true then sgn (decide (x.num < 0)) (glo x w*wvL (glo x w) w 2 / 2^w) (2^w) else sgn (decide (x.num < 0)) (cdiv (glo x w*wvH (glo x w) w 2) (2^w)) (2^w)
theorem sn_n {y w:Nat} (hy:y≤2^w):y*wvL y w 2 / 2^w≤2^w∧cdiv (y*wvH y w 2) (2^w)≤2^w:=by
  obtain⟨h1,h2⟩:=waV_le (w:=w) (f:=2) (s:=sqL y w) (t:=sqH y w) (by decide) 24
  exact⟨Nat.div_le_of_le_mul (Nat.mul_le_mul hy h2),(cdiv_le_iff (pow2_ne w)).2 (Nat.mul_le_mul hy h1)⟩
theorem snAt_sz {x:Rat} {w:Nat} {low:Bool} (hy:glo x w≤2^w):sz (snAt x w low)≤w+2:=by
  obtain⟨h1,h2⟩:=sn_n hy
  have b0:=bl_pow2 w
  unfold snAt
  split
  · have:=sz_sgn (decide (x.num < 0)) (glo x w*wvL (glo x w) w 2 / 2^w) (pow2_ne w)
    have:=bl_pow_le (n:=glo x w*wvL (glo x w) w 2 / 2^w) (w:=w) (by omega)
    omega
  · have:=sz_sgn (decide (x.num < 0)) (cdiv (glo x w*wvH (glo x w) w 2) (2^w)) (pow2_ne w)
    have:=bl_pow_le (n:=cdiv (glo x w*wvH (glo x w) w 2) (2^w)) (w:=w) (by omega)
    omega
def csX (x y:Rat) (w:Nat):Nat:=max (glo x w) (glo y w)
def csN (x y:Rat) (w:Nat):Nat:=if (x.num < 0∧¬y.num < 0)∨x=0∨y=0 then 0 else min (glo x w) (glo y w)
end Go.Q
namespace Go.Q
open Go.Proofs
set_option maxRecDepth 100000
set_option maxHeartbeats 8000000
end Go.Q
namespace Go.Q
open Go.Proofs
set_option maxRecDepth 100000
set_option maxHeartbeats 8000000
def snl (x:Rat) (w:Nat):Rat:=snAt (rsA x w) w true
def snh (x:Rat) (w:Nat):Rat:=snAt (rsB x w) w false
def csl (x:Rat) (w:Nat):Rat:=sgn false (wvL (csX (rsA x w) (rsB x w) w) w 1) (2^w)
def csh (x:Rat) (w:Nat):Rat:=sgn false (wvH (csN (rsA x w) (rsB x w) w) w 1) (2^w)
def siL (x:Rat) (w:Nat):Rat:=if rsK x w % 4=1 then csl x w else if rsK x w % 4=2 then -snh x w else if rsK x w % 4=3 then -csh x w else snl x w
def siH (x:Rat) (w:Nat):Rat:=if rsK x w % 4=1 then csh x w else if rsK x w % 4=2 then -snl x w else if rsK x w % 4=3 then -csl x w else snh x w
def coL (x:Rat) (w:Nat):Rat:=if rsK x w % 4=1 then -snh x w else if rsK x w % 4=2 then -csh x w else if rsK x w % 4=3 then snl x w else csl x w
def coH (x:Rat) (w:Nat):Rat:=if rsK x w % 4=1 then -snl x w else if rsK x w % 4=2 then -csl x w else if rsK x w % 4=3 then snh x w else csh x w
theorem rs_glo {x:Rat} {w:Nat} (h1:64≤w) (h2:w≤192) (hb:¬x.den*4294967296 < x.num.natAbs):glo (rsA x w) w≤2^w∧glo (rsB x w) w≤2^w:=by
  obtain⟨a1,a2,a3⟩:=rs_bd h1 h2 (num_bd hb)
  exact⟨(g_le (abs_num a1 (by grind))).1,(g_le (abs_num (by grind) a3)).1⟩
theorem cs_sz {y w:Nat}:sz (sgn false (wvL y w 1) (2^w))≤w+2∧sz (sgn false (wvH y w 1) (2^w))≤w+2:=by
  obtain⟨w1,w2⟩:=waV_le (w:=w) (f:=1) (s:=sqL y w) (t:=sqH y w) (by decide) 24
  have h0:=bl_pow2 w
  have h1:=bl_pow_le (n:=wvL y w 1) (w:=w) (by unfold wvL;omega)
  have h2:=bl_pow_le (n:=wvH y w 1) (w:=w) (by unfold wvH;omega)
  have h3:=sz_sgn false (wvL y w 1) (pow2_ne w)
  have h4:=sz_sgn false (wvH y w 1) (pow2_ne w)
  omega
theorem sc_sz {x:Rat} {w:Nat} (hb:¬x.den*4294967296 < x.num.natAbs) (hw:64≤w) (hw':w≤192):sz (siL x w)≤w+2∧sz (siH x w)≤w+2∧sz (coL x w)≤w+2∧sz (coH x w)≤w+2:=by
  obtain⟨l1,l2⟩:=rs_glo hw hw' hb
  obtain⟨c1,_⟩:=cs_sz (y:=csX (rsA x w) (rsB x w) w) (w:=w)
  obtain⟨_,c2⟩:=cs_sz (y:=csN (rsA x w) (rsB x w) w) (w:=w)
  have c1:sz (csl x w)≤w+2:=c1
  have c2:sz (csh x w)≤w+2:=c2
  have n1:sz (snl x w)≤w+2:=snAt_sz l1
  have n2:sz (snh x w)≤w+2:=snAt_sz l2
  have e1:=sz_neg (snl x w)
  have e2:=sz_neg (snh x w)
  have e3:=sz_neg (csl x w)
  have e4:=sz_neg (csh x w)
  unfold siL siH coL coH
  refine⟨?_,?_,?_,?_⟩<;>(repeat' split)<;>omega
end Go.Q
namespace Go.Q
open Go.Proofs
set_option maxRecDepth 100000
set_option maxHeartbeats 8000000
def eErr (fn:Int) (x:Rat) (p:Int):Int:=if ¬(1≤fn∧fn≤8)∨p < 0∨128 < p then 2 else if defB fn x=false then 5 else if 1024 < sz x∨(fn=1∧x.den*64 < x.num.natAbs)∨((fn=3∨fn=4∨fn=5)∧x.den*4294967296 < x.num.natAbs) then 20 else 0
theorem eErr_2 {fn:Int} {x:Rat} {p:Int} (h:¬(1≤fn∧fn≤8)∨p < 0∨128 < p):eErr fn x p=2:=if_pos h
theorem eErr_5 {fn:Int} {x:Rat} {p:Int} (h:¬(¬(1≤fn∧fn≤8)∨p < 0∨128 < p)) (hd:defB fn x=false):eErr fn x p=5:=by unfold eErr;rw[if_neg h,if_pos hd]
theorem eErr_20 {fn:Int} {x:Rat} {p:Int} (h:¬(¬(1≤fn∧fn≤8)∨p < 0∨128 < p)) (hd:defB fn x=true) (hb:1024 < sz x∨(fn=1∧x.den*64 < x.num.natAbs)∨((fn=3∨fn=4∨fn=5)∧x.den*4294967296 < x.num.natAbs)):eErr fn x p=20:=by unfold eErr;rw[if_neg h,hd,if_neg (by decide),if_pos hb]
theorem eErr_0 {fn:Int} {x:Rat} {p:Int} (h:¬(¬(1≤fn∧fn≤8)∨p < 0∨128 < p)) (hd:defB fn x=true) (hb:¬(1024 < sz x∨(fn=1∧x.den*64 < x.num.natAbs)∨((fn=3∨fn=4∨fn=5)∧x.den*4294967296 < x.num.natAbs))):eErr fn x p=0:=by unfold eErr;rw[if_neg h,hd,if_neg (by decide),if_neg hb]
def Re0 (h:PH) (r:Value) (e:Int) (x:Rat):Prop:=∃b na nl nc da dl dc,r=.tuple #[.agg #[.bool b,.slice na nl nc,.slice da dl dc],.int .i64 e]∧(e=0→Cn h (.agg #[.bool b,.slice na nl nc,.slice da dl dc]) x)
theorem EReady_spec {h0 h:PH} [Le h0 h] {v:Value} {x:Rat} {fn p:Int} (hx:Rv h0 v x):Spec mach 79 #[.int .i64 fn,v,.int .i64 p] h (fun r h'=>Re0 h' r (eErr fn x p) x) NP:=by
  have bx:=hx.sz
  by_cases hf:1≤fn∧fn≤8
  case neg=>
    have kK:=fun {h} [Le h0 h]=>EKnown_arg (h:=h) hx hf
    rw[eErr_2 (.inl hf)]
    obtain⟨_,_,_,_,_,_,_,rfl,_⟩:=hx.sa
    refine Spec.go [] Tryz.func79 rfl rfl (by kernel_rfl) fun C _=>?_
    try simp(disch:=omega) only[go_sem,Nat.reduceBEq,Nat.reduceAdd]
    refine caN (by exact kK) ?_;rintro v1 h1 s1 rfl
    try simp(disch:=omega) only[go_sem,Nat.reduceBEq,Nat.reduceAdd]
    exact⟨_,_,_,_,_,_,_,rfl,fun e=>by cases e⟩
  have kK:=fun {h} [Le h0 h]=>EKnown_ok (h:=h) (fn:=fn) hx hf
  by_cases hp0:p < 0
  · rw[eErr_2 (.inr (.inl hp0))]
    obtain⟨_,_,_,_,_,_,_,rfl,_⟩:=hx.sa
    refine Spec.go [] Tryz.func79 rfl rfl (by kernel_rfl) fun C _=>?_
    try simp(disch:=omega) only[go_sem,Nat.reduceBEq,Nat.reduceAdd]
    refine caN (by exact kK) ?_;rintro v1 h1 s1 ⟨_,_,_,_,_,_,_,rfl,c⟩
    try simp(disch:=omega) only[go_sem,Nat.reduceBEq,Nat.reduceAdd]
    exact⟨_,_,_,_,_,_,_,rfl,fun e=>by cases e⟩
  by_cases hp1:128 < p
  · rw[eErr_2 (.inr (.inr hp1))]
    obtain⟨_,_,_,_,_,_,_,rfl,_⟩:=hx.sa
    refine Spec.go [] Tryz.func79 rfl rfl (by kernel_rfl) fun C _=>?_
    try simp(disch:=omega) only[go_sem,Nat.reduceBEq,Nat.reduceAdd]
    refine caN (by exact kK) ?_;rintro v1 h1 s1 ⟨_,_,_,_,_,_,_,rfl,c⟩
    try simp(disch:=omega) only[go_sem,Nat.reduceBEq,Nat.reduceAdd]
    exact⟨_,_,_,_,_,_,_,rfl,fun e=>by cases e⟩
  have hA:¬(¬(1≤fn∧fn≤8)∨p < 0∨128 < p):=by omega
  obtain⟨_,_,_,_,_,_,_,rfl,_⟩:=hx.sa
  cases hd:defB fn x with
  | false=>
    rw[eErr_5 hA hd]
    clear hA
    refine Spec.go [] Tryz.func79 rfl rfl (by kernel_rfl) fun C _=>?_
    try simp(disch:=omega) only[go_sem,Nat.reduceBEq,Nat.reduceAdd]
    refine caN (by exact kK) ?_;rintro v1 h1 s1 ⟨_,_,_,_,_,_,_,rfl,c⟩
    try simp(disch:=omega) only[go_sem,Nat.reduceBEq,Nat.reduceAdd]
    refine caN (by exact EDefined_spec (fn:=fn) c) ?_;rintro v2 h2 s2 rfl
    try simp(disch:=omega) only[go_sem,Nat.reduceBEq,Nat.reduceAdd]
    try rw[hd]
    try simp(disch:=omega) only[go_sem,Nat.reduceBEq,Nat.reduceAdd]
    exact⟨_,_,_,_,_,_,_,rfl,fun e=>by cases e⟩
  | true=>
    by_cases hl:1024 < sz x
    · rw[eErr_20 hA hd (.inl hl)]
      have hl:=decide_eq_true hl
      clear hA
      refine Spec.go [] Tryz.func79 rfl rfl (by kernel_rfl) fun C _=>?_
      try simp(disch:=omega) only[go_sem,Nat.reduceBEq,Nat.reduceAdd]
      refine caN (by exact kK) ?_;rintro v1 h1 s1 ⟨_,_,_,_,_,_,_,rfl,c⟩
      try simp(disch:=omega) only[go_sem,Nat.reduceBEq,Nat.reduceAdd]
      refine caN (by exact EDefined_spec (fn:=fn) c) ?_;rintro v2 h2 s2 rfl
      try simp(disch:=omega) only[go_sem,Nat.reduceBEq,Nat.reduceAdd]
      try rw[hd]
      try simp(disch:=omega) only[go_sem,Nat.reduceBEq,Nat.reduceAdd]
      refine caN (by exact TooLong_spec (c.to (h':=h2))) ?_;rintro v3 h3 s3 rfl
      try simp(disch:=omega) only[go_sem,Nat.reduceBEq,Nat.reduceAdd]
      try rw[hl]
      try simp(disch:=omega) only[go_sem,Nat.reduceBEq,Nat.reduceAdd]
      exact⟨_,_,_,_,_,_,_,rfl,fun e=>by cases e⟩
    have hl':=decide_eq_false hl
    by_cases h1:fn=1
    · subst h1
      by_cases hb:x.den*64 < x.num.natAbs
      · rw[eErr_20 hA hd (.inr (.inl ⟨rfl,hb⟩))]
        have hb':=decide_eq_true hb
        clear hA
        refine Spec.go [] Tryz.func79 rfl rfl (by kernel_rfl) fun C _=>?_
        try simp(disch:=omega) only[go_sem,Nat.reduceBEq,Nat.reduceAdd]
        refine caN (by exact kK) ?_;rintro v1 h1 s1 ⟨_,_,_,_,_,_,_,rfl,c⟩
        try simp(disch:=omega) only[go_sem,Nat.reduceBEq,Nat.reduceAdd]
        refine caN (by exact EDefined_spec (fn:=1) c) ?_;rintro v2 h2 s2 rfl
        try simp(disch:=omega) only[go_sem,Nat.reduceBEq,Nat.reduceAdd]
        try rw[hd]
        try simp(disch:=omega) only[go_sem,Nat.reduceBEq,Nat.reduceAdd]
        refine caN (by exact TooLong_spec (c.to (h':=h2))) ?_;rintro v3 h3 s3 rfl
        try simp(disch:=omega) only[go_sem,Nat.reduceBEq,Nat.reduceAdd]
        try rw[hl']
        try simp(disch:=omega) only[go_sem,Nat.reduceBEq,Nat.reduceAdd]
        refine caN (by exact Beyond_spec (n:=64) (c.to (h':=h3)) (by omega) (by decide)) ?_;rintro v4 h4 s4 rfl
        try simp(disch:=omega) only[go_sem,Nat.reduceBEq,Nat.reduceAdd]
        try rw[hb']
        try simp(disch:=omega) only[go_sem,Nat.reduceBEq,Nat.reduceAdd]
        exact⟨_,_,_,_,_,_,_,rfl,fun e=>by cases e⟩
      · rw[eErr_0 hA hd (by rintro(k |k |k);exact hl k;exact hb k.2;exact absurd k.1 (by decide))]
        have hb':=decide_eq_false hb
        clear hA
        refine Spec.go [] Tryz.func79 rfl rfl (by kernel_rfl) fun C _=>?_
        try simp(disch:=omega) only[go_sem,Nat.reduceBEq,Nat.reduceAdd]
        refine caN (by exact kK) ?_;rintro v1 h1 s1 ⟨_,_,_,_,_,_,_,rfl,c⟩
        try simp(disch:=omega) only[go_sem,Nat.reduceBEq,Nat.reduceAdd]
        refine caN (by exact EDefined_spec (fn:=1) c) ?_;rintro v2 h2 s2 rfl
        try simp(disch:=omega) only[go_sem,Nat.reduceBEq,Nat.reduceAdd]
        try rw[hd]
        try simp(disch:=omega) only[go_sem,Nat.reduceBEq,Nat.reduceAdd]
        refine caN (by exact TooLong_spec (c.to (h':=h2))) ?_;rintro v3 h3 s3 rfl
        try simp(disch:=omega) only[go_sem,Nat.reduceBEq,Nat.reduceAdd]
        try rw[hl']
        try simp(disch:=omega) only[go_sem,Nat.reduceBEq,Nat.reduceAdd]
        refine caN (by exact Beyond_spec (n:=64) (c.to (h':=h3)) (by omega) (by decide)) ?_;rintro v4 h4 s4 rfl
        try simp(disch:=omega) only[go_sem,Nat.reduceBEq,Nat.reduceAdd]
        try rw[hb']
        try simp(disch:=omega) only[go_sem,Nat.reduceBEq,Nat.reduceAdd]
        exact⟨_,_,_,_,_,_,_,rfl,fun _=>c.to⟩
    by_cases h3:fn=3∨fn=4∨fn=5
    · have hb:(x.den*4294967296 < x.num.natAbs)∨¬(x.den*4294967296 < x.num.natAbs):=Decidable.em _
      rcases hb with hb |hb
      · rw[eErr_20 hA hd (.inr (.inr ⟨h3,hb⟩))]
        have hb':=decide_eq_true hb
        have kB:∀{h1 h:PH} {v:Value} [Le h1 h],Cn h1 v x→Spec mach 76 #[v,.int .u64 (4294967296:Nat)] h (fun v _=>v=.bool true) NP:=fun c=>by
          rw[←hb']
          exact Beyond_spec (n:=4294967296) c (Nat.le_trans bx (by decide)) (by decide)
        clear hA hb hb' h1
        rcases h3 with rfl |rfl |rfl
        all_goals
          refine Spec.go [] Tryz.func79 rfl rfl (by kernel_rfl) fun C _=>?_
          try simp(disch:=omega) only[go_sem,Nat.reduceBEq,Nat.reduceAdd]
          refine caN (by exact kK) ?_;rintro v1 h1 s1 ⟨_,_,_,_,_,_,_,rfl,c⟩
          try simp(disch:=omega) only[go_sem,Nat.reduceBEq,Nat.reduceAdd]
          refine caN (by exact EDefined_spec c) ?_;rintro v2 h2 s2 rfl
          try rw[hd]
          try simp(disch:=omega) only[go_sem,Nat.reduceBEq,Nat.reduceAdd]
          refine caN (by exact TooLong_spec (c.to (h':=h2))) ?_;rintro v3 h3 s3 rfl
          try simp(disch:=omega) only[go_sem,Nat.reduceBEq,Nat.reduceAdd]
          try rw[hl']
          try simp(disch:=omega) only[go_sem,Nat.reduceBEq,Nat.reduceAdd]
          refine caN (by exact kB (c.to (h':=h3))) ?_;rintro v4 h4 s4 rfl
          try simp(disch:=omega) only[go_sem,Nat.reduceBEq,Nat.reduceAdd]
          exact⟨_,_,_,_,_,_,_,rfl,fun e=>by cases e⟩
      · rw[eErr_0 hA hd (by rintro(k |k |k);exact hl k;exact h1 k.1;exact hb k.2)]
        have hb':=decide_eq_false hb
        have kB:∀{h1 h:PH} {v:Value} [Le h1 h],Cn h1 v x→Spec mach 76 #[v,.int .u64 (4294967296:Nat)] h (fun v _=>v=.bool false) NP:=fun c=>by
          rw[←hb']
          exact Beyond_spec (n:=4294967296) c (Nat.le_trans bx (by decide)) (by decide)
        clear hA hb hb' h1
        rcases h3 with rfl |rfl |rfl
        all_goals
          refine Spec.go [] Tryz.func79 rfl rfl (by kernel_rfl) fun C _=>?_
          try simp(disch:=omega) only[go_sem,Nat.reduceBEq,Nat.reduceAdd]
          refine caN (by exact kK) ?_;rintro v1 h1 s1 ⟨_,_,_,_,_,_,_,rfl,c⟩
          try simp(disch:=omega) only[go_sem,Nat.reduceBEq,Nat.reduceAdd]
          refine caN (by exact EDefined_spec c) ?_;rintro v2 h2 s2 rfl
          try rw[hd]
          try simp(disch:=omega) only[go_sem,Nat.reduceBEq,Nat.reduceAdd]
          refine caN (by exact TooLong_spec (c.to (h':=h2))) ?_;rintro v3 h3 s3 rfl
          try simp(disch:=omega) only[go_sem,Nat.reduceBEq,Nat.reduceAdd]
          try rw[hl']
          try simp(disch:=omega) only[go_sem,Nat.reduceBEq,Nat.reduceAdd]
          refine caN (by exact kB (c.to (h':=h3))) ?_;rintro v4 h4 s4 rfl
          try simp(disch:=omega) only[go_sem,Nat.reduceBEq,Nat.reduceAdd]
          exact⟨_,_,_,_,_,_,_,rfl,fun _=>c.to⟩
    · rw[eErr_0 hA hd (by rintro(k |k |k);exact hl k;exact h1 k.1;exact h3 k.1)]
      have f1:(fn == 1)=false:=by simpa using h1
      have f3:(fn == 3)=false:=by simp;omega
      have f4:(fn == 4)=false:=by simp;omega
      have f5:(fn == 5)=false:=by simp;omega
      clear hA h1 h3
      refine Spec.go [] Tryz.func79 rfl rfl (by kernel_rfl) fun C _=>?_
      try simp(disch:=omega) only[go_sem,Nat.reduceBEq,Nat.reduceAdd]
      refine caN (by exact kK) ?_;rintro v1 h1 s1 ⟨_,_,_,_,_,_,_,rfl,c⟩
      try simp(disch:=omega) only[go_sem,Nat.reduceBEq,Nat.reduceAdd]
      refine caN (by exact EDefined_spec (fn:=fn) c) ?_;rintro v2 h2 s2 rfl
      try simp(disch:=omega) only[go_sem,Nat.reduceBEq,Nat.reduceAdd]
      try rw[hd]
      try simp(disch:=omega) only[go_sem,Nat.reduceBEq,Nat.reduceAdd]
      refine caN (by exact TooLong_spec (c.to (h':=h2))) ?_;rintro v3 h3 s3 rfl
      try simp(disch:=omega) only[go_sem,Nat.reduceBEq,Nat.reduceAdd]
      try rw[hl']
      try simp(disch:=omega) only[go_sem,Nat.reduceBEq,Nat.reduceAdd,f1,f3,f4,f5]
      exact⟨_,_,_,_,_,_,_,rfl,fun _=>c.to⟩
def Ber (h:PH) (r:Value) (e:Int) (x y:Rat):Prop:=∃b1 a1 m1 c1 a2 m2 c2 b2 a3 m3 c3 a4 m4 c4,r=.tuple #[.agg #[.bool b1,.slice a1 m1 c1,.slice a2 m2 c2,.bool b2,.slice a3 m3 c3,.slice a4 m4 c4],.int .i64 e]∧Cn h (.agg #[.bool b1,.slice a1 m1 c1,.slice a2 m2 c2]) x∧Cn h (.agg #[.bool b2,.slice a3 m3 c3,.slice a4 m4 c4]) y
theorem Ber.no (h:PH) (e:Int):Ber h (.tuple #[.agg #[.bool false,.slice none 0 0,.slice none 0 0,.bool false,.slice none 0 0,.slice none 0 0],.int .i64 e]) e 0 0:=⟨_,_,_,_,_,_,_,_,_,_,_,_,_,_,rfl,Cn.nul h,Cn.nul h⟩
theorem EApply_err {h0 h:PH} [Le h0 h] {v:Value} {x:Rat} {fn p:Int} {g:FuncId} (hx:Rv h0 v x) (he:eErr fn x p≠0):Spec mach 34 #[.int .i64 fn,v,.int .i64 p,.func (.func g) #[] #[]] h (fun r h'=>Ber h' r (eErr fn x p) 0 0) NP:=by
  have kR:=fun {h} [Le h0 h]=>EReady_spec (h:=h) (fn:=fn) (p:=p) hx
  obtain⟨_,_,_,_,_,_,_,rfl,_⟩:=hx.sa
  have f0:(eErr fn x p != 0)=true:=by simpa using he
  generalize eErr fn x p=e at*
  refine Spec.go [] Tryz.func34 rfl rfl (by kernel_rfl) fun C _=>?_
  try simp(disch:=omega) only[go_sem,Nat.reduceBEq,Nat.reduceAdd]
  refine caN (by exact kR) ?_;rintro v1 h1 s1 ⟨_,_,_,_,_,_,_,rfl,c⟩
  try simp(disch:=omega) only[go_sem,Nat.reduceBEq,Nat.reduceAdd,f0]
  exact Ber.no _ _
theorem EApply_exact {h0 h:PH} [Le h0 h] {v:Value} {x:Rat} {fn p:Int} {g:FuncId} (hx:Rv h0 v x) (he:eErr fn x p=0) (hb:exB fn x=true):Spec mach 34 #[.int .i64 fn,v,.int .i64 p,.func (.func g) #[] #[]] h (fun r h'=>Ber h' r 0 (exV fn x) (exV fn x)) NP:=by
  have kR:=fun {h} [Le h0 h]=>EReady_spec (h:=h) (fn:=fn) (p:=p) hx
  rw[he] at kR
  have kE:=fun {h1 h:PH} {a:Value} [Le h1 h] (c:Cn h1 a x)=>EExact_spec (h:=h) (fn:=fn) c
  rw[hb] at kE
  have sv:sz (exV fn x)≤2048:=by unfold exV;split<;>decide
  obtain⟨_,_,_,_,_,_,_,rfl,_⟩:=hx.sa
  refine Spec.go [] Tryz.func34 rfl rfl (by kernel_rfl) fun C _=>?_
  try simp(disch:=omega) only[go_sem,Nat.reduceBEq,Nat.reduceAdd]
  refine caN (by exact kR) ?_;rintro v1 h1 s1 ⟨_,_,_,_,_,_,_,rfl,c⟩
  try simp(disch:=omega) only[go_sem,Nat.reduceBEq,Nat.reduceAdd]
  refine caN (by exact kE (c rfl)) ?_;rintro v2 h2 s2 ⟨_,_,_,_,_,_,_,rfl,c2⟩
  try simp(disch:=omega) only[go_sem,Nat.reduceBEq,Nat.reduceAdd]
  refine caN (by exact NumCanon (Rv.of c2 sv)) ?_;rintro v3 h3 s3 ⟨_,_,_,_,_,_,_,rfl,c3⟩
  try simp(disch:=omega) only[go_sem,Nat.reduceBEq,Nat.reduceAdd]
  exact⟨_,_,_,_,_,_,_,_,_,_,_,_,_,_,rfl,c2.to,c3⟩
theorem EApply_ser {h0 h:PH} [Le h0 h] {v:Value} {x y z:Rat} {fn p e:Int} {g:FuncId} (hx:Rv h0 v x) (he:eErr fn x p=0) (hb:exB fn x=false) (hg:∀{h0 h:PH} {a:Value} [Le h0 h],Cn h0 a x→Spec mach g #[a,.int .i64 p] h (fun r h'=>Ber h' r e y z) NP):
    Spec mach 34 #[.int .i64 fn,v,.int .i64 p,.func (.func g) #[] #[]] h (fun r h'=>Ber h' r e y z) NP:=by
  have kR:=fun {h} [Le h0 h]=>EReady_spec (h:=h) (fn:=fn) (p:=p) hx
  rw[he] at kR
  have kE:=fun {h1 h:PH} {a:Value} [Le h1 h] (c:Cn h1 a x)=>EExact_spec (h:=h) (fn:=fn) c
  rw[hb] at kE
  obtain⟨_,_,_,_,_,_,_,rfl,_⟩:=hx.sa
  refine Spec.go [] Tryz.func34 rfl rfl (by kernel_rfl) fun C _=>?_
  try simp(disch:=omega) only[go_sem,Nat.reduceBEq,Nat.reduceAdd]
  refine caN (by exact kR) ?_;rintro v1 h1 s1 ⟨_,_,_,_,_,_,_,rfl,c⟩
  try simp(disch:=omega) only[go_sem,Nat.reduceBEq,Nat.reduceAdd]
  refine caN (by exact kE (c rfl)) ?_;rintro v2 h2 s2 ⟨_,_,_,_,_,_,_,rfl,_⟩
  try simp(disch:=omega) only[go_sem,Nat.reduceBEq,Nat.reduceAdd]
  refine caN (by exact hg ((c rfl).to (h':=h2))) ?_;rintro v3 h3 s3 ⟨_,_,_,_,_,_,_,_,_,_,_,_,_,_,rfl,q3⟩
  try simp(disch:=omega) only[go_sem,Nat.reduceBEq,Nat.reduceAdd]
  exact⟨_,_,_,_,_,_,_,_,_,_,_,_,_,_,rfl,q3⟩
theorem EReady_no {h0 h:PH} [Le h0 h] {v:Value} {neg:Bool} {n d:Nat} {fn p:Int} (hv:Rw h0 v neg n d) (hl:lg neg n d):Spec mach 79 #[.int .i64 fn,v,.int .i64 p] h (fun r _=>r=.tuple #[.agg #[.bool false,.slice none 0 0,.slice none 0 0],.int .i64 1]) NP:=by
  have kK:=fun {h} [Le h0 h]=>EKnown_no (h:=h) (fn:=fn) hv hl
  obtain⟨_,_,_,_,_,_,_,rfl,_⟩:=hv.sa
  refine Spec.go [] Tryz.func79 rfl rfl (by kernel_rfl) fun C _=>?_
  try simp(disch:=omega) only[go_sem,Nat.reduceBEq,Nat.reduceAdd]
  refine caN (by exact kK) ?_;rintro v1 h1 s1 rfl
  try simp(disch:=omega) only[go_sem,Nat.reduceBEq,Nat.reduceAdd]
theorem EApply_no {h0 h:PH} [Le h0 h] {v:Value} {neg:Bool} {n d:Nat} {fn p:Int} {g:FuncId} (hv:Rw h0 v neg n d) (hl:lg neg n d):Spec mach 34 #[.int .i64 fn,v,.int .i64 p,.func (.func g) #[] #[]] h (fun r h'=>Ber h' r 1 0 0) NP:=by
  have kR:=fun {h} [Le h0 h]=>EReady_no (h:=h) (fn:=fn) (p:=p) hv hl
  obtain⟨_,_,_,_,_,_,_,rfl,_⟩:=hv.sa
  refine Spec.go [] Tryz.func34 rfl rfl (by kernel_rfl) fun C _=>?_
  try simp(disch:=omega) only[go_sem,Nat.reduceBEq,Nat.reduceAdd]
  refine caN (by exact kR) ?_;rintro v1 h1 s1 rfl
  try simp(disch:=omega) only[go_sem,Nat.reduceBEq,Nat.reduceAdd]
  exact Ber.no _ _
end Go.Q
namespace Go.Q
open Go.Proofs
set_option maxRecDepth 100000
set_option maxHeartbeats 16000000
theorem sgn_sg (neg:Bool) (n d:Nat):sgn neg n d=if neg=true then -sgn false n d else sgn false n d:=by
  cases neg
  · rfl
  · unfold sgn
    simp only[if_true,Bool.false_eq_true,if_false]
    rw[Rat.neg_mkRat]
def tq (x:Rat) (w:Nat):Nat→Rat
  |0=>siL x w*(coL x w)⁻¹
  |1=>siL x w*(coH x w)⁻¹
  |2=>siH x w*(coL x w)⁻¹
  |_=>siH x w*(coH x w)⁻¹
def tqL (x:Rat) (w:Nat):Nat→Rat
  |0=>tq x w 0
  |n+1=>if tq x w (n+1) < tqL x w n then tq x w (n+1) else tqL x w n
def tqH (x:Rat) (w:Nat):Nat→Rat
  |0=>tq x w 0
  |n+1=>if tqH x w n < tq x w (n+1) then tq x w (n+1) else tqH x w n
theorem tq_sz {x:Rat} {w:Nat} (hb:¬x.den*4294967296 < x.num.natAbs) (hw:64≤w) (hw':w≤192):∀n,sz (tq x w n)≤2*w+4:=by
  obtain⟨z1,z2,z3,z4⟩:=sc_sz hb hw hw'
  have i1:=sz_inv (coL x w)
  have i2:=sz_inv (coH x w)
  have m1:=sz_mul (siL x w) (coL x w)⁻¹
  have m2:=sz_mul (siL x w) (coH x w)⁻¹
  have m3:=sz_mul (siH x w) (coL x w)⁻¹
  have m4:=sz_mul (siH x w) (coH x w)⁻¹
  intro n
  unfold tq
  split<;>omega
theorem tqL_sz {x:Rat} {w:Nat} (hb:¬x.den*4294967296 < x.num.natAbs) (hw:64≤w) (hw':w≤192):∀n,sz (tqL x w n)≤2*w+4∧sz (tqH x w n)≤2*w+4
  |0=>⟨tq_sz hb hw hw' 0,tq_sz hb hw hw' 0⟩
  | n+1=>by
    obtain⟨h1,h2⟩:=tqL_sz hb hw hw' n
    have h3:=tq_sz hb hw hw' (n+1)
    unfold tqL tqH
    constructor<;>split<;>assumption
end Go.Q
namespace Go.Q
open Go.Proofs
set_option maxRecDepth 100000
set_option maxHeartbeats 16000000
end Go.Q
namespace Go.Q
open Go.Proofs
set_option maxRecDepth 100000
set_option maxHeartbeats 8000000
def tanLo (x:Rat) (p:Nat):Rat:=gdown (tqL x (p+64) 3) p
def tanHi (x:Rat) (p:Nat):Rat:=gup (tqH x (p+64) 3) p
def pole (x:Rat) (p:Nat):Prop:=coL x (p+64)≤0∧0≤coH x (p+64)
instance (x:Rat) (p:Nat):Decidable (pole x p):=inferInstanceAs (Decidable (_∧_))
def serL (fn:Int) (x:Rat) (p:Nat):Rat:=if fn=1 then expLo x p else if fn=2 then lnLo x.num.natAbs x.den p else if fn=3 then gdown (siL x (p+64)) p else if fn=4 then gdown (coL x (p+64)) p else if fn=5 then tanLo x p else if fn=6 then asinLo x p else if fn=7 then acLo x p else atLo x p
def serH (fn:Int) (x:Rat) (p:Nat):Rat:=if fn=1 then expHi x p else if fn=2 then lnHi x.num.natAbs x.den p else if fn=3 then gup (siH x (p+64)) p else if fn=4 then gup (coH x (p+64)) p else if fn=5 then tanHi x p else if fn=6 then asinHi x p else if fn=7 then acHi x p else atHi x p
def elE (fn:Int) (x:Rat) (p:Int):Int:=if eErr fn x p≠0 then eErr fn x p else if exB fn x=true then 0 else if fn=5∧pole x p.toNat then 20 else 0
def elL (fn:Int) (x:Rat) (p:Int):Rat:=if elE fn x p≠0 then 0 else if exB fn x=true then exV fn x else serL fn x p.toNat
def elH (fn:Int) (x:Rat) (p:Int):Rat:=if elE fn x p≠0 then 0 else if exB fn x=true then exV fn x else serH fn x p.toNat
theorem eErr_p {fn:Int} {x:Rat} {p:Int} (he:eErr fn x p=0):(1≤fn∧fn≤8)∧0≤p∧p≤128∧defB fn x=true∧sz x≤1024∧(fn=1→¬x.den*64 < x.num.natAbs)∧(fn=3∨fn=4∨fn=5→¬x.den*4294967296 < x.num.natAbs):=by
  by_cases h:¬(1≤fn∧fn≤8)∨p < 0∨128 < p
  · rw[eErr_2 h] at he;cases he
  cases hd:defB fn x with
  |false=>rw[eErr_5 h hd] at he;cases he
  | true=>
    by_cases hb:1024 < sz x∨(fn=1∧x.den*64 < x.num.natAbs)∨((fn=3∨fn=4∨fn=5)∧x.den*4294967296 < x.num.natAbs)
    · rw[eErr_20 h hd hb] at he;cases he
    · refine⟨by omega,by omega,by omega,rfl,by omega,fun k c=>hb (.inr (.inl ⟨k,c⟩)),fun k c=>hb (.inr (.inr ⟨k,c⟩))⟩
theorem EApply_all {h0 h:PH} [Le h0 h] {v:Value} {x:Rat} {fn p:Int} {g:FuncId} (hx:Rv h0 v x)
    (hg:eErr fn x p=0→exB fn x=false→∀{h0 h:PH} {a:Value} [Le h0 h],Cn h0 a x→Spec mach g #[a,.int .i64 (p.toNat:Nat)] h (fun r h'=>Ber h' r (elE fn x p) (if elE fn x p≠0 then 0 else serL fn x p.toNat) (if elE fn x p≠0 then 0 else serH fn x p.toNat)) NP):
    Spec mach 34 #[.int .i64 fn,v,.int .i64 p,.func (.func g) #[] #[]] h (fun r h'=>Ber h' r (elE fn x p) (elL fn x p) (elH fn x p)) NP:=by
  by_cases he:eErr fn x p=0
  · have hp:((p.toNat:Nat):Int)=p:=by have:=eErr_p he;omega
    cases hb:exB fn x with
    | true=>
      have e1:elE fn x p=0:=by unfold elE;rw[if_neg (by simp[he]),if_pos hb]
      have e2:elL fn x p=exV fn x:=by unfold elL;rw[if_neg (by simp[e1]),if_pos hb]
      have e3:elH fn x p=exV fn x:=by unfold elH;rw[if_neg (by simp[e1]),if_pos hb]
      rw[e1,e2,e3]
      exact EApply_exact hx he hb
    | false=>
      have e2:elL fn x p=if elE fn x p≠0 then 0 else serL fn x p.toNat:=by unfold elL;split;rfl;rw[hb,if_neg (by decide)]
      have e3:elH fn x p=if elE fn x p≠0 then 0 else serH fn x p.toNat:=by unfold elH;split;rfl;rw[hb,if_neg (by decide)]
      rw[e2,e3]
      have hg:=@hg he hb
      rw[hp] at hg
      exact EApply_ser hx he hb hg
  · have e1:elE fn x p=eErr fn x p:=by unfold elE;rw[if_pos he]
    have e2:elL fn x p=0:=by unfold elL;rw[if_pos (by rw[e1];exact he)]
    have e3:elH fn x p=0:=by unfold elH;rw[if_pos (by rw[e1];exact he)]
    rw[e1,e2,e3]
    exact EApply_err hx he
theorem elE_0 {fn:Int} {x:Rat} {p:Int} (he:eErr fn x p=0) (hb:exB fn x=false) (h5:fn≠5):elE fn x p=0:=by
  unfold elE
  rw[if_neg (by simp[he]),hb,if_neg (by decide),if_neg (fun k=>h5 k.1)]
theorem abs_1 {x:Rat} (hd:decide (x.num.natAbs≤x.den)=true):x.num.natAbs≤x.den:=of_decide_eq_true hd
theorem ser6 {h0 h:PH} {a:Value} {x:Rat} {p:Int} (he:eErr 6 x p=0) (hb:exB 6 x=false) [Le h0 h] (c:Cn h0 a x):Spec mach 30 #[a,.int .i64 (p.toNat:Nat)] h (fun r h'=>Ber h' r (elE 6 x p) (if elE 6 x p≠0 then 0 else serL 6 x p.toNat) (if elE 6 x p≠0 then 0 else serH 6 x p.toNat)) NP:=by
  obtain⟨_,p0,p1,hd,bx,_,_⟩:=eErr_p he
  rw[elE_0 he hb (by decide)]
  exact EAsin_spec c bx (abs_1 hd) (by omega)
theorem ser7 {h0 h:PH} {a:Value} {x:Rat} {p:Int} (he:eErr 7 x p=0) (hb:exB 7 x=false) [Le h0 h] (c:Cn h0 a x):Spec mach 31 #[a,.int .i64 (p.toNat:Nat)] h (fun r h'=>Ber h' r (elE 7 x p) (if elE 7 x p≠0 then 0 else serL 7 x p.toNat) (if elE 7 x p≠0 then 0 else serH 7 x p.toNat)) NP:=by
  obtain⟨_,p0,p1,hd,bx,_,_⟩:=eErr_p he
  rw[elE_0 he hb (by decide)]
  exact EAcos_spec c bx (abs_1 hd) (by omega)
theorem ser8 {h0 h:PH} {a:Value} {x:Rat} {p:Int} (he:eErr 8 x p=0) (hb:exB 8 x=false) [Le h0 h] (c:Cn h0 a x):Spec mach 32 #[a,.int .i64 (p.toNat:Nat)] h (fun r h'=>Ber h' r (elE 8 x p) (if elE 8 x p≠0 then 0 else serL 8 x p.toNat) (if elE 8 x p≠0 then 0 else serH 8 x p.toNat)) NP:=by
  obtain⟨_,p0,p1,hd,bx,_,_⟩:=eErr_p he
  rw[elE_0 he hb (by decide)]
  exact EAtan_spec c bx (by omega)
theorem Ber.sp {h:PH} {r:Value} {e:Int} {x y:Rat} (k:Ber h r e x y):∃b1 a1 m1 c1 a2 m2 c2 b2 a3 m3 c3 a4 m4 c4,r=.tuple #[.agg #[.bool b1,.slice a1 m1 c1,.slice a2 m2 c2,.bool b2,.slice a3 m3 c3,.slice a4 m4 c4],.int .i64 e]∧Ber h (.tuple #[.agg #[.bool b1,.slice a1 m1 c1,.slice a2 m2 c2,.bool b2,.slice a3 m3 c3,.slice a4 m4 c4],.int .i64 e]) e x y:=by
  obtain⟨b1,a1,m1,c1,a2,m2,c2,b2,a3,m3,c3,a4,m4,c4,rfl,k1,k2⟩:=k
  exact⟨b1,a1,m1,c1,a2,m2,c2,b2,a3,m3,c3,a4,m4,c4,rfl,_,_,_,_,_,_,_,_,_,_,_,_,_,_,rfl,k1,k2⟩
theorem Apply_e6 {h0 h:PH} [Le h0 h] {v:Value} {x:Rat} {p:Int} (hx:Rv h0 v x):Spec mach 7 #[.int .i64 6,v,.int .i64 p] h (fun r h'=>Ber h' r (elE 6 x p) (elL 6 x p) (elH 6 x p)) NP:=by
  have kA:=fun {h} [Le h0 h]=>EApply_all (h:=h) (fn:=6) (p:=p) (g:=30) hx (fun he hb {_ _ _} _ c=>ser6 he hb c)
  obtain⟨_,_,_,_,_,_,_,rfl,_⟩:=hx.sa
  refine Spec.go [] Tryz.func7 rfl rfl (by kernel_rfl) fun C _=>?_
  try simp(disch:=omega) only[go_sem,Nat.reduceBEq,Nat.reduceAdd]
  change op2 (some (Value.func (.func 30) #[] #[])) _
  try simp(disch:=omega) only[go_sem,Nat.reduceBEq,Nat.reduceAdd]
  refine caN (by exact kA) ?_;rintro v1 h1 s1 q1;obtain⟨_,_,_,_,_,_,_,_,_,_,_,_,_,_,rfl,q1⟩:=q1.sp
  try simp(disch:=omega) only[go_sem,Nat.reduceBEq,Nat.reduceAdd]
  exact q1
theorem Apply_e7 {h0 h:PH} [Le h0 h] {v:Value} {x:Rat} {p:Int} (hx:Rv h0 v x):Spec mach 7 #[.int .i64 7,v,.int .i64 p] h (fun r h'=>Ber h' r (elE 7 x p) (elL 7 x p) (elH 7 x p)) NP:=by
  have kA:=fun {h} [Le h0 h]=>EApply_all (h:=h) (fn:=7) (p:=p) (g:=31) hx (fun he hb {_ _ _} _ c=>ser7 he hb c)
  obtain⟨_,_,_,_,_,_,_,rfl,_⟩:=hx.sa
  refine Spec.go [] Tryz.func7 rfl rfl (by kernel_rfl) fun C _=>?_
  try simp(disch:=omega) only[go_sem,Nat.reduceBEq,Nat.reduceAdd]
  change op2 (some (Value.func (.func 31) #[] #[])) _
  try simp(disch:=omega) only[go_sem,Nat.reduceBEq,Nat.reduceAdd]
  refine caN (by exact kA) ?_;rintro v1 h1 s1 q1;obtain⟨_,_,_,_,_,_,_,_,_,_,_,_,_,_,rfl,q1⟩:=q1.sp
  try simp(disch:=omega) only[go_sem,Nat.reduceBEq,Nat.reduceAdd]
  exact q1
theorem Apply_e8 {h0 h:PH} [Le h0 h] {v:Value} {x:Rat} {p:Int} (hx:Rv h0 v x):Spec mach 7 #[.int .i64 8,v,.int .i64 p] h (fun r h'=>Ber h' r (elE 8 x p) (elL 8 x p) (elH 8 x p)) NP:=by
  have kA:=fun {h} [Le h0 h]=>EApply_all (h:=h) (fn:=8) (p:=p) (g:=32) hx (fun he hb {_ _ _} _ c=>ser8 he hb c)
  obtain⟨_,_,_,_,_,_,_,rfl,_⟩:=hx.sa
  refine Spec.go [] Tryz.func7 rfl rfl (by kernel_rfl) fun C _=>?_
  try simp(disch:=omega) only[go_sem,Nat.reduceBEq,Nat.reduceAdd]
  change op2 (some (Value.func (.func 32) #[] #[])) _
  try simp(disch:=omega) only[go_sem,Nat.reduceBEq,Nat.reduceAdd]
  refine caN (by exact kA) ?_;rintro v1 h1 s1 q1;obtain⟨_,_,_,_,_,_,_,_,_,_,_,_,_,_,rfl,q1⟩:=q1.sp
  try simp(disch:=omega) only[go_sem,Nat.reduceBEq,Nat.reduceAdd]
  exact q1
theorem Apply_no {h0 h:PH} [Le h0 h] {v:Value} {neg:Bool} {n d:Nat} {fn p:Int} (hv:Rw h0 v neg n d) (hl:lg neg n d):Spec mach 7 #[.int .i64 fn,v,.int .i64 p] h (fun r h'=>Ber h' r 1 0 0) NP:=by
  by_cases hf:1≤fn∧fn≤8
  · have hc:fn=1∨fn=2∨fn=3∨fn=4∨fn=5∨fn=6∨fn=7∨fn=8:=by omega
    clear hf
    have kA:=fun {h} {g:FuncId} [Le h0 h]=>EApply_no (h:=h) (fn:=fn) (p:=p) (g:=g) hv hl
    obtain⟨_,_,_,_,_,_,_,rfl,_⟩:=hv.sa
    rcases hc with rfl |rfl |rfl |rfl |rfl |rfl |rfl |rfl
    all_goals
      refine Spec.go [] Tryz.func7 rfl rfl (by kernel_rfl) fun C _=>?_
      try simp(disch:=omega) only[go_sem,Nat.reduceBEq,Nat.reduceAdd]
    · change op2 (some (Value.func (.func 25) #[] #[])) _
      try simp(disch:=omega) only[go_sem,Nat.reduceBEq,Nat.reduceAdd]
      refine caN (by exact kA) ?_;rintro v1 h1 s1 q1;obtain⟨_,_,_,_,_,_,_,_,_,_,_,_,_,_,rfl,q1⟩:=q1.sp
      try simp(disch:=omega) only[go_sem,Nat.reduceBEq,Nat.reduceAdd]
      exact q1
    · change op2 (some (Value.func (.func 26) #[] #[])) _
      try simp(disch:=omega) only[go_sem,Nat.reduceBEq,Nat.reduceAdd]
      refine caN (by exact kA) ?_;rintro v1 h1 s1 q1;obtain⟨_,_,_,_,_,_,_,_,_,_,_,_,_,_,rfl,q1⟩:=q1.sp
      try simp(disch:=omega) only[go_sem,Nat.reduceBEq,Nat.reduceAdd]
      exact q1
    · change op2 (some (Value.func (.func 27) #[] #[])) _
      try simp(disch:=omega) only[go_sem,Nat.reduceBEq,Nat.reduceAdd]
      refine caN (by exact kA) ?_;rintro v1 h1 s1 q1;obtain⟨_,_,_,_,_,_,_,_,_,_,_,_,_,_,rfl,q1⟩:=q1.sp
      try simp(disch:=omega) only[go_sem,Nat.reduceBEq,Nat.reduceAdd]
      exact q1
    · change op2 (some (Value.func (.func 28) #[] #[])) _
      try simp(disch:=omega) only[go_sem,Nat.reduceBEq,Nat.reduceAdd]
      refine caN (by exact kA) ?_;rintro v1 h1 s1 q1;obtain⟨_,_,_,_,_,_,_,_,_,_,_,_,_,_,rfl,q1⟩:=q1.sp
      try simp(disch:=omega) only[go_sem,Nat.reduceBEq,Nat.reduceAdd]
      exact q1
    · change op2 (some (Value.func (.func 29) #[] #[])) _
      try simp(disch:=omega) only[go_sem,Nat.reduceBEq,Nat.reduceAdd]
      refine caN (by exact kA) ?_;rintro v1 h1 s1 q1;obtain⟨_,_,_,_,_,_,_,_,_,_,_,_,_,_,rfl,q1⟩:=q1.sp
      try simp(disch:=omega) only[go_sem,Nat.reduceBEq,Nat.reduceAdd]
      exact q1
    · change op2 (some (Value.func (.func 30) #[] #[])) _
      try simp(disch:=omega) only[go_sem,Nat.reduceBEq,Nat.reduceAdd]
      refine caN (by exact kA) ?_;rintro v1 h1 s1 q1;obtain⟨_,_,_,_,_,_,_,_,_,_,_,_,_,_,rfl,q1⟩:=q1.sp
      try simp(disch:=omega) only[go_sem,Nat.reduceBEq,Nat.reduceAdd]
      exact q1
    · change op2 (some (Value.func (.func 31) #[] #[])) _
      try simp(disch:=omega) only[go_sem,Nat.reduceBEq,Nat.reduceAdd]
      refine caN (by exact kA) ?_;rintro v1 h1 s1 q1;obtain⟨_,_,_,_,_,_,_,_,_,_,_,_,_,_,rfl,q1⟩:=q1.sp
      try simp(disch:=omega) only[go_sem,Nat.reduceBEq,Nat.reduceAdd]
      exact q1
    · change op2 (some (Value.func (.func 32) #[] #[])) _
      try simp(disch:=omega) only[go_sem,Nat.reduceBEq,Nat.reduceAdd]
      refine caN (by exact kA) ?_;rintro v1 h1 s1 q1;obtain⟨_,_,_,_,_,_,_,_,_,_,_,_,_,_,rfl,q1⟩:=q1.sp
      try simp(disch:=omega) only[go_sem,Nat.reduceBEq,Nat.reduceAdd]
      exact q1
  · have kK:=fun {h} [Le h0 h]=>EKnown_no (h:=h) (fn:=fn) hv hl
    obtain⟨_,_,_,_,_,_,_,rfl,_⟩:=hv.sa
    rcases Int.lt_or_le fn 1 with f1 |f1
    · refine Spec.go [] Tryz.func7 rfl rfl (by kernel_rfl) fun C _=>?_
      try simp(disch:=omega) only[go_sem,Nat.reduceBEq,Nat.reduceAdd]
      refine caN (by exact kK) ?_;rintro v1 h1 s1 rfl
      try simp(disch:=omega) only[go_sem,Nat.reduceBEq,Nat.reduceAdd]
      exact Ber.no _ _
    · have f8:fn > 8:=by omega
      refine Spec.go [] Tryz.func7 rfl rfl (by kernel_rfl) fun C _=>?_
      try simp(disch:=omega) only[go_sem,Nat.reduceBEq,Nat.reduceAdd]
      refine caN (by exact kK) ?_;rintro v1 h1 s1 rfl
      try simp(disch:=omega) only[go_sem,Nat.reduceBEq,Nat.reduceAdd]
      exact Ber.no _ _
end Go.Q
namespace Go.Q
set_option maxRecDepth 100000
set_option maxHeartbeats 4000000
theorem opp_parts (x:Rat):(-x).num= -x.num∧(-x).den=x.den∧(-x).num.natAbs=x.num.natAbs:=⟨Rat.neg_num x,Rat.neg_den x,by rw[Rat.neg_num,Int.natAbs_neg]⟩
theorem opp_neg {x:Rat} (h:x≠0):decide ((-x).num < 0)=!decide (x.num < 0):=by
  have:x.num≠0:=fun e=>h (Rat.num_eq_zero.1 e)
  rw[(opp_parts x).1]
  by_cases c:x.num < 0
  · rw[decide_eq_true c,decide_eq_false (by omega)];rfl
  · rw[decide_eq_false c,decide_eq_true (by omega)];rfl
theorem sgn_opp (b:Bool) (n d:Nat):sgn (!b) n d= -sgn b n d:=by
  cases b
  · rw[sgn_sg (!false)];simp
  · rw[sgn_sg true];simp
theorem bk_opp (b:Bool) (n m k p:Nat):bkL (!b) n m k p= -bkH b n m k p∧bkH (!b) n m k p= -bkL b n m k p:=by
  unfold bkL bkH
  cases b<;>simp[sgn_opp,←sgn_opp]
theorem as_opp {x:Rat} {p:Nat} (h:x≠0):asinLo (-x) p= -asinHi x p∧asinHi (-x) p= -asinLo x p:=by
  have e1:abQ (-x)=abQ x:=by unfold abQ;rw[(opp_parts x).2.1,(opp_parts x).2.2]
  have e2:∀u w,asH u (-x) w=asH u x w:=fun u w=>by unfold asH asG asR;rw[e1]
  have e3:asL (-x) (p+32)=asL x (p+32):=by unfold asL;rw[e2,e2]
  have e4:asU (-x) (p+32)=asU x (p+32):=by unfold asU;rw[e2,e2]
  unfold asinLo asinHi
  rw[e3,e4,opp_neg h]
  exact bk_opp _ _ _ _ _
end Go.Q
