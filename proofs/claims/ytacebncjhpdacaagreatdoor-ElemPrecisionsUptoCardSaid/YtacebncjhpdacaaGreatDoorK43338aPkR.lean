/-
  What tan returns: the walk. Conditions: the number's absolute value is at most 2^32, of at most 1024 binary digits; the precision is at most 128.
  What Apply and the functions of their own names return, for every function, number and precision. Conditions: the argument is a number as it comes in.
  The brackets of a number and of its opposite: no program. Conditions: the numbers of quarter turns are opposite (no tie).
  The sizes of the brackets' ends: no program. Conditions: eErr tells no error.
  The statements' helper right; the reference's domains and exact values. Conditions: the values are numbers (Cn, Qr).
  The bracket of a function as the statements read it (bracket), for every number. Conditions: the number has at most 2^35 binary digits.
  The brackets that Apply returns at a number and at its opposite: no program. Conditions: a function of sine, cosine, tangent, arcsine, arctangent; of the first three: no tie.
  The exponentials of a number and of its opposite; their order: no program. Conditions: as Apply's.
-/
import Derived.Test.YtacebncjhpdacaaGreatDoorK8c97aaPkF
import Derived.Test.YtacebncjhpdacaaGreatDoorK8f5a40PkQ
import Derived.Test.YtacebncjhpdacaaGreatDoorKe595c9PkO
import Derived.Test.YtacebncjhpdacaaGreatDoorK2e7ba5PkM
import Derived.Test.YtacebncjhpdacaaGreatDoorKfdb860PkL
set_option linter.unusedVariables false
set_option linter.unusedSimpArgs false
namespace Go.Q
open Go.Proofs
set_option maxRecDepth 100000
set_option maxHeartbeats 16000000
theorem pA:Int.toNat 1=1∧(∀n:Nat,0*n=0)∧(∀n:Nat,1*n=n)∧(∀n:Nat,0+n=n)∧(∀(a b:Value) (l:List Value),(a :: l).set 0 b=b :: l)∧(∀(a b:Value) (l:List Value) (i:Nat),(a :: l).set (i+1) b=a :: l.set i b):=
  ⟨rfl,Nat.zero_mul,Nat.one_mul,Nat.zero_add,fun _ _ _=>rfl,fun _ _ _ _=>rfl⟩
theorem pole_signs {x y:Rat} {m:Nat} (e:m=0↔x=0):(x≤0∧0≤y)↔((decide (x.num < 0)=true∨decide ((m:Int) > 0)=false)∧decide (y.num < 0)=false):=by
  have h1:=num_neg (x:=x)
  have h2:=num_neg (x:=y)
  simp only[decide_eq_true_eq,decide_eq_false_iff_not,num_neg]
  constructor
  · rintro⟨a,b⟩
    refine⟨?_,by grind⟩
    by_cases c:x < 0
    · exact .inl c
    · have:x=0:=by grind
      exact .inr (by have:=e.2 this;omega)
  · rintro⟨a |a,b⟩
    · exact⟨by grind,by grind⟩
    · have:x=0:=e.1 (by omega)
      exact⟨by grind,by grind⟩
theorem ETan_no {h0 h:PH} [Le h0 h] {v:Value} {x:Rat} {p:Nat} (hx:Cn h0 v x) (bx:sz x≤1024) (hb:¬x.den*4294967296 < x.num.natAbs) (hp:p≤128) (hq:coL x (p+64)≤0∧0≤coH x (p+64)):Spec mach 29 #[v,.int .i64 p] h (fun r h'=>Ber h' r 20 0 0) NP:=by
  have kB:=fun {h} [Le h0 h]=>EBoth_spec (h:=h) (w:=p+64) hx bx hb (by omega) (by omega)
  obtain⟨_,_,_,_,_,_,_,rfl,_⟩:=hx.sa
  clear hb bx hx
  refine Spec.go [(6,.h [] [(9,11)] [2,3] [2,3,0,1,4,5])] Tryz.func29 rfl rfl (by kernel_rfl) fun C _=>?_
  try simp(maxSteps:=999999) (disch:=omega) only[go_sem,Nat.reduceBEq,Nat.reduceAdd,pA]
  refine caN (by exact kB) ?_;rintro v1 h1 s1 ⟨u,t,rfl,q1,q2⟩;obtain⟨_,_,_,_,_,_,_,_,_,_,_,_,_,_,rfl,q1⟩:=q1.sp;obtain⟨d1,e1,n1,c1,e2,n2,c2,d2,e3,n3,c3,e4,n4,c4,rfl,k1,k2⟩:=q2
  try simp(maxSteps:=999999) (disch:=omega) only[go_sem,Nat.reduceBEq,Nat.reduceAdd,pA]
  obtain⟨_,_,_,_,_,_,e,_,_,ea,_⟩:=k1.parts
  cases e
  obtain⟨_,_,_,_,_,_,e,_,_,_,_⟩:=k2.parts
  cases e
  obtain⟨hs,hy⟩:=(pole_signs ea).1 hq
  clear hq
  cases ha:decide ((coL x (p+64)).num < 0) with
  | true=>
    try simp(maxSteps:=999999) (disch:=omega) only[go_sem,Nat.reduceBEq,Nat.reduceAdd,ha,hy,pA]
    exact Ber.no _ _
  | false=>
    have hs:=hs.resolve_left (by rw[ha];decide)
    try simp(maxSteps:=999999) (disch:=omega) only[go_sem,Nat.reduceBEq,Nat.reduceAdd,ha,hy,hs,pA]
    exact Ber.no _ _
theorem ETan_ok {h0 h:PH} [Le h0 h] {v:Value} {x:Rat} {p:Nat} (hx:Cn h0 v x) (bx:sz x≤1024) (hb:¬x.den*4294967296 < x.num.natAbs) (hp:p≤128) (hq:¬(coL x (p+64)≤0∧0≤coH x (p+64))):Spec mach 29 #[v,.int .i64 p] h (fun r h'=>Ber h' r 0 (gdown (tqL x (p+64) 3) p) (gup (tqH x (p+64) 3) p)) NP:=by
  have kB:=fun {h} [Le h0 h]=>EBoth_spec (h:=h) (w:=p+64) hx bx hb (by omega) (by omega)
  obtain⟨z1,z2,z3,z4⟩:=sc_sz (w:=p+64) hb (by omega) (by omega)
  obtain⟨n1',n2'⟩:=co_ne (w:=p+64) (by omega) (by omega) hb hq
  have zq:=tq_sz (x:=x) (w:=p+64) hb (by omega) (by omega)
  have zL:=fun n=>(tqL_sz (x:=x) (w:=p+64) hb (by omega) (by omega) n).1
  have zH:=fun n=>(tqL_sz (x:=x) (w:=p+64) hb (by omega) (by omega) n).2
  have y1:=sz_gd (tqL x (p+64) 3) p
  have y2:=sz_gu (tqH x (p+64) 3) p
  have zq:∀n,sz (tq x (p+64) n)≤2048:=fun n=>by have:=zq n;omega
  have y3:=zL 3
  have y4:=zH 3
  have zL:∀n,sz (tqL x (p+64) n)≤2048:=fun n=>by have:=zL n;omega
  have zH:∀n,sz (tqH x (p+64) n)≤2048:=fun n=>by have:=zH n;omega
  have z1:sz (siL x (p+64))≤2048:=by omega
  have z2:sz (siH x (p+64))≤2048:=by omega
  have z3:sz (coL x (p+64))≤2048:=by omega
  have z4:sz (coH x (p+64))≤2048:=by omega
  have y5:sz (gdown (tqL x (p+64) 3) p)≤2048:=by omega
  have y6:sz (gup (tqH x (p+64) 3) p)≤2048:=by omega
  have L1:∀n,tq x (p+64) (n+1) < tqL x (p+64) n→tqL x (p+64) (n+1)=tq x (p+64) (n+1):=fun n h=>if_pos h
  have L2:∀n,¬tq x (p+64) (n+1) < tqL x (p+64) n→tqL x (p+64) (n+1)=tqL x (p+64) n:=fun n h=>if_neg h
  have H1:∀n,tqH x (p+64) n < tq x (p+64) (n+1)→tqH x (p+64) (n+1)=tq x (p+64) (n+1):=fun n h=>if_pos h
  have H2:∀n,¬tqH x (p+64) n < tq x (p+64) (n+1)→tqH x (p+64) (n+1)=tqH x (p+64) n:=fun n h=>if_neg h
  have e0:siL x (p+64)*(coL x (p+64))⁻¹=tq x (p+64) 0:=rfl
  have e1:siL x (p+64)*(coH x (p+64))⁻¹=tq x (p+64) 1:=rfl
  have e2:siH x (p+64)*(coL x (p+64))⁻¹=tq x (p+64) 2:=rfl
  have e3:siH x (p+64)*(coH x (p+64))⁻¹=tq x (p+64) 3:=rfl
  have b0:tqL x (p+64) 0=tq x (p+64) 0:=rfl
  have b1:tqH x (p+64) 0=tq x (p+64) 0:=rfl
  generalize tqL x (p+64)=TL at*
  generalize tqH x (p+64)=TH at*
  generalize tq x (p+64)=T at*
  obtain⟨_,_,_,_,_,_,_,rfl,_⟩:=hx.sa
  clear hb bx hx y1 y2 y3 y4
  refine Spec.go [(6,.h [] [(9,11)] [2,3] [2,3,0,1,4,5])] Tryz.func29 rfl rfl (by kernel_rfl) fun C _=>?_
  try simp(maxSteps:=999999) (disch:=omega) only[go_sem,Nat.reduceBEq,Nat.reduceAdd,pA]
  refine caN (by exact kB) ?_;rintro v1 h1 s1 ⟨u,t,rfl,q1,q2⟩;obtain⟨a1,a2,a3,a4,a5,a6,a7,a8,a9,a10,a11,a12,a13,a14,rfl,k1,k2⟩:=q1;obtain⟨d1,f1,n1,c1,f2,n2,c2,d2,f3,n3,c3,f4,n4,c4,rfl,k3,k4⟩:=q2
  try simp(maxSteps:=999999) (disch:=omega) only[go_sem,Nat.reduceBEq,Nat.reduceAdd,pA]
  obtain⟨_,_,_,_,_,_,e,_,_,ea,_⟩:=k3.parts
  cases e
  obtain⟨_,_,_,_,_,_,e,_,_,_,_⟩:=k4.parts
  cases e
  have hn:=fun c=>hq ((pole_signs ea).2 c)
  clear hq
  generalize siL x (p+64)=sL at*
  generalize siH x (p+64)=sH at*
  generalize coL x (p+64)=cL at*
  generalize coH x (p+64)=cH at*
  have kD:=fun {h} [Le h1 h]=>NumDiv (h:=h) (Rv.of k1 z1) (Rv.of k3 z3) n1'
  have kD1:=fun {h} [Le h1 h]=>NumDiv (h:=h) (Rv.of k1 z1) (Rv.of k4 z4) n2'
  have kD2:=fun {h} [Le h1 h]=>NumDiv (h:=h) (Rv.of k2 z2) (Rv.of k3 z3) n1'
  have kD3:=fun {h} [Le h1 h]=>NumDiv (h:=h) (Rv.of k2 z2) (Rv.of k4 z4) n2'
  rw[e0] at kD
  rw[e1] at kD1
  rw[e2] at kD2
  rw[e3] at kD3
  clear e0 e1 e2 e3 z1 z2 z3 z4 n1' n2' kB k1 k2 k3 k4
  have br:(decide (cL.num < 0)=true∧(0:Nat)=0∧decide (cH.num < 0)=true)∨(decide (cL.num < 0)=false∧decide ((n1:Int) > 0)=true)∨(decide (cL.num < 0)=false∧decide ((n1:Int) > 0)=false∧decide (cH.num < 0)=true):=by
    cases h1:decide (cL.num < 0)<;>cases h2:decide ((n1:Int) > 0)<;>cases h3:decide (cH.num < 0)<;>first |exact .inl ⟨rfl,rfl,rfl⟩ |exact .inr (.inl ⟨rfl,rfl⟩) |exact .inr (.inr ⟨rfl,rfl,rfl⟩) |exact(hn ⟨.inl h1,h3⟩).elim |exact(hn ⟨.inr h2,h3⟩).elim
  clear hn
  generalize decide (cL.num < 0)=sc at*
  generalize decide (cH.num < 0)=sd at*
  rcases br with⟨rfl,hm,rfl⟩ |⟨rfl,hm⟩ |⟨rfl,hm,rfl⟩
  · try simp(maxSteps:=999999) (disch:=omega) only[go_sem,Nat.reduceBEq,Nat.reduceAdd,hm,pA]
    refine caN (by exact kD) ?_;rintro v2 h2 s2 p2;obtain⟨x1,x2,x3,x4,x5,x6,x7,rfl,q2⟩:=p2.ok (zq 0)
    try simp(maxSteps:=999999) (disch:=omega) only[go_sem,Nat.reduceBEq,Nat.reduceAdd,pA]
    refine lp [(6,.h [] [(9,11)] [2,3] [2,3,0,1,4,5])] (fun x':(Value×Value×Value)×(Value×Value×Value)×Nat=>⟨[(1,.v (.int .i64 p)),(4,.p 1 0),(11,.p 5 0),(12,.p 6 0),(73,.s 7 0 3 3),(74,.v (.int .i64 3)),(75,.v (.int .i64 x'.2.2))],[[],[.bool false,.slice none 0 0,.slice none 0 0,.bool false,.slice none 0 0,.slice none 0 0],[],[],[],[x'.1.1,x'.1.2.1,x'.1.2.2],[x'.2.1.1,x'.2.1.2.1,x'.2.1.2.2],[.bool a1,.slice a2 a3 a4,.slice a5 a6 a7,.bool true,.slice f3 n3 c3,.slice f4 n4 c4,.bool a8,.slice a9 a10 a11,.slice a12 a13 a14,.bool true,.slice f1 n1 c1,.slice f2 n2 c2,.bool a8,.slice a9 a10 a11,.slice a12 a13 a14,.bool true,.slice f3 n3 c3,.slice f4 n4 c4]]⟩) (fun x' h'=>Le h2 h'∧x'.2.2≤3∧Cn h' (.agg #[x'.1.1,x'.1.2.1,x'.1.2.2]) (TL x'.2.2)∧Cn h' (.agg #[x'.2.1.1,x'.2.1.2.1,x'.2.1.2.2]) (TH x'.2.2)) (fun x'=>3 - x'.2.2) ((.bool x1,.slice x2 x3 x4,.slice x5 x6 x7),(.bool x1,.slice x2 x3 x4,.slice x5 x6 x7),0) ?_ ⟨inferInstance,Nat.zero_le 3,by rw[b0];exact q2,by rw[b1];exact q2⟩ (by kernel_rfl) ?_
    · try simp(maxSteps:=999999) (disch:=omega) only[go_sem,Nat.reduceBEq,Nat.reduceAdd,true_or,true_and,pA]
      all_goals first |exact rfl |exact⟨rfl,.inr rfl⟩
    rintro⟨⟨l1,l2,l3⟩,⟨g1,g2,g3⟩,i⟩ h5 ⟨le5,hi,hl,hg⟩
    dsimp only at hi hl hg ⊢
    obtain⟨l4,l5,l6,l7,l8,l9,l10,e,hl⟩:=hl.sa
    cases e
    obtain⟨g4,g5,g6,g7,g8,g9,g10,e,hg⟩:=hg.sa
    cases e
    have le1:Le h1 h5:=Le.trn inferInstance le5
    rcases(show i=0∨i=1∨i=2∨i=3 by omega) with rfl |rfl |rfl |rfl
    · try simp(maxSteps:=999999) (disch:=omega) only[go_sem,Nat.reduceBEq,Nat.reduceAdd,pA]
      refine caN (by exact kD1) ?_;rintro v6 h6 s6 p6;obtain⟨y1,y2,y3,y4,y5,y6,y7,rfl,c6⟩:=p6.ok (zq 1)
      try simp(maxSteps:=999999) (disch:=omega) only[go_sem,Nat.reduceBEq,Nat.reduceAdd,pA]
      refine caN (by exact NumCompare (Rv.of c6 (zq 1)) (Rv.of (hl.to (h':=h6)) (zL 0))) ?_;rintro v7 h7 s7 rfl
      try simp(maxSteps:=999999) (disch:=omega) only[go_sem,Nat.reduceBEq,Nat.reduceAdd,pA]
      by_cases w1:T 1 < TL 0
      · have w1':decide (cmpQ (T 1) (TL 0) < 0)=true:=by rw[cmpQ_lt0];exact decide_eq_true w1
        try simp(maxSteps:=999999) (disch:=omega) only[go_sem,Nat.reduceBEq,Nat.reduceAdd,w1',pA]
        refine caN (by exact NumCompare (Rv.of (c6.to (h':=h7)) (zq 1)) (Rv.of (hg.to (h':=h7)) (zH 0))) ?_;rintro v8 h8 s8 rfl
        try simp(maxSteps:=999999) (disch:=omega) only[go_sem,Nat.reduceBEq,Nat.reduceAdd,pA]
        by_cases w2:TH 0 < T 1
        · have w2':decide (cmpQ (T 1) (TH 0) > 0)=true:=by rw[cmpQ_gt0];exact decide_eq_true w2
          try simp(maxSteps:=999999) (disch:=omega) only[go_sem,Nat.reduceBEq,Nat.reduceAdd,w2',pA]
          dsimp only[lpE];refine⟨((.bool y1,.slice y2 y3 y4,.slice y5 y6 y7),(.bool y1,.slice y2 y3 y4,.slice y5 y6 y7),1),?_,⟨Le.trn le5 inferInstance,show 1≤3 by decide,by rw[L1 0 w1];exact c6.to,by rw[H1 0 w2];exact c6.to⟩,show 3 - 1 < 3 - 0 by decide⟩
          try simp(maxSteps:=999999) (disch:=omega) only[go_sem,Nat.reduceBEq,Nat.reduceAdd,true_or,true_and,pA]
          all_goals first |exact rfl |exact⟨rfl,.inr rfl⟩
        · have w2':decide (cmpQ (T 1) (TH 0) > 0)=false:=by rw[cmpQ_gt0];exact decide_eq_false w2
          try simp(maxSteps:=999999) (disch:=omega) only[go_sem,Nat.reduceBEq,Nat.reduceAdd,w2',pA]
          dsimp only[lpE];refine⟨((.bool y1,.slice y2 y3 y4,.slice y5 y6 y7),(.bool g4,.slice g5 g6 g7,.slice g8 g9 g10),1),?_,⟨Le.trn le5 inferInstance,show 1≤3 by decide,by rw[L1 0 w1];exact c6.to,by rw[H2 0 w2];exact hg.to⟩,show 3 - 1 < 3 - 0 by decide⟩
          try simp(maxSteps:=999999) (disch:=omega) only[go_sem,Nat.reduceBEq,Nat.reduceAdd,true_or,true_and,pA]
          all_goals first |exact rfl |exact⟨rfl,.inr rfl⟩
      · have w1':decide (cmpQ (T 1) (TL 0) < 0)=false:=by rw[cmpQ_lt0];exact decide_eq_false w1
        try simp(maxSteps:=999999) (disch:=omega) only[go_sem,Nat.reduceBEq,Nat.reduceAdd,w1',pA]
        refine caN (by exact NumCompare (Rv.of (c6.to (h':=h7)) (zq 1)) (Rv.of (hg.to (h':=h7)) (zH 0))) ?_;rintro v8 h8 s8 rfl
        try simp(maxSteps:=999999) (disch:=omega) only[go_sem,Nat.reduceBEq,Nat.reduceAdd,pA]
        by_cases w2:TH 0 < T 1
        · have w2':decide (cmpQ (T 1) (TH 0) > 0)=true:=by rw[cmpQ_gt0];exact decide_eq_true w2
          try simp(maxSteps:=999999) (disch:=omega) only[go_sem,Nat.reduceBEq,Nat.reduceAdd,w2',pA]
          dsimp only[lpE];refine⟨((.bool l4,.slice l5 l6 l7,.slice l8 l9 l10),(.bool y1,.slice y2 y3 y4,.slice y5 y6 y7),1),?_,⟨Le.trn le5 inferInstance,show 1≤3 by decide,by rw[L2 0 w1];exact hl.to,by rw[H1 0 w2];exact c6.to⟩,show 3 - 1 < 3 - 0 by decide⟩
          try simp(maxSteps:=999999) (disch:=omega) only[go_sem,Nat.reduceBEq,Nat.reduceAdd,true_or,true_and,pA]
          all_goals first |exact rfl |exact⟨rfl,.inr rfl⟩
        · have w2':decide (cmpQ (T 1) (TH 0) > 0)=false:=by rw[cmpQ_gt0];exact decide_eq_false w2
          try simp(maxSteps:=999999) (disch:=omega) only[go_sem,Nat.reduceBEq,Nat.reduceAdd,w2',pA]
          dsimp only[lpE];refine⟨((.bool l4,.slice l5 l6 l7,.slice l8 l9 l10),(.bool g4,.slice g5 g6 g7,.slice g8 g9 g10),1),?_,⟨Le.trn le5 inferInstance,show 1≤3 by decide,by rw[L2 0 w1];exact hl.to,by rw[H2 0 w2];exact hg.to⟩,show 3 - 1 < 3 - 0 by decide⟩
          try simp(maxSteps:=999999) (disch:=omega) only[go_sem,Nat.reduceBEq,Nat.reduceAdd,true_or,true_and,pA]
          all_goals first |exact rfl |exact⟨rfl,.inr rfl⟩
    · try simp(maxSteps:=999999) (disch:=omega) only[go_sem,Nat.reduceBEq,Nat.reduceAdd,pA]
      refine caN (by exact kD2) ?_;rintro v6 h6 s6 p6;obtain⟨y1,y2,y3,y4,y5,y6,y7,rfl,c6⟩:=p6.ok (zq 2)
      try simp(maxSteps:=999999) (disch:=omega) only[go_sem,Nat.reduceBEq,Nat.reduceAdd,pA]
      refine caN (by exact NumCompare (Rv.of c6 (zq 2)) (Rv.of (hl.to (h':=h6)) (zL 1))) ?_;rintro v7 h7 s7 rfl
      try simp(maxSteps:=999999) (disch:=omega) only[go_sem,Nat.reduceBEq,Nat.reduceAdd,pA]
      by_cases w1:T 2 < TL 1
      · have w1':decide (cmpQ (T 2) (TL 1) < 0)=true:=by rw[cmpQ_lt0];exact decide_eq_true w1
        try simp(maxSteps:=999999) (disch:=omega) only[go_sem,Nat.reduceBEq,Nat.reduceAdd,w1',pA]
        refine caN (by exact NumCompare (Rv.of (c6.to (h':=h7)) (zq 2)) (Rv.of (hg.to (h':=h7)) (zH 1))) ?_;rintro v8 h8 s8 rfl
        try simp(maxSteps:=999999) (disch:=omega) only[go_sem,Nat.reduceBEq,Nat.reduceAdd,pA]
        by_cases w2:TH 1 < T 2
        · have w2':decide (cmpQ (T 2) (TH 1) > 0)=true:=by rw[cmpQ_gt0];exact decide_eq_true w2
          try simp(maxSteps:=999999) (disch:=omega) only[go_sem,Nat.reduceBEq,Nat.reduceAdd,w2',pA]
          dsimp only[lpE];refine⟨((.bool y1,.slice y2 y3 y4,.slice y5 y6 y7),(.bool y1,.slice y2 y3 y4,.slice y5 y6 y7),2),?_,⟨Le.trn le5 inferInstance,show 2≤3 by decide,by rw[L1 1 w1];exact c6.to,by rw[H1 1 w2];exact c6.to⟩,show 3 - 2 < 3 - 1 by decide⟩
          try simp(maxSteps:=999999) (disch:=omega) only[go_sem,Nat.reduceBEq,Nat.reduceAdd,true_or,true_and,pA]
          all_goals first |exact rfl |exact⟨rfl,.inr rfl⟩
        · have w2':decide (cmpQ (T 2) (TH 1) > 0)=false:=by rw[cmpQ_gt0];exact decide_eq_false w2
          try simp(maxSteps:=999999) (disch:=omega) only[go_sem,Nat.reduceBEq,Nat.reduceAdd,w2',pA]
          dsimp only[lpE];refine⟨((.bool y1,.slice y2 y3 y4,.slice y5 y6 y7),(.bool g4,.slice g5 g6 g7,.slice g8 g9 g10),2),?_,⟨Le.trn le5 inferInstance,show 2≤3 by decide,by rw[L1 1 w1];exact c6.to,by rw[H2 1 w2];exact hg.to⟩,show 3 - 2 < 3 - 1 by decide⟩
          try simp(maxSteps:=999999) (disch:=omega) only[go_sem,Nat.reduceBEq,Nat.reduceAdd,true_or,true_and,pA]
          all_goals first |exact rfl |exact⟨rfl,.inr rfl⟩
      · have w1':decide (cmpQ (T 2) (TL 1) < 0)=false:=by rw[cmpQ_lt0];exact decide_eq_false w1
        try simp(maxSteps:=999999) (disch:=omega) only[go_sem,Nat.reduceBEq,Nat.reduceAdd,w1',pA]
        refine caN (by exact NumCompare (Rv.of (c6.to (h':=h7)) (zq 2)) (Rv.of (hg.to (h':=h7)) (zH 1))) ?_;rintro v8 h8 s8 rfl
        try simp(maxSteps:=999999) (disch:=omega) only[go_sem,Nat.reduceBEq,Nat.reduceAdd,pA]
        by_cases w2:TH 1 < T 2
        · have w2':decide (cmpQ (T 2) (TH 1) > 0)=true:=by rw[cmpQ_gt0];exact decide_eq_true w2
          try simp(maxSteps:=999999) (disch:=omega) only[go_sem,Nat.reduceBEq,Nat.reduceAdd,w2',pA]
          dsimp only[lpE];refine⟨((.bool l4,.slice l5 l6 l7,.slice l8 l9 l10),(.bool y1,.slice y2 y3 y4,.slice y5 y6 y7),2),?_,⟨Le.trn le5 inferInstance,show 2≤3 by decide,by rw[L2 1 w1];exact hl.to,by rw[H1 1 w2];exact c6.to⟩,show 3 - 2 < 3 - 1 by decide⟩
          try simp(maxSteps:=999999) (disch:=omega) only[go_sem,Nat.reduceBEq,Nat.reduceAdd,true_or,true_and,pA]
          all_goals first |exact rfl |exact⟨rfl,.inr rfl⟩
        · have w2':decide (cmpQ (T 2) (TH 1) > 0)=false:=by rw[cmpQ_gt0];exact decide_eq_false w2
          try simp(maxSteps:=999999) (disch:=omega) only[go_sem,Nat.reduceBEq,Nat.reduceAdd,w2',pA]
          dsimp only[lpE];refine⟨((.bool l4,.slice l5 l6 l7,.slice l8 l9 l10),(.bool g4,.slice g5 g6 g7,.slice g8 g9 g10),2),?_,⟨Le.trn le5 inferInstance,show 2≤3 by decide,by rw[L2 1 w1];exact hl.to,by rw[H2 1 w2];exact hg.to⟩,show 3 - 2 < 3 - 1 by decide⟩
          try simp(maxSteps:=999999) (disch:=omega) only[go_sem,Nat.reduceBEq,Nat.reduceAdd,true_or,true_and,pA]
          all_goals first |exact rfl |exact⟨rfl,.inr rfl⟩
    · try simp(maxSteps:=999999) (disch:=omega) only[go_sem,Nat.reduceBEq,Nat.reduceAdd,pA]
      refine caN (by exact kD3) ?_;rintro v6 h6 s6 p6;obtain⟨y1,y2,y3,y4,y5,y6,y7,rfl,c6⟩:=p6.ok (zq 3)
      try simp(maxSteps:=999999) (disch:=omega) only[go_sem,Nat.reduceBEq,Nat.reduceAdd,pA]
      refine caN (by exact NumCompare (Rv.of c6 (zq 3)) (Rv.of (hl.to (h':=h6)) (zL 2))) ?_;rintro v7 h7 s7 rfl
      try simp(maxSteps:=999999) (disch:=omega) only[go_sem,Nat.reduceBEq,Nat.reduceAdd,pA]
      by_cases w1:T 3 < TL 2
      · have w1':decide (cmpQ (T 3) (TL 2) < 0)=true:=by rw[cmpQ_lt0];exact decide_eq_true w1
        try simp(maxSteps:=999999) (disch:=omega) only[go_sem,Nat.reduceBEq,Nat.reduceAdd,w1',pA]
        refine caN (by exact NumCompare (Rv.of (c6.to (h':=h7)) (zq 3)) (Rv.of (hg.to (h':=h7)) (zH 2))) ?_;rintro v8 h8 s8 rfl
        try simp(maxSteps:=999999) (disch:=omega) only[go_sem,Nat.reduceBEq,Nat.reduceAdd,pA]
        by_cases w2:TH 2 < T 3
        · have w2':decide (cmpQ (T 3) (TH 2) > 0)=true:=by rw[cmpQ_gt0];exact decide_eq_true w2
          try simp(maxSteps:=999999) (disch:=omega) only[go_sem,Nat.reduceBEq,Nat.reduceAdd,w2',pA]
          dsimp only[lpE];refine⟨((.bool y1,.slice y2 y3 y4,.slice y5 y6 y7),(.bool y1,.slice y2 y3 y4,.slice y5 y6 y7),3),?_,⟨Le.trn le5 inferInstance,show 3≤3 by decide,by rw[L1 2 w1];exact c6.to,by rw[H1 2 w2];exact c6.to⟩,show 3 - 3 < 3 - 2 by decide⟩
          try simp(maxSteps:=999999) (disch:=omega) only[go_sem,Nat.reduceBEq,Nat.reduceAdd,true_or,true_and,pA]
          all_goals first |exact rfl |exact⟨rfl,.inr rfl⟩
        · have w2':decide (cmpQ (T 3) (TH 2) > 0)=false:=by rw[cmpQ_gt0];exact decide_eq_false w2
          try simp(maxSteps:=999999) (disch:=omega) only[go_sem,Nat.reduceBEq,Nat.reduceAdd,w2',pA]
          dsimp only[lpE];refine⟨((.bool y1,.slice y2 y3 y4,.slice y5 y6 y7),(.bool g4,.slice g5 g6 g7,.slice g8 g9 g10),3),?_,⟨Le.trn le5 inferInstance,show 3≤3 by decide,by rw[L1 2 w1];exact c6.to,by rw[H2 2 w2];exact hg.to⟩,show 3 - 3 < 3 - 2 by decide⟩
          try simp(maxSteps:=999999) (disch:=omega) only[go_sem,Nat.reduceBEq,Nat.reduceAdd,true_or,true_and,pA]
          all_goals first |exact rfl |exact⟨rfl,.inr rfl⟩
      · have w1':decide (cmpQ (T 3) (TL 2) < 0)=false:=by rw[cmpQ_lt0];exact decide_eq_false w1
        try simp(maxSteps:=999999) (disch:=omega) only[go_sem,Nat.reduceBEq,Nat.reduceAdd,w1',pA]
        refine caN (by exact NumCompare (Rv.of (c6.to (h':=h7)) (zq 3)) (Rv.of (hg.to (h':=h7)) (zH 2))) ?_;rintro v8 h8 s8 rfl
        try simp(maxSteps:=999999) (disch:=omega) only[go_sem,Nat.reduceBEq,Nat.reduceAdd,pA]
        by_cases w2:TH 2 < T 3
        · have w2':decide (cmpQ (T 3) (TH 2) > 0)=true:=by rw[cmpQ_gt0];exact decide_eq_true w2
          try simp(maxSteps:=999999) (disch:=omega) only[go_sem,Nat.reduceBEq,Nat.reduceAdd,w2',pA]
          dsimp only[lpE];refine⟨((.bool l4,.slice l5 l6 l7,.slice l8 l9 l10),(.bool y1,.slice y2 y3 y4,.slice y5 y6 y7),3),?_,⟨Le.trn le5 inferInstance,show 3≤3 by decide,by rw[L2 2 w1];exact hl.to,by rw[H1 2 w2];exact c6.to⟩,show 3 - 3 < 3 - 2 by decide⟩
          try simp(maxSteps:=999999) (disch:=omega) only[go_sem,Nat.reduceBEq,Nat.reduceAdd,true_or,true_and,pA]
          all_goals first |exact rfl |exact⟨rfl,.inr rfl⟩
        · have w2':decide (cmpQ (T 3) (TH 2) > 0)=false:=by rw[cmpQ_gt0];exact decide_eq_false w2
          try simp(maxSteps:=999999) (disch:=omega) only[go_sem,Nat.reduceBEq,Nat.reduceAdd,w2',pA]
          dsimp only[lpE];refine⟨((.bool l4,.slice l5 l6 l7,.slice l8 l9 l10),(.bool g4,.slice g5 g6 g7,.slice g8 g9 g10),3),?_,⟨Le.trn le5 inferInstance,show 3≤3 by decide,by rw[L2 2 w1];exact hl.to,by rw[H2 2 w2];exact hg.to⟩,show 3 - 3 < 3 - 2 by decide⟩
          try simp(maxSteps:=999999) (disch:=omega) only[go_sem,Nat.reduceBEq,Nat.reduceAdd,true_or,true_and,pA]
          all_goals first |exact rfl |exact⟨rfl,.inr rfl⟩
    · try simp(maxSteps:=999999) (disch:=omega) only[go_sem,Nat.reduceBEq,Nat.reduceAdd,pA]
      refine caN (by exact ERounded_spec (p:=p) hl hg (by omega) (zL 3) (zH 3) y5 y6) ?_;rintro v9 h9 s9 ⟨_,_,_,_,_,_,_,_,_,_,_,_,_,_,rfl,r1,r2⟩
      try simp(maxSteps:=999999) (disch:=omega) only[go_sem,Nat.reduceBEq,Nat.reduceAdd,pA]
      exact⟨_,_,_,_,_,_,_,_,_,_,_,_,_,_,rfl,r1,r2⟩
  · try simp(maxSteps:=999999) (disch:=omega) only[go_sem,Nat.reduceBEq,Nat.reduceAdd,hm,pA]
    refine caN (by exact kD) ?_;rintro v2 h2 s2 p2;obtain⟨x1,x2,x3,x4,x5,x6,x7,rfl,q2⟩:=p2.ok (zq 0)
    try simp(maxSteps:=999999) (disch:=omega) only[go_sem,Nat.reduceBEq,Nat.reduceAdd,pA]
    refine lp [(6,.h [] [(9,11)] [2,3] [2,3,0,1,4,5])] (fun x':(Value×Value×Value)×(Value×Value×Value)×Nat=>⟨[(1,.v (.int .i64 p)),(4,.p 1 0),(11,.p 5 0),(12,.p 6 0),(73,.s 7 0 3 3),(74,.v (.int .i64 3)),(75,.v (.int .i64 x'.2.2))],[[],[.bool false,.slice none 0 0,.slice none 0 0,.bool false,.slice none 0 0,.slice none 0 0],[],[],[],[x'.1.1,x'.1.2.1,x'.1.2.2],[x'.2.1.1,x'.2.1.2.1,x'.2.1.2.2],[.bool a1,.slice a2 a3 a4,.slice a5 a6 a7,.bool sd,.slice f3 n3 c3,.slice f4 n4 c4,.bool a8,.slice a9 a10 a11,.slice a12 a13 a14,.bool false,.slice f1 n1 c1,.slice f2 n2 c2,.bool a8,.slice a9 a10 a11,.slice a12 a13 a14,.bool sd,.slice f3 n3 c3,.slice f4 n4 c4]]⟩) (fun x' h'=>Le h2 h'∧x'.2.2≤3∧Cn h' (.agg #[x'.1.1,x'.1.2.1,x'.1.2.2]) (TL x'.2.2)∧Cn h' (.agg #[x'.2.1.1,x'.2.1.2.1,x'.2.1.2.2]) (TH x'.2.2)) (fun x'=>3 - x'.2.2) ((.bool x1,.slice x2 x3 x4,.slice x5 x6 x7),(.bool x1,.slice x2 x3 x4,.slice x5 x6 x7),0) ?_ ⟨inferInstance,Nat.zero_le 3,by rw[b0];exact q2,by rw[b1];exact q2⟩ (by kernel_rfl) ?_
    · try simp(maxSteps:=999999) (disch:=omega) only[go_sem,Nat.reduceBEq,Nat.reduceAdd,true_or,true_and,pA]
      all_goals first |exact rfl |exact⟨rfl,.inr rfl⟩
    rintro⟨⟨l1,l2,l3⟩,⟨g1,g2,g3⟩,i⟩ h5 ⟨le5,hi,hl,hg⟩
    dsimp only at hi hl hg ⊢
    obtain⟨l4,l5,l6,l7,l8,l9,l10,e,hl⟩:=hl.sa
    cases e
    obtain⟨g4,g5,g6,g7,g8,g9,g10,e,hg⟩:=hg.sa
    cases e
    have le1:Le h1 h5:=Le.trn inferInstance le5
    rcases(show i=0∨i=1∨i=2∨i=3 by omega) with rfl |rfl |rfl |rfl
    · try simp(maxSteps:=999999) (disch:=omega) only[go_sem,Nat.reduceBEq,Nat.reduceAdd,pA]
      refine caN (by exact kD1) ?_;rintro v6 h6 s6 p6;obtain⟨y1,y2,y3,y4,y5,y6,y7,rfl,c6⟩:=p6.ok (zq 1)
      try simp(maxSteps:=999999) (disch:=omega) only[go_sem,Nat.reduceBEq,Nat.reduceAdd,pA]
      refine caN (by exact NumCompare (Rv.of c6 (zq 1)) (Rv.of (hl.to (h':=h6)) (zL 0))) ?_;rintro v7 h7 s7 rfl
      try simp(maxSteps:=999999) (disch:=omega) only[go_sem,Nat.reduceBEq,Nat.reduceAdd,pA]
      by_cases w1:T 1 < TL 0
      · have w1':decide (cmpQ (T 1) (TL 0) < 0)=true:=by rw[cmpQ_lt0];exact decide_eq_true w1
        try simp(maxSteps:=999999) (disch:=omega) only[go_sem,Nat.reduceBEq,Nat.reduceAdd,w1',pA]
        refine caN (by exact NumCompare (Rv.of (c6.to (h':=h7)) (zq 1)) (Rv.of (hg.to (h':=h7)) (zH 0))) ?_;rintro v8 h8 s8 rfl
        try simp(maxSteps:=999999) (disch:=omega) only[go_sem,Nat.reduceBEq,Nat.reduceAdd,pA]
        by_cases w2:TH 0 < T 1
        · have w2':decide (cmpQ (T 1) (TH 0) > 0)=true:=by rw[cmpQ_gt0];exact decide_eq_true w2
          try simp(maxSteps:=999999) (disch:=omega) only[go_sem,Nat.reduceBEq,Nat.reduceAdd,w2',pA]
          dsimp only[lpE];refine⟨((.bool y1,.slice y2 y3 y4,.slice y5 y6 y7),(.bool y1,.slice y2 y3 y4,.slice y5 y6 y7),1),?_,⟨Le.trn le5 inferInstance,show 1≤3 by decide,by rw[L1 0 w1];exact c6.to,by rw[H1 0 w2];exact c6.to⟩,show 3 - 1 < 3 - 0 by decide⟩
          try simp(maxSteps:=999999) (disch:=omega) only[go_sem,Nat.reduceBEq,Nat.reduceAdd,true_or,true_and,pA]
          all_goals first |exact rfl |exact⟨rfl,.inr rfl⟩
        · have w2':decide (cmpQ (T 1) (TH 0) > 0)=false:=by rw[cmpQ_gt0];exact decide_eq_false w2
          try simp(maxSteps:=999999) (disch:=omega) only[go_sem,Nat.reduceBEq,Nat.reduceAdd,w2',pA]
          dsimp only[lpE];refine⟨((.bool y1,.slice y2 y3 y4,.slice y5 y6 y7),(.bool g4,.slice g5 g6 g7,.slice g8 g9 g10),1),?_,⟨Le.trn le5 inferInstance,show 1≤3 by decide,by rw[L1 0 w1];exact c6.to,by rw[H2 0 w2];exact hg.to⟩,show 3 - 1 < 3 - 0 by decide⟩
          try simp(maxSteps:=999999) (disch:=omega) only[go_sem,Nat.reduceBEq,Nat.reduceAdd,true_or,true_and,pA]
          all_goals first |exact rfl |exact⟨rfl,.inr rfl⟩
      · have w1':decide (cmpQ (T 1) (TL 0) < 0)=false:=by rw[cmpQ_lt0];exact decide_eq_false w1
        try simp(maxSteps:=999999) (disch:=omega) only[go_sem,Nat.reduceBEq,Nat.reduceAdd,w1',pA]
        refine caN (by exact NumCompare (Rv.of (c6.to (h':=h7)) (zq 1)) (Rv.of (hg.to (h':=h7)) (zH 0))) ?_;rintro v8 h8 s8 rfl
        try simp(maxSteps:=999999) (disch:=omega) only[go_sem,Nat.reduceBEq,Nat.reduceAdd,pA]
        by_cases w2:TH 0 < T 1
        · have w2':decide (cmpQ (T 1) (TH 0) > 0)=true:=by rw[cmpQ_gt0];exact decide_eq_true w2
          try simp(maxSteps:=999999) (disch:=omega) only[go_sem,Nat.reduceBEq,Nat.reduceAdd,w2',pA]
          dsimp only[lpE];refine⟨((.bool l4,.slice l5 l6 l7,.slice l8 l9 l10),(.bool y1,.slice y2 y3 y4,.slice y5 y6 y7),1),?_,⟨Le.trn le5 inferInstance,show 1≤3 by decide,by rw[L2 0 w1];exact hl.to,by rw[H1 0 w2];exact c6.to⟩,show 3 - 1 < 3 - 0 by decide⟩
          try simp(maxSteps:=999999) (disch:=omega) only[go_sem,Nat.reduceBEq,Nat.reduceAdd,true_or,true_and,pA]
          all_goals first |exact rfl |exact⟨rfl,.inr rfl⟩
        · have w2':decide (cmpQ (T 1) (TH 0) > 0)=false:=by rw[cmpQ_gt0];exact decide_eq_false w2
          try simp(maxSteps:=999999) (disch:=omega) only[go_sem,Nat.reduceBEq,Nat.reduceAdd,w2',pA]
          dsimp only[lpE];refine⟨((.bool l4,.slice l5 l6 l7,.slice l8 l9 l10),(.bool g4,.slice g5 g6 g7,.slice g8 g9 g10),1),?_,⟨Le.trn le5 inferInstance,show 1≤3 by decide,by rw[L2 0 w1];exact hl.to,by rw[H2 0 w2];exact hg.to⟩,show 3 - 1 < 3 - 0 by decide⟩
          try simp(maxSteps:=999999) (disch:=omega) only[go_sem,Nat.reduceBEq,Nat.reduceAdd,true_or,true_and,pA]
          all_goals first |exact rfl |exact⟨rfl,.inr rfl⟩
    · try simp(maxSteps:=999999) (disch:=omega) only[go_sem,Nat.reduceBEq,Nat.reduceAdd,pA]
      refine caN (by exact kD2) ?_;rintro v6 h6 s6 p6;obtain⟨y1,y2,y3,y4,y5,y6,y7,rfl,c6⟩:=p6.ok (zq 2)
      try simp(maxSteps:=999999) (disch:=omega) only[go_sem,Nat.reduceBEq,Nat.reduceAdd,pA]
      refine caN (by exact NumCompare (Rv.of c6 (zq 2)) (Rv.of (hl.to (h':=h6)) (zL 1))) ?_;rintro v7 h7 s7 rfl
      try simp(maxSteps:=999999) (disch:=omega) only[go_sem,Nat.reduceBEq,Nat.reduceAdd,pA]
      by_cases w1:T 2 < TL 1
      · have w1':decide (cmpQ (T 2) (TL 1) < 0)=true:=by rw[cmpQ_lt0];exact decide_eq_true w1
        try simp(maxSteps:=999999) (disch:=omega) only[go_sem,Nat.reduceBEq,Nat.reduceAdd,w1',pA]
        refine caN (by exact NumCompare (Rv.of (c6.to (h':=h7)) (zq 2)) (Rv.of (hg.to (h':=h7)) (zH 1))) ?_;rintro v8 h8 s8 rfl
        try simp(maxSteps:=999999) (disch:=omega) only[go_sem,Nat.reduceBEq,Nat.reduceAdd,pA]
        by_cases w2:TH 1 < T 2
        · have w2':decide (cmpQ (T 2) (TH 1) > 0)=true:=by rw[cmpQ_gt0];exact decide_eq_true w2
          try simp(maxSteps:=999999) (disch:=omega) only[go_sem,Nat.reduceBEq,Nat.reduceAdd,w2',pA]
          dsimp only[lpE];refine⟨((.bool y1,.slice y2 y3 y4,.slice y5 y6 y7),(.bool y1,.slice y2 y3 y4,.slice y5 y6 y7),2),?_,⟨Le.trn le5 inferInstance,show 2≤3 by decide,by rw[L1 1 w1];exact c6.to,by rw[H1 1 w2];exact c6.to⟩,show 3 - 2 < 3 - 1 by decide⟩
          try simp(maxSteps:=999999) (disch:=omega) only[go_sem,Nat.reduceBEq,Nat.reduceAdd,true_or,true_and,pA]
          all_goals first |exact rfl |exact⟨rfl,.inr rfl⟩
        · have w2':decide (cmpQ (T 2) (TH 1) > 0)=false:=by rw[cmpQ_gt0];exact decide_eq_false w2
          try simp(maxSteps:=999999) (disch:=omega) only[go_sem,Nat.reduceBEq,Nat.reduceAdd,w2',pA]
          dsimp only[lpE];refine⟨((.bool y1,.slice y2 y3 y4,.slice y5 y6 y7),(.bool g4,.slice g5 g6 g7,.slice g8 g9 g10),2),?_,⟨Le.trn le5 inferInstance,show 2≤3 by decide,by rw[L1 1 w1];exact c6.to,by rw[H2 1 w2];exact hg.to⟩,show 3 - 2 < 3 - 1 by decide⟩
          try simp(maxSteps:=999999) (disch:=omega) only[go_sem,Nat.reduceBEq,Nat.reduceAdd,true_or,true_and,pA]
          all_goals first |exact rfl |exact⟨rfl,.inr rfl⟩
      · have w1':decide (cmpQ (T 2) (TL 1) < 0)=false:=by rw[cmpQ_lt0];exact decide_eq_false w1
        try simp(maxSteps:=999999) (disch:=omega) only[go_sem,Nat.reduceBEq,Nat.reduceAdd,w1',pA]
        refine caN (by exact NumCompare (Rv.of (c6.to (h':=h7)) (zq 2)) (Rv.of (hg.to (h':=h7)) (zH 1))) ?_;rintro v8 h8 s8 rfl
        try simp(maxSteps:=999999) (disch:=omega) only[go_sem,Nat.reduceBEq,Nat.reduceAdd,pA]
        by_cases w2:TH 1 < T 2
        · have w2':decide (cmpQ (T 2) (TH 1) > 0)=true:=by rw[cmpQ_gt0];exact decide_eq_true w2
          try simp(maxSteps:=999999) (disch:=omega) only[go_sem,Nat.reduceBEq,Nat.reduceAdd,w2',pA]
          dsimp only[lpE];refine⟨((.bool l4,.slice l5 l6 l7,.slice l8 l9 l10),(.bool y1,.slice y2 y3 y4,.slice y5 y6 y7),2),?_,⟨Le.trn le5 inferInstance,show 2≤3 by decide,by rw[L2 1 w1];exact hl.to,by rw[H1 1 w2];exact c6.to⟩,show 3 - 2 < 3 - 1 by decide⟩
          try simp(maxSteps:=999999) (disch:=omega) only[go_sem,Nat.reduceBEq,Nat.reduceAdd,true_or,true_and,pA]
          all_goals first |exact rfl |exact⟨rfl,.inr rfl⟩
        · have w2':decide (cmpQ (T 2) (TH 1) > 0)=false:=by rw[cmpQ_gt0];exact decide_eq_false w2
          try simp(maxSteps:=999999) (disch:=omega) only[go_sem,Nat.reduceBEq,Nat.reduceAdd,w2',pA]
          dsimp only[lpE];refine⟨((.bool l4,.slice l5 l6 l7,.slice l8 l9 l10),(.bool g4,.slice g5 g6 g7,.slice g8 g9 g10),2),?_,⟨Le.trn le5 inferInstance,show 2≤3 by decide,by rw[L2 1 w1];exact hl.to,by rw[H2 1 w2];exact hg.to⟩,show 3 - 2 < 3 - 1 by decide⟩
          try simp(maxSteps:=999999) (disch:=omega) only[go_sem,Nat.reduceBEq,Nat.reduceAdd,true_or,true_and,pA]
          all_goals first |exact rfl |exact⟨rfl,.inr rfl⟩
    · try simp(maxSteps:=999999) (disch:=omega) only[go_sem,Nat.reduceBEq,Nat.reduceAdd,pA]
      refine caN (by exact kD3) ?_;rintro v6 h6 s6 p6;obtain⟨y1,y2,y3,y4,y5,y6,y7,rfl,c6⟩:=p6.ok (zq 3)
      try simp(maxSteps:=999999) (disch:=omega) only[go_sem,Nat.reduceBEq,Nat.reduceAdd,pA]
      refine caN (by exact NumCompare (Rv.of c6 (zq 3)) (Rv.of (hl.to (h':=h6)) (zL 2))) ?_;rintro v7 h7 s7 rfl
      try simp(maxSteps:=999999) (disch:=omega) only[go_sem,Nat.reduceBEq,Nat.reduceAdd,pA]
      by_cases w1:T 3 < TL 2
      · have w1':decide (cmpQ (T 3) (TL 2) < 0)=true:=by rw[cmpQ_lt0];exact decide_eq_true w1
        try simp(maxSteps:=999999) (disch:=omega) only[go_sem,Nat.reduceBEq,Nat.reduceAdd,w1',pA]
        refine caN (by exact NumCompare (Rv.of (c6.to (h':=h7)) (zq 3)) (Rv.of (hg.to (h':=h7)) (zH 2))) ?_;rintro v8 h8 s8 rfl
        try simp(maxSteps:=999999) (disch:=omega) only[go_sem,Nat.reduceBEq,Nat.reduceAdd,pA]
        by_cases w2:TH 2 < T 3
        · have w2':decide (cmpQ (T 3) (TH 2) > 0)=true:=by rw[cmpQ_gt0];exact decide_eq_true w2
          try simp(maxSteps:=999999) (disch:=omega) only[go_sem,Nat.reduceBEq,Nat.reduceAdd,w2',pA]
          dsimp only[lpE];refine⟨((.bool y1,.slice y2 y3 y4,.slice y5 y6 y7),(.bool y1,.slice y2 y3 y4,.slice y5 y6 y7),3),?_,⟨Le.trn le5 inferInstance,show 3≤3 by decide,by rw[L1 2 w1];exact c6.to,by rw[H1 2 w2];exact c6.to⟩,show 3 - 3 < 3 - 2 by decide⟩
          try simp(maxSteps:=999999) (disch:=omega) only[go_sem,Nat.reduceBEq,Nat.reduceAdd,true_or,true_and,pA]
          all_goals first |exact rfl |exact⟨rfl,.inr rfl⟩
        · have w2':decide (cmpQ (T 3) (TH 2) > 0)=false:=by rw[cmpQ_gt0];exact decide_eq_false w2
          try simp(maxSteps:=999999) (disch:=omega) only[go_sem,Nat.reduceBEq,Nat.reduceAdd,w2',pA]
          dsimp only[lpE];refine⟨((.bool y1,.slice y2 y3 y4,.slice y5 y6 y7),(.bool g4,.slice g5 g6 g7,.slice g8 g9 g10),3),?_,⟨Le.trn le5 inferInstance,show 3≤3 by decide,by rw[L1 2 w1];exact c6.to,by rw[H2 2 w2];exact hg.to⟩,show 3 - 3 < 3 - 2 by decide⟩
          try simp(maxSteps:=999999) (disch:=omega) only[go_sem,Nat.reduceBEq,Nat.reduceAdd,true_or,true_and,pA]
          all_goals first |exact rfl |exact⟨rfl,.inr rfl⟩
      · have w1':decide (cmpQ (T 3) (TL 2) < 0)=false:=by rw[cmpQ_lt0];exact decide_eq_false w1
        try simp(maxSteps:=999999) (disch:=omega) only[go_sem,Nat.reduceBEq,Nat.reduceAdd,w1',pA]
        refine caN (by exact NumCompare (Rv.of (c6.to (h':=h7)) (zq 3)) (Rv.of (hg.to (h':=h7)) (zH 2))) ?_;rintro v8 h8 s8 rfl
        try simp(maxSteps:=999999) (disch:=omega) only[go_sem,Nat.reduceBEq,Nat.reduceAdd,pA]
        by_cases w2:TH 2 < T 3
        · have w2':decide (cmpQ (T 3) (TH 2) > 0)=true:=by rw[cmpQ_gt0];exact decide_eq_true w2
          try simp(maxSteps:=999999) (disch:=omega) only[go_sem,Nat.reduceBEq,Nat.reduceAdd,w2',pA]
          dsimp only[lpE];refine⟨((.bool l4,.slice l5 l6 l7,.slice l8 l9 l10),(.bool y1,.slice y2 y3 y4,.slice y5 y6 y7),3),?_,⟨Le.trn le5 inferInstance,show 3≤3 by decide,by rw[L2 2 w1];exact hl.to,by rw[H1 2 w2];exact c6.to⟩,show 3 - 3 < 3 - 2 by decide⟩
          try simp(maxSteps:=999999) (disch:=omega) only[go_sem,Nat.reduceBEq,Nat.reduceAdd,true_or,true_and,pA]
          all_goals first |exact rfl |exact⟨rfl,.inr rfl⟩
        · have w2':decide (cmpQ (T 3) (TH 2) > 0)=false:=by rw[cmpQ_gt0];exact decide_eq_false w2
          try simp(maxSteps:=999999) (disch:=omega) only[go_sem,Nat.reduceBEq,Nat.reduceAdd,w2',pA]
          dsimp only[lpE];refine⟨((.bool l4,.slice l5 l6 l7,.slice l8 l9 l10),(.bool g4,.slice g5 g6 g7,.slice g8 g9 g10),3),?_,⟨Le.trn le5 inferInstance,show 3≤3 by decide,by rw[L2 2 w1];exact hl.to,by rw[H2 2 w2];exact hg.to⟩,show 3 - 3 < 3 - 2 by decide⟩
          try simp(maxSteps:=999999) (disch:=omega) only[go_sem,Nat.reduceBEq,Nat.reduceAdd,true_or,true_and,pA]
          all_goals first |exact rfl |exact⟨rfl,.inr rfl⟩
    · try simp(maxSteps:=999999) (disch:=omega) only[go_sem,Nat.reduceBEq,Nat.reduceAdd,pA]
      refine caN (by exact ERounded_spec (p:=p) hl hg (by omega) (zL 3) (zH 3) y5 y6) ?_;rintro v9 h9 s9 ⟨_,_,_,_,_,_,_,_,_,_,_,_,_,_,rfl,r1,r2⟩
      try simp(maxSteps:=999999) (disch:=omega) only[go_sem,Nat.reduceBEq,Nat.reduceAdd,pA]
      exact⟨_,_,_,_,_,_,_,_,_,_,_,_,_,_,rfl,r1,r2⟩
  · try simp(maxSteps:=999999) (disch:=omega) only[go_sem,Nat.reduceBEq,Nat.reduceAdd,hm,pA]
    refine caN (by exact kD) ?_;rintro v2 h2 s2 p2;obtain⟨x1,x2,x3,x4,x5,x6,x7,rfl,q2⟩:=p2.ok (zq 0)
    try simp(maxSteps:=999999) (disch:=omega) only[go_sem,Nat.reduceBEq,Nat.reduceAdd,pA]
    refine lp [(6,.h [] [(9,11)] [2,3] [2,3,0,1,4,5])] (fun x':(Value×Value×Value)×(Value×Value×Value)×Nat=>⟨[(1,.v (.int .i64 p)),(4,.p 1 0),(11,.p 5 0),(12,.p 6 0),(73,.s 7 0 3 3),(74,.v (.int .i64 3)),(75,.v (.int .i64 x'.2.2))],[[],[.bool false,.slice none 0 0,.slice none 0 0,.bool false,.slice none 0 0,.slice none 0 0],[],[],[],[x'.1.1,x'.1.2.1,x'.1.2.2],[x'.2.1.1,x'.2.1.2.1,x'.2.1.2.2],[.bool a1,.slice a2 a3 a4,.slice a5 a6 a7,.bool true,.slice f3 n3 c3,.slice f4 n4 c4,.bool a8,.slice a9 a10 a11,.slice a12 a13 a14,.bool false,.slice f1 n1 c1,.slice f2 n2 c2,.bool a8,.slice a9 a10 a11,.slice a12 a13 a14,.bool true,.slice f3 n3 c3,.slice f4 n4 c4]]⟩) (fun x' h'=>Le h2 h'∧x'.2.2≤3∧Cn h' (.agg #[x'.1.1,x'.1.2.1,x'.1.2.2]) (TL x'.2.2)∧Cn h' (.agg #[x'.2.1.1,x'.2.1.2.1,x'.2.1.2.2]) (TH x'.2.2)) (fun x'=>3 - x'.2.2) ((.bool x1,.slice x2 x3 x4,.slice x5 x6 x7),(.bool x1,.slice x2 x3 x4,.slice x5 x6 x7),0) ?_ ⟨inferInstance,Nat.zero_le 3,by rw[b0];exact q2,by rw[b1];exact q2⟩ (by kernel_rfl) ?_
    · try simp(maxSteps:=999999) (disch:=omega) only[go_sem,Nat.reduceBEq,Nat.reduceAdd,true_or,true_and,pA]
      all_goals first |exact rfl |exact⟨rfl,.inr rfl⟩
    rintro⟨⟨l1,l2,l3⟩,⟨g1,g2,g3⟩,i⟩ h5 ⟨le5,hi,hl,hg⟩
    dsimp only at hi hl hg ⊢
    obtain⟨l4,l5,l6,l7,l8,l9,l10,e,hl⟩:=hl.sa
    cases e
    obtain⟨g4,g5,g6,g7,g8,g9,g10,e,hg⟩:=hg.sa
    cases e
    have le1:Le h1 h5:=Le.trn inferInstance le5
    rcases(show i=0∨i=1∨i=2∨i=3 by omega) with rfl |rfl |rfl |rfl
    · try simp(maxSteps:=999999) (disch:=omega) only[go_sem,Nat.reduceBEq,Nat.reduceAdd,pA]
      refine caN (by exact kD1) ?_;rintro v6 h6 s6 p6;obtain⟨y1,y2,y3,y4,y5,y6,y7,rfl,c6⟩:=p6.ok (zq 1)
      try simp(maxSteps:=999999) (disch:=omega) only[go_sem,Nat.reduceBEq,Nat.reduceAdd,pA]
      refine caN (by exact NumCompare (Rv.of c6 (zq 1)) (Rv.of (hl.to (h':=h6)) (zL 0))) ?_;rintro v7 h7 s7 rfl
      try simp(maxSteps:=999999) (disch:=omega) only[go_sem,Nat.reduceBEq,Nat.reduceAdd,pA]
      by_cases w1:T 1 < TL 0
      · have w1':decide (cmpQ (T 1) (TL 0) < 0)=true:=by rw[cmpQ_lt0];exact decide_eq_true w1
        try simp(maxSteps:=999999) (disch:=omega) only[go_sem,Nat.reduceBEq,Nat.reduceAdd,w1',pA]
        refine caN (by exact NumCompare (Rv.of (c6.to (h':=h7)) (zq 1)) (Rv.of (hg.to (h':=h7)) (zH 0))) ?_;rintro v8 h8 s8 rfl
        try simp(maxSteps:=999999) (disch:=omega) only[go_sem,Nat.reduceBEq,Nat.reduceAdd,pA]
        by_cases w2:TH 0 < T 1
        · have w2':decide (cmpQ (T 1) (TH 0) > 0)=true:=by rw[cmpQ_gt0];exact decide_eq_true w2
          try simp(maxSteps:=999999) (disch:=omega) only[go_sem,Nat.reduceBEq,Nat.reduceAdd,w2',pA]
          dsimp only[lpE];refine⟨((.bool y1,.slice y2 y3 y4,.slice y5 y6 y7),(.bool y1,.slice y2 y3 y4,.slice y5 y6 y7),1),?_,⟨Le.trn le5 inferInstance,show 1≤3 by decide,by rw[L1 0 w1];exact c6.to,by rw[H1 0 w2];exact c6.to⟩,show 3 - 1 < 3 - 0 by decide⟩
          try simp(maxSteps:=999999) (disch:=omega) only[go_sem,Nat.reduceBEq,Nat.reduceAdd,true_or,true_and,pA]
          all_goals first |exact rfl |exact⟨rfl,.inr rfl⟩
        · have w2':decide (cmpQ (T 1) (TH 0) > 0)=false:=by rw[cmpQ_gt0];exact decide_eq_false w2
          try simp(maxSteps:=999999) (disch:=omega) only[go_sem,Nat.reduceBEq,Nat.reduceAdd,w2',pA]
          dsimp only[lpE];refine⟨((.bool y1,.slice y2 y3 y4,.slice y5 y6 y7),(.bool g4,.slice g5 g6 g7,.slice g8 g9 g10),1),?_,⟨Le.trn le5 inferInstance,show 1≤3 by decide,by rw[L1 0 w1];exact c6.to,by rw[H2 0 w2];exact hg.to⟩,show 3 - 1 < 3 - 0 by decide⟩
          try simp(maxSteps:=999999) (disch:=omega) only[go_sem,Nat.reduceBEq,Nat.reduceAdd,true_or,true_and,pA]
          all_goals first |exact rfl |exact⟨rfl,.inr rfl⟩
      · have w1':decide (cmpQ (T 1) (TL 0) < 0)=false:=by rw[cmpQ_lt0];exact decide_eq_false w1
        try simp(maxSteps:=999999) (disch:=omega) only[go_sem,Nat.reduceBEq,Nat.reduceAdd,w1',pA]
        refine caN (by exact NumCompare (Rv.of (c6.to (h':=h7)) (zq 1)) (Rv.of (hg.to (h':=h7)) (zH 0))) ?_;rintro v8 h8 s8 rfl
        try simp(maxSteps:=999999) (disch:=omega) only[go_sem,Nat.reduceBEq,Nat.reduceAdd,pA]
        by_cases w2:TH 0 < T 1
        · have w2':decide (cmpQ (T 1) (TH 0) > 0)=true:=by rw[cmpQ_gt0];exact decide_eq_true w2
          try simp(maxSteps:=999999) (disch:=omega) only[go_sem,Nat.reduceBEq,Nat.reduceAdd,w2',pA]
          dsimp only[lpE];refine⟨((.bool l4,.slice l5 l6 l7,.slice l8 l9 l10),(.bool y1,.slice y2 y3 y4,.slice y5 y6 y7),1),?_,⟨Le.trn le5 inferInstance,show 1≤3 by decide,by rw[L2 0 w1];exact hl.to,by rw[H1 0 w2];exact c6.to⟩,show 3 - 1 < 3 - 0 by decide⟩
          try simp(maxSteps:=999999) (disch:=omega) only[go_sem,Nat.reduceBEq,Nat.reduceAdd,true_or,true_and,pA]
          all_goals first |exact rfl |exact⟨rfl,.inr rfl⟩
        · have w2':decide (cmpQ (T 1) (TH 0) > 0)=false:=by rw[cmpQ_gt0];exact decide_eq_false w2
          try simp(maxSteps:=999999) (disch:=omega) only[go_sem,Nat.reduceBEq,Nat.reduceAdd,w2',pA]
          dsimp only[lpE];refine⟨((.bool l4,.slice l5 l6 l7,.slice l8 l9 l10),(.bool g4,.slice g5 g6 g7,.slice g8 g9 g10),1),?_,⟨Le.trn le5 inferInstance,show 1≤3 by decide,by rw[L2 0 w1];exact hl.to,by rw[H2 0 w2];exact hg.to⟩,show 3 - 1 < 3 - 0 by decide⟩
          try simp(maxSteps:=999999) (disch:=omega) only[go_sem,Nat.reduceBEq,Nat.reduceAdd,true_or,true_and,pA]
          all_goals first |exact rfl |exact⟨rfl,.inr rfl⟩
    · try simp(maxSteps:=999999) (disch:=omega) only[go_sem,Nat.reduceBEq,Nat.reduceAdd,pA]
      refine caN (by exact kD2) ?_;rintro v6 h6 s6 p6;obtain⟨y1,y2,y3,y4,y5,y6,y7,rfl,c6⟩:=p6.ok (zq 2)
      try simp(maxSteps:=999999) (disch:=omega) only[go_sem,Nat.reduceBEq,Nat.reduceAdd,pA]
      refine caN (by exact NumCompare (Rv.of c6 (zq 2)) (Rv.of (hl.to (h':=h6)) (zL 1))) ?_;rintro v7 h7 s7 rfl
      try simp(maxSteps:=999999) (disch:=omega) only[go_sem,Nat.reduceBEq,Nat.reduceAdd,pA]
      by_cases w1:T 2 < TL 1
      · have w1':decide (cmpQ (T 2) (TL 1) < 0)=true:=by rw[cmpQ_lt0];exact decide_eq_true w1
        try simp(maxSteps:=999999) (disch:=omega) only[go_sem,Nat.reduceBEq,Nat.reduceAdd,w1',pA]
        refine caN (by exact NumCompare (Rv.of (c6.to (h':=h7)) (zq 2)) (Rv.of (hg.to (h':=h7)) (zH 1))) ?_;rintro v8 h8 s8 rfl
        try simp(maxSteps:=999999) (disch:=omega) only[go_sem,Nat.reduceBEq,Nat.reduceAdd,pA]
        by_cases w2:TH 1 < T 2
        · have w2':decide (cmpQ (T 2) (TH 1) > 0)=true:=by rw[cmpQ_gt0];exact decide_eq_true w2
          try simp(maxSteps:=999999) (disch:=omega) only[go_sem,Nat.reduceBEq,Nat.reduceAdd,w2',pA]
          dsimp only[lpE];refine⟨((.bool y1,.slice y2 y3 y4,.slice y5 y6 y7),(.bool y1,.slice y2 y3 y4,.slice y5 y6 y7),2),?_,⟨Le.trn le5 inferInstance,show 2≤3 by decide,by rw[L1 1 w1];exact c6.to,by rw[H1 1 w2];exact c6.to⟩,show 3 - 2 < 3 - 1 by decide⟩
          try simp(maxSteps:=999999) (disch:=omega) only[go_sem,Nat.reduceBEq,Nat.reduceAdd,true_or,true_and,pA]
          all_goals first |exact rfl |exact⟨rfl,.inr rfl⟩
        · have w2':decide (cmpQ (T 2) (TH 1) > 0)=false:=by rw[cmpQ_gt0];exact decide_eq_false w2
          try simp(maxSteps:=999999) (disch:=omega) only[go_sem,Nat.reduceBEq,Nat.reduceAdd,w2',pA]
          dsimp only[lpE];refine⟨((.bool y1,.slice y2 y3 y4,.slice y5 y6 y7),(.bool g4,.slice g5 g6 g7,.slice g8 g9 g10),2),?_,⟨Le.trn le5 inferInstance,show 2≤3 by decide,by rw[L1 1 w1];exact c6.to,by rw[H2 1 w2];exact hg.to⟩,show 3 - 2 < 3 - 1 by decide⟩
          try simp(maxSteps:=999999) (disch:=omega) only[go_sem,Nat.reduceBEq,Nat.reduceAdd,true_or,true_and,pA]
          all_goals first |exact rfl |exact⟨rfl,.inr rfl⟩
      · have w1':decide (cmpQ (T 2) (TL 1) < 0)=false:=by rw[cmpQ_lt0];exact decide_eq_false w1
        try simp(maxSteps:=999999) (disch:=omega) only[go_sem,Nat.reduceBEq,Nat.reduceAdd,w1',pA]
        refine caN (by exact NumCompare (Rv.of (c6.to (h':=h7)) (zq 2)) (Rv.of (hg.to (h':=h7)) (zH 1))) ?_;rintro v8 h8 s8 rfl
        try simp(maxSteps:=999999) (disch:=omega) only[go_sem,Nat.reduceBEq,Nat.reduceAdd,pA]
        by_cases w2:TH 1 < T 2
        · have w2':decide (cmpQ (T 2) (TH 1) > 0)=true:=by rw[cmpQ_gt0];exact decide_eq_true w2
          try simp(maxSteps:=999999) (disch:=omega) only[go_sem,Nat.reduceBEq,Nat.reduceAdd,w2',pA]
          dsimp only[lpE];refine⟨((.bool l4,.slice l5 l6 l7,.slice l8 l9 l10),(.bool y1,.slice y2 y3 y4,.slice y5 y6 y7),2),?_,⟨Le.trn le5 inferInstance,show 2≤3 by decide,by rw[L2 1 w1];exact hl.to,by rw[H1 1 w2];exact c6.to⟩,show 3 - 2 < 3 - 1 by decide⟩
          try simp(maxSteps:=999999) (disch:=omega) only[go_sem,Nat.reduceBEq,Nat.reduceAdd,true_or,true_and,pA]
          all_goals first |exact rfl |exact⟨rfl,.inr rfl⟩
        · have w2':decide (cmpQ (T 2) (TH 1) > 0)=false:=by rw[cmpQ_gt0];exact decide_eq_false w2
          try simp(maxSteps:=999999) (disch:=omega) only[go_sem,Nat.reduceBEq,Nat.reduceAdd,w2',pA]
          dsimp only[lpE];refine⟨((.bool l4,.slice l5 l6 l7,.slice l8 l9 l10),(.bool g4,.slice g5 g6 g7,.slice g8 g9 g10),2),?_,⟨Le.trn le5 inferInstance,show 2≤3 by decide,by rw[L2 1 w1];exact hl.to,by rw[H2 1 w2];exact hg.to⟩,show 3 - 2 < 3 - 1 by decide⟩
          try simp(maxSteps:=999999) (disch:=omega) only[go_sem,Nat.reduceBEq,Nat.reduceAdd,true_or,true_and,pA]
          all_goals first |exact rfl |exact⟨rfl,.inr rfl⟩
    · try simp(maxSteps:=999999) (disch:=omega) only[go_sem,Nat.reduceBEq,Nat.reduceAdd,pA]
      refine caN (by exact kD3) ?_;rintro v6 h6 s6 p6;obtain⟨y1,y2,y3,y4,y5,y6,y7,rfl,c6⟩:=p6.ok (zq 3)
      try simp(maxSteps:=999999) (disch:=omega) only[go_sem,Nat.reduceBEq,Nat.reduceAdd,pA]
      refine caN (by exact NumCompare (Rv.of c6 (zq 3)) (Rv.of (hl.to (h':=h6)) (zL 2))) ?_;rintro v7 h7 s7 rfl
      try simp(maxSteps:=999999) (disch:=omega) only[go_sem,Nat.reduceBEq,Nat.reduceAdd,pA]
      by_cases w1:T 3 < TL 2
      · have w1':decide (cmpQ (T 3) (TL 2) < 0)=true:=by rw[cmpQ_lt0];exact decide_eq_true w1
        try simp(maxSteps:=999999) (disch:=omega) only[go_sem,Nat.reduceBEq,Nat.reduceAdd,w1',pA]
        refine caN (by exact NumCompare (Rv.of (c6.to (h':=h7)) (zq 3)) (Rv.of (hg.to (h':=h7)) (zH 2))) ?_;rintro v8 h8 s8 rfl
        try simp(maxSteps:=999999) (disch:=omega) only[go_sem,Nat.reduceBEq,Nat.reduceAdd,pA]
        by_cases w2:TH 2 < T 3
        · have w2':decide (cmpQ (T 3) (TH 2) > 0)=true:=by rw[cmpQ_gt0];exact decide_eq_true w2
          try simp(maxSteps:=999999) (disch:=omega) only[go_sem,Nat.reduceBEq,Nat.reduceAdd,w2',pA]
          dsimp only[lpE];refine⟨((.bool y1,.slice y2 y3 y4,.slice y5 y6 y7),(.bool y1,.slice y2 y3 y4,.slice y5 y6 y7),3),?_,⟨Le.trn le5 inferInstance,show 3≤3 by decide,by rw[L1 2 w1];exact c6.to,by rw[H1 2 w2];exact c6.to⟩,show 3 - 3 < 3 - 2 by decide⟩
          try simp(maxSteps:=999999) (disch:=omega) only[go_sem,Nat.reduceBEq,Nat.reduceAdd,true_or,true_and,pA]
          all_goals first |exact rfl |exact⟨rfl,.inr rfl⟩
        · have w2':decide (cmpQ (T 3) (TH 2) > 0)=false:=by rw[cmpQ_gt0];exact decide_eq_false w2
          try simp(maxSteps:=999999) (disch:=omega) only[go_sem,Nat.reduceBEq,Nat.reduceAdd,w2',pA]
          dsimp only[lpE];refine⟨((.bool y1,.slice y2 y3 y4,.slice y5 y6 y7),(.bool g4,.slice g5 g6 g7,.slice g8 g9 g10),3),?_,⟨Le.trn le5 inferInstance,show 3≤3 by decide,by rw[L1 2 w1];exact c6.to,by rw[H2 2 w2];exact hg.to⟩,show 3 - 3 < 3 - 2 by decide⟩
          try simp(maxSteps:=999999) (disch:=omega) only[go_sem,Nat.reduceBEq,Nat.reduceAdd,true_or,true_and,pA]
          all_goals first |exact rfl |exact⟨rfl,.inr rfl⟩
      · have w1':decide (cmpQ (T 3) (TL 2) < 0)=false:=by rw[cmpQ_lt0];exact decide_eq_false w1
        try simp(maxSteps:=999999) (disch:=omega) only[go_sem,Nat.reduceBEq,Nat.reduceAdd,w1',pA]
        refine caN (by exact NumCompare (Rv.of (c6.to (h':=h7)) (zq 3)) (Rv.of (hg.to (h':=h7)) (zH 2))) ?_;rintro v8 h8 s8 rfl
        try simp(maxSteps:=999999) (disch:=omega) only[go_sem,Nat.reduceBEq,Nat.reduceAdd,pA]
        by_cases w2:TH 2 < T 3
        · have w2':decide (cmpQ (T 3) (TH 2) > 0)=true:=by rw[cmpQ_gt0];exact decide_eq_true w2
          try simp(maxSteps:=999999) (disch:=omega) only[go_sem,Nat.reduceBEq,Nat.reduceAdd,w2',pA]
          dsimp only[lpE];refine⟨((.bool l4,.slice l5 l6 l7,.slice l8 l9 l10),(.bool y1,.slice y2 y3 y4,.slice y5 y6 y7),3),?_,⟨Le.trn le5 inferInstance,show 3≤3 by decide,by rw[L2 2 w1];exact hl.to,by rw[H1 2 w2];exact c6.to⟩,show 3 - 3 < 3 - 2 by decide⟩
          try simp(maxSteps:=999999) (disch:=omega) only[go_sem,Nat.reduceBEq,Nat.reduceAdd,true_or,true_and,pA]
          all_goals first |exact rfl |exact⟨rfl,.inr rfl⟩
        · have w2':decide (cmpQ (T 3) (TH 2) > 0)=false:=by rw[cmpQ_gt0];exact decide_eq_false w2
          try simp(maxSteps:=999999) (disch:=omega) only[go_sem,Nat.reduceBEq,Nat.reduceAdd,w2',pA]
          dsimp only[lpE];refine⟨((.bool l4,.slice l5 l6 l7,.slice l8 l9 l10),(.bool g4,.slice g5 g6 g7,.slice g8 g9 g10),3),?_,⟨Le.trn le5 inferInstance,show 3≤3 by decide,by rw[L2 2 w1];exact hl.to,by rw[H2 2 w2];exact hg.to⟩,show 3 - 3 < 3 - 2 by decide⟩
          try simp(maxSteps:=999999) (disch:=omega) only[go_sem,Nat.reduceBEq,Nat.reduceAdd,true_or,true_and,pA]
          all_goals first |exact rfl |exact⟨rfl,.inr rfl⟩
    · try simp(maxSteps:=999999) (disch:=omega) only[go_sem,Nat.reduceBEq,Nat.reduceAdd,pA]
      refine caN (by exact ERounded_spec (p:=p) hl hg (by omega) (zL 3) (zH 3) y5 y6) ?_;rintro v9 h9 s9 ⟨_,_,_,_,_,_,_,_,_,_,_,_,_,_,rfl,r1,r2⟩
      try simp(maxSteps:=999999) (disch:=omega) only[go_sem,Nat.reduceBEq,Nat.reduceAdd,pA]
      exact⟨_,_,_,_,_,_,_,_,_,_,_,_,_,_,rfl,r1,r2⟩
end Go.Q
namespace Go.Q
open Go.Proofs
set_option maxRecDepth 100000
set_option maxHeartbeats 8000000
def tanLo (x:Rat) (p:Nat):Rat:=gdown (tqL x (p+64) 3) p
def tanHi (x:Rat) (p:Nat):Rat:=gup (tqH x (p+64) 3) p
def pole (x:Rat) (p:Nat):Prop:=coL x (p+64)≤0∧0≤coH x (p+64)
instance (x:Rat) (p:Nat):Decidable (pole x p):=inferInstanceAs (Decidable (_∧_))
def serL (fn:Int) (x:Rat) (p:Nat):Rat:=if fn=1 then expLo x p else if fn=2 then lnLo x.num.natAbs x.den p else if fn=3 then gdown (siL x (p+64)) p else if fn=4 then gdown (coL x (p+64)) p else if fn=5 then tanLo x p else if fn=6 then asinLo x p else if fn=7 then acLo x p else atLo x p
def serH (fn:Int) (x:Rat) (p:Nat):Rat:=if fn=1 then expHi x p else if fn=2 then lnHi x.num.natAbs x.den p else if fn=3 then gup (siH x (p+64)) p else if fn=4 then gup (coH x (p+64)) p else if fn=5 then tanHi x p else if fn=6 then asinHi x p else if fn=7 then acHi x p else atHi x p
def elE (fn:Int) (x:Rat) (p:Int):Int:=if eErr fn x p≠0 then eErr fn x p else if exB fn x=true then 0 else if fn=5∧pole x p.toNat then 20 else 0
def elL (fn:Int) (x:Rat) (p:Int):Rat:=if elE fn x p≠0 then 0 else if exB fn x=true then exV fn x else serL fn x p.toNat
def elH (fn:Int) (x:Rat) (p:Int):Rat:=if elE fn x p≠0 then 0 else if exB fn x=true then exV fn x else serH fn x p.toNat
theorem eErr_p {fn:Int} {x:Rat} {p:Int} (he:eErr fn x p=0):(1≤fn∧fn≤8)∧0≤p∧p≤128∧defB fn x=true∧sz x≤1024∧(fn=1→¬x.den*64 < x.num.natAbs)∧(fn=3∨fn=4∨fn=5→¬x.den*4294967296 < x.num.natAbs):=by
  by_cases h:¬(1≤fn∧fn≤8)∨p < 0∨128 < p
  · rw[eErr_2 h] at he;cases he
  cases hd:defB fn x with
  |false=>rw[eErr_5 h hd] at he;cases he
  | true=>
    by_cases hb:1024 < sz x∨(fn=1∧x.den*64 < x.num.natAbs)∨((fn=3∨fn=4∨fn=5)∧x.den*4294967296 < x.num.natAbs)
    · rw[eErr_20 h hd hb] at he;cases he
    · refine⟨by omega,by omega,by omega,rfl,by omega,fun k c=>hb (.inr (.inl ⟨k,c⟩)),fun k c=>hb (.inr (.inr ⟨k,c⟩))⟩
theorem EApply_all {h0 h:PH} [Le h0 h] {v:Value} {x:Rat} {fn p:Int} {g:FuncId} (hx:Rv h0 v x)
    (hg:eErr fn x p=0→exB fn x=false→∀{h0 h:PH} {a:Value} [Le h0 h],Cn h0 a x→Spec mach g #[a,.int .i64 (p.toNat:Nat)] h (fun r h'=>Ber h' r (elE fn x p) (if elE fn x p≠0 then 0 else serL fn x p.toNat) (if elE fn x p≠0 then 0 else serH fn x p.toNat)) NP):
    Spec mach 34 #[.int .i64 fn,v,.int .i64 p,.func (.func g) #[] #[]] h (fun r h'=>Ber h' r (elE fn x p) (elL fn x p) (elH fn x p)) NP:=by
  by_cases he:eErr fn x p=0
  · have hp:((p.toNat:Nat):Int)=p:=by have:=eErr_p he;omega
    cases hb:exB fn x with
    | true=>
      have e1:elE fn x p=0:=by unfold elE;rw[if_neg (by simp[he]),if_pos hb]
      have e2:elL fn x p=exV fn x:=by unfold elL;rw[if_neg (by simp[e1]),if_pos hb]
      have e3:elH fn x p=exV fn x:=by unfold elH;rw[if_neg (by simp[e1]),if_pos hb]
      rw[e1,e2,e3]
      exact EApply_exact hx he hb
    | false=>
      have e2:elL fn x p=if elE fn x p≠0 then 0 else serL fn x p.toNat:=by unfold elL;split;rfl;rw[hb,if_neg (by decide)]
      have e3:elH fn x p=if elE fn x p≠0 then 0 else serH fn x p.toNat:=by unfold elH;split;rfl;rw[hb,if_neg (by decide)]
      rw[e2,e3]
      have hg:=@hg he hb
      rw[hp] at hg
      exact EApply_ser hx he hb hg
  · have e1:elE fn x p=eErr fn x p:=by unfold elE;rw[if_pos he]
    have e2:elL fn x p=0:=by unfold elL;rw[if_pos (by rw[e1];exact he)]
    have e3:elH fn x p=0:=by unfold elH;rw[if_pos (by rw[e1];exact he)]
    rw[e1,e2,e3]
    exact EApply_err hx he
theorem elE_0 {fn:Int} {x:Rat} {p:Int} (he:eErr fn x p=0) (hb:exB fn x=false) (h5:fn≠5):elE fn x p=0:=by
  unfold elE
  rw[if_neg (by simp[he]),hb,if_neg (by decide),if_neg (fun k=>h5 k.1)]
theorem ser1 {h0 h:PH} {a:Value} {x:Rat} {p:Int} (he:eErr 1 x p=0) (hb:exB 1 x=false) [Le h0 h] (c:Cn h0 a x):Spec mach 25 #[a,.int .i64 (p.toNat:Nat)] h (fun r h'=>Ber h' r (elE 1 x p) (if elE 1 x p≠0 then 0 else serL 1 x p.toNat) (if elE 1 x p≠0 then 0 else serH 1 x p.toNat)) NP:=by
  obtain⟨_,p0,p1,hd,bx,k1,_⟩:=eErr_p he
  rw[elE_0 he hb (by decide)]
  exact EExp_spec c bx (k1 rfl) (by omega)
theorem ser2 {h0 h:PH} {a:Value} {x:Rat} {p:Int} (he:eErr 2 x p=0) (hb:exB 2 x=false) [Le h0 h] (c:Cn h0 a x):Spec mach 26 #[a,.int .i64 (p.toNat:Nat)] h (fun r h'=>Ber h' r (elE 2 x p) (if elE 2 x p≠0 then 0 else serL 2 x p.toNat) (if elE 2 x p≠0 then 0 else serH 2 x p.toNat)) NP:=by
  obtain⟨_,p0,p1,hd,bx,_,_⟩:=eErr_p he
  rw[elE_0 he hb (by decide)]
  have hx:0 < x:=by simpa[defB] using hd
  refine ELog_spec c bx (fun e=>?_) (by omega)
  have:=Rat.num_eq_zero.1 (Int.natAbs_eq_zero.1 e)
  rw[this] at hx
  exact absurd hx (by decide)
theorem ser3 {h0 h:PH} {a:Value} {x:Rat} {p:Int} (he:eErr 3 x p=0) (hb:exB 3 x=false) [Le h0 h] (c:Cn h0 a x):Spec mach 27 #[a,.int .i64 (p.toNat:Nat)] h (fun r h'=>Ber h' r (elE 3 x p) (if elE 3 x p≠0 then 0 else serL 3 x p.toNat) (if elE 3 x p≠0 then 0 else serH 3 x p.toNat)) NP:=by
  obtain⟨_,p0,p1,hd,bx,_,k⟩:=eErr_p he
  rw[elE_0 he hb (by decide)]
  exact ESin_spec c bx (k (.inl rfl)) (by omega)
theorem ser4 {h0 h:PH} {a:Value} {x:Rat} {p:Int} (he:eErr 4 x p=0) (hb:exB 4 x=false) [Le h0 h] (c:Cn h0 a x):Spec mach 28 #[a,.int .i64 (p.toNat:Nat)] h (fun r h'=>Ber h' r (elE 4 x p) (if elE 4 x p≠0 then 0 else serL 4 x p.toNat) (if elE 4 x p≠0 then 0 else serH 4 x p.toNat)) NP:=by
  obtain⟨_,p0,p1,hd,bx,_,k⟩:=eErr_p he
  rw[elE_0 he hb (by decide)]
  exact ECos_spec c bx (k (.inr (.inl rfl))) (by omega)
theorem ser5 {h0 h:PH} {a:Value} {x:Rat} {p:Int} (he:eErr 5 x p=0) (hb:exB 5 x=false) [Le h0 h] (c:Cn h0 a x):Spec mach 29 #[a,.int .i64 (p.toNat:Nat)] h (fun r h'=>Ber h' r (elE 5 x p) (if elE 5 x p≠0 then 0 else serL 5 x p.toNat) (if elE 5 x p≠0 then 0 else serH 5 x p.toNat)) NP:=by
  obtain⟨_,p0,p1,hd,bx,_,k⟩:=eErr_p he
  by_cases hq:pole x p.toNat
  · have e:elE 5 x p=20:=by unfold elE;rw[if_neg (by simp[he]),hb,if_neg (by decide),if_pos ⟨rfl,hq⟩]
    rw[e,if_pos (by decide)]
    exact ETan_no c bx (k (.inr (.inr rfl))) (by omega) hq
  · have e:elE 5 x p=0:=by unfold elE;rw[if_neg (by simp[he]),hb,if_neg (by decide),if_neg (fun k=>hq k.2)]
    rw[e]
    exact ETan_ok c bx (k (.inr (.inr rfl))) (by omega) hq
theorem abs_1 {x:Rat} (hd:decide (x.num.natAbs≤x.den)=true):x.num.natAbs≤x.den:=of_decide_eq_true hd
theorem ser6 {h0 h:PH} {a:Value} {x:Rat} {p:Int} (he:eErr 6 x p=0) (hb:exB 6 x=false) [Le h0 h] (c:Cn h0 a x):Spec mach 30 #[a,.int .i64 (p.toNat:Nat)] h (fun r h'=>Ber h' r (elE 6 x p) (if elE 6 x p≠0 then 0 else serL 6 x p.toNat) (if elE 6 x p≠0 then 0 else serH 6 x p.toNat)) NP:=by
  obtain⟨_,p0,p1,hd,bx,_,_⟩:=eErr_p he
  rw[elE_0 he hb (by decide)]
  exact EAsin_spec c bx (abs_1 hd) (by omega)
theorem ser7 {h0 h:PH} {a:Value} {x:Rat} {p:Int} (he:eErr 7 x p=0) (hb:exB 7 x=false) [Le h0 h] (c:Cn h0 a x):Spec mach 31 #[a,.int .i64 (p.toNat:Nat)] h (fun r h'=>Ber h' r (elE 7 x p) (if elE 7 x p≠0 then 0 else serL 7 x p.toNat) (if elE 7 x p≠0 then 0 else serH 7 x p.toNat)) NP:=by
  obtain⟨_,p0,p1,hd,bx,_,_⟩:=eErr_p he
  rw[elE_0 he hb (by decide)]
  exact EAcos_spec c bx (abs_1 hd) (by omega)
theorem ser8 {h0 h:PH} {a:Value} {x:Rat} {p:Int} (he:eErr 8 x p=0) (hb:exB 8 x=false) [Le h0 h] (c:Cn h0 a x):Spec mach 32 #[a,.int .i64 (p.toNat:Nat)] h (fun r h'=>Ber h' r (elE 8 x p) (if elE 8 x p≠0 then 0 else serL 8 x p.toNat) (if elE 8 x p≠0 then 0 else serH 8 x p.toNat)) NP:=by
  obtain⟨_,p0,p1,hd,bx,_,_⟩:=eErr_p he
  rw[elE_0 he hb (by decide)]
  exact EAtan_spec c bx (by omega)
theorem Ber.sp {h:PH} {r:Value} {e:Int} {x y:Rat} (k:Ber h r e x y):∃b1 a1 m1 c1 a2 m2 c2 b2 a3 m3 c3 a4 m4 c4,r=.tuple #[.agg #[.bool b1,.slice a1 m1 c1,.slice a2 m2 c2,.bool b2,.slice a3 m3 c3,.slice a4 m4 c4],.int .i64 e]∧Ber h (.tuple #[.agg #[.bool b1,.slice a1 m1 c1,.slice a2 m2 c2,.bool b2,.slice a3 m3 c3,.slice a4 m4 c4],.int .i64 e]) e x y:=by
  obtain⟨b1,a1,m1,c1,a2,m2,c2,b2,a3,m3,c3,a4,m4,c4,rfl,k1,k2⟩:=k
  exact⟨b1,a1,m1,c1,a2,m2,c2,b2,a3,m3,c3,a4,m4,c4,rfl,_,_,_,_,_,_,_,_,_,_,_,_,_,_,rfl,k1,k2⟩
theorem elE_arg {fn:Int} {x:Rat} {p:Int} (hf:¬(1≤fn∧fn≤8)):elE fn x p=2∧elL fn x p=0∧elH fn x p=0:=by
  have e:elE fn x p=2:=by unfold elE;rw[eErr_2 (.inl hf),if_pos (by decide)]
  refine⟨e,?_,?_⟩
  · unfold elL;rw[e,if_pos (by decide)]
  · unfold elH;rw[e,if_pos (by decide)]
theorem Apply_e1 {h0 h:PH} [Le h0 h] {v:Value} {x:Rat} {p:Int} (hx:Rv h0 v x):Spec mach 7 #[.int .i64 1,v,.int .i64 p] h (fun r h'=>Ber h' r (elE 1 x p) (elL 1 x p) (elH 1 x p)) NP:=by
  have kA:=fun {h} [Le h0 h]=>EApply_all (h:=h) (fn:=1) (p:=p) (g:=25) hx (fun he hb {_ _ _} _ c=>ser1 he hb c)
  obtain⟨_,_,_,_,_,_,_,rfl,_⟩:=hx.sa
  refine Spec.go [] Tryz.func7 rfl rfl (by kernel_rfl) fun C _=>?_
  try simp(disch:=omega) only[go_sem,Nat.reduceBEq,Nat.reduceAdd]
  change op2 (some (Value.func (.func 25) #[] #[])) _
  try simp(disch:=omega) only[go_sem,Nat.reduceBEq,Nat.reduceAdd]
  refine caN (by exact kA) ?_;rintro v1 h1 s1 q1;obtain⟨_,_,_,_,_,_,_,_,_,_,_,_,_,_,rfl,q1⟩:=q1.sp
  try simp(disch:=omega) only[go_sem,Nat.reduceBEq,Nat.reduceAdd]
  exact q1
theorem Apply_e2 {h0 h:PH} [Le h0 h] {v:Value} {x:Rat} {p:Int} (hx:Rv h0 v x):Spec mach 7 #[.int .i64 2,v,.int .i64 p] h (fun r h'=>Ber h' r (elE 2 x p) (elL 2 x p) (elH 2 x p)) NP:=by
  have kA:=fun {h} [Le h0 h]=>EApply_all (h:=h) (fn:=2) (p:=p) (g:=26) hx (fun he hb {_ _ _} _ c=>ser2 he hb c)
  obtain⟨_,_,_,_,_,_,_,rfl,_⟩:=hx.sa
  refine Spec.go [] Tryz.func7 rfl rfl (by kernel_rfl) fun C _=>?_
  try simp(disch:=omega) only[go_sem,Nat.reduceBEq,Nat.reduceAdd]
  change op2 (some (Value.func (.func 26) #[] #[])) _
  try simp(disch:=omega) only[go_sem,Nat.reduceBEq,Nat.reduceAdd]
  refine caN (by exact kA) ?_;rintro v1 h1 s1 q1;obtain⟨_,_,_,_,_,_,_,_,_,_,_,_,_,_,rfl,q1⟩:=q1.sp
  try simp(disch:=omega) only[go_sem,Nat.reduceBEq,Nat.reduceAdd]
  exact q1
theorem Apply_e3 {h0 h:PH} [Le h0 h] {v:Value} {x:Rat} {p:Int} (hx:Rv h0 v x):Spec mach 7 #[.int .i64 3,v,.int .i64 p] h (fun r h'=>Ber h' r (elE 3 x p) (elL 3 x p) (elH 3 x p)) NP:=by
  have kA:=fun {h} [Le h0 h]=>EApply_all (h:=h) (fn:=3) (p:=p) (g:=27) hx (fun he hb {_ _ _} _ c=>ser3 he hb c)
  obtain⟨_,_,_,_,_,_,_,rfl,_⟩:=hx.sa
  refine Spec.go [] Tryz.func7 rfl rfl (by kernel_rfl) fun C _=>?_
  try simp(disch:=omega) only[go_sem,Nat.reduceBEq,Nat.reduceAdd]
  change op2 (some (Value.func (.func 27) #[] #[])) _
  try simp(disch:=omega) only[go_sem,Nat.reduceBEq,Nat.reduceAdd]
  refine caN (by exact kA) ?_;rintro v1 h1 s1 q1;obtain⟨_,_,_,_,_,_,_,_,_,_,_,_,_,_,rfl,q1⟩:=q1.sp
  try simp(disch:=omega) only[go_sem,Nat.reduceBEq,Nat.reduceAdd]
  exact q1
theorem Apply_e4 {h0 h:PH} [Le h0 h] {v:Value} {x:Rat} {p:Int} (hx:Rv h0 v x):Spec mach 7 #[.int .i64 4,v,.int .i64 p] h (fun r h'=>Ber h' r (elE 4 x p) (elL 4 x p) (elH 4 x p)) NP:=by
  have kA:=fun {h} [Le h0 h]=>EApply_all (h:=h) (fn:=4) (p:=p) (g:=28) hx (fun he hb {_ _ _} _ c=>ser4 he hb c)
  obtain⟨_,_,_,_,_,_,_,rfl,_⟩:=hx.sa
  refine Spec.go [] Tryz.func7 rfl rfl (by kernel_rfl) fun C _=>?_
  try simp(disch:=omega) only[go_sem,Nat.reduceBEq,Nat.reduceAdd]
  change op2 (some (Value.func (.func 28) #[] #[])) _
  try simp(disch:=omega) only[go_sem,Nat.reduceBEq,Nat.reduceAdd]
  refine caN (by exact kA) ?_;rintro v1 h1 s1 q1;obtain⟨_,_,_,_,_,_,_,_,_,_,_,_,_,_,rfl,q1⟩:=q1.sp
  try simp(disch:=omega) only[go_sem,Nat.reduceBEq,Nat.reduceAdd]
  exact q1
theorem Apply_e5 {h0 h:PH} [Le h0 h] {v:Value} {x:Rat} {p:Int} (hx:Rv h0 v x):Spec mach 7 #[.int .i64 5,v,.int .i64 p] h (fun r h'=>Ber h' r (elE 5 x p) (elL 5 x p) (elH 5 x p)) NP:=by
  have kA:=fun {h} [Le h0 h]=>EApply_all (h:=h) (fn:=5) (p:=p) (g:=29) hx (fun he hb {_ _ _} _ c=>ser5 he hb c)
  obtain⟨_,_,_,_,_,_,_,rfl,_⟩:=hx.sa
  refine Spec.go [] Tryz.func7 rfl rfl (by kernel_rfl) fun C _=>?_
  try simp(disch:=omega) only[go_sem,Nat.reduceBEq,Nat.reduceAdd]
  change op2 (some (Value.func (.func 29) #[] #[])) _
  try simp(disch:=omega) only[go_sem,Nat.reduceBEq,Nat.reduceAdd]
  refine caN (by exact kA) ?_;rintro v1 h1 s1 q1;obtain⟨_,_,_,_,_,_,_,_,_,_,_,_,_,_,rfl,q1⟩:=q1.sp
  try simp(disch:=omega) only[go_sem,Nat.reduceBEq,Nat.reduceAdd]
  exact q1
theorem Apply_e6 {h0 h:PH} [Le h0 h] {v:Value} {x:Rat} {p:Int} (hx:Rv h0 v x):Spec mach 7 #[.int .i64 6,v,.int .i64 p] h (fun r h'=>Ber h' r (elE 6 x p) (elL 6 x p) (elH 6 x p)) NP:=by
  have kA:=fun {h} [Le h0 h]=>EApply_all (h:=h) (fn:=6) (p:=p) (g:=30) hx (fun he hb {_ _ _} _ c=>ser6 he hb c)
  obtain⟨_,_,_,_,_,_,_,rfl,_⟩:=hx.sa
  refine Spec.go [] Tryz.func7 rfl rfl (by kernel_rfl) fun C _=>?_
  try simp(disch:=omega) only[go_sem,Nat.reduceBEq,Nat.reduceAdd]
  change op2 (some (Value.func (.func 30) #[] #[])) _
  try simp(disch:=omega) only[go_sem,Nat.reduceBEq,Nat.reduceAdd]
  refine caN (by exact kA) ?_;rintro v1 h1 s1 q1;obtain⟨_,_,_,_,_,_,_,_,_,_,_,_,_,_,rfl,q1⟩:=q1.sp
  try simp(disch:=omega) only[go_sem,Nat.reduceBEq,Nat.reduceAdd]
  exact q1
theorem Apply_e7 {h0 h:PH} [Le h0 h] {v:Value} {x:Rat} {p:Int} (hx:Rv h0 v x):Spec mach 7 #[.int .i64 7,v,.int .i64 p] h (fun r h'=>Ber h' r (elE 7 x p) (elL 7 x p) (elH 7 x p)) NP:=by
  have kA:=fun {h} [Le h0 h]=>EApply_all (h:=h) (fn:=7) (p:=p) (g:=31) hx (fun he hb {_ _ _} _ c=>ser7 he hb c)
  obtain⟨_,_,_,_,_,_,_,rfl,_⟩:=hx.sa
  refine Spec.go [] Tryz.func7 rfl rfl (by kernel_rfl) fun C _=>?_
  try simp(disch:=omega) only[go_sem,Nat.reduceBEq,Nat.reduceAdd]
  change op2 (some (Value.func (.func 31) #[] #[])) _
  try simp(disch:=omega) only[go_sem,Nat.reduceBEq,Nat.reduceAdd]
  refine caN (by exact kA) ?_;rintro v1 h1 s1 q1;obtain⟨_,_,_,_,_,_,_,_,_,_,_,_,_,_,rfl,q1⟩:=q1.sp
  try simp(disch:=omega) only[go_sem,Nat.reduceBEq,Nat.reduceAdd]
  exact q1
theorem Apply_e8 {h0 h:PH} [Le h0 h] {v:Value} {x:Rat} {p:Int} (hx:Rv h0 v x):Spec mach 7 #[.int .i64 8,v,.int .i64 p] h (fun r h'=>Ber h' r (elE 8 x p) (elL 8 x p) (elH 8 x p)) NP:=by
  have kA:=fun {h} [Le h0 h]=>EApply_all (h:=h) (fn:=8) (p:=p) (g:=32) hx (fun he hb {_ _ _} _ c=>ser8 he hb c)
  obtain⟨_,_,_,_,_,_,_,rfl,_⟩:=hx.sa
  refine Spec.go [] Tryz.func7 rfl rfl (by kernel_rfl) fun C _=>?_
  try simp(disch:=omega) only[go_sem,Nat.reduceBEq,Nat.reduceAdd]
  change op2 (some (Value.func (.func 32) #[] #[])) _
  try simp(disch:=omega) only[go_sem,Nat.reduceBEq,Nat.reduceAdd]
  refine caN (by exact kA) ?_;rintro v1 h1 s1 q1;obtain⟨_,_,_,_,_,_,_,_,_,_,_,_,_,_,rfl,q1⟩:=q1.sp
  try simp(disch:=omega) only[go_sem,Nat.reduceBEq,Nat.reduceAdd]
  exact q1
theorem Apply_arg {h0 h:PH} [Le h0 h] {v:Value} {x:Rat} {fn p:Int} (hx:Rv h0 v x) (hf:¬(1≤fn∧fn≤8)):Spec mach 7 #[.int .i64 fn,v,.int .i64 p] h (fun r h'=>Ber h' r (elE fn x p) (elL fn x p) (elH fn x p)) NP:=by
  obtain⟨e1,e2,e3⟩:=elE_arg (x:=x) (p:=p) hf
  rw[e1,e2,e3]
  have kK:=fun {h} [Le h0 h]=>EKnown_arg (h:=h) hx hf
  obtain⟨_,_,_,_,_,_,_,rfl,_⟩:=hx.sa
  rcases Int.lt_or_le fn 1 with f1 |f1
  · refine Spec.go [] Tryz.func7 rfl rfl (by kernel_rfl) fun C _=>?_
    try simp(disch:=omega) only[go_sem,Nat.reduceBEq,Nat.reduceAdd]
    refine caN (by exact kK) ?_;rintro v1 h1 s1 rfl
    try simp(disch:=omega) only[go_sem,Nat.reduceBEq,Nat.reduceAdd]
    exact Ber.no _ _
  · have f8:fn > 8:=by omega
    refine Spec.go [] Tryz.func7 rfl rfl (by kernel_rfl) fun C _=>?_
    try simp(disch:=omega) only[go_sem,Nat.reduceBEq,Nat.reduceAdd]
    refine caN (by exact kK) ?_;rintro v1 h1 s1 rfl
    try simp(disch:=omega) only[go_sem,Nat.reduceBEq,Nat.reduceAdd]
    exact Ber.no _ _
theorem Apply_rise {h0 h:PH} [Le h0 h] {v:Value} {x:Rat} {fn p:Int} (f3:fn≠3) (f4:fn≠4) (f5:fn≠5) (hx:Rv h0 v x):Spec mach 7 #[.int .i64 fn,v,.int .i64 p] h (fun r h'=>Ber h' r (elE fn x p) (elL fn x p) (elH fn x p)) NP:=by
  by_cases hf:1≤fn∧fn≤8
  · have hc:fn=1∨fn=2∨fn=6∨fn=7∨fn=8:=by omega
    rcases hc with rfl |rfl |rfl |rfl |rfl
    · exact Apply_e1 hx
    · exact Apply_e2 hx
    · exact Apply_e6 hx
    · exact Apply_e7 hx
    · exact Apply_e8 hx
  · exact Apply_arg hx hf
theorem Apply_odd {h0 h:PH} [Le h0 h] {v:Value} {x:Rat} {fn p:Int} (hf:fn=3∨fn=4∨fn=5∨fn=6∨fn=8) (hx:Rv h0 v x):Spec mach 7 #[.int .i64 fn,v,.int .i64 p] h (fun r h'=>Ber h' r (elE fn x p) (elL fn x p) (elH fn x p)) NP:=by
  rcases hf with rfl |rfl |rfl |rfl |rfl
  · exact Apply_e3 hx
  · exact Apply_e4 hx
  · exact Apply_e5 hx
  · exact Apply_e6 hx
  · exact Apply_e8 hx
theorem Apply_ok {h0 h:PH} [Le h0 h] {v:Value} {x:Rat} {fn p:Int} (hx:Rv h0 v x):Spec mach 7 #[.int .i64 fn,v,.int .i64 p] h (fun r h'=>Ber h' r (elE fn x p) (elL fn x p) (elH fn x p)) NP:=by
  by_cases hf:fn=3∨fn=4∨fn=5
  · exact Apply_odd (by omega) hx
  · exact Apply_rise (by omega) (by omega) (by omega) hx
theorem Apply_no {h0 h:PH} [Le h0 h] {v:Value} {neg:Bool} {n d:Nat} {fn p:Int} (hv:Rw h0 v neg n d) (hl:lg neg n d):Spec mach 7 #[.int .i64 fn,v,.int .i64 p] h (fun r h'=>Ber h' r 1 0 0) NP:=by
  by_cases hf:1≤fn∧fn≤8
  · have hc:fn=1∨fn=2∨fn=3∨fn=4∨fn=5∨fn=6∨fn=7∨fn=8:=by omega
    clear hf
    have kA:=fun {h} {g:FuncId} [Le h0 h]=>EApply_no (h:=h) (fn:=fn) (p:=p) (g:=g) hv hl
    obtain⟨_,_,_,_,_,_,_,rfl,_⟩:=hv.sa
    rcases hc with rfl |rfl |rfl |rfl |rfl |rfl |rfl |rfl
    all_goals
      refine Spec.go [] Tryz.func7 rfl rfl (by kernel_rfl) fun C _=>?_
      try simp(disch:=omega) only[go_sem,Nat.reduceBEq,Nat.reduceAdd]
    · change op2 (some (Value.func (.func 25) #[] #[])) _
      try simp(disch:=omega) only[go_sem,Nat.reduceBEq,Nat.reduceAdd]
      refine caN (by exact kA) ?_;rintro v1 h1 s1 q1;obtain⟨_,_,_,_,_,_,_,_,_,_,_,_,_,_,rfl,q1⟩:=q1.sp
      try simp(disch:=omega) only[go_sem,Nat.reduceBEq,Nat.reduceAdd]
      exact q1
    · change op2 (some (Value.func (.func 26) #[] #[])) _
      try simp(disch:=omega) only[go_sem,Nat.reduceBEq,Nat.reduceAdd]
      refine caN (by exact kA) ?_;rintro v1 h1 s1 q1;obtain⟨_,_,_,_,_,_,_,_,_,_,_,_,_,_,rfl,q1⟩:=q1.sp
      try simp(disch:=omega) only[go_sem,Nat.reduceBEq,Nat.reduceAdd]
      exact q1
    · change op2 (some (Value.func (.func 27) #[] #[])) _
      try simp(disch:=omega) only[go_sem,Nat.reduceBEq,Nat.reduceAdd]
      refine caN (by exact kA) ?_;rintro v1 h1 s1 q1;obtain⟨_,_,_,_,_,_,_,_,_,_,_,_,_,_,rfl,q1⟩:=q1.sp
      try simp(disch:=omega) only[go_sem,Nat.reduceBEq,Nat.reduceAdd]
      exact q1
    · change op2 (some (Value.func (.func 28) #[] #[])) _
      try simp(disch:=omega) only[go_sem,Nat.reduceBEq,Nat.reduceAdd]
      refine caN (by exact kA) ?_;rintro v1 h1 s1 q1;obtain⟨_,_,_,_,_,_,_,_,_,_,_,_,_,_,rfl,q1⟩:=q1.sp
      try simp(disch:=omega) only[go_sem,Nat.reduceBEq,Nat.reduceAdd]
      exact q1
    · change op2 (some (Value.func (.func 29) #[] #[])) _
      try simp(disch:=omega) only[go_sem,Nat.reduceBEq,Nat.reduceAdd]
      refine caN (by exact kA) ?_;rintro v1 h1 s1 q1;obtain⟨_,_,_,_,_,_,_,_,_,_,_,_,_,_,rfl,q1⟩:=q1.sp
      try simp(disch:=omega) only[go_sem,Nat.reduceBEq,Nat.reduceAdd]
      exact q1
    · change op2 (some (Value.func (.func 30) #[] #[])) _
      try simp(disch:=omega) only[go_sem,Nat.reduceBEq,Nat.reduceAdd]
      refine caN (by exact kA) ?_;rintro v1 h1 s1 q1;obtain⟨_,_,_,_,_,_,_,_,_,_,_,_,_,_,rfl,q1⟩:=q1.sp
      try simp(disch:=omega) only[go_sem,Nat.reduceBEq,Nat.reduceAdd]
      exact q1
    · change op2 (some (Value.func (.func 31) #[] #[])) _
      try simp(disch:=omega) only[go_sem,Nat.reduceBEq,Nat.reduceAdd]
      refine caN (by exact kA) ?_;rintro v1 h1 s1 q1;obtain⟨_,_,_,_,_,_,_,_,_,_,_,_,_,_,rfl,q1⟩:=q1.sp
      try simp(disch:=omega) only[go_sem,Nat.reduceBEq,Nat.reduceAdd]
      exact q1
    · change op2 (some (Value.func (.func 32) #[] #[])) _
      try simp(disch:=omega) only[go_sem,Nat.reduceBEq,Nat.reduceAdd]
      refine caN (by exact kA) ?_;rintro v1 h1 s1 q1;obtain⟨_,_,_,_,_,_,_,_,_,_,_,_,_,_,rfl,q1⟩:=q1.sp
      try simp(disch:=omega) only[go_sem,Nat.reduceBEq,Nat.reduceAdd]
      exact q1
  · have kK:=fun {h} [Le h0 h]=>EKnown_no (h:=h) (fn:=fn) hv hl
    obtain⟨_,_,_,_,_,_,_,rfl,_⟩:=hv.sa
    rcases Int.lt_or_le fn 1 with f1 |f1
    · refine Spec.go [] Tryz.func7 rfl rfl (by kernel_rfl) fun C _=>?_
      try simp(disch:=omega) only[go_sem,Nat.reduceBEq,Nat.reduceAdd]
      refine caN (by exact kK) ?_;rintro v1 h1 s1 rfl
      try simp(disch:=omega) only[go_sem,Nat.reduceBEq,Nat.reduceAdd]
      exact Ber.no _ _
    · have f8:fn > 8:=by omega
      refine Spec.go [] Tryz.func7 rfl rfl (by kernel_rfl) fun C _=>?_
      try simp(disch:=omega) only[go_sem,Nat.reduceBEq,Nat.reduceAdd]
      refine caN (by exact kK) ?_;rintro v1 h1 s1 rfl
      try simp(disch:=omega) only[go_sem,Nat.reduceBEq,Nat.reduceAdd]
      exact Ber.no _ _
end Go.Q
namespace Go.Q
set_option maxRecDepth 100000
set_option maxHeartbeats 4000000
end Go.Q
namespace Go.Q
set_option maxRecDepth 100000
set_option maxHeartbeats 4000000
theorem sgn_szp {neg:Bool} {n p k:Nat} (h:bl n≤k) (hp:p+1≤k):sz (sgn neg n (2^p))≤k:=by
  have h1:=sz_sgn neg n (pow2_ne p)
  have h2:=bl_pow2 p
  omega
theorem bk_sz {neg:Bool} {a b k p m:Nat} (ha:bl a≤m) (hb:bl b≤m) (hp:p≤m):sz (bkL neg a b k p)≤m+1∧sz (bkH neg a b k p)≤m+1:=by
  have h1:=bl_div_le a (2^k)
  have h2:=bl_cdiv b (pow2_ne k)
  unfold bkL bkH
  cases neg
  · exact⟨sgn_szp (by omega) (by omega),sgn_szp (by omega) (by omega)⟩
  · exact⟨sgn_szp (by omega) (by omega),sgn_szp (by omega) (by omega)⟩
theorem exp_sz {x:Rat} {p:Nat} (hb:¬x.den*64 < x.num.natAbs) (hp:p≤128):sz (expLo x p)≤2048∧sz (expHi x p)≤2048:=by
  obtain⟨f1,f2,f3,f4⟩:=exp_fit (p:=p) hb
  unfold expLo expHi
  generalize expL x p=A at*
  generalize expH x p=B at*
  have u:=bl_pow2 (p+112+p)
  have h1:=bl_div_le (2^(p+112+p)) B
  have h2:=bl_cdiv (2^(p+112+p)) f3
  have h3:=bl_div_le A (2^112)
  have h4:=bl_cdiv B (pow2_ne 112)
  generalize 2^(p+112+p)=U at*
  generalize U / B=a1 at*
  generalize cdiv U A=a2 at*
  generalize A / 2^112=a3 at*
  generalize cdiv B (2^112)=a4 at*
  constructor<;>split<;>exact sgn_szp (by omega) (by omega)
theorem ln_sz {n d p:Nat} (hn:n≠0) (b1:bl n≤1024) (b2:bl d≤1024) (hp:p≤128):sz (lnLo n d p)≤2048∧sz (lnHi n d p)≤2048:=by
  obtain⟨a1,a2,_,_⟩:=lge_abs b1 b2
  obtain⟨l1,l2⟩:=lgm_arg (n:=n) (d:=d) (w:=p+32) hn
  obtain⟨l3,l4⟩:=lg2_arg (p+32)
  obtain⟨l5,l6⟩:=logL_le l1 l2
  obtain⟨l7,l8⟩:=logL_le l3 l4
  have c1:bl (lgmL n d (p+32))≤p+32+8:=bl_112 l5
  have c2:bl (lgmH n d (p+32))≤p+32+8:=bl_112 l6
  have c3:bl (lg2L (p+32))≤p+32+8:=bl_112 l7
  have c4:bl (lg2H (p+32))≤p+32+8:=bl_112 l8
  clear l1 l2 l3 l4 l5 l6 l7 l8
  generalize e1:lgmL n d (p+32)=A at*
  generalize e2:lgmH n d (p+32)=B at*
  generalize e3:lg2L (p+32)=C at*
  generalize e4:lg2H (p+32)=D at*
  by_cases he:0≤lge n d
  · obtain⟨m,hm⟩:∃m:Nat,(lge n d).toNat=m:=⟨_,rfl⟩
    have bm:bl m≤11:=bl_le.2 (by omega)
    have b14:=bl_mul C m
    have b15:=bl_mul D m
    have b16:=bl_add (C*m) A
    have b17:=bl_add (D*m) B
    have b18:=bl_div_le (C*m+A) (2^32)
    have b19:=bl_cdiv (D*m+B) (pow2_ne 32)
    unfold lnLo lnHi
    rw[if_pos he,if_pos he,hm,e1,e2,e3,e4]
    exact⟨sgn_szp (by omega) (by omega),sgn_szp (by omega) (by omega)⟩
  · obtain⟨m,hm⟩:∃m:Nat,(0 - lge n d).toNat=m:=⟨_,rfl⟩
    have bm:bl m≤11:=bl_le.2 (by omega)
    have b14:=bl_mul C m
    have b15:=bl_mul D m
    have y1:=sz_dif (a:=A) (b:=D*m) (w:=p+32) (k:=p+52) (by omega) (by omega) (by omega)
    have y2:=sz_dif (a:=B) (b:=C*m) (w:=p+32) (k:=p+52) (by omega) (by omega) (by omega)
    unfold lnLo lnHi
    rw[if_neg he,if_neg he,hm,e1,e2,e3,e4]
    have z1:=sz_gd (sgn false A (2^(p+32))+ -sgn false (D*m) (2^(p+32))) p
    have z2:=sz_gu (sgn false B (2^(p+32))+ -sgn false (C*m) (2^(p+32))) p
    omega
theorem at_sz {x:Rat} {p:Nat} (hp:p≤128):sz (atLo x p)≤2048∧sz (atHi x p)≤2048:=by
  have key:bl (atA x (p+32))≤p+38∧bl (atB x (p+32))≤p+38:=by
    obtain⟨b1,b2⟩:=bl_pi (w:=p+32)
    unfold atA atB
    by_cases hb:x.den < x.num.natAbs
    · rw[if_pos hb,if_pos hb]
      have h1:bl (piL (p+32) - anH (glo (invQ x) (p+32)) (ghi (invQ x) (p+32)) (p+32)*2^1)≤_:=bl_mono (Nat.sub_le _ _)
      have h2:bl (piH (p+32) - anL (glo (invQ x) (p+32)) (ghi (invQ x) (p+32)) (p+32)*2^1)≤_:=bl_mono (Nat.sub_le _ _)
      omega
    · rw[if_neg hb,if_neg hb]
      obtain⟨l1,l2⟩:=g_le (x:=x) (w:=p+32) hb
      obtain⟨m1,m2⟩:=an_le (w:=p+32) (by omega) l1 l2
      have b3:=bl_w3 (by omega) m1
      have b4:=bl_w3 (by omega) m2
      omega
  obtain⟨k1,k2⟩:=bk_sz (neg:=decide (x.num < 0)) (k:=atK x) (p:=p) key.1 key.2 (by omega)
  exact⟨Nat.le_trans k1 (by omega),Nat.le_trans k2 (by omega)⟩
theorem as_sz {x:Rat} {p:Nat} (h:x.num.natAbs≤x.den) (hp:p≤128):sz (asinLo x p)≤2048∧sz (asinHi x p)≤2048:=by
  obtain⟨b1,b2⟩:=bl_as (w:=p+32) (by omega) h
  obtain⟨k1,k2⟩:=bk_sz (neg:=decide (x.num < 0)) (k:=32) (p:=p) b1 b2 (by omega)
  exact⟨Nat.le_trans k1 (by omega),Nat.le_trans k2 (by omega)⟩
theorem ac_sz {x:Rat} {p:Nat} (h:x.num.natAbs≤x.den) (hp:p≤128):sz (acLo x p)≤2048∧sz (acHi x p)≤2048:=by
  obtain⟨b1,b2⟩:=bl_as (w:=p+32) (by omega) h
  obtain⟨b3,b4⟩:=bl_pi (w:=p+32)
  have b5:=bl_shl (asL x (p+32)) 1
  have b6:=bl_shl (asU x (p+32)) 1
  unfold acLo acHi
  by_cases h0:x=0
  · rw[if_pos h0,if_pos h0]
    obtain⟨k1,k2⟩:=bk_sz (neg:=false) (k:=33) (p:=p) b3 b4 (by omega)
    exact⟨Nat.le_trans k1 (by omega),Nat.le_trans k2 (by omega)⟩
  · rw[if_neg h0,if_neg h0]
    by_cases hs:x.num < 0
    · rw[if_pos hs,if_pos hs]
      have b9:=bl_add (piL (p+32)) (asL x (p+32)*2^1)
      have b10:=bl_add (piH (p+32)) (asU x (p+32)*2^1)
      obtain⟨k1,k2⟩:=bk_sz (neg:=false) (k:=33) (p:=p) (m:=p+50) (show bl (piL (p+32)+asL x (p+32)*2^1)≤p+50 by omega) (show bl (piH (p+32)+asU x (p+32)*2^1)≤p+50 by omega) (by omega)
      exact⟨Nat.le_trans k1 (by omega),Nat.le_trans k2 (by omega)⟩
    · rw[if_neg hs,if_neg hs]
      have y1:=sz_dif (a:=piL (p+32)) (b:=asU x (p+32)*2^1) (w:=p+32+1) (k:=p+52) (by omega) (by omega) (by omega)
      have y2:=sz_dif (a:=piH (p+32)) (b:=asL x (p+32)*2^1) (w:=p+32+1) (k:=p+52) (by omega) (by omega) (by omega)
      have z1:=sz_gd (sgn false (piL (p+32)) (2^(p+32+1))+ -sgn false (asU x (p+32)*2^1) (2^(p+32+1))) p
      have z2:=sz_gu (sgn false (piH (p+32)) (2^(p+32+1))+ -sgn false (asL x (p+32)*2^1) (2^(p+32+1))) p
      omega
theorem g_sz {x y:Rat} {p k:Nat} (h1:sz x≤k) (h2:sz y≤k) (hk:k+2*p+2≤2048):sz (gdown x p)≤2048∧sz (gup y p)≤2048:=by
  have z1:=sz_gd x p
  have z2:=sz_gu y p
  omega
theorem ser_sz {fn:Int} {x:Rat} {p:Int} (he:eErr fn x p=0) (hb:exB fn x=false):sz (serL fn x p.toNat)≤2048∧sz (serH fn x p.toNat)≤2048:=by
  obtain⟨hf,p0,p1,hd,bx,k1,k2⟩:=eErr_p he
  have hp:p.toNat≤128:=by omega
  generalize p.toNat=q at*
  unfold serL serH
  by_cases h1:fn=1
  · subst h1;exact exp_sz (k1 rfl) hp
  rw[if_neg h1,if_neg h1]
  by_cases h2:fn=2
  · subst h2
    rw[if_pos rfl,if_pos rfl]
    refine ln_sz (fun e=>?_) (Nat.le_trans (sz_num x) bx) (Nat.le_trans (sz_den x) bx) hp
    have hx:0 < x:=by simpa[defB] using hd
    have:=Rat.num_eq_zero.1 (Int.natAbs_eq_zero.1 e)
    rw[this] at hx
    exact absurd hx (by decide)
  rw[if_neg h2,if_neg h2]
  by_cases h3:fn=3
  · subst h3
    rw[if_pos rfl,if_pos rfl]
    obtain⟨z1,z2,_,_⟩:=sc_sz (w:=q+64) (k2 (.inl rfl)) (by omega) (by omega)
    exact g_sz z1 z2 (by omega)
  rw[if_neg h3,if_neg h3]
  by_cases h4:fn=4
  · subst h4
    rw[if_pos rfl,if_pos rfl]
    obtain⟨_,_,z1,z2⟩:=sc_sz (w:=q+64) (k2 (.inr (.inl rfl))) (by omega) (by omega)
    exact g_sz z1 z2 (by omega)
  rw[if_neg h4,if_neg h4]
  by_cases h5:fn=5
  · subst h5
    rw[if_pos rfl,if_pos rfl]
    obtain⟨z1,z2⟩:=tqL_sz (x:=x) (w:=q+64) (k2 (.inr (.inr rfl))) (by omega) (by omega) 3
    exact g_sz z1 z2 (by omega)
  rw[if_neg h5,if_neg h5]
  by_cases h6:fn=6
  · subst h6
    rw[if_pos rfl,if_pos rfl]
    exact as_sz (abs_1 hd) hp
  rw[if_neg h6,if_neg h6]
  by_cases h7:fn=7
  · subst h7
    rw[if_pos rfl,if_pos rfl]
    exact ac_sz (abs_1 hd) hp
  rw[if_neg h7,if_neg h7]
  exact at_sz hp
theorem el_sz {fn:Int} {x:Rat} {p:Int}:sz (elL fn x p)≤2048∧sz (elH fn x p)≤2048:=by
  unfold elL elH
  by_cases e:elE fn x p≠0
  · rw[if_pos e,if_pos e];decide
  · rw[if_neg e,if_neg e]
    have he:eErr fn x p=0:=by
      refine Decidable.byContradiction fun c=>e ?_
      unfold elE
      rw[if_pos c]
      exact c
    cases hb:exB fn x with
    | true=>
      simp only[if_true]
      have:sz (exV fn x)≤2048:=by unfold exV;split<;>decide
      exact⟨this,this⟩
    |false=>exact ser_sz he hb
end Go.Q
namespace Go.Q
open Go.Proofs
set_option maxRecDepth 100000
set_option maxHeartbeats 8000000
theorem Right_spec {h0 h:PH} [Le h0 h] {v w:Value} {x y:Rat} (hx:Cn h0 v x) (hy:Qr h0 w y) (bx:sz x≤2^30) (by_:sz y≤2^30):Spec mach 36 #[v,w] h (fun r _=>r=.bool (decide (x=y))) NP:=by
  have kC:=fun {h} [Le h0 h]=>Canonical_cn (h:=h) hx bx
  have hw:=hx.rw bx
  have kO:=fun {h} [Le h0 h]=>QOf_spec (h:=h) hw
  rw[qof_cn] at kO
  have e3:(cmpQ x y == 0)=decide (x=y):=by unfold cmpQ;grind
  obtain⟨_,_,_,_,_,_,_,rfl,_⟩:=hx.sa
  have hy0:=hy
  obtain⟨_,_,_,_,_,_,_,rfl,_⟩:=hy.sl
  refine Spec.go [(1,.o [0,1,2,3,5,4,6,7,8,9])] Tryz.func36 rfl rfl (by kernel_rfl) fun C _=>?_
  try simp(disch:=omega) only[go_sem,Nat.reduceBEq,Nat.reduceAdd]
  refine caN (by exact kC) ?_;rintro v1 h1 s1 rfl
  try simp(disch:=omega) only[go_sem,Nat.reduceBEq,Nat.reduceAdd]
  refine caN (by exact kO) ?_;rintro v2 h2 s2 q2;have q2':=q2;obtain⟨_,_,_,_,_,_,_,rfl,_⟩:=q2'.sl
  try simp(disch:=omega) only[go_sem,Nat.reduceBEq,Nat.reduceAdd]
  refine caN (by exact QCmp_spec q2 (hy0.to (h':=h2)) (Nat.le_trans bx (by decide)) (Nat.le_trans by_ (by decide))) ?_;rintro v3 h3 s3 rfl
  try simp(disch:=omega) only[go_sem,Nat.reduceBEq,Nat.reduceAdd,e3]
end Go.Q
namespace Go.Q
open Go.Proofs
set_option maxRecDepth 100000
set_option maxHeartbeats 8000000
def brE (fn:Int) (x:Rat) (p:Int):Int:=if 2048 < sz x then 1 else elE fn x p
def brL (fn:Int) (x:Rat) (p:Int):Rat:=if 2048 < sz x then 0 else elL fn x p
def brH (fn:Int) (x:Rat) (p:Int):Rat:=if 2048 < sz x then 0 else elH fn x p
theorem QOf_can {h0 h:PH} [Le h0 h] {v:Value} {x:Rat} (hv:Cn h0 v x) (bx:sz x≤2^30):Spec mach 9 #[v] h (fun v h'=>Qr h' v x) NP:=by
  have:=QOf_spec (h:=h) (hv.rw bx)
  rw[qof_cn] at this
  exact this
end Go.Q
namespace Go.Q
set_option maxRecDepth 100000
set_option maxHeartbeats 4000000
theorem br_p {fn:Int} {x:Rat} {p:Int} (h:brE fn x p=0):sz x≤1024∧0≤p∧p≤128:=by
  unfold brE at h
  split at h
  · cases h
  · unfold elE at h
    by_cases he:eErr fn x p=0
    · have:=eErr_p he;omega
    · rw[if_pos he] at h;exact absurd h he
theorem br_ser {fn:Int} {x:Rat} {p:Int} (h:brE fn x p=0):brL fn x p=(if exB fn x=true then exV fn x else serL fn x p.toNat)∧brH fn x p=(if exB fn x=true then exV fn x else serH fn x p.toNat):=by
  have b:=br_p h
  unfold brE at h
  rw[if_neg (by omega)] at h
  have n1:¬2048 < sz x:=by omega
  constructor
  · show(if 2048 < sz x then 0 else elL fn x p)=_
    rw[if_neg n1]
    show(if elE fn x p≠0 then 0 else if exB fn x=true then exV fn x else serL fn x p.toNat)=_
    rw[if_neg (fun c=>c h)]
  · show(if 2048 < sz x then 0 else elH fn x p)=_
    rw[if_neg n1]
    show(if elE fn x p≠0 then 0 else if exB fn x=true then exV fn x else serH fn x p.toNat)=_
    rw[if_neg (fun c=>c h)]
end Go.Q
namespace Go.Q
set_option maxRecDepth 100000
set_option maxHeartbeats 4000000
theorem cdiv_ge {a d k:Nat} (hd:d≠0) (h:d*k≤a):k≤cdiv a d:=by
  have h1:k=d*k / d:=(Nat.mul_div_cancel_left _ (Nat.pos_of_ne_zero hd)).symm
  rw[h1]
  exact Nat.le_trans (Nat.div_le_div_right h) (le_cdiv a hd)
theorem div_cdiv {a b d:Nat} (hd:d≠0) (h:a≤b):a / d≤cdiv b d:=Nat.le_trans (Nat.div_le_div_right h) (le_cdiv b hd)
theorem glo_ghi (x:Rat) (w:Nat):glo x w≤ghi x w:=div_cdiv x.den_nz (Nat.le_refl _)
end Go.Q
