/-
  What tan returns: the walk. Conditions: the number's absolute value is at most 2^32, of at most 1024 binary digits; the precision is at most 128.
  What Apply and the functions of their own names return, for every function, number and precision. Conditions: the argument is a number as it comes in.
  The brackets of a number and of its opposite: no program. Conditions: the numbers of quarter turns are opposite (no tie).
  The sizes of the brackets' ends: no program. Conditions: eErr tells no error.
  The statements' helper right; the reference's domains and exact values. Conditions: the values are numbers (Cn, Qr).
  The bracket of a function as the statements read it (bracket), for every number. Conditions: the number has at most 2^35 binary digits.
  The brackets that Apply returns at a number and at its opposite: no program. Conditions: a function of sine, cosine, tangent, arcsine, arctangent; of the first three: no tie.
  The exponentials of a number and of its opposite; their order: no program. Conditions: as Apply's.
  Roots of numbers on a grid, plain: their signs, when they are exact, their order. Conditions: the index is not 0.
  The series of the arctangent on a grid lies on both sides of its exact sum, which rises: no program. Conditions: the numbers are at most 1.
  The brackets of the arctangent and of halved angles keep the order: no program. Conditions: the numbers are at most 1 of the grid.
  Sixteen times the lower arctangent of a sixteenth of a turn at most pi's upper bound (by computation): no program. Conditions: the working precision is from 32 to 160.
  The brackets of arctangent, arcsine and arccosine keep the order: no program. Conditions: the functions' domains; precisions up to 128.
  The brackets of logarithm and exponential keep the order: no program. Conditions: the functions' domains.
  The brackets of the functions that rise, and of the arccosine, keep the order: no program. Conditions: both numbers have a bracket.
-/
import Derived.Test.YtebhjmnnjoijcaaGreatDoorK01b216PkF
import Derived.Test.YtebhjmnnjoijcaaGreatDoorK477759PkO
import Derived.Test.YtebhjmnnjoijcaaGreatDoorK8b1465PkN
import Derived.Test.YtebhjmnnjoijcaaGreatDoorKcdd313PkL
import Derived.Test.YtebhjmnnjoijcaaGreatDoorK971113PkK
set_option linter.unusedVariables false
set_option linter.unusedSimpArgs false
open Nat (reduceAdd)
namespace Go.Q
open Go.Proofs
set_option maxRecDepth 100000
set_option maxHeartbeats 16000000
theorem pA:Int.toNat 1=1∧(∀n:Nat,0*n=0)∧(∀n:Nat,1*n=n)∧(∀n:Nat,0+n=n)∧(∀(a b:Value) (l:List Value),(a :: l).set 0 b=b :: l)∧(∀(a b:Value) (l:List Value) (i:Nat),(a :: l).set (i+1) b=a :: l.set i b):=
  ⟨rfl,Nat.zero_mul,Nat.one_mul,Nat.zero_add,fun _ _ _=>rfl,fun _ _ _ _=>rfl⟩
theorem ym {x y:Rat} {m:Nat} (e:m=0↔x=0):(x≤0∧0≤y)↔((decide (x.num < 0)=true∨decide ((m:Int) > 0)=false)∧decide (y.num < 0)=false):=by
  have h1:=num_neg (x:=x)
  have h2:=num_neg (x:=y)
  simp only[decide_eq_true_eq,decide_eq_false_iff_not,num_neg]
  constructor
  · rintro⟨a,b⟩
    refine⟨?_,by grind⟩
    by_cases c:x < 0
    · exact .inl c
    · have:x=0:=by grind
      exact .inr (by have:=e.2 this;omega)
  · rintro⟨a |a,b⟩
    · exact⟨by grind,by grind⟩
    · have:x=0:=e.1 (by omega)
      exact⟨by grind,by grind⟩
theorem ETan_no {h0 h:PH} [Le h0 h] {v:Value} {x:Rat} {p:Nat} (hx:Cn h0 v x) (bx:sz x≤1024) (hb:¬x.den*4294967296 < x.num.natAbs) (hp:p≤128) (hq:coL x (p+64)≤0∧0≤coH x (p+64)):Spec mach 33 #[v,.int .i64 p] h (fun r h'=>Ber h' r 20 0 0) NP:=by
  have kB:=fun {h} [Le h0 h]=>oN (h:=h) (w:=p+64) hx bx hb (by omega) (by omega)
  obtain⟨_,_,_,_,_,_,_,rfl,_⟩:=hx.sa
  clear hb bx hx
  refine Spec.go [(6,.h [] [(9,11)] [2,3] [2,3,0,1,4,5])] Tryz.func33 rfl rfl (by kernel_rfl) fun C _=>?_
  try simp(maxSteps:=999999) (disch:=omega) only[go_sem,Nat.reduceBEq,reduceAdd,pA]
  refine caN (by exact kB) ?_;rintro v1 h1 s1 ⟨u,t,rfl,q1,q2⟩;obtain⟨_,_,_,_,_,_,_,_,_,_,_,_,_,_,rfl,q1⟩:=q1.sp;obtain⟨d1,e1,n1,c1,e2,n2,c2,d2,e3,n3,c3,e4,n4,c4,rfl,k1,k2⟩:=q2
  try simp(maxSteps:=999999) (disch:=omega) only[go_sem,Nat.reduceBEq,reduceAdd,pA]
  obtain⟨_,_,_,_,_,_,e,_,_,ea,_⟩:=k1.parts
  cases e
  obtain⟨_,_,_,_,_,_,e,_,_,_,_⟩:=k2.parts
  cases e
  obtain⟨hs,hy⟩:=(ym ea).1 hq
  clear hq
  cases ha:decide ((coL x (p+64)).num < 0) with
  | true=>
    try simp(maxSteps:=999999) (disch:=omega) only[go_sem,Nat.reduceBEq,reduceAdd,ha,hy,pA]
    exact Ber.no _ _
  | false=>
    have hs:=hs.resolve_left (by rw[ha];decide)
    try simp(maxSteps:=999999) (disch:=omega) only[go_sem,Nat.reduceBEq,reduceAdd,ha,hy,hs,pA]
    exact Ber.no _ _
theorem ETan_ok {h0 h:PH} [Le h0 h] {v:Value} {x:Rat} {p:Nat} (hx:Cn h0 v x) (bx:sz x≤1024) (hb:¬x.den*4294967296 < x.num.natAbs) (hp:p≤128) (hq:¬(coL x (p+64)≤0∧0≤coH x (p+64))):Spec mach 33 #[v,.int .i64 p] h (fun r h'=>Ber h' r 0 (gdown (tqL x (p+64) 3) p) (gup (tqH x (p+64) 3) p)) NP:=by
  have kB:=fun {h} [Le h0 h]=>oN (h:=h) (w:=p+64) hx bx hb (by omega) (by omega)
  obtain⟨z1,z2,z3,z4⟩:=sc_sz (w:=p+64) hb (by omega) (by omega)
  obtain⟨n1',n2'⟩:=co_ne (w:=p+64) (by omega) (by omega) hb hq
  have zq:=tq_sz (x:=x) (w:=p+64) hb (by omega) (by omega)
  have zL:=fun n=>(BV (x:=x) (w:=p+64) hb (by omega) (by omega) n).1
  have zH:=fun n=>(BV (x:=x) (w:=p+64) hb (by omega) (by omega) n).2
  have y1:=sz_gd (tqL x (p+64) 3) p
  have y2:=sz_gu (tqH x (p+64) 3) p
  have zq:∀n,sz (tq x (p+64) n)≤2048:=fun n=>by have:=zq n;omega
  have y3:=zL 3
  have y4:=zH 3
  have zL:∀n,sz (tqL x (p+64) n)≤2048:=fun n=>by have:=zL n;omega
  have zH:∀n,sz (tqH x (p+64) n)≤2048:=fun n=>by have:=zH n;omega
  have z1:sz (siL x (p+64))≤2048:=by omega
  have z2:sz (siH x (p+64))≤2048:=by omega
  have z3:sz (coL x (p+64))≤2048:=by omega
  have z4:sz (coH x (p+64))≤2048:=by omega
  have y5:sz (gdown (tqL x (p+64) 3) p)≤2048:=by omega
  have y6:sz (gup (tqH x (p+64) 3) p)≤2048:=by omega
  have L1:∀n,tq x (p+64) (n+1) < tqL x (p+64) n→tqL x (p+64) (n+1)=tq x (p+64) (n+1):=fun n h=>if_pos h
  have L2:∀n,¬tq x (p+64) (n+1) < tqL x (p+64) n→tqL x (p+64) (n+1)=tqL x (p+64) n:=fun n h=>if_neg h
  have H1:∀n,tqH x (p+64) n < tq x (p+64) (n+1)→tqH x (p+64) (n+1)=tq x (p+64) (n+1):=fun n h=>if_pos h
  have H2:∀n,¬tqH x (p+64) n < tq x (p+64) (n+1)→tqH x (p+64) (n+1)=tqH x (p+64) n:=fun n h=>if_neg h
  have e0:siL x (p+64)*(coL x (p+64))⁻¹=tq x (p+64) 0:=rfl
  have e1:siL x (p+64)*(coH x (p+64))⁻¹=tq x (p+64) 1:=rfl
  have e2:siH x (p+64)*(coL x (p+64))⁻¹=tq x (p+64) 2:=rfl
  have e3:siH x (p+64)*(coH x (p+64))⁻¹=tq x (p+64) 3:=rfl
  have b0:tqL x (p+64) 0=tq x (p+64) 0:=rfl
  have b1:tqH x (p+64) 0=tq x (p+64) 0:=rfl
  generalize tqL x (p+64)=TL at*
  generalize tqH x (p+64)=TH at*
  generalize tq x (p+64)=T at*
  obtain⟨_,_,_,_,_,_,_,rfl,_⟩:=hx.sa
  clear hb bx hx y1 y2 y3 y4
  refine Spec.go [(6,.h [] [(9,11)] [2,3] [2,3,0,1,4,5])] Tryz.func33 rfl rfl (by kernel_rfl) fun C _=>?_
  try simp(maxSteps:=999999) (disch:=omega) only[go_sem,Nat.reduceBEq,reduceAdd,pA]
  refine caN (by exact kB) ?_;rintro v1 h1 s1 ⟨u,t,rfl,q1,q2⟩;obtain⟨a1,a2,a3,a4,a5,a6,a7,a8,a9,a10,a11,a12,a13,a14,rfl,k1,k2⟩:=q1;obtain⟨d1,f1,n1,c1,f2,n2,c2,d2,f3,n3,c3,f4,n4,c4,rfl,k3,k4⟩:=q2
  try simp(maxSteps:=999999) (disch:=omega) only[go_sem,Nat.reduceBEq,reduceAdd,pA]
  obtain⟨_,_,_,_,_,_,e,_,_,ea,_⟩:=k3.parts
  cases e
  obtain⟨_,_,_,_,_,_,e,_,_,_,_⟩:=k4.parts
  cases e
  have hn:=fun c=>hq ((ym ea).2 c)
  clear hq
  generalize siL x (p+64)=sL at*
  generalize siH x (p+64)=sH at*
  generalize coL x (p+64)=cL at*
  generalize coH x (p+64)=cH at*
  have kD:=fun {h} [Le h1 h]=>o6 (h:=h) (Rv.of k1 z1) (Rv.of k3 z3) n1'
  have kD1:=fun {h} [Le h1 h]=>o6 (h:=h) (Rv.of k1 z1) (Rv.of k4 z4) n2'
  have kD2:=fun {h} [Le h1 h]=>o6 (h:=h) (Rv.of k2 z2) (Rv.of k3 z3) n1'
  have kD3:=fun {h} [Le h1 h]=>o6 (h:=h) (Rv.of k2 z2) (Rv.of k4 z4) n2'
  rw[e0] at kD
  rw[e1] at kD1
  rw[e2] at kD2
  rw[e3] at kD3
  clear e0 e1 e2 e3 z1 z2 z3 z4 n1' n2' kB k1 k2 k3 k4
  have br:(decide (cL.num < 0)=true∧(0:Nat)=0∧decide (cH.num < 0)=true)∨(decide (cL.num < 0)=false∧decide ((n1:Int) > 0)=true)∨(decide (cL.num < 0)=false∧decide ((n1:Int) > 0)=false∧decide (cH.num < 0)=true):=by
    cases h1:decide (cL.num < 0)<;>cases h2:decide ((n1:Int) > 0)<;>cases h3:decide (cH.num < 0)<;>first |exact .inl ⟨rfl,rfl,rfl⟩ |exact .inr (.inl ⟨rfl,rfl⟩) |exact .inr (.inr ⟨rfl,rfl,rfl⟩) |exact(hn ⟨.inl h1,h3⟩).elim |exact(hn ⟨.inr h2,h3⟩).elim
  clear hn
  generalize decide (cL.num < 0)=sc at*
  generalize decide (cH.num < 0)=sd at*
  obtain⟨sc',hsc⟩:∃b,b=sc:=⟨_,rfl⟩
  obtain⟨sd',hsd⟩:∃b,b=sd:=⟨_,rfl⟩
  have d1:∀i,(decide (cmpQ (T (i+1)) (TL i) < 0)=true∧TL (i+1)=T (i+1))∨(decide (cmpQ (T (i+1)) (TL i) < 0)=false∧TL (i+1)=TL i):=fun i=>by rw[cmpQ_lt0];by_cases w:T (i+1) < TL i;exact .inl ⟨decide_eq_true w,L1 i w⟩;exact .inr ⟨decide_eq_false w,L2 i w⟩
  have d2:∀i,(decide (cmpQ (T (i+1)) (TH i) > 0)=true∧TH (i+1)=T (i+1))∨(decide (cmpQ (T (i+1)) (TH i) > 0)=false∧TH (i+1)=TH i):=fun i=>by rw[cmpQ_gt0];by_cases w:TH i < T (i+1);exact .inl ⟨decide_eq_true w,H1 i w⟩;exact .inr ⟨decide_eq_false w,H2 i w⟩
  clear L1 L2 H1 H2
  rcases br with⟨rfl,hm,rfl⟩ |⟨rfl,hm⟩ |⟨rfl,hm,rfl⟩
  all_goals
    try simp(maxSteps:=999999) (disch:=omega) only[go_sem,Nat.reduceBEq,reduceAdd,hm,pA]
    refine caN (by exact kD) ?_;rintro v2 h2 s2 p2;obtain⟨x1,x2,x3,x4,x5,x6,x7,rfl,q2⟩:=p2.ok (zq 0)
    try simp(maxSteps:=999999) (disch:=omega) only[go_sem,Nat.reduceBEq,reduceAdd,pA]
    refine lp [(6,.h [] [(9,11)] [2,3] [2,3,0,1,4,5])] (fun x':(Value×Value×Value)×(Value×Value×Value)×Nat=>⟨[(1,.v (.int .i64 p)),(4,.p 1 0),(11,.p 5 0),(12,.p 6 0),(73,.s 7 0 3 3),(74,.v (.int .i64 3)),(75,.v (.int .i64 x'.2.2))],[[],[.bool false,.slice none 0 0,.slice none 0 0,.bool false,.slice none 0 0,.slice none 0 0],[],[],[],[x'.1.1,x'.1.2.1,x'.1.2.2],[x'.2.1.1,x'.2.1.2.1,x'.2.1.2.2],[.bool a1,.slice a2 a3 a4,.slice a5 a6 a7,.bool sd',.slice f3 n3 c3,.slice f4 n4 c4,.bool a8,.slice a9 a10 a11,.slice a12 a13 a14,.bool sc',.slice f1 n1 c1,.slice f2 n2 c2,.bool a8,.slice a9 a10 a11,.slice a12 a13 a14,.bool sd',.slice f3 n3 c3,.slice f4 n4 c4]]⟩) (fun x' h'=>Le h2 h'∧x'.2.2≤3∧Cn h' (.agg #[x'.1.1,x'.1.2.1,x'.1.2.2]) (TL x'.2.2)∧Cn h' (.agg #[x'.2.1.1,x'.2.1.2.1,x'.2.1.2.2]) (TH x'.2.2)) (fun x'=>3 - x'.2.2) ((.bool x1,.slice x2 x3 x4,.slice x5 x6 x7),(.bool x1,.slice x2 x3 x4,.slice x5 x6 x7),0) ?_ ⟨inferInstance,Nat.zero_le 3,by rw[b0];exact q2,by rw[b1];exact q2⟩ (by kernel_rfl) ?_
    · try simp(maxSteps:=999999) (disch:=omega) only[go_sem,Nat.reduceBEq,reduceAdd,true_or,true_and,hsc,hsd,pA]
      all_goals first |exact rfl |exact⟨rfl,.inr rfl⟩
    rintro⟨⟨l1,l2,l3⟩,⟨g1,g2,g3⟩,i⟩ h5 ⟨le5,hi,hl,hg⟩
    subst hsc
    subst hsd
    dsimp only at hi hl hg ⊢
    obtain⟨l4,l5,l6,l7,l8,l9,l10,e,hl⟩:=hl.sa
    cases e
    obtain⟨g4,g5,g6,g7,g8,g9,g10,e,hg⟩:=hg.sa
    cases e
    have le1:Le h1 h5:=Le.trn inferInstance le5
    rcases(show i=0∨i=1∨i=2∨i=3 by omega) with rfl |rfl |rfl |rfl
    · try simp(maxSteps:=999999) (disch:=omega) only[go_sem,Nat.reduceBEq,reduceAdd,pA]
      refine caN (by exact kD1) ?_;rintro v6 h6 s6 p6;obtain⟨y1,y2,y3,y4,y5,y6,y7,rfl,c6⟩:=p6.ok (zq 1)
      try simp(maxSteps:=999999) (disch:=omega) only[go_sem,Nat.reduceBEq,reduceAdd,pA]
      refine caN (by exact gY (Rv.of c6 (zq 1)) (Rv.of (hl.to (h':=h6)) (zL 0))) ?_;rintro v7 h7 s7 rfl
      try simp(maxSteps:=999999) (disch:=omega) only[go_sem,Nat.reduceBEq,reduceAdd,pA]
      rcases d1 0 with⟨w1,u1⟩ |⟨w1,u1⟩<;>rcases d2 0 with⟨w2,u2⟩ |⟨w2,u2⟩
      all_goals
        try simp(maxSteps:=999999) (disch:=omega) only[go_sem,Nat.reduceBEq,reduceAdd,w1,pA]
        refine caN (by exact gY (Rv.of (c6.to (h':=h7)) (zq 1)) (Rv.of (hg.to (h':=h7)) (zH 0))) ?_;rintro v8 h8 s8 rfl
        try simp(maxSteps:=999999) (disch:=omega) only[go_sem,Nat.reduceBEq,reduceAdd,w2,pA]
      · dsimp only[lpE];refine⟨((.bool y1,.slice y2 y3 y4,.slice y5 y6 y7),(.bool y1,.slice y2 y3 y4,.slice y5 y6 y7),1),?_,⟨Le.trn le5 inferInstance,show 1≤3 by decide,by rw[show TL 1=_ from u1];exact c6.to,by rw[show TH 1=_ from u2];exact c6.to⟩,show 3 - 1 < 3 - 0 by decide⟩
        try simp(maxSteps:=999999) (disch:=omega) only[go_sem,Nat.reduceBEq,reduceAdd,true_or,true_and,pA]
        all_goals first |exact rfl |exact⟨rfl,.inr rfl⟩
      · refine⟨((.bool y1,.slice y2 y3 y4,.slice y5 y6 y7),(.bool g4,.slice g5 g6 g7,.slice g8 g9 g10),1),?_,⟨Le.trn le5 inferInstance,show 1≤3 by decide,by rw[show TL 1=_ from u1];exact c6.to,by rw[show TH 1=_ from u2];exact hg.to⟩,show 3 - 1 < 3 - 0 by decide⟩
        try simp(maxSteps:=999999) (disch:=omega) only[go_sem,Nat.reduceBEq,reduceAdd,true_or,true_and,pA]
        all_goals first |exact rfl |exact⟨rfl,.inr rfl⟩
      · refine⟨((.bool l4,.slice l5 l6 l7,.slice l8 l9 l10),(.bool y1,.slice y2 y3 y4,.slice y5 y6 y7),1),?_,⟨Le.trn le5 inferInstance,show 1≤3 by decide,by rw[show TL 1=_ from u1];exact hl.to,by rw[show TH 1=_ from u2];exact c6.to⟩,show 3 - 1 < 3 - 0 by decide⟩
        try simp(maxSteps:=999999) (disch:=omega) only[go_sem,Nat.reduceBEq,reduceAdd,true_or,true_and,pA]
        all_goals first |exact rfl |exact⟨rfl,.inr rfl⟩
      · refine⟨((.bool l4,.slice l5 l6 l7,.slice l8 l9 l10),(.bool g4,.slice g5 g6 g7,.slice g8 g9 g10),1),?_,⟨Le.trn le5 inferInstance,show 1≤3 by decide,by rw[show TL 1=_ from u1];exact hl.to,by rw[show TH 1=_ from u2];exact hg.to⟩,show 3 - 1 < 3 - 0 by decide⟩
        try simp(maxSteps:=999999) (disch:=omega) only[go_sem,Nat.reduceBEq,reduceAdd,true_or,true_and,pA]
        all_goals first |exact rfl |exact⟨rfl,.inr rfl⟩
    · try simp(maxSteps:=999999) (disch:=omega) only[go_sem,Nat.reduceBEq,reduceAdd,pA]
      refine caN (by exact kD2) ?_;rintro v6 h6 s6 p6;obtain⟨y1,y2,y3,y4,y5,y6,y7,rfl,c6⟩:=p6.ok (zq 2)
      try simp(maxSteps:=999999) (disch:=omega) only[go_sem,Nat.reduceBEq,reduceAdd,pA]
      refine caN (by exact gY (Rv.of c6 (zq 2)) (Rv.of (hl.to (h':=h6)) (zL 1))) ?_;rintro v7 h7 s7 rfl
      try simp(maxSteps:=999999) (disch:=omega) only[go_sem,Nat.reduceBEq,reduceAdd,pA]
      rcases d1 1 with⟨w1,u1⟩ |⟨w1,u1⟩<;>rcases d2 1 with⟨w2,u2⟩ |⟨w2,u2⟩
      all_goals
        try simp(maxSteps:=999999) (disch:=omega) only[go_sem,Nat.reduceBEq,reduceAdd,w1,pA]
        refine caN (by exact gY (Rv.of (c6.to (h':=h7)) (zq 2)) (Rv.of (hg.to (h':=h7)) (zH 1))) ?_;rintro v8 h8 s8 rfl
        try simp(maxSteps:=999999) (disch:=omega) only[go_sem,Nat.reduceBEq,reduceAdd,w2,pA]
      · dsimp only[lpE];refine⟨((.bool y1,.slice y2 y3 y4,.slice y5 y6 y7),(.bool y1,.slice y2 y3 y4,.slice y5 y6 y7),2),?_,⟨Le.trn le5 inferInstance,show 2≤3 by decide,by rw[show TL 2=_ from u1];exact c6.to,by rw[show TH 2=_ from u2];exact c6.to⟩,show 3 - 2 < 3 - 1 by decide⟩
        try simp(maxSteps:=999999) (disch:=omega) only[go_sem,Nat.reduceBEq,reduceAdd,true_or,true_and,pA]
        all_goals first |exact rfl |exact⟨rfl,.inr rfl⟩
      · refine⟨((.bool y1,.slice y2 y3 y4,.slice y5 y6 y7),(.bool g4,.slice g5 g6 g7,.slice g8 g9 g10),2),?_,⟨Le.trn le5 inferInstance,show 2≤3 by decide,by rw[show TL 2=_ from u1];exact c6.to,by rw[show TH 2=_ from u2];exact hg.to⟩,show 3 - 2 < 3 - 1 by decide⟩
        try simp(maxSteps:=999999) (disch:=omega) only[go_sem,Nat.reduceBEq,reduceAdd,true_or,true_and,pA]
        all_goals first |exact rfl |exact⟨rfl,.inr rfl⟩
      · refine⟨((.bool l4,.slice l5 l6 l7,.slice l8 l9 l10),(.bool y1,.slice y2 y3 y4,.slice y5 y6 y7),2),?_,⟨Le.trn le5 inferInstance,show 2≤3 by decide,by rw[show TL 2=_ from u1];exact hl.to,by rw[show TH 2=_ from u2];exact c6.to⟩,show 3 - 2 < 3 - 1 by decide⟩
        try simp(maxSteps:=999999) (disch:=omega) only[go_sem,Nat.reduceBEq,reduceAdd,true_or,true_and,pA]
        all_goals first |exact rfl |exact⟨rfl,.inr rfl⟩
      · refine⟨((.bool l4,.slice l5 l6 l7,.slice l8 l9 l10),(.bool g4,.slice g5 g6 g7,.slice g8 g9 g10),2),?_,⟨Le.trn le5 inferInstance,show 2≤3 by decide,by rw[show TL 2=_ from u1];exact hl.to,by rw[show TH 2=_ from u2];exact hg.to⟩,show 3 - 2 < 3 - 1 by decide⟩
        try simp(maxSteps:=999999) (disch:=omega) only[go_sem,Nat.reduceBEq,reduceAdd,true_or,true_and,pA]
        all_goals first |exact rfl |exact⟨rfl,.inr rfl⟩
    · try simp(maxSteps:=999999) (disch:=omega) only[go_sem,Nat.reduceBEq,reduceAdd,pA]
      refine caN (by exact kD3) ?_;rintro v6 h6 s6 p6;obtain⟨y1,y2,y3,y4,y5,y6,y7,rfl,c6⟩:=p6.ok (zq 3)
      try simp(maxSteps:=999999) (disch:=omega) only[go_sem,Nat.reduceBEq,reduceAdd,pA]
      refine caN (by exact gY (Rv.of c6 (zq 3)) (Rv.of (hl.to (h':=h6)) (zL 2))) ?_;rintro v7 h7 s7 rfl
      try simp(maxSteps:=999999) (disch:=omega) only[go_sem,Nat.reduceBEq,reduceAdd,pA]
      rcases d1 2 with⟨w1,u1⟩ |⟨w1,u1⟩<;>rcases d2 2 with⟨w2,u2⟩ |⟨w2,u2⟩
      all_goals
        try simp(maxSteps:=999999) (disch:=omega) only[go_sem,Nat.reduceBEq,reduceAdd,w1,pA]
        refine caN (by exact gY (Rv.of (c6.to (h':=h7)) (zq 3)) (Rv.of (hg.to (h':=h7)) (zH 2))) ?_;rintro v8 h8 s8 rfl
        try simp(maxSteps:=999999) (disch:=omega) only[go_sem,Nat.reduceBEq,reduceAdd,w2,pA]
      · dsimp only[lpE];refine⟨((.bool y1,.slice y2 y3 y4,.slice y5 y6 y7),(.bool y1,.slice y2 y3 y4,.slice y5 y6 y7),3),?_,⟨Le.trn le5 inferInstance,show 3≤3 by decide,by rw[show TL 3=_ from u1];exact c6.to,by rw[show TH 3=_ from u2];exact c6.to⟩,show 3 - 3 < 3 - 2 by decide⟩
        try simp(maxSteps:=999999) (disch:=omega) only[go_sem,Nat.reduceBEq,reduceAdd,true_or,true_and,pA]
        all_goals first |exact rfl |exact⟨rfl,.inr rfl⟩
      · refine⟨((.bool y1,.slice y2 y3 y4,.slice y5 y6 y7),(.bool g4,.slice g5 g6 g7,.slice g8 g9 g10),3),?_,⟨Le.trn le5 inferInstance,show 3≤3 by decide,by rw[show TL 3=_ from u1];exact c6.to,by rw[show TH 3=_ from u2];exact hg.to⟩,show 3 - 3 < 3 - 2 by decide⟩
        try simp(maxSteps:=999999) (disch:=omega) only[go_sem,Nat.reduceBEq,reduceAdd,true_or,true_and,pA]
        all_goals first |exact rfl |exact⟨rfl,.inr rfl⟩
      · refine⟨((.bool l4,.slice l5 l6 l7,.slice l8 l9 l10),(.bool y1,.slice y2 y3 y4,.slice y5 y6 y7),3),?_,⟨Le.trn le5 inferInstance,show 3≤3 by decide,by rw[show TL 3=_ from u1];exact hl.to,by rw[show TH 3=_ from u2];exact c6.to⟩,show 3 - 3 < 3 - 2 by decide⟩
        try simp(maxSteps:=999999) (disch:=omega) only[go_sem,Nat.reduceBEq,reduceAdd,true_or,true_and,pA]
        all_goals first |exact rfl |exact⟨rfl,.inr rfl⟩
      · refine⟨((.bool l4,.slice l5 l6 l7,.slice l8 l9 l10),(.bool g4,.slice g5 g6 g7,.slice g8 g9 g10),3),?_,⟨Le.trn le5 inferInstance,show 3≤3 by decide,by rw[show TL 3=_ from u1];exact hl.to,by rw[show TH 3=_ from u2];exact hg.to⟩,show 3 - 3 < 3 - 2 by decide⟩
        try simp(maxSteps:=999999) (disch:=omega) only[go_sem,Nat.reduceBEq,reduceAdd,true_or,true_and,pA]
        all_goals first |exact rfl |exact⟨rfl,.inr rfl⟩
    · try simp(maxSteps:=999999) (disch:=omega) only[go_sem,Nat.reduceBEq,reduceAdd,pA]
      refine caN (by exact jZ (p:=p) hl hg (by omega) (zL 3) (zH 3) y5 y6) ?_;rintro v9 h9 s9 ⟨_,_,_,_,_,_,_,_,_,_,_,_,_,_,rfl,r1,r2⟩
      try simp(maxSteps:=999999) (disch:=omega) only[go_sem,Nat.reduceBEq,reduceAdd,pA]
      exact⟨_,_,_,_,_,_,_,_,_,_,_,_,_,_,rfl,r1,r2⟩
end Go.Q
namespace Go.Q
open Go.Proofs
set_option maxRecDepth 100000
set_option maxHeartbeats 8000000
def tanLo (x:Rat) (p:Nat):Rat:=gdown (tqL x (p+64) 3) p
def tanHi (x:Rat) (p:Nat):Rat:=gup (tqH x (p+64) 3) p
def pole (x:Rat) (p:Nat):Prop:=coL x (p+64)≤0∧0≤coH x (p+64)
instance (x:Rat) (p:Nat):Decidable (pole x p):=inferInstanceAs (Decidable (_∧_))
def serL (fn:Int) (x:Rat) (p:Nat):Rat:=if fn=1 then expLo x p else if fn=2 then lnLo x.num.natAbs x.den p else if fn=3 then gdown (siL x (p+64)) p else if fn=4 then gdown (coL x (p+64)) p else if fn=5 then tanLo x p else if fn=6 then fg x p else if fn=7 then acLo x p else atLo x p
def serH (fn:Int) (x:Rat) (p:Nat):Rat:=if fn=1 then expHi x p else if fn=2 then lnHi x.num.natAbs x.den p else if fn=3 then gup (siH x (p+64)) p else if fn=4 then gup (coH x (p+64)) p else if fn=5 then tanHi x p else if fn=6 then dM x p else if fn=7 then acHi x p else atHi x p
def elE (fn:Int) (x:Rat) (p:Int):Int:=if eErr fn x p≠0 then eErr fn x p else if exB fn x=true then 0 else if fn=5∧pole x p.toNat then 20 else 0
def elL (fn:Int) (x:Rat) (p:Int):Rat:=if elE fn x p≠0 then 0 else if exB fn x=true then exV fn x else serL fn x p.toNat
def elH (fn:Int) (x:Rat) (p:Int):Rat:=if elE fn x p≠0 then 0 else if exB fn x=true then exV fn x else serH fn x p.toNat
theorem Be.er {h:PH} {r:Value} {x y:Rat} (k:Be h r x y):Ber h r 0 x y:=k
theorem dw {fn:Int} {x:Rat} {p:Int} (he:eErr fn x p=0):(1≤fn∧fn≤8)∧0≤p∧p≤128∧defB fn x=true∧sz x≤1024∧(fn=1→¬x.den*64 < x.num.natAbs)∧(fn=3∨fn=4∨fn=5→¬x.den*4294967296 < x.num.natAbs):=by
  by_cases h:¬(1≤fn∧fn≤8)∨p < 0∨128 < p
  · rw[xM h] at he;cases he
  cases hd:defB fn x with
  |false=>rw[eErr_5 h hd] at he;cases he
  | true=>
    by_cases hb:1024 < sz x∨(fn=1∧x.den*64 < x.num.natAbs)∨((fn=3∨fn=4∨fn=5)∧x.den*4294967296 < x.num.natAbs)
    · rw[vX h hd hb] at he;cases he
    · refine⟨by omega,by omega,by omega,rfl,by omega,fun k c=>hb (.inr (.inl ⟨k,c⟩)),fun k c=>hb (.inr (.inr ⟨k,c⟩))⟩
theorem cM {h0 h:PH} [Le h0 h] {v:Value} {x:Rat} {fn p:Int} {g:FuncId} (hx:Rv h0 v x)
    (hg:eErr fn x p=0→exB fn x=false→∀{h0 h:PH} {a:Value} [Le h0 h],Cn h0 a x→Spec mach g #[a,.int .i64 (p.toNat:Nat)] h (fun r h'=>Ber h' r (elE fn x p) (if elE fn x p≠0 then 0 else serL fn x p.toNat) (if elE fn x p≠0 then 0 else serH fn x p.toNat)) NP):
    Spec mach 38 #[.int .i64 fn,v,.int .i64 p,.func (.func g) #[] #[]] h (fun r h'=>Ber h' r (elE fn x p) (elL fn x p) (elH fn x p)) NP:=by
  by_cases he:eErr fn x p=0
  · have hp:((p.toNat:Nat):Int)=p:=by have:=dw he;omega
    cases hb:exB fn x with
    | true=>
      have e1:elE fn x p=0:=by unfold elE;rw[if_neg (by simp[he]),if_pos hb]
      have e2:elL fn x p=exV fn x:=by unfold elL;rw[if_neg (by simp[e1]),if_pos hb]
      have e3:elH fn x p=exV fn x:=by unfold elH;rw[if_neg (by simp[e1]),if_pos hb]
      rw[e1,e2,e3]
      exact Af hx he hb
    | false=>
      have e2:elL fn x p=if elE fn x p≠0 then 0 else serL fn x p.toNat:=by unfold elL;split;rfl;rw[hb,if_neg (by decide)]
      have e3:elH fn x p=if elE fn x p≠0 then 0 else serH fn x p.toNat:=by unfold elH;split;rfl;rw[hb,if_neg (by decide)]
      rw[e2,e3]
      have hg:=@hg he hb
      rw[hp] at hg
      exact Er hx he hb hg
  · have e1:elE fn x p=eErr fn x p:=by unfold elE;rw[if_pos he]
    have e2:elL fn x p=0:=by unfold elL;rw[if_pos (by rw[e1];exact he)]
    have e3:elH fn x p=0:=by unfold elH;rw[if_pos (by rw[e1];exact he)]
    rw[e1,e2,e3]
    exact Eo hx he
theorem elE_0 {fn:Int} {x:Rat} {p:Int} (he:eErr fn x p=0) (hb:exB fn x=false) (h5:fn≠5):elE fn x p=0:=by
  unfold elE
  rw[if_neg (by simp[he]),hb,if_neg (by decide),if_neg (fun k=>h5 k.1)]
theorem ser1 {h0 h:PH} {a:Value} {x:Rat} {p:Int} (he:eErr 1 x p=0) (hb:exB 1 x=false) [Le h0 h] (c:Cn h0 a x):Spec mach 29 #[a,.int .i64 (p.toNat:Nat)] h (fun r h'=>Ber h' r (elE 1 x p) (if elE 1 x p≠0 then 0 else serL 1 x p.toNat) (if elE 1 x p≠0 then 0 else serH 1 x p.toNat)) NP:=by
  obtain⟨_,p0,p1,hd,bx,k1,_⟩:=dw he
  rw[elE_0 he hb (by decide)]
  exact yZ c bx (k1 rfl) (by omega)
theorem ser2 {h0 h:PH} {a:Value} {x:Rat} {p:Int} (he:eErr 2 x p=0) (hb:exB 2 x=false) [Le h0 h] (c:Cn h0 a x):Spec mach 30 #[a,.int .i64 (p.toNat:Nat)] h (fun r h'=>Ber h' r (elE 2 x p) (if elE 2 x p≠0 then 0 else serL 2 x p.toNat) (if elE 2 x p≠0 then 0 else serH 2 x p.toNat)) NP:=by
  obtain⟨_,p0,p1,hd,bx,_,_⟩:=dw he
  rw[elE_0 he hb (by decide)]
  have hx:0 < x:=by simpa[defB] using hd
  refine Iz c bx (fun e=>?_) (by omega)
  have:=Rat.num_eq_zero.1 (Int.natAbs_eq_zero.1 e)
  rw[this] at hx
  exact absurd hx (by decide)
theorem ser3 {h0 h:PH} {a:Value} {x:Rat} {p:Int} (he:eErr 3 x p=0) (hb:exB 3 x=false) [Le h0 h] (c:Cn h0 a x):Spec mach 31 #[a,.int .i64 (p.toNat:Nat)] h (fun r h'=>Ber h' r (elE 3 x p) (if elE 3 x p≠0 then 0 else serL 3 x p.toNat) (if elE 3 x p≠0 then 0 else serH 3 x p.toNat)) NP:=by
  obtain⟨_,p0,p1,hd,bx,_,k⟩:=dw he
  rw[elE_0 he hb (by decide)]
  exact IB c bx (k (.inl rfl)) (by omega)
theorem ser5 {h0 h:PH} {a:Value} {x:Rat} {p:Int} (he:eErr 5 x p=0) (hb:exB 5 x=false) [Le h0 h] (c:Cn h0 a x):Spec mach 33 #[a,.int .i64 (p.toNat:Nat)] h (fun r h'=>Ber h' r (elE 5 x p) (if elE 5 x p≠0 then 0 else serL 5 x p.toNat) (if elE 5 x p≠0 then 0 else serH 5 x p.toNat)) NP:=by
  obtain⟨_,p0,p1,hd,bx,_,k⟩:=dw he
  by_cases hq:pole x p.toNat
  · have e:elE 5 x p=20:=by unfold elE;rw[if_neg (by simp[he]),hb,if_neg (by decide),if_pos ⟨rfl,hq⟩]
    rw[e,if_pos (by decide)]
    exact ETan_no c bx (k (.inr (.inr rfl))) (by omega) hq
  · have e:elE 5 x p=0:=by unfold elE;rw[if_neg (by simp[he]),hb,if_neg (by decide),if_neg (fun k=>hq k.2)]
    rw[e]
    exact ETan_ok c bx (k (.inr (.inr rfl))) (by omega) hq
theorem abs_1 {x:Rat} (hd:decide (x.num.natAbs≤x.den)=true):x.num.natAbs≤x.den:=of_decide_eq_true hd
theorem ser6 {h0 h:PH} {a:Value} {x:Rat} {p:Int} (he:eErr 6 x p=0) (hb:exB 6 x=false) [Le h0 h] (c:Cn h0 a x):Spec mach 34 #[a,.int .i64 (p.toNat:Nat)] h (fun r h'=>Ber h' r (elE 6 x p) (if elE 6 x p≠0 then 0 else serL 6 x p.toNat) (if elE 6 x p≠0 then 0 else serH 6 x p.toNat)) NP:=by
  obtain⟨_,p0,p1,hd,bx,_,_⟩:=dw he
  rw[elE_0 he hb (by decide)]
  exact Es c bx (abs_1 hd) (by omega)
theorem ser8 {h0 h:PH} {a:Value} {x:Rat} {p:Int} (he:eErr 8 x p=0) (hb:exB 8 x=false) [Le h0 h] (c:Cn h0 a x):Spec mach 36 #[a,.int .i64 (p.toNat:Nat)] h (fun r h'=>Ber h' r (elE 8 x p) (if elE 8 x p≠0 then 0 else serL 8 x p.toNat) (if elE 8 x p≠0 then 0 else serH 8 x p.toNat)) NP:=by
  obtain⟨_,p0,p1,hd,bx,_,_⟩:=dw he
  rw[elE_0 he hb (by decide)]
  exact Et c bx (by omega)
theorem Ber.sp {h:PH} {r:Value} {e:Int} {x y:Rat} (k:Ber h r e x y):∃b1 a1 m1 c1 a2 m2 c2 b2 a3 m3 c3 a4 m4 c4,r=.tuple #[.agg #[.bool b1,.slice a1 m1 c1,.slice a2 m2 c2,.bool b2,.slice a3 m3 c3,.slice a4 m4 c4],.int .i64 e]∧Ber h (.tuple #[.agg #[.bool b1,.slice a1 m1 c1,.slice a2 m2 c2,.bool b2,.slice a3 m3 c3,.slice a4 m4 c4],.int .i64 e]) e x y:=by
  obtain⟨b1,a1,m1,c1,a2,m2,c2,b2,a3,m3,c3,a4,m4,c4,rfl,k1,k2⟩:=k
  exact⟨b1,a1,m1,c1,a2,m2,c2,b2,a3,m3,c3,a4,m4,c4,rfl,_,_,_,_,_,_,_,_,_,_,_,_,_,_,rfl,k1,k2⟩
theorem n7 {h0 h:PH} [Le h0 h] {v:Value} {x:Rat} {p:Int} (hx:Rv h0 v x):Spec mach 14 #[.int .i64 1,v,.int .i64 p] h (fun r h'=>Ber h' r (elE 1 x p) (elL 1 x p) (elH 1 x p)) NP:=by
  have kA:=fun {h} [Le h0 h]=>cM (h:=h) (fn:=1) (p:=p) (g:=29) hx (fun he hb {_ _ _} _ c=>ser1 he hb c)
  obtain⟨_,_,_,_,_,_,_,rfl,_⟩:=hx.sa
  refine Spec.go [] Tryz.func14 rfl rfl (by kernel_rfl) fun C _=>?_
  try simp(disch:=omega) only[go_sem,Nat.reduceBEq,reduceAdd]
  change op2 (some (Value.func (.func 29) #[] #[])) _
  try simp(disch:=omega) only[go_sem,Nat.reduceBEq,reduceAdd]
  refine caN (by exact kA) ?_;rintro v1 h1 s1 q1;obtain⟨_,_,_,_,_,_,_,_,_,_,_,_,_,_,rfl,q1⟩:=q1.sp
  try simp(disch:=omega) only[go_sem,Nat.reduceBEq,reduceAdd]
  exact q1
theorem pE {h0 h:PH} [Le h0 h] {v:Value} {x:Rat} {p:Int} (hx:Rv h0 v x):Spec mach 14 #[.int .i64 2,v,.int .i64 p] h (fun r h'=>Ber h' r (elE 2 x p) (elL 2 x p) (elH 2 x p)) NP:=by
  have kA:=fun {h} [Le h0 h]=>cM (h:=h) (fn:=2) (p:=p) (g:=30) hx (fun he hb {_ _ _} _ c=>ser2 he hb c)
  obtain⟨_,_,_,_,_,_,_,rfl,_⟩:=hx.sa
  refine Spec.go [] Tryz.func14 rfl rfl (by kernel_rfl) fun C _=>?_
  try simp(disch:=omega) only[go_sem,Nat.reduceBEq,reduceAdd]
  change op2 (some (Value.func (.func 30) #[] #[])) _
  try simp(disch:=omega) only[go_sem,Nat.reduceBEq,reduceAdd]
  refine caN (by exact kA) ?_;rintro v1 h1 s1 q1;obtain⟨_,_,_,_,_,_,_,_,_,_,_,_,_,_,rfl,q1⟩:=q1.sp
  try simp(disch:=omega) only[go_sem,Nat.reduceBEq,reduceAdd]
  exact q1
theorem n8 {h0 h:PH} [Le h0 h] {v:Value} {x:Rat} {p:Int} (hx:Rv h0 v x):Spec mach 14 #[.int .i64 3,v,.int .i64 p] h (fun r h'=>Ber h' r (elE 3 x p) (elL 3 x p) (elH 3 x p)) NP:=by
  have kA:=fun {h} [Le h0 h]=>cM (h:=h) (fn:=3) (p:=p) (g:=31) hx (fun he hb {_ _ _} _ c=>ser3 he hb c)
  obtain⟨_,_,_,_,_,_,_,rfl,_⟩:=hx.sa
  refine Spec.go [] Tryz.func14 rfl rfl (by kernel_rfl) fun C _=>?_
  try simp(disch:=omega) only[go_sem,Nat.reduceBEq,reduceAdd]
  change op2 (some (Value.func (.func 31) #[] #[])) _
  try simp(disch:=omega) only[go_sem,Nat.reduceBEq,reduceAdd]
  refine caN (by exact kA) ?_;rintro v1 h1 s1 q1;obtain⟨_,_,_,_,_,_,_,_,_,_,_,_,_,_,rfl,q1⟩:=q1.sp
  try simp(disch:=omega) only[go_sem,Nat.reduceBEq,reduceAdd]
  exact q1
theorem wM {h0 h:PH} [Le h0 h] {v:Value} {x:Rat} {p:Int} (hx:Rv h0 v x):Spec mach 14 #[.int .i64 5,v,.int .i64 p] h (fun r h'=>Ber h' r (elE 5 x p) (elL 5 x p) (elH 5 x p)) NP:=by
  have kA:=fun {h} [Le h0 h]=>cM (h:=h) (fn:=5) (p:=p) (g:=33) hx (fun he hb {_ _ _} _ c=>ser5 he hb c)
  obtain⟨_,_,_,_,_,_,_,rfl,_⟩:=hx.sa
  refine Spec.go [] Tryz.func14 rfl rfl (by kernel_rfl) fun C _=>?_
  try simp(disch:=omega) only[go_sem,Nat.reduceBEq,reduceAdd]
  change op2 (some (Value.func (.func 33) #[] #[])) _
  try simp(disch:=omega) only[go_sem,Nat.reduceBEq,reduceAdd]
  refine caN (by exact kA) ?_;rintro v1 h1 s1 q1;obtain⟨_,_,_,_,_,_,_,_,_,_,_,_,_,_,rfl,q1⟩:=q1.sp
  try simp(disch:=omega) only[go_sem,Nat.reduceBEq,reduceAdd]
  exact q1
theorem sE {h0 h:PH} [Le h0 h] {v:Value} {x:Rat} {p:Int} (hx:Rv h0 v x):Spec mach 14 #[.int .i64 6,v,.int .i64 p] h (fun r h'=>Ber h' r (elE 6 x p) (elL 6 x p) (elH 6 x p)) NP:=by
  have kA:=fun {h} [Le h0 h]=>cM (h:=h) (fn:=6) (p:=p) (g:=34) hx (fun he hb {_ _ _} _ c=>ser6 he hb c)
  obtain⟨_,_,_,_,_,_,_,rfl,_⟩:=hx.sa
  refine Spec.go [] Tryz.func14 rfl rfl (by kernel_rfl) fun C _=>?_
  try simp(disch:=omega) only[go_sem,Nat.reduceBEq,reduceAdd]
  change op2 (some (Value.func (.func 34) #[] #[])) _
  try simp(disch:=omega) only[go_sem,Nat.reduceBEq,reduceAdd]
  refine caN (by exact kA) ?_;rintro v1 h1 s1 q1;obtain⟨_,_,_,_,_,_,_,_,_,_,_,_,_,_,rfl,q1⟩:=q1.sp
  try simp(disch:=omega) only[go_sem,Nat.reduceBEq,reduceAdd]
  exact q1
theorem pF {h0 h:PH} [Le h0 h] {v:Value} {x:Rat} {p:Int} (hx:Rv h0 v x):Spec mach 14 #[.int .i64 8,v,.int .i64 p] h (fun r h'=>Ber h' r (elE 8 x p) (elL 8 x p) (elH 8 x p)) NP:=by
  have kA:=fun {h} [Le h0 h]=>cM (h:=h) (fn:=8) (p:=p) (g:=36) hx (fun he hb {_ _ _} _ c=>ser8 he hb c)
  obtain⟨_,_,_,_,_,_,_,rfl,_⟩:=hx.sa
  refine Spec.go [] Tryz.func14 rfl rfl (by kernel_rfl) fun C _=>?_
  try simp(disch:=omega) only[go_sem,Nat.reduceBEq,reduceAdd]
  change op2 (some (Value.func (.func 36) #[] #[])) _
  try simp(disch:=omega) only[go_sem,Nat.reduceBEq,reduceAdd]
  refine caN (by exact kA) ?_;rintro v1 h1 s1 q1;obtain⟨_,_,_,_,_,_,_,_,_,_,_,_,_,_,rfl,q1⟩:=q1.sp
  try simp(disch:=omega) only[go_sem,Nat.reduceBEq,reduceAdd]
  exact q1
theorem pG {h0 h:PH} [Le h0 h] {v:Value} {neg:Bool} {n d:Nat} {fn p:Int} (hv:Rw h0 v neg n d) (hl:lg neg n d):Spec mach 14 #[.int .i64 fn,v,.int .i64 p] h (fun r h'=>Ber h' r 1 0 0) NP:=by
  by_cases hf:1≤fn∧fn≤8
  · have hc:fn=1∨fn=2∨fn=3∨fn=4∨fn=5∨fn=6∨fn=7∨fn=8:=by omega
    clear hf
    have kA:=fun {h} {g:FuncId} [Le h0 h]=>iG (h:=h) (fn:=fn) (p:=p) (g:=g) hv hl
    obtain⟨_,_,_,_,_,_,_,rfl,_⟩:=hv.sa
    rcases hc with rfl |rfl |rfl |rfl |rfl |rfl |rfl |rfl
    all_goals
      refine Spec.go [] Tryz.func14 rfl rfl (by kernel_rfl) fun C _=>?_
      try simp(disch:=omega) only[go_sem,Nat.reduceBEq,reduceAdd]
    · change op2 (some (Value.func (.func 29) #[] #[])) _
      try simp(disch:=omega) only[go_sem,Nat.reduceBEq,reduceAdd]
      refine caN (by exact kA) ?_;rintro v1 h1 s1 q1;obtain⟨_,_,_,_,_,_,_,_,_,_,_,_,_,_,rfl,q1⟩:=q1.sp
      try simp(disch:=omega) only[go_sem,Nat.reduceBEq,reduceAdd]
      exact q1
    · change op2 (some (Value.func (.func 30) #[] #[])) _
      try simp(disch:=omega) only[go_sem,Nat.reduceBEq,reduceAdd]
      refine caN (by exact kA) ?_;rintro v1 h1 s1 q1;obtain⟨_,_,_,_,_,_,_,_,_,_,_,_,_,_,rfl,q1⟩:=q1.sp
      try simp(disch:=omega) only[go_sem,Nat.reduceBEq,reduceAdd]
      exact q1
    · change op2 (some (Value.func (.func 31) #[] #[])) _
      try simp(disch:=omega) only[go_sem,Nat.reduceBEq,reduceAdd]
      refine caN (by exact kA) ?_;rintro v1 h1 s1 q1;obtain⟨_,_,_,_,_,_,_,_,_,_,_,_,_,_,rfl,q1⟩:=q1.sp
      try simp(disch:=omega) only[go_sem,Nat.reduceBEq,reduceAdd]
      exact q1
    · change op2 (some (Value.func (.func 32) #[] #[])) _
      try simp(disch:=omega) only[go_sem,Nat.reduceBEq,reduceAdd]
      refine caN (by exact kA) ?_;rintro v1 h1 s1 q1;obtain⟨_,_,_,_,_,_,_,_,_,_,_,_,_,_,rfl,q1⟩:=q1.sp
      try simp(disch:=omega) only[go_sem,Nat.reduceBEq,reduceAdd]
      exact q1
    · change op2 (some (Value.func (.func 33) #[] #[])) _
      try simp(disch:=omega) only[go_sem,Nat.reduceBEq,reduceAdd]
      refine caN (by exact kA) ?_;rintro v1 h1 s1 q1;obtain⟨_,_,_,_,_,_,_,_,_,_,_,_,_,_,rfl,q1⟩:=q1.sp
      try simp(disch:=omega) only[go_sem,Nat.reduceBEq,reduceAdd]
      exact q1
    · change op2 (some (Value.func (.func 34) #[] #[])) _
      try simp(disch:=omega) only[go_sem,Nat.reduceBEq,reduceAdd]
      refine caN (by exact kA) ?_;rintro v1 h1 s1 q1;obtain⟨_,_,_,_,_,_,_,_,_,_,_,_,_,_,rfl,q1⟩:=q1.sp
      try simp(disch:=omega) only[go_sem,Nat.reduceBEq,reduceAdd]
      exact q1
    · change op2 (some (Value.func (.func 35) #[] #[])) _
      try simp(disch:=omega) only[go_sem,Nat.reduceBEq,reduceAdd]
      refine caN (by exact kA) ?_;rintro v1 h1 s1 q1;obtain⟨_,_,_,_,_,_,_,_,_,_,_,_,_,_,rfl,q1⟩:=q1.sp
      try simp(disch:=omega) only[go_sem,Nat.reduceBEq,reduceAdd]
      exact q1
    · change op2 (some (Value.func (.func 36) #[] #[])) _
      try simp(disch:=omega) only[go_sem,Nat.reduceBEq,reduceAdd]
      refine caN (by exact kA) ?_;rintro v1 h1 s1 q1;obtain⟨_,_,_,_,_,_,_,_,_,_,_,_,_,_,rfl,q1⟩:=q1.sp
      try simp(disch:=omega) only[go_sem,Nat.reduceBEq,reduceAdd]
      exact q1
  · have kK:=fun {h} [Le h0 h]=>qu (h:=h) (fn:=fn) hv hl
    obtain⟨_,_,_,_,_,_,_,rfl,_⟩:=hv.sa
    rcases Int.lt_or_le fn 1 with f1 |f1
    · refine Spec.go [] Tryz.func14 rfl rfl (by kernel_rfl) fun C _=>?_
      try simp(disch:=omega) only[go_sem,Nat.reduceBEq,reduceAdd]
      refine caN (by exact kK) ?_;rintro v1 h1 s1 rfl
      try simp(disch:=omega) only[go_sem,Nat.reduceBEq,reduceAdd]
      exact Ber.no _ _
    · have f8:fn > 8:=by omega
      refine Spec.go [] Tryz.func14 rfl rfl (by kernel_rfl) fun C _=>?_
      try simp(disch:=omega) only[go_sem,Nat.reduceBEq,reduceAdd]
      refine caN (by exact kK) ?_;rintro v1 h1 s1 rfl
      try simp(disch:=omega) only[go_sem,Nat.reduceBEq,reduceAdd]
      exact Ber.no _ _
end Go.Q
namespace Go.Q
set_option maxRecDepth 100000
set_option maxHeartbeats 4000000
theorem aN (x:Rat):(-x).num= -x.num∧(-x).den=x.den∧(-x).num.natAbs=x.num.natAbs:=⟨Rat.neg_num x,Rat.neg_den x,by rw[Rat.neg_num,Int.natAbs_neg]⟩
theorem Bt {x:Rat} (h:x≠0):decide ((-x).num < 0)=!decide (x.num < 0):=by
  have:x.num≠0:=fun e=>h (Rat.num_eq_zero.1 e)
  rw[(aN x).1]
  by_cases c:x.num < 0
  · rw[decide_eq_true c,decide_eq_false (by omega)];rfl
  · rw[decide_eq_false c,decide_eq_true (by omega)];rfl
theorem wE (b:Bool) (n d:Nat):sgn (!b) n d= -sgn b n d:=by
  cases b
  · rw[yC (!false)];simp
  · rw[yC true];simp
theorem jv (x:Rat) (w:Nat):glo (-x) w=glo x w∧ghi (-x) w=ghi x w:=by
  unfold glo ghi
  rw[(aN x).2.1,(aN x).2.2]
  exact⟨rfl,rfl⟩
theorem bk_opp (b:Bool) (n m k p:Nat):bkL (!b) n m k p= -bkH b n m k p∧bkH (!b) n m k p= -bkL b n m k p:=by
  unfold bkL bkH
  cases b<;>simp[wE,←wE]
theorem xD {x:Rat} {p:Nat} (h:x≠0):atLo (-x) p= -atHi x p∧atHi (-x) p= -atLo x p:=by
  have e1:invQ (-x)=invQ x:=by unfold invQ;rw[(aN x).2.1,(aN x).2.2]
  have e2:atA (-x) (p+32)=atA x (p+32):=by unfold atA;rw[(aN x).2.1,(aN x).2.2,e1,(jv x _).1,(jv x _).2]
  have e3:atB (-x) (p+32)=atB x (p+32):=by unfold atB;rw[(aN x).2.1,(aN x).2.2,e1,(jv x _).1,(jv x _).2]
  have e4:atK (-x)=atK x:=by unfold atK;rw[(aN x).2.1,(aN x).2.2]
  unfold atLo atHi
  rw[e2,e3,e4,Bt h]
  exact bk_opp _ _ _ _ _
theorem ux {x:Rat} {p:Nat} (h:x≠0):fg (-x) p= -dM x p∧dM (-x) p= -fg x p:=by
  have e1:abQ (-x)=abQ x:=by unfold abQ;rw[(aN x).2.1,(aN x).2.2]
  have e2:∀u w,asH u (-x) w=asH u x w:=fun u w=>by unfold asH asG asR;rw[e1]
  have e3:asL (-x) (p+32)=asL x (p+32):=by unfold asL;rw[e2,e2]
  have e4:asU (-x) (p+32)=asU x (p+32):=by unfold asU;rw[e2,e2]
  unfold fg dM
  rw[e3,e4,Bt h]
  exact bk_opp _ _ _ _ _
end Go.Q
namespace Go.Q
set_option maxRecDepth 100000
set_option maxHeartbeats 4000000
theorem mD {neg:Bool} {n p k:Nat} (h:bl n≤k) (hp:p+1≤k):sz (sgn neg n (2^p))≤k:=by
  have h1:=dg neg n (am p)
  have h2:=bC p
  omega
theorem bk_sz {neg:Bool} {a b k p m:Nat} (ha:bl a≤m) (hb:bl b≤m) (hp:p≤m):sz (bkL neg a b k p)≤m+1∧sz (bkH neg a b k p)≤m+1:=by
  have h1:=aZ a (2^k)
  have h2:=fy b (am k)
  unfold bkL bkH
  cases neg
  · exact⟨mD (by omega) (by omega),mD (by omega) (by omega)⟩
  · exact⟨mD (by omega) (by omega),mD (by omega) (by omega)⟩
theorem exp_sz {x:Rat} {p:Nat} (hb:¬x.den*64 < x.num.natAbs) (hp:p≤128):sz (expLo x p)≤2048∧sz (expHi x p)≤2048:=by
  obtain⟨f1,f2,f3,f4⟩:=AT (p:=p) hb
  unfold expLo expHi
  generalize expL x p=A at*
  generalize expH x p=B at*
  have u:=bC (p+112+p)
  have h1:=aZ (2^(p+112+p)) B
  have h2:=fy (2^(p+112+p)) f3
  have h3:=aZ A (2^112)
  have h4:=fy B (am 112)
  generalize 2^(p+112+p)=U at*
  generalize U / B=a1 at*
  generalize cdiv U A=a2 at*
  generalize A / 2^112=a3 at*
  generalize cdiv B (2^112)=a4 at*
  constructor<;>split<;>exact mD (by omega) (by omega)
theorem ln_sz {n d p:Nat} (hn:n≠0) (b1:bl n≤1024) (b2:bl d≤1024) (hp:p≤128):sz (lnLo n d p)≤2048∧sz (lnHi n d p)≤2048:=by
  obtain⟨a1,a2,_,_⟩:=Bj b1 b2
  obtain⟨l1,l2⟩:=Bl (n:=n) (d:=d) (w:=p+32) hn
  obtain⟨l3,l4⟩:=Bi (p+32)
  obtain⟨l5,l6⟩:=wh l1 l2
  obtain⟨l7,l8⟩:=wh l3 l4
  have c1:bl (lgmL n d (p+32))≤p+32+8:=lO l5
  have c2:bl (lgmH n d (p+32))≤p+32+8:=lO l6
  have c3:bl (lg2L (p+32))≤p+32+8:=lO l7
  have c4:bl (lg2H (p+32))≤p+32+8:=lO l8
  clear l1 l2 l3 l4 l5 l6 l7 l8
  generalize e1:lgmL n d (p+32)=A at*
  generalize e2:lgmH n d (p+32)=B at*
  generalize e3:lg2L (p+32)=C at*
  generalize e4:lg2H (p+32)=D at*
  by_cases he:0≤lge n d
  · obtain⟨m,hm⟩:∃m:Nat,(lge n d).toNat=m:=⟨_,rfl⟩
    have bm:bl m≤11:=bl_le.2 (by omega)
    have b14:=aG C m
    have b15:=aG D m
    have b16:=cY (C*m) A
    have b17:=cY (D*m) B
    have b18:=aZ (C*m+A) (2^32)
    have b19:=fy (D*m+B) (am 32)
    unfold lnLo lnHi
    rw[if_pos he,if_pos he,hm,e1,e2,e3,e4]
    exact⟨mD (by omega) (by omega),mD (by omega) (by omega)⟩
  · obtain⟨m,hm⟩:∃m:Nat,(0 - lge n d).toNat=m:=⟨_,rfl⟩
    have bm:bl m≤11:=bl_le.2 (by omega)
    have b14:=aG C m
    have b15:=aG D m
    have y1:=qo (a:=A) (b:=D*m) (w:=p+32) (k:=p+52) (by omega) (by omega) (by omega)
    have y2:=qo (a:=B) (b:=C*m) (w:=p+32) (k:=p+52) (by omega) (by omega) (by omega)
    unfold lnLo lnHi
    rw[if_neg he,if_neg he,hm,e1,e2,e3,e4]
    have z1:=sz_gd (sgn false A (2^(p+32))+ -sgn false (D*m) (2^(p+32))) p
    have z2:=sz_gu (sgn false B (2^(p+32))+ -sgn false (C*m) (2^(p+32))) p
    omega
theorem at_sz {x:Rat} {p:Nat} (hp:p≤128):sz (atLo x p)≤2048∧sz (atHi x p)≤2048:=by
  have key:bl (atA x (p+32))≤p+38∧bl (atB x (p+32))≤p+38:=by
    obtain⟨b1,b2⟩:=bl_pi (w:=p+32)
    unfold atA atB
    by_cases hb:x.den < x.num.natAbs
    · rw[if_pos hb,if_pos hb]
      have h1:bl (piL (p+32) - anH (glo (invQ x) (p+32)) (ghi (invQ x) (p+32)) (p+32)*2^1)≤_:=aR (Nat.sub_le _ _)
      have h2:bl (piH (p+32) - anL (glo (invQ x) (p+32)) (ghi (invQ x) (p+32)) (p+32)*2^1)≤_:=aR (Nat.sub_le _ _)
      omega
    · rw[if_neg hb,if_neg hb]
      obtain⟨l1,l2⟩:=g_le (x:=x) (w:=p+32) hb
      obtain⟨m1,m2⟩:=an_le (w:=p+32) (by omega) l1 l2
      have b3:=bl_w3 (by omega) m1
      have b4:=bl_w3 (by omega) m2
      omega
  obtain⟨k1,k2⟩:=bk_sz (neg:=decide (x.num < 0)) (k:=atK x) (p:=p) key.1 key.2 (by omega)
  exact⟨Nat.le_trans k1 (by omega),Nat.le_trans k2 (by omega)⟩
theorem as_sz {x:Rat} {p:Nat} (h:x.num.natAbs≤x.den) (hp:p≤128):sz (fg x p)≤2048∧sz (dM x p)≤2048:=by
  obtain⟨b1,b2⟩:=bl_as (w:=p+32) (by omega) h
  obtain⟨k1,k2⟩:=bk_sz (neg:=decide (x.num < 0)) (k:=32) (p:=p) b1 b2 (by omega)
  exact⟨Nat.le_trans k1 (by omega),Nat.le_trans k2 (by omega)⟩
theorem ac_sz {x:Rat} {p:Nat} (h:x.num.natAbs≤x.den) (hp:p≤128):sz (acLo x p)≤2048∧sz (acHi x p)≤2048:=by
  obtain⟨b1,b2⟩:=bl_as (w:=p+32) (by omega) h
  obtain⟨b3,b4⟩:=bl_pi (w:=p+32)
  have b5:=cu (asL x (p+32)) 1
  have b6:=cu (asU x (p+32)) 1
  unfold acLo acHi
  by_cases h0:x=0
  · rw[if_pos h0,if_pos h0]
    obtain⟨k1,k2⟩:=bk_sz (neg:=false) (k:=33) (p:=p) b3 b4 (by omega)
    exact⟨Nat.le_trans k1 (by omega),Nat.le_trans k2 (by omega)⟩
  · rw[if_neg h0,if_neg h0]
    by_cases hs:x.num < 0
    · rw[if_pos hs,if_pos hs]
      have b9:=cY (piL (p+32)) (asL x (p+32)*2^1)
      have b10:=cY (piH (p+32)) (asU x (p+32)*2^1)
      obtain⟨k1,k2⟩:=bk_sz (neg:=false) (k:=33) (p:=p) (m:=p+50) (show bl (piL (p+32)+asL x (p+32)*2^1)≤p+50 by omega) (show bl (piH (p+32)+asU x (p+32)*2^1)≤p+50 by omega) (by omega)
      exact⟨Nat.le_trans k1 (by omega),Nat.le_trans k2 (by omega)⟩
    · rw[if_neg hs,if_neg hs]
      have y1:=qo (a:=piL (p+32)) (b:=asU x (p+32)*2^1) (w:=p+32+1) (k:=p+52) (by omega) (by omega) (by omega)
      have y2:=qo (a:=piH (p+32)) (b:=asL x (p+32)*2^1) (w:=p+32+1) (k:=p+52) (by omega) (by omega) (by omega)
      have z1:=sz_gd (sgn false (piL (p+32)) (2^(p+32+1))+ -sgn false (asU x (p+32)*2^1) (2^(p+32+1))) p
      have z2:=sz_gu (sgn false (piH (p+32)) (2^(p+32+1))+ -sgn false (asL x (p+32)*2^1) (2^(p+32+1))) p
      omega
theorem g_sz {x y:Rat} {p k:Nat} (h1:sz x≤k) (h2:sz y≤k) (hk:k+2*p+2≤2048):sz (gdown x p)≤2048∧sz (gup y p)≤2048:=by
  have z1:=sz_gd x p
  have z2:=sz_gu y p
  omega
theorem ser_sz {fn:Int} {x:Rat} {p:Int} (he:eErr fn x p=0) (hb:exB fn x=false):sz (serL fn x p.toNat)≤2048∧sz (serH fn x p.toNat)≤2048:=by
  obtain⟨hf,p0,p1,hd,bx,k1,k2⟩:=dw he
  have hp:p.toNat≤128:=by omega
  generalize p.toNat=q at*
  unfold serL serH
  by_cases h1:fn=1
  · subst h1;exact exp_sz (k1 rfl) hp
  rw[if_neg h1,if_neg h1]
  by_cases h2:fn=2
  · subst h2
    rw[if_pos rfl,if_pos rfl]
    refine ln_sz (fun e=>?_) (Nat.le_trans (bG x) bx) (Nat.le_trans (bB x) bx) hp
    have hx:0 < x:=by simpa[defB] using hd
    have:=Rat.num_eq_zero.1 (Int.natAbs_eq_zero.1 e)
    rw[this] at hx
    exact absurd hx (by decide)
  rw[if_neg h2,if_neg h2]
  by_cases h3:fn=3
  · subst h3
    rw[if_pos rfl,if_pos rfl]
    obtain⟨z1,z2,_,_⟩:=sc_sz (w:=q+64) (k2 (.inl rfl)) (by omega) (by omega)
    exact g_sz z1 z2 (by omega)
  rw[if_neg h3,if_neg h3]
  by_cases h4:fn=4
  · subst h4
    rw[if_pos rfl,if_pos rfl]
    obtain⟨_,_,z1,z2⟩:=sc_sz (w:=q+64) (k2 (.inr (.inl rfl))) (by omega) (by omega)
    exact g_sz z1 z2 (by omega)
  rw[if_neg h4,if_neg h4]
  by_cases h5:fn=5
  · subst h5
    rw[if_pos rfl,if_pos rfl]
    obtain⟨z1,z2⟩:=BV (x:=x) (w:=q+64) (k2 (.inr (.inr rfl))) (by omega) (by omega) 3
    exact g_sz z1 z2 (by omega)
  rw[if_neg h5,if_neg h5]
  by_cases h6:fn=6
  · subst h6
    rw[if_pos rfl,if_pos rfl]
    exact as_sz (abs_1 hd) hp
  rw[if_neg h6,if_neg h6]
  by_cases h7:fn=7
  · subst h7
    rw[if_pos rfl,if_pos rfl]
    exact ac_sz (abs_1 hd) hp
  rw[if_neg h7,if_neg h7]
  exact at_sz hp
theorem el_sz {fn:Int} {x:Rat} {p:Int}:sz (elL fn x p)≤2048∧sz (elH fn x p)≤2048:=by
  unfold elL elH
  by_cases e:elE fn x p≠0
  · rw[if_pos e,if_pos e];decide
  · rw[if_neg e,if_neg e]
    have he:eErr fn x p=0:=by
      refine Decidable.byContradiction fun c=>e ?_
      unfold elE
      rw[if_pos c]
      exact c
    cases hb:exB fn x with
    | true=>
      simp only[if_true]
      have:sz (exV fn x)≤2048:=by unfold exV;split<;>decide
      exact⟨this,this⟩
    |false=>exact ser_sz he hb
end Go.Q
namespace Go.Q
open Go.Proofs
set_option maxRecDepth 100000
set_option maxHeartbeats 8000000
theorem dt {h0 h:PH} [Le h0 h] {v w:Value} {x y:Rat} (hx:Cn h0 v x) (hy:Qr h0 w y) (bx:sz x≤2^30) (by_:sz y≤2^30):Spec mach 15 #[v,w] h (fun r _=>r=.bool (decide (x=y))) NP:=by
  have kC:=fun {h} [Le h0 h]=>mq (h:=h) hx bx
  have hw:=hx.rw bx
  have kO:=fun {h} [Le h0 h]=>bM (h:=h) hw
  rw[jA] at kO
  have e3:(cmpQ x y == 0)=decide (x=y):=by unfold cmpQ;grind
  obtain⟨_,_,_,_,_,_,_,rfl,_⟩:=hx.sa
  have hy0:=hy
  obtain⟨_,_,_,_,_,_,_,rfl,_⟩:=hy.sl
  refine Spec.go [(1,.o [0,1,2,3,5,4,6,7,8,9])] Tryz.func15 rfl rfl (by kernel_rfl) fun C _=>?_
  try simp(disch:=omega) only[go_sem,Nat.reduceBEq,reduceAdd]
  refine caN (by exact kC) ?_;rintro v1 h1 s1 rfl
  try simp(disch:=omega) only[go_sem,Nat.reduceBEq,reduceAdd]
  refine caN (by exact kO) ?_;rintro v2 h2 s2 q2;have q2':=q2;obtain⟨_,_,_,_,_,_,_,rfl,_⟩:=q2'.sl
  try simp(disch:=omega) only[go_sem,Nat.reduceBEq,reduceAdd]
  refine caN (by exact av q2 (hy0.to (h':=h2)) (Nat.le_trans bx (by decide)) (Nat.le_trans by_ (by decide))) ?_;rintro v3 h3 s3 rfl
  try simp(disch:=omega) only[go_sem,Nat.reduceBEq,reduceAdd,e3]
theorem wS {h0 h:PH} [Le h0 h] {v:Value} {x:Rat} (hx:Qr h0 v x):Spec mach 10 #[v] h (fun v h'=>Qr h' v (sgn false x.num.natAbs x.den)) NP:=by
  obtain⟨_,_,_,_,_,_,e,rfl,k1,k2,k3⟩:=hx.sl
  obtain⟨e1,e2⟩:=rf (neg:=false) x.den_nz x.reduced
  refine Spec.go [] Tryz.func10 rfl rfl (by kernel_rfl) fun C _=>?_
  try simp(disch:=omega) only[go_sem,Nat.reduceBEq,reduceAdd]
  exact⟨_,_,e,by rw[show decide ((sgn false x.num.natAbs x.den).num < 0)=false from decide_eq_false (by rw[e1];exact Int.not_lt.2 (Int.natCast_nonneg _))],by rw[e1];exact k1.to,k2.to,by rw[e2];exact k3⟩
end Go.Q
namespace Go.Q
open Go.Proofs
set_option maxRecDepth 100000
set_option maxHeartbeats 8000000
def brE (fn:Int) (x:Rat) (p:Int):Int:=if 2048 < sz x then 1 else elE fn x p
def brL (fn:Int) (x:Rat) (p:Int):Rat:=if 2048 < sz x then 0 else elL fn x p
def brH (fn:Int) (x:Rat) (p:Int):Rat:=if 2048 < sz x then 0 else elH fn x p
theorem br_sz (fn:Int) (x:Rat) (p:Int):sz (brL fn x p)≤2048∧sz (brH fn x p)≤2048:=by
  unfold brL brH
  by_cases h:2048 < sz x
  · rw[if_pos h,if_pos h];decide
  · rw[if_neg h,if_neg h];exact el_sz
theorem len32 (n:Nat):(W 4294967296 n).length≤(bl n+31) / 32:=
  cV (by decide) (by rw[←B_pow];exact Nat.lt_of_lt_of_le (bl_le.1 (Nat.le_refl _)) (Nat.pow_le_pow_right (by decide) (by omega)))
theorem Cn.rwb {h:PH} {v:Value} {x:Rat} (r:Cn h v x) (bx:sz x≤2^35):Rw h v (decide (x.num < 0)) x.num.natAbs (if x.den=1 then 0 else x.den):=by
  obtain⟨sn,sd,rfl,h2,h3⟩:=r
  have b1:=bG x;have b2:=bB x
  have b3:bl (if x.den=1 then 0 else x.den)≤bl x.den:=aR (by split<;>omega)
  obtain⟨a,c,xs,rfl,ha,hx,hm⟩:=h2.out
  obtain⟨a',c',ys,rfl,ha',hy,hm'⟩:=h3.out
  have l1:=len32 x.num.natAbs
  have l2:=len32 (if x.den=1 then 0 else x.den)
  rw[hx] at l1
  rw[hy] at l2
  exact⟨_,_,_,_,_,_,rfl,ha,ha',hm,hm',by omega,by omega⟩
theorem Apply_cn {h0 h:PH} [Le h0 h] {v:Value} {x:Rat} {fn p:Int} (hk:∀{h0 h:PH} {w:Value} [Le h0 h],Rv h0 w x→Spec mach 14 #[.int .i64 fn,w,.int .i64 p] h (fun r h'=>Ber h' r (elE fn x p) (elL fn x p) (elH fn x p)) NP) (hx:Cn h0 v x) (bx:sz x≤2^35):Spec mach 14 #[.int .i64 fn,v,.int .i64 p] h (fun r h'=>Ber h' r (brE fn x p) (brL fn x p) (brH fn x p)) NP:=by
  unfold brE brL brH
  by_cases hs:2048 < sz x
  · rw[if_pos hs,if_pos hs,if_pos hs];exact pG (hx.rwb bx) (lg_cn.2 hs)
  · rw[if_neg hs,if_neg hs,if_neg hs];exact hk (Rv.of hx (by omega))
theorem cX {h0 h:PH} [Le h0 h] {v:Value} {x:Rat} (hv:Cn h0 v x) (bx:sz x≤2^30):Spec mach 5 #[v] h (fun v h'=>Qr h' v x) NP:=by
  have:=bM (h:=h) (hv.rw bx)
  rw[jA] at this
  exact this
def Qb (h:PH) (r:Value) (x y:Rat) (b:Bool):Prop:=∃b1 a1 m1 c1 a2 m2 c2 b2 a3 m3 c3 a4 m4 c4,r=.tuple #[.agg #[.bool b1,.slice a1 m1 c1,.slice a2 m2 c2],.agg #[.bool b2,.slice a3 m3 c3,.slice a4 m4 c4],.bool b]∧Qr h (.agg #[.bool b1,.slice a1 m1 c1,.slice a2 m2 c2]) x∧Qr h (.agg #[.bool b2,.slice a3 m3 c3,.slice a4 m4 c4]) y
theorem aH {h0 h:PH} [Le h0 h] {v:Value} {x:Rat} {fn p:Int} (hk:∀{h0 h:PH} {w:Value} [Le h0 h],Rv h0 w x→Spec mach 14 #[.int .i64 fn,w,.int .i64 p] h (fun r h'=>Ber h' r (elE fn x p) (elL fn x p) (elH fn x p)) NP) (hx:Qr h0 v x) (bx:sz x≤2^35):Spec mach 6 #[.int .i64 fn,v,.int .i64 p] h (fun r h'=>Qb h' r (brL fn x p) (brH fn x p) (decide (brE fn x p=0))) NP:=by
  obtain⟨z1,z2⟩:=br_sz fn x p
  have kA:=fun {h0 h:PH} {w:Value} [Le h0 h] (c:Cn h0 w x)=>Apply_cn (h:=h) (fn:=fn) (p:=p) hk c bx
  clear hk
  generalize brE fn x p=e at*
  generalize brL fn x p=lo at*
  generalize brH fn x p=hi at*
  have ee:(e == 0)=decide (e=0):=by rw[Bool.eq_iff_iff];simp
  obtain⟨_,_,_,_,_,_,_,rfl,hx⟩:=hx.sa
  refine Spec.go [(2,.h [] [] [] [0,1,3,4,6,7,2,5,8,9,10])] Tryz.func6 rfl rfl (by kernel_rfl) fun C _=>?_
  try simp(maxSteps:=999999) (disch:=omega) only[go_sem,Nat.reduceBEq,reduceAdd]
  refine caN (by exact cA hx (Nat.le_trans bx (by decide))) ?_;rintro v1 h1 s1 q1;obtain⟨_,_,_,_,_,_,_,rfl,q1⟩:=q1.sa
  try simp(maxSteps:=999999) (disch:=omega) only[go_sem,Nat.reduceBEq,reduceAdd]
  refine caN (by exact kA q1) ?_;rintro v2 h2 s2 q2;obtain⟨_,_,_,_,_,_,_,_,_,_,_,_,_,_,rfl,c1,c2⟩:=q2
  try simp(maxSteps:=999999) (disch:=omega) only[go_sem,Nat.reduceBEq,reduceAdd]
  refine caN (by exact cX c1 (Nat.le_trans z1 (by decide))) ?_;rintro v3 h3 s3 q3;obtain⟨_,_,_,_,_,_,_,rfl,q3⟩:=q3.sa
  try simp(maxSteps:=999999) (disch:=omega) only[go_sem,Nat.reduceBEq,reduceAdd]
  refine caN (by exact cX (c2.to (h':=h3)) (Nat.le_trans z2 (by decide))) ?_;rintro v4 h4 s4 q4;obtain⟨_,_,_,_,_,_,_,rfl,q4⟩:=q4.sa
  try simp(maxSteps:=999999) (disch:=omega) only[go_sem,Nat.reduceBEq,reduceAdd]
  rw[ee]
  exact⟨_,_,_,_,_,_,_,_,_,_,_,_,_,_,rfl,q3.to,q4⟩
end Go.Q
namespace Go.Q
set_option maxRecDepth 100000
set_option maxHeartbeats 4000000
theorem br_p {fn:Int} {x:Rat} {p:Int} (h:brE fn x p=0):sz x≤1024∧0≤p∧p≤128:=by
  unfold brE at h
  split at h
  · cases h
  · unfold elE at h
    by_cases he:eErr fn x p=0
    · have:=dw he;omega
    · rw[if_pos he] at h;exact absurd h he
theorem cC {fn:Int} {x:Rat} {p:Int} (h:brE fn x p=0):brL fn x p=(if exB fn x=true then exV fn x else serL fn x p.toNat)∧brH fn x p=(if exB fn x=true then exV fn x else serH fn x p.toNat):=by
  have b:=br_p h
  unfold brE at h
  rw[if_neg (by omega)] at h
  have n1:¬2048 < sz x:=by omega
  constructor
  · show(if 2048 < sz x then 0 else elL fn x p)=_
    rw[if_neg n1]
    show(if elE fn x p≠0 then 0 else if exB fn x=true then exV fn x else serL fn x p.toNat)=_
    rw[if_neg (fun c=>c h)]
  · show(if 2048 < sz x then 0 else elH fn x p)=_
    rw[if_neg n1]
    show(if elE fn x p≠0 then 0 else if exB fn x=true then exV fn x else serH fn x p.toNat)=_
    rw[if_neg (fun c=>c h)]
end Go.Q
namespace Go.Q
set_option maxRecDepth 100000
set_option maxHeartbeats 4000000
theorem de {a b d:Nat} (hd:d≠0) (h:a≤b):a / d≤cdiv b d:=Nat.le_trans (Nat.div_le_div_right h) (i8 b hd)
theorem dH (x:Rat) (w:Nat):glo x w≤ghi x w:=de x.den_nz (Nat.le_refl _)
end Go.Q
namespace Go.Q
theorem qk (m d:Nat):sgn true m d= -(sgn false m d):=by
  show mkRat (-(m:Int)) d= -(mkRat (m:Int) d)
  rw[Rat.neg_mkRat]
theorem pk {q:Rat} (h:0≤q):decide (q.num < 0)=false:=by
  rw[decide_eq_false_iff_not,num_neg]
  grind
theorem AJ {q:Rat} (h:q < 0):decide (q.num < 0)=true:=by
  rw[decide_eq_true_iff,num_neg]
  exact h
theorem HR (q:Rat) (n p:Nat):rtw (-q) n p=rtw q n p:=by
  unfold rtw
  rw[Rat.neg_num,Int.natAbs_neg,Rat.neg_den]
theorem rtx_neg (q:Rat) (n p:Nat):rtx (-q) n p=rtx q n p:=by
  unfold rtx
  rw[HR,Rat.neg_num,Int.natAbs_neg,Rat.neg_den]
theorem gM {q:Rat} (h:q < 0) (up:Bool) (n p:Nat):rootg up q n p= -(rootg (!up) (-q) n p):=by
  unfold rootg rtm
  rw[AJ h,pk (show 0≤ -q by grind),HR,rtx_neg,qk]
  cases up<;>rfl
theorem jB {q:Rat} (h:0≤q) (n p:Nat):rootg false q n p=sgn false (irt n (rtw q n p)) (2^p):=by
  unfold rootg rtm
  rw[pk h]
  rfl
theorem ou {q:Rat} (h:0≤q) (n p:Nat):rootg true q n p=sgn false (if rtx q n p=true then irt n (rtw q n p) else irt n (rtw q n p)+1) (2^p):=by
  unfold rootg rtm
  rw[pk h]
  cases rtx q n p<;>rfl
theorem rmul_pow (a b:Rat) (n:Nat):(a*b)^n=a^n*b^n:=by
  induction n with
  |zero=>simp
  |succ n ih=>rw[Rat.pow_succ,Rat.pow_succ,Rat.pow_succ,ih];grind
theorem qj (m:Nat) {d:Nat} (hd:d≠0):sgn false m d*(d:Rat)=(m:Rat):=by
  show mkRat (m:Int) d*(d:Rat)=_
  have h1:(d:Rat)≠0:=by exact_mod_cast hd
  rw[Rat.mkRat_eq_div]
  exact Rat.div_mul_cancel h1
theorem num_den {q:Rat} (h:0≤q):q*(q.den:Rat)=(q.num.natAbs:Rat):=by
  have h1:=DW q
  rw[pk h] at h1
  have h2:=qj q.num.natAbs (d:=q.den) q.den_nz
  rwa[h1] at h2
theorem De (m n p:Nat) (q:Rat):sgn false m (2^p)^n*((2^(p*n):Nat):Rat)*(q.den:Rat)=((m^n*q.den:Nat):Rat):=by
  have h1:=qj m (d:=2^p) (Nat.ne_of_gt (Nat.pow_pos (by decide)))
  have h2:(sgn false m (2^p)*((2^p:Nat):Rat))^n=(m:Rat)^n:=by rw[h1]
  rw[rmul_pow] at h2
  have h3:(((2^p:Nat):Rat))^n=((2^(p*n):Nat):Rat):=by rw[Nat.pow_mul];push_cast;rfl
  rw[h3] at h2
  rw[h2]
  push_cast
  rfl
theorem Dx {q:Rat} (h:0≤q) (n p:Nat):q*((2^(p*n):Nat):Rat)*(q.den:Rat)=((q.num.natAbs*2^(p*n):Nat):Rat):=by
  have h1:=num_den h
  have:q*((2^(p*n):Nat):Rat)*(q.den:Rat)=(q*(q.den:Rat))*((2^(p*n):Nat):Rat):=by grind
  rw[this,h1]
  push_cast
  rfl
theorem zW (q:Rat) (n p:Nat):(0:Rat) < ((2^(p*n):Nat):Rat)∧(0:Rat) < (q.den:Rat):=by
  have h1:0 < 2^(p*n):=Nat.pow_pos (by decide)
  have h2:0 < q.den:=Nat.pos_of_ne_zero q.den_nz
  exact⟨by exact_mod_cast h1,by exact_mod_cast h2⟩
theorem zN {a b c d:Rat} (hc:0 < c) (hd:0 < d):a*c*d≤b*c*d↔a≤b:=by
  constructor
  · intro h
    refine Decidable.byContradiction fun k=>?_
    have h1:b < a:=by grind
    have h2:=Rat.mul_lt_mul_of_pos_right h1 hc
    have h3:=Rat.mul_lt_mul_of_pos_right h2 hd
    grind
  · intro h
    have h2:=mlr h (show 0≤c by grind)
    exact mlr h2 (show 0≤d by grind)
theorem Ba {q:Rat} (h:0≤q) (m n p:Nat):sgn false m (2^p)^n≤q↔m^n*q.den≤q.num.natAbs*2^(p*n):=by
  obtain⟨h1,h2⟩:=zW q n p
  rw[←zN h1 h2,De,Dx h]
  exact_mod_cast Iff.rfl
theorem A9 {q:Rat} (h:0≤q) (m n p:Nat):q≤sgn false m (2^p)^n↔q.num.natAbs*2^(p*n)≤m^n*q.den:=by
  obtain⟨h1,h2⟩:=zW q n p
  rw[←zN h1 h2,De,Dx h]
  exact_mod_cast Iff.rfl
theorem BG (q:Rat) (n p:Nat):rtx q n p=true↔irt n (rtw q n p)^n*q.den=q.num.natAbs*2^(p*n):=by
  have hd:0 < q.den:=Nat.pos_of_ne_zero q.den_nz
  unfold rtx
  rw[Bool.and_eq_true,decide_eq_true_iff,decide_eq_true_iff]
  have hw:rtw q n p=q.num.natAbs*2^(p*n) / q.den:=rfl
  generalize irt n (rtw q n p)^n=r at*
  rw[hw]
  generalize q.num.natAbs*2^(p*n)=N at*
  have:=Nat.div_add_mod N q.den
  constructor
  · rintro⟨h1,h2⟩
    rw[h1,Nat.mul_comm];omega
  · intro h
    rw[←h]
    exact⟨(Nat.mul_div_cancel _ hd).symm,Nat.mul_mod_left ..⟩
theorem qh {q:Rat} (h:0≤q) {n:Nat} (hn:n≠0) (p:Nat):rootg false q n p^n≤q:=by
  rw[jB h,Ba h]
  have h1:=jS (n:=n) (a:=rtw q n p) hn
  have h2:rtw q n p*q.den≤q.num.natAbs*2^(p*n):=Nat.div_mul_le_self _ _
  exact Nat.le_trans (Nat.mul_le_mul_right _ h1) h2
theorem ot {q:Rat} (h:0≤q) {n:Nat} (hn:n≠0) (p:Nat):q≤rootg true q n p^n:=by
  rw[ou h,A9 h]
  cases hx:rtx q n p with
  | true=>
    have:=(BG q n p).1 hx
    simp only[if_true]
    omega
  | false=>
    simp only[Bool.false_eq_true,if_false]
    have h1:rtw q n p < (irt n (rtw q n p)+1)^n:=Decidable.byContradiction fun k=>by
      have:=jx (n:=n) (a:=rtw q n p) (j:=irt n (rtw q n p)+1) hn (by omega)
      omega
    have hd:0 < q.den:=Nat.pos_of_ne_zero q.den_nz
    have h2:q.num.natAbs*2^(p*n) < (irt n (rtw q n p)+1)^n*q.den:=by
      have hw:rtw q n p=q.num.natAbs*2^(p*n) / q.den:=rfl
      rw[hw,Nat.div_lt_iff_lt_mul hd] at h1
      exact h1
    omega
theorem cQ {q:Rat} (h:0≤q) (up:Bool) (n p:Nat):0≤rootg up q n p:=by
  unfold rootg
  rw[pk h]
  have h1:=qj (rtm up q n p) (d:=2^p) (Nat.ne_of_gt (Nat.pow_pos (by decide)))
  have h2:(0:Rat) < ((2^p:Nat):Rat):=by
    have:0 < 2^p:=Nat.pow_pos (by decide)
    exact_mod_cast this
  have h3:(0:Rat)≤((rtm up q n p:Nat):Rat):=by exact_mod_cast Nat.zero_le _
  refine Decidable.byContradiction fun k=>?_
  have h4:=Rat.mul_lt_mul_of_pos_right (show sgn false (rtm up q n p) (2^p) < 0 by grind) h2
  rw[h1,Rat.zero_mul] at h4
  grind
theorem HQ {a b:Rat} {n:Nat} (hn:n≠0) (h0:0≤a) (h:a < b):a^n < b^n:=by
  obtain⟨m,rfl⟩:∃m,n=m+1:=⟨n - 1,by omega⟩
  rw[Rat.pow_succ,Rat.pow_succ]
  have h1:=gO m h0 (show a≤b by grind)
  have h2:=mlr h1 h0
  have h3:=Rat.mul_lt_mul_of_pos_left h (Rat.pow_pos (n:=m) (show 0 < b by grind))
  grind
theorem sj {a b:Rat} (ha:0≤a) (h:a≤b) {n:Nat} (hn:n≠0) (p:Nat):rootg false a n p≤rootg true b n p:=by
  refine Decidable.byContradiction fun k=>?_
  have hb:0≤b:=Rat.le_trans ha h
  have h1:=HQ hn (cQ hb true n p) (show rootg true b n p < rootg false a n p by grind)
  have h2:=qh ha hn p
  have h3:=ot hb hn p
  grind
theorem uO {a b:Rat} (h:a≤b) {n:Nat} (hn:n≠0) (p:Nat):rootg false a n p≤rootg true b n p:=by
  by_cases ha:0≤a
  · exact sj ha h hn p
  · have e1:=gM (show a < 0 by grind) false n p
    have n1:=cQ (show 0≤ -a by grind) true n p
    have e1:rootg false a n p= -(rootg true (-a) n p):=e1
    by_cases hb:0≤b
    · have:=cQ hb true n p
      rw[e1];grind
    · have e2:rootg true b n p= -(rootg false (-b) n p):=gM (show b < 0 by grind) true n p
      have:=sj (show 0≤ -b by grind) (show -b≤ -a by grind) hn p
      rw[e1,e2];grind
end Go.Q
namespace Go.Q
set_option maxRecDepth 100000
set_option maxHeartbeats 4000000
def arcQ (t:Rat):Bool→Nat→Rat
  |false,0=>(79:Rat)⁻¹ - t*(81:Rat)⁻¹
  |true,0=>(79:Rat)⁻¹
  |false,j+1=>((77 - 2*j:Nat):Rat)⁻¹ - t*arcQ t true j
  |true,j+1=>((77 - 2*j:Nat):Rat)⁻¹ - t*arcQ t false j
theorem pg (t:Rat) (c:Bool) (j:Nat):arcQ t c (j+1)=((77 - 2*j:Nat):Rat)⁻¹ - t*arcQ t (!c) j:=by cases c<;>rfl
end Go.Q
namespace Go.Q
set_option maxRecDepth 100000
set_option maxHeartbeats 4000000
theorem dY {a d:Nat} (_:d≠0):((a / d:Nat):Rat)*(d:Rat)≤(a:Rat):=by exact_mod_cast Nat.div_mul_le_self a d
theorem cZ {a d:Nat} (hd:d≠0):(a:Rat)≤((cdiv a d:Nat):Rat)*(d:Rat):=by
  have:a≤cdiv a d*d:=by rw[Nat.mul_comm];exact(az hd).1 (Nat.le_refl _)
  exact_mod_cast this
theorem arcV_Q {w s t:Nat} {x:Rat} (hw:20≤w) (hx:0≤x) (hs:(s:Rat)≤x*((2^w:Nat):Rat)) (ht:x*((2^w:Nat):Rat)≤(t:Rat)) (ls:s≤2^w) (lt:t≤2^w):
    ∀j,j≤39→((arcV w s t false j:Nat):Rat)≤((2^w:Nat):Rat)*arcQ x false j∧((2^w:Nat):Rat)*arcQ x true j≤((arcV w s t true j:Nat):Rat)
  | 0,_=>by
    have u0:=u_pos w
    rw[EQ,vR]
    constructor
    · have h1:=dY (a:=2^w*81 - t*79) (d:=79*81) (by decide)
      have e:((2^w*81 - t*79:Nat):Rat)=((2^w:Nat):Rat)*81 - (t:Rat)*79:=by
        have:((2^w*81 - t*79:Nat):Rat)+((t*79:Nat):Rat)=((2^w*81:Nat):Rat):=by
          rw[←Rat.natCast_add];congr 1;omega
        rw[Rat.natCast_mul,Rat.natCast_mul] at this
        have c1:((79:Nat):Rat)=79:=rfl
        have c2:((81:Nat):Rat)=81:=rfl
        rw[c1,c2] at this
        generalize((2^w*81 - t*79:Nat):Rat)=z at*
        grind
      rw[e] at h1
      generalize((2^w:Nat):Rat)=u at*
      generalize(((2^w*81 - t*79) / (79*81):Nat):Rat)=V at*
      have c3:((79*81:Nat):Rat)=6399:=rfl
      rw[c3] at h1
      show V≤u*((79:Rat)⁻¹ - x*(81:Rat)⁻¹)
      have i1:(79:Rat)⁻¹=81 / 6399:=by decide+kernel
      have i2:(81:Rat)⁻¹=79 / 6399:=by decide+kernel
      rw[i1,i2]
      grind
    · have h1:=cZ (a:=2^w) (d:=79) (by decide)
      show((2^w:Nat):Rat)*(79:Rat)⁻¹≤_
      have c1:((79:Nat):Rat)=79:=rfl
      rw[c1] at h1
      have i1:(79:Rat)*(79:Rat)⁻¹=1:=by decide+kernel
      have i0:(0:Rat)≤(79:Rat)⁻¹:=by decide+kernel
      have:=mlr h1 i0
      rw[Rat.mul_assoc,i1,Rat.mul_one] at this
      exact this
  | j + 1,hj=>by
    obtain⟨h1,h2⟩:=arcV_Q hw hx hs ht ls lt j (by omega)
    obtain⟨b1,b2⟩:=sR (w:=w) (s:=s) (t:=t) (j:=j) hw ls lt (by omega)
    have u0:=u_pos w
    have hk:(77 - 2*j)*2^w≠0:=Nat.mul_ne_zero (by omega) (am w)
    have k0:(0:Rat) < ((77 - 2*j:Nat):Rat):=by exact_mod_cast (show 0 < 77 - 2*j by omega)
    have i1:((77 - 2*j:Nat):Rat)*((77 - 2*j:Nat):Rat)⁻¹=1:=Rat.mul_inv_cancel _ (by grind)
    have v1:(0:Rat)≤((arcV w s t true j:Nat):Rat):=by exact_mod_cast Nat.zero_le _
    have v2:(0:Rat)≤((arcV w s t false j:Nat):Rat):=by exact_mod_cast Nat.zero_le _
    have xu:0≤x*((2^w:Nat):Rat):=mnn hx (llt u0)
    have m1:=mlr ht v1
    have m2:=mll h2 xu
    have m3:=mlr hs v2
    have m4:=mll h1 xu
    rw[Az,vT,pg,pg]
    have c1:=dY (a:=2^w*2^w - t*arcV w s t true j*(77 - 2*j)) hk
    have c2:=cZ (a:=2^w*2^w - s*arcV w s t false j*(77 - 2*j)) hk
    have e1:((2^w*2^w - t*arcV w s t true j*(77 - 2*j):Nat):Rat)=((2^w:Nat):Rat)*((2^w:Nat):Rat) - (t:Rat)*((arcV w s t true j:Nat):Rat)*((77 - 2*j:Nat):Rat):=by
      have:((2^w*2^w - t*arcV w s t true j*(77 - 2*j):Nat):Rat)+((t*arcV w s t true j*(77 - 2*j):Nat):Rat)=((2^w*2^w:Nat):Rat):=by
        rw[←Rat.natCast_add,Nat.sub_add_cancel b1]
      rw[Rat.natCast_mul,Rat.natCast_mul,Rat.natCast_mul] at this
      generalize((2^w*2^w - t*arcV w s t true j*(77 - 2*j):Nat):Rat)=z at*
      grind
    have e2:((2^w*2^w - s*arcV w s t false j*(77 - 2*j):Nat):Rat)=((2^w:Nat):Rat)*((2^w:Nat):Rat) - (s:Rat)*((arcV w s t false j:Nat):Rat)*((77 - 2*j:Nat):Rat):=by
      have:((2^w*2^w - s*arcV w s t false j*(77 - 2*j):Nat):Rat)+((s*arcV w s t false j*(77 - 2*j):Nat):Rat)=((2^w*2^w:Nat):Rat):=by
        rw[←Rat.natCast_add,Nat.sub_add_cancel b2]
      rw[Rat.natCast_mul,Rat.natCast_mul,Rat.natCast_mul] at this
      generalize((2^w*2^w - s*arcV w s t false j*(77 - 2*j):Nat):Rat)=z at*
      grind
    rw[e1,Rat.natCast_mul (77 - 2*j)] at c1
    rw[e2,Rat.natCast_mul (77 - 2*j)] at c2
    clear e1 e2 b1 b2 hk
    generalize(((2^w*2^w - t*arcV w s t true j*(77 - 2*j)) / ((77 - 2*j)*2^w):Nat):Rat)=Z1 at*
    generalize((cdiv (2^w*2^w - s*arcV w s t false j*(77 - 2*j)) ((77 - 2*j)*2^w):Nat):Rat)=Z2 at*
    generalize((arcV w s t true j:Nat):Rat)=V at*
    generalize((arcV w s t false j:Nat):Rat)=W at*
    generalize hK:((77 - 2*j:Nat):Rat)=K at*
    generalize((2^w:Nat):Rat)=u at*
    simp only[Bool.not_false,Bool.not_true]
    generalize arcQ x true j=Q at*
    generalize arcQ x false j=R at*
    have ku:0 < K*u:=Rat.mul_pos k0 u0
    have n1:x*u*(u*Q)≤(t:Rat)*V:=Rat.le_trans m2 m1
    have n2:(s:Rat)*W≤x*u*(u*R):=Rat.le_trans m3 m4
    have n3:=mlr n1 (llt k0)
    have n4:=mlr n2 (llt k0)
    constructor
    · refine lmm (c:=K*u) ?_ ku
      have:u*(K⁻¹ - x*Q)*(K*u)=u*u*(K*K⁻¹) - x*u*(u*Q)*K:=by grind
      rw[this,i1]
      grind
    · refine lmm (c:=K*u) ?_ ku
      have:u*(K⁻¹ - x*R)*(K*u)=u*u*(K*K⁻¹) - x*u*(u*R)*K:=by grind
      rw[this,i1]
      grind
theorem grid_sq {a w:Nat}:((a:Rat) / ((2^w:Nat):Rat))^2*((2^w:Nat):Rat)*((2^w:Nat):Rat)=(a:Rat)*(a:Rat):=by
  have u0:=u_pos w
  have e:(a:Rat) / ((2^w:Nat):Rat)*((2^w:Nat):Rat)=(a:Rat):=Rat.div_mul_cancel (by grind)
  have e2:((a:Rat) / ((2^w:Nat):Rat))^2=(a:Rat) / ((2^w:Nat):Rat)*((a:Rat) / ((2^w:Nat):Rat)):=by rw[show(2:Nat)=1+1 from rfl,Rat.pow_succ,Rat.pow_one]
  rw[e2]
  generalize(a:Rat) / ((2^w:Nat):Rat)=q at*
  rw[←e]
  grind
theorem sq_in {a b c w:Nat} (h1:a≤c) (h2:c≤b):((sqL a w:Nat):Rat)≤((c:Rat) / ((2^w:Nat):Rat))^2*((2^w:Nat):Rat)∧((c:Rat) / ((2^w:Nat):Rat))^2*((2^w:Nat):Rat)≤((sqH b w:Nat):Rat):=by
  have u0:=u_pos w
  have g:=grid_sq (a:=c) (w:=w)
  have d1:=dY (a:=a*a) (d:=2^w) (am w)
  have d2:=cZ (a:=b*b) (d:=2^w) (am w)
  have l1:((a*a:Nat):Rat)≤((c*c:Nat):Rat):=by exact_mod_cast Nat.mul_le_mul h1 h1
  have l2:((c*c:Nat):Rat)≤((b*b:Nat):Rat):=by exact_mod_cast Nat.mul_le_mul h2 h2
  have ec:((c*c:Nat):Rat)=(c:Rat)*(c:Rat):=Rat.natCast_mul c c
  rw[ec,←g] at l1 l2
  unfold sqL sqH
  generalize((c:Rat) / ((2^w:Nat):Rat))^2*((2^w:Nat):Rat)=q at*
  exact⟨lmm (Rat.le_trans d1 l1) u0,lmm (Rat.le_trans l2 d2) u0⟩
theorem nQ {a b c w:Nat} (hw:20≤w) (h1:a≤c) (h2:c≤b) (lb:b≤2^w):((arcL a b w:Nat):Rat)≤(c:Rat) / ((2^w:Nat):Rat)*arcQ (((c:Rat) / ((2^w:Nat):Rat))^2) false 39*((2^w:Nat):Rat)∧(c:Rat) / ((2^w:Nat):Rat)*arcQ (((c:Rat) / ((2^w:Nat):Rat))^2) true 39*((2^w:Nat):Rat)≤((arcH a b w:Nat):Rat):=by
  have u0:=u_pos w
  obtain⟨q1,q2⟩:=sq_in (w:=w) h1 h2
  have x0:0≤(c:Rat) / ((2^w:Nat):Rat):=by
    rw[Rat.div_def]
    exact mnn (by exact_mod_cast Nat.zero_le c) (llt (Rat.inv_pos.2 u0))
  obtain⟨v1,v2⟩:=arcV_Q hw (Rat.pow_nonneg (n:=2) x0) q1 q2 (mj (Nat.le_trans h1 (Nat.le_trans h2 lb))) (jV lb) 39 (Nat.le_refl _)
  have e:(c:Rat) / ((2^w:Nat):Rat)*((2^w:Nat):Rat)=(c:Rat):=Rat.div_mul_cancel (by grind)
  have d1:=dY (a:=a*arcV w (sqL a w) (sqH b w) false 39) (d:=2^w) (am w)
  have d2:=cZ (a:=b*arcV w (sqL a w) (sqH b w) true 39) (d:=2^w) (am w)
  have l1:((a*arcV w (sqL a w) (sqH b w) false 39:Nat):Rat)≤((c*arcV w (sqL a w) (sqH b w) false 39:Nat):Rat):=by exact_mod_cast Nat.mul_le_mul_right _ h1
  have l2:((c*arcV w (sqL a w) (sqH b w) true 39:Nat):Rat)≤((b*arcV w (sqL a w) (sqH b w) true 39:Nat):Rat):=by exact_mod_cast Nat.mul_le_mul_right _ h2
  rw[Rat.natCast_mul c] at l1 l2
  unfold arcL arcH
  have c0:(0:Rat)≤(c:Rat):=by exact_mod_cast Nat.zero_le c
  have m1:=mll v1 c0
  have m2:=mll v2 c0
  generalize arcQ (((c:Rat) / ((2^w:Nat):Rat))^2) false 39=P at*
  generalize arcQ (((c:Rat) / ((2^w:Nat):Rat))^2) true 39=Q at*
  generalize(c:Rat) / ((2^w:Nat):Rat)=x at*
  refine⟨lmm (c:=((2^w:Nat):Rat)) ?_ u0,lmm (c:=((2^w:Nat):Rat)) ?_ u0⟩
  · refine Rat.le_trans (Rat.le_trans d1 l1) ?_
    generalize((2^w:Nat):Rat)=u at*
    rw[←e] at m1 ⊢
    grind
  · refine Rat.le_trans ?_ (Rat.le_trans l2 d2)
    generalize((2^w:Nat):Rat)=u at*
    rw[←e] at m2 ⊢
    grind
theorem fT {a b w:Nat} (h:a≤b):(a:Rat) / ((2^w:Nat):Rat)≤(b:Rat) / ((2^w:Nat):Rat):=by
  rw[Rat.div_def,Rat.div_def]
  exact mlr (by exact_mod_cast h) (llt (Rat.inv_pos.2 (u_pos w)))
theorem Jv (n:Nat):irt 2 n≤rtUp n:=by unfold rtUp;split<;>omega
theorem wC (n:Nat):n≤rtUp n*rtUp n:=by
  unfold rtUp
  split
  · rename_i h;rw[Nat.pow_two] at h;omega
  · refine Nat.le_of_lt (Nat.lt_of_not_le fun c=>?_)
    have:=jx (n:=2) (a:=n) (j:=irt 2 n+1) (by decide) (by rw[Nat.pow_two];exact c)
    omega
theorem rtUp_le {n r:Nat} (h:n≤r*r):rtUp n≤r:=by
  have h1:=jS (n:=2) (a:=n) (by decide)
  have h2:irt 2 n≤r:=by
    refine Nat.le_of_not_lt fun c=>?_
    have:=Nat.mul_le_mul (Nat.succ_le_of_lt c) (Nat.succ_le_of_lt c)
    rw[Nat.pow_two] at h1
    have e:(r+1)*(r+1)=r*r+2*r+1:=by rw[Nat.add_mul,Nat.mul_add];omega
    have:(r+1)*(r+1)≤irt 2 n*irt 2 n:=this
    omega
  unfold rtUp
  split
  · exact h2
  · rename_i hne
    rcases Nat.lt_or_eq_of_le h2 with c |c
    · omega
    · rw[c,Nat.pow_two] at hne h1;omega
theorem xU {a b w:Nat} (h:a≤b):hvL a w≤hvL b w:=by
  obtain⟨d,rfl⟩:=Nat.exists_eq_add_of_le h
  unfold hvL
  have hU:=Nat.pos_of_ne_zero (am w)
  have h1:=wC (2^(2*w)+a*a)
  have hp:=Nat.pos_of_ne_zero (am (2*w))
  have ra:a≤rtUp (2^(2*w)+a*a):=by
    refine Nat.le_of_not_lt fun c=>?_
    have:=Nat.mul_lt_mul'' c c
    omega
  have h2:rtUp (2^(2*w)+(a+d)*(a+d))≤rtUp (2^(2*w)+a*a)+d:=by
    refine rtUp_le ?_
    generalize rtUp (2^(2*w)+a*a)=r at*
    have e1:(r+d)*(r+d)=r*r+2*(r*d)+d*d:=by rw[Nat.add_mul,Nat.mul_add,Nat.mul_add,Nat.mul_comm d r];omega
    have e2:(a+d)*(a+d)=a*a+2*(a*d)+d*d:=by rw[Nat.add_mul,Nat.mul_add,Nat.mul_add,Nat.mul_comm d a];omega
    have:=Nat.mul_le_mul_right d ra
    omega
  generalize rtUp (2^(2*w)+a*a)=r at*
  generalize rtUp (2^(2*w)+(a+d)*(a+d))=q at*
  generalize 2^w=U at*
  refine(Nat.le_div_iff_mul_le (by omega)).2 ?_
  have c1:=Nat.div_mul_le_self (a*U) (U+r)
  have c2:a*U / (U+r)≤a*U / (U+r):=Nat.le_refl _
  have c3:a*U / (U+r)≤U:=Nat.div_le_of_le_mul (by rw[Nat.add_mul,Nat.mul_comm a U];have:=Nat.mul_le_mul_right U ra;rw[Nat.mul_comm U a];omega)
  generalize a*U / (U+r)=m at*
  have c4:m*(U+q)≤m*(U+r+d):=Nat.mul_le_mul_left _ (by omega)
  have c5:m*d≤U*d:=Nat.mul_le_mul_right _ c3
  rw[Nat.mul_add m (U+r) d] at c4
  rw[Nat.add_mul,Nat.mul_comm d U]
  omega
theorem hv_le (b w:Nat):hvL b w≤hvH b w:=by
  unfold hvL hvH
  have hU:=Nat.pos_of_ne_zero (am w)
  have h:=Jv (2^(2*w)+b*b)
  refine Nat.le_trans (Nat.div_le_div_left (Nat.add_le_add_left h _) (by omega)) (i8 _ (by omega))
theorem dN {a b w:Nat} (h:a≤b):hvL a w≤hvH b w:=Nat.le_trans (xU h) (hv_le b w)
end Go.Q
namespace Go.Q
set_option maxRecDepth 100000
set_option maxHeartbeats 4000000
end Go.Q
namespace Go.Q
set_option maxRecDepth 100000
set_option maxHeartbeats 4000000
theorem fv {x y:Rat} (hx:0≤x) (h:x≤y):x.num.natAbs*y.den≤y.num.natAbs*x.den:=by
  have h1:=(Rat.le_iff x y).1 h
  have a1:=Rat.num_nonneg.2 hx
  have a2:=Rat.num_nonneg.2 (Rat.le_trans hx h)
  have e1:((x.num.natAbs*y.den:Nat):Int)=x.num*y.den:=by rw[Int.natCast_mul,Int.natAbs_of_nonneg a1]
  have e2:((y.num.natAbs*x.den:Nat):Int)=y.num*x.den:=by rw[Int.natCast_mul,Int.natAbs_of_nonneg a2]
  omega
theorem cD (n w:Nat):0≤sgn false n (2^w):=by
  have h1:=sgn_u n w
  have u0:=u_pos w
  have h2:(0:Rat)≤(n:Rat):=by exact_mod_cast Nat.zero_le n
  rw[←h1] at h2
  refine lmm (c:=((2^w:Nat):Rat)) ?_ u0
  grind
theorem bZ {x:Rat} (h:0 < x):¬x.num < 0∧x.num.natAbs≠0:=by
  have h1:=Rat.num_nonneg.2 (llt h)
  have h2:x.num≠0:=fun c=>by have:=Rat.num_eq_zero.1 c;grind
  omega
theorem num_lt0 {x:Rat}:x.num < 0↔x < 0:=by
  have:=Rat.num_nonneg (q:=x)
  constructor
  · intro h
    refine Decidable.byContradiction fun c=>?_
    have:=this.2 (by grind)
    omega
  · intro h
    refine Int.not_le.1 fun c=>?_
    have:=this.1 c
    grind
theorem at_sign {x:Rat} {p:Nat}:(0 < x→0≤atLo x p∧0≤atHi x p)∧(x < 0→atLo x p≤0∧atHi x p≤0):=by
  have k:∀{x:Rat},0 < x→0≤atLo x p∧0≤atHi x p:=fun {x} h0=>by
    unfold atLo atHi bkL bkH
    rw[decide_eq_false (bZ h0).1,if_neg (by decide),if_neg (by decide)]
    exact⟨cD _ _,cD _ _⟩
  refine⟨k,fun h=>?_⟩
  obtain⟨a,b⟩:=k (x:=-x) (by grind)
  obtain⟨e1,e2⟩:=xD (x:=-x) (p:=p) (by grind)
  rw[Rat.neg_neg] at e1 e2
  grind
theorem fp {a b:Rat} (ha:0 < a) (h:a≤b):b⁻¹≤a⁻¹:=by
  have hb:0 < b:=by grind
  have i1:a*a⁻¹=1:=Rat.mul_inv_cancel _ (by grind)
  have i2:b*b⁻¹=1:=Rat.mul_inv_cancel _ (by grind)
  refine Rat.le_of_mul_le_mul_left (c:=a*b) ?_ (Rat.mul_pos ha hb)
  have e1:a*b*b⁻¹=a:=by rw[Rat.mul_assoc,i2,Rat.mul_one]
  have e2:a*b*a⁻¹=b:=by rw[Rat.mul_comm a b,Rat.mul_assoc,i1,Rat.mul_one]
  rw[e1,e2]
  exact h
theorem nv {x y:Rat} {w:Nat} (dx:x.num.natAbs≤x.den) (dy:y.num.natAbs≤y.den) (h:abQ x≤abQ y):asH true x w≤asH false y w:=by
  obtain⟨a0,a1⟩:=pR dx
  obtain⟨b0,b1⟩:=pR dy
  have g1:=(nS (u:=true) (w:=w) dx).1
  have g2:=(nS (u:=false) (w:=w) dy).1
  have hr:asR y≤asR x:=by
    unfold asR
    have m1:=mll h a0
    have m2:=mlr h b0
    grind
  have hg:asG false y w≤asG true x w:=uO hr (by decide) w
  have hi:=fp (a:=1+asG false y w) (b:=1+asG true x w) (by grind) (by grind)
  have i0:0≤(1+asG true x w)⁻¹:=llt (Rat.inv_pos.2 (by grind))
  unfold asH
  exact Rat.le_trans (mlr h i0) (mll hi b0)
theorem jr {x:Rat} (h:0≤x):abQ x=x:=by
  obtain⟨e1,e2⟩:=qD x
  refine Rat.ext ?_ e2
  rw[e1,Int.natAbs_of_nonneg (Rat.num_nonneg.2 h)]
theorem vP (x:Rat):abQ (-x)=abQ x:=by unfold abQ;rw[(aN x).2.1,(aN x).2.2]
theorem asin_sign {x:Rat} {p:Nat}:(0 < x→0≤fg x p∧0≤dM x p)∧(x < 0→fg x p≤0∧dM x p≤0):=by
  have k:∀{x:Rat},0 < x→0≤fg x p∧0≤dM x p:=fun {x} h0=>by
    unfold fg dM bkL bkH
    rw[decide_eq_false (bZ h0).1,if_neg (by decide),if_neg (by decide)]
    exact⟨cD _ _,cD _ _⟩
  refine⟨k,fun h=>?_⟩
  obtain⟨a,b⟩:=k (x:=-x) (by grind)
  obtain⟨e1,e2⟩:=ux (x:=-x) (p:=p) (by grind)
  rw[Rat.neg_neg] at e1 e2
  grind
theorem mK (a p:Nat):sgn false (a / 2^33) (2^p)≤sgn false a (2^(p+32+1))∧sgn false a (2^(p+32+1))≤sgn false (cdiv a (2^33)) (2^p):=by
  have e1:=sgn_u (a / 2^33) p
  have e2:=sgn_u a (p+32+1)
  have e3:=sgn_u (cdiv a (2^33)) p
  have eu:((2^(p+32+1):Nat):Rat)=((2^p:Nat):Rat)*((2^33:Nat):Rat):=by rw[←Rat.natCast_mul,←Nat.pow_add]
  have d1:((a / 2^33:Nat):Rat)*((2^33:Nat):Rat)≤(a:Rat):=dY (by decide)
  have d2:(a:Rat)≤((cdiv a (2^33):Nat):Rat)*((2^33:Nat):Rat):=cZ (by decide)
  have u0:=u_pos p
  have v0:(0:Rat) < ((2^33:Nat):Rat):=u_pos 33
  rw[←e1,←e2,eu] at d1
  rw[←e2,←e3,eu] at d2
  generalize((2^33:Nat):Rat)=v at*
  generalize((2^p:Nat):Rat)=u at*
  have uv:=Rat.mul_pos u0 v0
  exact⟨lmm (c:=u*v) (by grind) uv,lmm (c:=u*v) (by grind) uv⟩
end Go.Q
namespace Go.Q
set_option maxRecDepth 100000
set_option maxHeartbeats 4000000
theorem mX {n d:Nat} (hd:d≠0):lgn n (lge n d) < 2*lgd d (lge n d):=by
  obtain⟨d1,d2⟩:=xG hd
  have n2:n < 2^bl n:=bl_le.1 (Nat.le_refl _)
  have e2:2^bl d=2*2^(bl d - 1):=by rw[←Nat.pow_succ'];congr 1;omega
  unfold lge
  split
  · rename_i h
    unfold lgn lgd at h ⊢
    by_cases c:1≤lge0 n d
    · obtain⟨k,hk⟩:∃k:Nat,lge0 n d=k+1:=⟨(lge0 n d - 1).toNat,by omega⟩
      rw[hk] at h ⊢
      rw[show(max 0 (-((k:Int)+1))).toNat=0 by omega,show(max 0 ((k:Int)+1)).toNat=k+1 by omega,Nat.pow_zero,Nat.mul_one,Nat.pow_succ] at h
      rw[show(max 0 (-((k:Int)+1 - 1))).toNat=0 by omega,show(max 0 ((k:Int)+1 - 1)).toNat=k by omega,Nat.pow_zero,Nat.mul_one]
      rw[←Nat.mul_assoc] at h
      omega
    · obtain⟨k,hk⟩:∃k:Nat,lge0 n d= -(k:Int):=⟨(-lge0 n d).toNat,by omega⟩
      rw[hk] at h ⊢
      rw[show(max 0 (- -(k:Int))).toNat=k by omega,show(max 0 (-(k:Int))).toNat=0 by omega,Nat.pow_zero,Nat.mul_one] at h
      rw[show(max 0 (-(-(k:Int) - 1))).toNat=k+1 by omega,show(max 0 (-(k:Int) - 1)).toNat=0 by omega,Nat.pow_zero,Nat.mul_one,Nat.pow_succ,←Nat.mul_assoc]
      omega
  · unfold lgn lgd lge0
    by_cases c:bl d≤bl n
    · obtain⟨k,hk⟩:=Nat.exists_eq_add_of_le c
      rw[show(max 0 (-((bl n:Int) - bl d))).toNat=0 by omega,show(max 0 ((bl n:Int) - bl d)).toNat=k by omega,Nat.pow_zero,Nat.mul_one]
      rw[hk,Nat.pow_add,e2] at n2
      have:=Nat.mul_le_mul_right (2^k) (Nat.mul_le_mul_left 2 d2)
      rw[Nat.mul_assoc 2 d] at this
      omega
    · obtain⟨k,hk⟩:=Nat.exists_eq_add_of_le (show bl n≤bl d by omega)
      rw[show(max 0 (-((bl n:Int) - bl d))).toNat=k by omega,show(max 0 ((bl n:Int) - bl d)).toNat=0 by omega,Nat.pow_zero,Nat.mul_one]
      rw[hk,Nat.pow_add] at e2
      have:=Nat.mul_lt_mul_of_pos_right n2 (Nat.pow_pos (n:=k) (show 0 < 2 by decide))
      rw[hk] at d2
      rw[e2] at this
      omega
theorem p8 (a p:Nat):sgn false (a / 2^32) (2^p)≤sgn false a (2^(p+32))∧sgn false a (2^(p+32))≤sgn false (cdiv a (2^32)) (2^p):=by
  have e1:=sgn_u (a / 2^32) p
  have e2:=sgn_u a (p+32)
  have e3:=sgn_u (cdiv a (2^32)) p
  have eu:((2^(p+32):Nat):Rat)=((2^p:Nat):Rat)*((2^32:Nat):Rat):=by rw[←Rat.natCast_mul,←Nat.pow_add]
  have d1:((a / 2^32:Nat):Rat)*((2^32:Nat):Rat)≤(a:Rat):=dY (by decide)
  have d2:(a:Rat)≤((cdiv a (2^32):Nat):Rat)*((2^32:Nat):Rat):=cZ (by decide)
  have u0:=u_pos p
  have v0:(0:Rat) < ((2^32:Nat):Rat):=u_pos 32
  rw[←e1,←e2,eu] at d1
  rw[←e2,←e3,eu] at d2
  generalize((2^32:Nat):Rat)=v at*
  generalize((2^p:Nat):Rat)=u at*
  have uv:=Rat.mul_pos u0 v0
  exact⟨lmm (c:=u*v) (by grind) uv,lmm (c:=u*v) (by grind) uv⟩
def lnA (n d w:Nat):Rat:=if 0≤lge n d then sgn false (lg2L w*(lge n d).toNat+lgmL n d w) (2^w) else sgn false (lgmL n d w) (2^w)+ -sgn false (lg2H w*(0 - lge n d).toNat) (2^w)
def lnB (n d w:Nat):Rat:=if 0≤lge n d then sgn false (lg2H w*(lge n d).toNat+lgmH n d w) (2^w) else sgn false (lgmH n d w) (2^w)+ -sgn false (lg2L w*(0 - lge n d).toNat) (2^w)
theorem ye (n d p:Nat):lnLo n d p≤lnA n d (p+32)∧lnB n d (p+32)≤lnHi n d p:=by
  unfold lnLo lnHi lnA lnB
  by_cases h:0≤lge n d
  · simp only[if_pos h]
    exact⟨(p8 _ p).1,(p8 _ p).2⟩
  · simp only[if_neg h]
    exact⟨dV _ _,jc _ _⟩
theorem xO (x:Rat) (p:Nat):2^(p+112)≤expL x p∧2^(p+112)≤expH x p:=⟨FK (eLo_ge _ _ 40) 8,FJ (eHi_ge _ _ 40) 8⟩
end Go.Q
namespace Go.Q
set_option maxRecDepth 100000
set_option maxHeartbeats 4000000
theorem br_e {fn:Int} {x:Rat} {p:Int} (h:brE fn x p=0):eErr fn x p=0:=by
  unfold brE at h
  split at h
  · cases h
  · unfold elE at h
    refine Decidable.byContradiction fun he=>?_
    rw[if_pos he] at h
    exact he h
theorem wx {x:Rat} (h:0 < x):(x≤1→x.num.natAbs≤x.den)∧(1≤x→x.den≤x.num.natAbs):=by
  constructor
  · intro k
    have:=fv (llt h) k
    rw[show(1:Rat).num.natAbs=1 from rfl,show(1:Rat).den=1 from rfl] at this
    omega
  · intro k
    have:=fv (x:=1) (y:=x) (by decide) k
    rw[show(1:Rat).num.natAbs=1 from rfl,show(1:Rat).den=1 from rfl] at this
    omega
theorem FB {x:Rat} (h:0≤x) (e:x.num.natAbs=x.den):x=1:=by
  have h1:=Rat.num_nonneg.2 h
  have hr:x.den=1:=by
    have k:=x.reduced
    unfold Nat.Coprime at k
    rw[e,Nat.gcd_self] at k
    exact k
  refine Rat.ext ?_ (by rw[hr];rfl)
  rw[show(1:Rat).num=1 from rfl]
  omega
end Go.Q
