/-
  The reference of layer 2, and what stands on it. Conditions: each theorem's own.
-/
import Derived.Test.YtdagofmikpgjjaaGreatDoorK98c21dPkF
import Derived.Test.YtdagofmikpgjjaaGreatDoorKef6d44PkO
import Derived.Test.YtdagofmikpgjjaaGreatDoorK6ebe72PkR
import Derived.Test.YtdagofmikpgjjaaGreatDoorKc32ad1PkS
import Derived.Test.YtdagofmikpgjjaaGreatDoorK78b478PkI
import Derived.Test.YtdagofmikpgjjaaGreatDoorK5e0678PkN
set_option linter.unusedVariables false
set_option linter.unusedSimpArgs false
open Nat (reduceAdd)
namespace Go.Q
open Go.Proofs
set_option maxRecDepth 100000
set_option maxHeartbeats 8000000
theorem RRefused_spec {h0 h:PH} [Le h0 h] {v:Value} {x:Rat} {fn p:Int} (hx:Qr h0 v x) (bx:sz x≤2048):Spec mach 70 #[.int .i64 fn,v,.int .i64 p] h (fun r _=>r=.int .i64 (eErr fn x p)) NP:=by
  have kM:=fun {h} [Le h0 h]=>wS (h:=h) hx
  have kO:=fun {h} [Le h0 h]=>dh (h:=h) hx
  have kG:=fun {h} [Le h0 h]=>Ce (h:=h) hx bx
  have kD:=fun {h} [Le h0 h]=>yS (h:=h) (fn:=fn) hx bx
  rw[decide_eq_false (by omega:¬2048 < sz x)] at kO
  have bm:sz (sgn false x.num.natAbs x.den)≤2048:=by
    have:=dg false x.num.natAbs x.den_nz
    have:=bG x
    have:=bB x
    omega
  have e6:=mag_gt x 64
  have e3:=mag_gt x 4294967296
  have eg:decide (((sz x:Nat):Int) > 1024)=decide (1024 < sz x):=by rw[decide_eq_decide];omega
  have kI:∀{h:PH},Spec mach 59 #[.int .i64 4294967296] h (fun v h'=>Qr h' v ((((4294967296:Nat)):Int):Rat)) NP:=by
    intro h
    exact aF (n:=4294967296) (by decide) (by decide)
  have kJ:∀{h:PH},Spec mach 59 #[.int .i64 64] h (fun v h'=>Qr h' v ((((64:Nat)):Int):Rat)) NP:=by
    intro h
    exact aF (n:=64) (by decide) (by decide)
  have bN:sz ((((4294967296:Nat)):Int):Rat)≤2^34:=by decide
  have bM:sz ((((64:Nat)):Int):Rat)≤2^34:=by decide
  generalize((((4294967296:Nat)):Int):Rat)=N at*
  generalize((((64:Nat)):Int):Rat)=M at*
  obtain⟨D,hD⟩:∃D,D=defB fn x:=⟨_,rfl⟩
  obtain⟨G,hG⟩:∃b,b=decide (x.den*64 < x.num.natAbs):=⟨_,rfl⟩
  obtain⟨K,hK⟩:∃b,b=decide (x.den*4294967296 < x.num.natAbs):=⟨_,rfl⟩
  obtain⟨L,hL⟩:∃b,b=decide (1024 < sz x):=⟨_,rfl⟩
  have eE:eErr fn x p=if ¬(1≤fn∧fn≤8)∨p < 0∨128 < p then 2 else if D=false then 5 else if L=true∨(fn=1∧G=true)∨((fn=3∨fn=4∨fn=5)∧K=true) then 20 else 0:=by
    unfold eErr
    subst hD hL hG hK
    simp only[decide_eq_true_eq]
  rw[←hD] at kD
  rw[←hG] at e6
  rw[←hK] at e3
  rw[←hL] at eg
  clear hD hG hK hL
  generalize eErr fn x p=E at*
  generalize sgn false x.num.natAbs x.den=m at*
  obtain⟨_,_,_,_,_,_,_,rfl,hx⟩:=hx.sa
  have F:=Hid.mk (And.intro bx (And.intro bm (And.intro bN bM)));clear bx bm bN bM
  refine Spec.go [] Tryz.func70 rfl rfl (by kernel_rfl) fun C _=>?_
  try simp(maxSteps:=999999) (disch:=omega) only[go_sem,Nat.reduceBEq,reduceAdd]
  refine caN (by exact kM) ?_;rintro v1 h1 s1 q1;obtain⟨_,_,_,_,_,_,_,rfl,q1⟩:=q1.sa
  try simp(maxSteps:=999999) (disch:=omega) only[go_sem,Nat.reduceBEq,reduceAdd]
  refine caN (by exact kO) ?_;rintro v2 h2 s2 rfl
  try simp(maxSteps:=999999) (disch:=omega) only[go_sem,Nat.reduceBEq,reduceAdd]
  by_cases a1:p < 0
  · have g1:=decide_eq_true a1
    try simp(maxSteps:=999999) (disch:=omega) only[go_sem,Nat.reduceBEq,reduceAdd,g1]
    rw[eE,if_pos (by have:=F.out;omega)]
  have g1:=decide_eq_false a1
  by_cases a2:p > 128
  · have g2:=decide_eq_true a2
    try simp(maxSteps:=999999) (disch:=omega) only[go_sem,Nat.reduceBEq,reduceAdd,g1,g2]
    rw[eE,if_pos (by have:=F.out;omega)]
  have g2:=decide_eq_false a2
  by_cases a3:fn < 1
  · have g3:=decide_eq_true a3
    try simp(maxSteps:=999999) (disch:=omega) only[go_sem,Nat.reduceBEq,reduceAdd,g1,g2,g3]
    rw[eE,if_pos (by have:=F.out;omega)]
  have g3:=decide_eq_false a3
  by_cases a4:fn > 8
  · have g4:=decide_eq_true a4
    try simp(maxSteps:=999999) (disch:=omega) only[go_sem,Nat.reduceBEq,reduceAdd,g1,g2,g3,g4]
    rw[eE,if_pos (by have:=F.out;omega)]
  have g4:=decide_eq_false a4
  have n0:¬(¬(1≤fn∧fn≤8)∨p < 0∨128 < p):=by have:=F.out;omega
  try simp(maxSteps:=999999) (disch:=omega) only[go_sem,Nat.reduceBEq,reduceAdd,g1,g2,g3,g4]
  refine caN (by exact kD) ?_;rintro v3 h3 s3 rfl
  try simp(maxSteps:=999999) (disch:=omega) only[go_sem,Nat.reduceBEq,reduceAdd]
  cases D with
  | false=>
    try simp(maxSteps:=999999) (disch:=omega) only[go_sem,Nat.reduceBEq,reduceAdd]
    rw[eE,if_neg n0,if_pos rfl]
  |true=>
  try simp(maxSteps:=999999) (disch:=omega) only[go_sem,Nat.reduceBEq,reduceAdd]
  refine caN (by exact kG) ?_;rintro v4 h4 s4 rfl
  try simp(maxSteps:=999999) (disch:=omega) only[go_sem,Nat.reduceBEq,reduceAdd]
  cases L with
  | true=>
    try simp(maxSteps:=999999) (disch:=omega) only[go_sem,Nat.reduceBEq,reduceAdd,eg]
    rw[eE,if_neg n0,if_neg (by decide),if_pos (.inl rfl)]
  |false=>
  try simp(maxSteps:=999999) (disch:=omega) only[go_sem,Nat.reduceBEq,reduceAdd,eg]
  by_cases b1:fn=1
  · subst b1
    try simp(maxSteps:=999999) (disch:=omega) only[go_sem,Nat.reduceBEq,reduceAdd]
    refine caN (by exact kJ) ?_;rintro v5 h5 s5 q5;obtain⟨_,_,_,_,_,_,_,rfl,q5⟩:=q5.sa
    try simp(maxSteps:=999999) (disch:=omega) only[go_sem,Nat.reduceBEq,reduceAdd]
    refine caN (by exact av (q1.to (h':=h5)) q5 (by have:=F.out;omega) (by have:=F.out;omega)) ?_;rintro v6 h6 s6 rfl
    try simp(maxSteps:=999999) (disch:=omega) only[go_sem,Nat.reduceBEq,reduceAdd]
    cases G with
    | true=>
      try simp(maxSteps:=999999) (disch:=omega) only[go_sem,Nat.reduceBEq,reduceAdd,e6]
      rw[eE,if_neg n0,if_neg (by decide),if_pos (.inr (.inl ⟨rfl,rfl⟩))]
    |false=>
    try simp(maxSteps:=999999) (disch:=omega) only[go_sem,Nat.reduceBEq,reduceAdd,e6]
    rw[eE,if_neg n0,if_neg (by decide),if_neg (by simp)]
  have k1:(fn == 1)=false:=by simpa using b1
  try simp(maxSteps:=999999) (disch:=omega) only[go_sem,Nat.reduceBEq,reduceAdd,k1]
  by_cases b3:fn=3∨fn=4∨fn=5
  · rcases b3 with rfl |rfl |rfl
    all_goals
      try simp(maxSteps:=999999) (disch:=omega) only[go_sem,Nat.reduceBEq,reduceAdd]
      refine caN (by exact kI) ?_;rintro v5 h5 s5 q5;obtain⟨_,_,_,_,_,_,_,rfl,q5⟩:=q5.sa
      try simp(maxSteps:=999999) (disch:=omega) only[go_sem,Nat.reduceBEq,reduceAdd]
      refine caN (by exact av (q1.to (h':=h5)) q5 (by have:=F.out;omega) (by have:=F.out;omega)) ?_;rintro v6 h6 s6 rfl
      try simp(maxSteps:=999999) (disch:=omega) only[go_sem,Nat.reduceBEq,reduceAdd]
      cases K with
      | true=>
        try simp(maxSteps:=999999) (disch:=omega) only[go_sem,Nat.reduceBEq,reduceAdd,e3]
        rw[eE,if_neg n0,if_neg (by decide),if_pos (.inr (.inr ⟨by decide,rfl⟩))]
      |false=>
      try simp(maxSteps:=999999) (disch:=omega) only[go_sem,Nat.reduceBEq,reduceAdd,e3]
      rw[eE,if_neg n0,if_neg (by decide),if_neg (by simp)]
  have k3:(fn == 3)=false:=by simp;omega
  have k4:(fn == 4)=false:=by simp;omega
  have k5:(fn == 5)=false:=by simp;omega
  try simp(maxSteps:=999999) (disch:=omega) only[go_sem,Nat.reduceBEq,reduceAdd,k3,k4,k5]
  rw[eE,if_neg n0,if_neg (by decide),if_neg (by simp[b1,b3])]
def Qe (h:PH) (r:Value) (x y:Rat) (e:Int):Prop:=∃b1 a1 m1 c1 a2 m2 c2 b2 a3 m3 c3 a4 m4 c4,r=.tuple #[.agg #[.bool b1,.slice a1 m1 c1,.slice a2 m2 c2],.agg #[.bool b2,.slice a3 m3 c3,.slice a4 m4 c4],.int .i64 e]∧Qr h (.agg #[.bool b1,.slice a1 m1 c1,.slice a2 m2 c2]) x∧Qr h (.agg #[.bool b2,.slice a3 m3 c3,.slice a4 m4 c4]) y
theorem RApply_err {h0 h:PH} [Le h0 h] {v:Value} {x:Rat} {fn p:Int} (hx:Qr h0 v x) (bx:sz x≤2048) (he:eErr fn x p≠0):Spec mach 22 #[.int .i64 fn,v,.int .i64 p] h (fun r h'=>Qe h' r 0 0 (eErr fn x p)) NP:=by
  have kR:=fun {h} [Le h0 h]=>RRefused_spec (h:=h) (fn:=fn) (p:=p) hx bx
  obtain⟨_,_,_,_,_,_,_,rfl,hx⟩:=hx.sa
  generalize eErr fn x p=e at*
  have en:(e != 0)=true:=by simpa using he
  refine Spec.go [(6,.h [(10,6)] [] [] [0,1,2,3,4]),(11,.h [(13,6)] [] [] [0,1,2,3,4]),(13,.h [(16,6)] [] [] [0,1,2,3,4])] Tryz.func22 rfl rfl (by kernel_rfl) fun C _=>?_
  try simp(maxSteps:=999999) (disch:=omega) only[go_sem,Nat.reduceBEq,reduceAdd]
  refine caN (by exact kR) ?_;rintro v1 h1 s1 rfl
  try simp(maxSteps:=999999) (disch:=omega) only[go_sem,Nat.reduceBEq,reduceAdd,en]
  exact⟨_,_,_,_,_,_,_,_,_,_,_,_,_,_,rfl,dW _,dW _⟩
theorem RApply_exact {h0 h:PH} [Le h0 h] {v:Value} {x:Rat} {fn p:Int} (hx:Qr h0 v x) (he:eErr fn x p=0) (hb:exB fn x=true):Spec mach 22 #[.int .i64 fn,v,.int .i64 p] h (fun r h'=>Qe h' r (exV fn x) (exV fn x) 0) NP:=by
  have bx:sz x≤2048:=Nat.le_trans (dw he).2.2.2.2.1 (by decide)
  have kR:=fun {h} [Le h0 h]=>RRefused_spec (h:=h) (fn:=fn) (p:=p) hx bx
  have kE:=fun {h} [Le h0 h]=>CG (h:=h) (fn:=fn) hx bx
  rw[he] at kR
  rw[hb] at kE
  clear he hb
  obtain⟨_,_,_,_,_,_,_,rfl,hx⟩:=hx.sa
  generalize exV fn x=w at*
  refine Spec.go [(6,.h [(10,6)] [] [] [0,1,2,3,4]),(11,.h [(13,6)] [] [] [0,1,2,3,4]),(13,.h [(16,6)] [] [] [0,1,2,3,4])] Tryz.func22 rfl rfl (by kernel_rfl) fun C _=>?_
  try simp(maxSteps:=999999) (disch:=omega) only[go_sem,Nat.reduceBEq,reduceAdd]
  refine caN (by exact kR) ?_;rintro v1 h1 s1 rfl
  try simp(maxSteps:=999999) (disch:=omega) only[go_sem,Nat.reduceBEq,reduceAdd]
  refine caN (by exact kE) ?_;rintro v2 h2 s2 ⟨_,_,_,_,_,_,_,rfl,q2⟩
  try simp(maxSteps:=999999) (disch:=omega) only[go_sem,Nat.reduceBEq,reduceAdd]
  exact⟨_,_,_,_,_,_,_,_,_,_,_,_,_,_,rfl,q2,q2⟩
theorem RApply_ser {h0 h:PH} [Le h0 h] {v:Value} {x:Rat} {fn p:Int} (hx:Qr h0 v x) (he:eErr fn x p=0) (hb:exB fn x=false) (h5:fn≠5):Spec mach 22 #[.int .i64 fn,v,.int .i64 p] h (fun r h'=>Qe h' r (serL fn x p.toNat) (serH fn x p.toNat) 0) NP:=by
  have bx:sz x≤2048:=Nat.le_trans (dw he).2.2.2.2.1 (by decide)
  have kR:=fun {h} [Le h0 h]=>RRefused_spec (h:=h) (fn:=fn) (p:=p) hx bx
  have kE:=fun {h} [Le h0 h]=>CG (h:=h) (fn:=fn) hx bx
  have kB:=fun {h} [Le h0 h]=>RBracket_spec (h:=h) (p:=p) hx he hb h5
  rw[he] at kR
  rw[hb] at kE
  have f5:(fn == 5)=false:=by simpa using h5
  clear he hb
  obtain⟨_,_,_,_,_,_,_,rfl,hx⟩:=hx.sa
  generalize exV fn x=w at*
  generalize serL fn x p.toNat=L at*
  generalize serH fn x p.toNat=U at*
  refine Spec.go [(6,.h [(10,6)] [] [] [0,1,2,3,4]),(11,.h [(13,6)] [] [] [0,1,2,3,4]),(13,.h [(16,6)] [] [] [0,1,2,3,4])] Tryz.func22 rfl rfl (by kernel_rfl) fun C _=>?_
  try simp(maxSteps:=999999) (disch:=omega) only[go_sem,Nat.reduceBEq,reduceAdd]
  refine caN (by exact kR) ?_;rintro v1 h1 s1 rfl
  try simp(maxSteps:=999999) (disch:=omega) only[go_sem,Nat.reduceBEq,reduceAdd]
  refine caN (by exact kE) ?_;rintro v2 h2 s2 ⟨_,_,_,_,_,_,_,rfl,q2⟩
  try simp(maxSteps:=999999) (disch:=omega) only[go_sem,Nat.reduceBEq,reduceAdd,f5]
  refine caN (by exact kB) ?_;rintro v3 h3 s3 ⟨_,_,_,_,_,_,_,_,_,_,_,_,_,_,rfl,q3,q4⟩
  try simp(maxSteps:=999999) (disch:=omega) only[go_sem,Nat.reduceBEq,reduceAdd]
  exact⟨_,_,_,_,_,_,_,_,_,_,_,_,_,_,rfl,q3,q4⟩
theorem RApply_tan {h0 h:PH} [Le h0 h] {v:Value} {x:Rat} {p:Int} (hx:Qr h0 v x) (he:eErr 5 x p=0) (hb:exB 5 x=false):Spec mach 22 #[.int .i64 5,v,.int .i64 p] h (fun r h'=>Qe h' r (if pole x p.toNat then 0 else tanLo x p.toNat) (if pole x p.toNat then 0 else tanHi x p.toNat) (if pole x p.toNat then 20 else 0)) NP:=by
  obtain⟨hf,p0,p1,hd,b1,h1,h3⟩:=dw he
  have bx:sz x≤2048:=Nat.le_trans b1 (by decide)
  have kR:=fun {h} [Le h0 h]=>RRefused_spec (h:=h) (fn:=5) (p:=p) hx bx
  have kE:=fun {h} [Le h0 h]=>CG (h:=h) (fn:=5) hx bx
  obtain⟨k,rfl⟩:∃k:Nat,p=(k:Int):=⟨p.toNat,by omega⟩
  rw[Int.toNat_natCast]
  have kT:=fun {h} [Le h0 h]=>RTan_spec (h:=h) (p:=k) hx b1 (h3 (by decide)) (by omega)
  rw[he] at kR
  rw[hb] at kE
  clear he hb
  obtain⟨_,_,_,_,_,_,_,rfl,hx⟩:=hx.sa
  generalize exV 5 x=w at*
  by_cases hq:pole x k
  · have hq':coL x (k+64)≤0∧0≤coH x (k+64):=hq
    simp only[if_pos hq',decide_eq_false (fun c:¬_=>c hq')] at kT
    rw[if_pos hq,if_pos hq,if_pos hq]
    refine Spec.go [(6,.h [(10,6)] [] [] [0,1,2,3,4]),(11,.h [(13,6)] [] [] [0,1,2,3,4]),(13,.h [(16,6)] [] [] [0,1,2,3,4])] Tryz.func22 rfl rfl (by kernel_rfl) fun C _=>?_
    try simp(maxSteps:=999999) (disch:=omega) only[go_sem,Nat.reduceBEq,reduceAdd]
    refine caN (by exact kR) ?_;rintro v1 h1 s1 rfl
    try simp(maxSteps:=999999) (disch:=omega) only[go_sem,Nat.reduceBEq,reduceAdd]
    refine caN (by exact kE) ?_;rintro v2 h2 s2 ⟨_,_,_,_,_,_,_,rfl,q2⟩
    try simp(maxSteps:=999999) (disch:=omega) only[go_sem,Nat.reduceBEq,reduceAdd]
    refine caN (by exact kT) ?_;rintro v3 h3 s3 ⟨_,_,_,_,_,_,_,_,_,_,_,_,_,_,rfl,q3,q4⟩
    try simp(maxSteps:=999999) (disch:=omega) only[go_sem,Nat.reduceBEq,reduceAdd]
    exact⟨_,_,_,_,_,_,_,_,_,_,_,_,_,_,rfl,dW _,dW _⟩
  · have hq':¬(coL x (k+64)≤0∧0≤coH x (k+64)):=hq
    simp only[if_neg hq',decide_eq_true hq'] at kT
    rw[if_neg hq,if_neg hq,if_neg hq]
    generalize tanLo x k=L at*
    generalize tanHi x k=U at*
    refine Spec.go [(6,.h [(10,6)] [] [] [0,1,2,3,4]),(11,.h [(13,6)] [] [] [0,1,2,3,4]),(13,.h [(16,6)] [] [] [0,1,2,3,4])] Tryz.func22 rfl rfl (by kernel_rfl) fun C _=>?_
    try simp(maxSteps:=999999) (disch:=omega) only[go_sem,Nat.reduceBEq,reduceAdd]
    refine caN (by exact kR) ?_;rintro v1 h1 s1 rfl
    try simp(maxSteps:=999999) (disch:=omega) only[go_sem,Nat.reduceBEq,reduceAdd]
    refine caN (by exact kE) ?_;rintro v2 h2 s2 ⟨_,_,_,_,_,_,_,rfl,q2⟩
    try simp(maxSteps:=999999) (disch:=omega) only[go_sem,Nat.reduceBEq,reduceAdd]
    refine caN (by exact kT) ?_;rintro v3 h3 s3 ⟨_,_,_,_,_,_,_,_,_,_,_,_,_,_,rfl,q3,q4⟩
    try simp(maxSteps:=999999) (disch:=omega) only[go_sem,Nat.reduceBEq,reduceAdd]
    exact⟨_,_,_,_,_,_,_,_,_,_,_,_,_,_,rfl,q3,q4⟩
theorem RApply_spec {h0 h:PH} [Le h0 h] {v:Value} {x:Rat} {fn p:Int} (hx:Qr h0 v x) (bx:sz x≤2048):Spec mach 22 #[.int .i64 fn,v,.int .i64 p] h (fun r h'=>Qe h' r (elL fn x p) (elH fn x p) (elE fn x p)) NP:=by
  by_cases he:eErr fn x p=0
  · cases hb:exB fn x with
    | true=>
      have e1:elE fn x p=0:=by unfold elE;rw[if_neg (by simp[he]),if_pos hb]
      have e2:elL fn x p=exV fn x:=by unfold elL;rw[if_neg (by simp[e1]),if_pos hb]
      have e3:elH fn x p=exV fn x:=by unfold elH;rw[if_neg (by simp[e1]),if_pos hb]
      rw[e1,e2,e3]
      exact RApply_exact hx he hb
    | false=>
      by_cases h5:fn=5
      · subst h5
        have t:=RApply_tan (h:=h) hx he hb
        by_cases hq:pole x p.toNat
        · have e:elE 5 x p=20:=by unfold elE;rw[if_neg (by simp[he]),hb,if_neg (by decide),if_pos ⟨rfl,hq⟩]
          have e2:elL 5 x p=0:=by unfold elL;rw[if_pos (by rw[e];decide)]
          have e3:elH 5 x p=0:=by unfold elH;rw[if_pos (by rw[e];decide)]
          rw[if_pos hq,if_pos hq,if_pos hq] at t
          rw[e,e2,e3]
          exact t
        · have e:elE 5 x p=0:=by unfold elE;rw[if_neg (by simp[he]),hb,if_neg (by decide),if_neg (fun k=>hq k.2)]
          have e2:elL 5 x p=tanLo x p.toNat:=by unfold elL;rw[if_neg (by simp[e]),hb,if_neg (by decide)];rfl
          have e3:elH 5 x p=tanHi x p.toNat:=by unfold elH;rw[if_neg (by simp[e]),hb,if_neg (by decide)];rfl
          rw[if_neg hq,if_neg hq,if_neg hq] at t
          rw[e,e2,e3]
          exact t
      · have e:=elE_0 he hb h5
        have e2:elL fn x p=serL fn x p.toNat:=by unfold elL;rw[if_neg (by simp[e]),hb,if_neg (by decide)]
        have e3:elH fn x p=serH fn x p.toNat:=by unfold elH;rw[if_neg (by simp[e]),hb,if_neg (by decide)]
        rw[e,e2,e3]
        exact RApply_ser hx he hb h5
  · have e1:elE fn x p=eErr fn x p:=by unfold elE;rw[if_pos he]
    have e2:elL fn x p=0:=by unfold elL;rw[if_pos (by rw[e1];exact he)]
    have e3:elH fn x p=0:=by unfold elH;rw[if_pos (by rw[e1];exact he)]
    rw[e1,e2,e3]
    exact RApply_err hx bx he
def Rl (h:PH) (v:Value) (neg:Bool) (xs ys:List Nat):Prop:=∃a c a' c',v=.agg #[.bool neg,.slice a xs.length c,.slice a' ys.length c']∧Arr h a c xs∧Arr h a' c' ys∧xs.length≤2^30∧ys.length≤2^30
theorem Rl.to {h h':PH} {v:Value} {neg:Bool} {xs ys:List Nat} (r:Rl h v neg xs ys) [Le h h']:Rl h' v neg xs ys:=let ⟨a,c,a',c',h1,h2,h3,h4⟩:=r;⟨a,c,a',c',h1,h2.to,h3.to,h4⟩
theorem Rl.rw {h:PH} {v:Value} {neg:Bool} {xs ys:List Nat} (r:Rl h v neg xs ys):Rw h v neg (val 4294967296 xs) (val 4294967296 ys):=by
  obtain⟨a,c,a',c',h1,h2,h3,h4,h5⟩:=r
  exact⟨a,c,xs,a',c',ys,h1,h2,h3,rfl,rfl,h4,h5⟩
theorem Rw.rl {h:PH} {v:Value} {neg:Bool} {n d:Nat} (r:Rw h v neg n d):∃xs ys,Rl h v neg xs ys∧val 4294967296 xs=n∧val 4294967296 ys=d:=by
  obtain⟨a,c,xs,a',c',ys,h1,h2,h3,h4,h5,h6,h7⟩:=r
  exact⟨xs,ys,⟨a,c,a',c',h1,h2,h3,h6,h7⟩,h4,h5⟩
theorem app_nil {S:AS} {h:PH} {b:Nat} {a:Option Addr} {k:AS→PH→AV→Prop} (hk:k S h (.v (.slice none 0 0))):appP S h b a 0 k (.v (.slice none 0 0)):=
  ⟨[],rfl,fun k=>absurd rfl k,rfl,fun _=>hk,fun k=>absurd rfl k⟩
theorem app_arr {h0 h:PH} [Le h0 h] {S:AS} {b c:Nat} {a:Option Addr} {xs:List Nat} {k:AS→PH→AV→Prop} (ha:Arr h0 a c xs) (hne:xs≠[]) (hr:(2*xs.length+1024)*b≤2^48)
    (hk:∀junk:List Value,k (S.push (uw xs ++junk)) h (.s S.bx.length 0 xs.length (xs.length+junk.length))):appP S h b a xs.length k (.v (.slice none 0 0)):=by
  refine⟨uw xs,uw_length xs,fun _=>?_,uw_one xs,fun c=>absurd (List.eq_nil_of_length_eq_zero c) hne,fun _=>⟨hr,hk⟩⟩
  obtain⟨ad,rfl,_⟩:=ha.rd h (i:=0) (List.length_pos_iff.2 hne)
  refine⟨ad,rfl,fun j v hj=>?_⟩
  have hl:j < xs.length:=by
    have:=(List.getElem?_eq_some_iff.1 hj).1
    rwa[uw_length] at this
  obtain⟨ad',e,h2⟩:=ha.rd h hl
  cases e
  rw[yL hl] at hj
  rw[←Option.some.inj hj]
  exact h2
theorem Arr.of_copy {h0 h:PH} {a:Option Addr} {c c' b:Nat} {xs:List Nat} {junk:List Value} (ha:Arr h0 a c xs) (hb:uw xs ++junk≠[]→h b=some (uw xs ++junk).toArray) (hc:xs.length≤c'):Arr h (some ⟨b,0,none⟩) c' xs:=
  .of_block hb (fun i x hi=>by rw[List.getElem?_append_left (by rw[uw_length];exact(List.getElem?_eq_some_iff.1 hi).1)];simp[uw,hi]) ha.lt ha.small hc
theorem Copied_spec {h0 h:PH} [Le h0 h] {v:Value} {neg:Bool} {xs ys:List Nat} (hv:Rl h0 v neg xs ys):Spec mach 6 #[v] h (fun r h'=>Rl h' r neg xs ys) NP:=by
  obtain⟨a,c,a',c',rfl,ha,ha',hx,hy⟩:=hv
  by_cases x0:xs=[]
  · subst x0
    by_cases y0:ys=[]
    · subst y0
      refine Spec.go [(1,.t (.s [0,1,2,3,5,6] (.a 4 (.a 7 (.s [8] (.a 9 .d .n)) .n) .n)))] Tryz.func6 rfl rfl (by kernel_rfl) fun C _=>?_
      simp(maxSteps:=999999) (disch:=omega) only[go_sem,Nat.reduceBEq,reduceAdd]
      refine app_nil ?_
      simp(maxSteps:=999999) (disch:=omega) only[go_sem,Nat.reduceBEq,reduceAdd]
      refine app_nil ?_
      simp(maxSteps:=999999) (disch:=omega) only[go_sem,Nat.reduceBEq,reduceAdd]
      exact⟨none,0,none,0,rfl,Arr.nil _,Arr.nil _,hx,hy⟩
    · refine Spec.go [(1,.t (.s [0,1,2,3,5,6] (.a 4 (.a 7 (.p 2 (.s [8] (.a 9 .d .n))) .n) .n)))] Tryz.func6 rfl rfl (by kernel_rfl) fun C _=>?_
      simp(maxSteps:=999999) (disch:=omega) only[go_sem,Nat.reduceBEq,reduceAdd]
      refine app_nil ?_
      simp(maxSteps:=999999) (disch:=omega) only[go_sem,Nat.reduceBEq,reduceAdd]
      refine app_arr ha' y0 (by omega) fun junk=>?_
      simp(maxSteps:=999999) (disch:=omega) only[go_sem,Nat.reduceBEq,reduceAdd]
      intro b h1 s1 hb
      exact⟨none,0,_,_,rfl,Arr.nil _,ha'.of_copy hb (by omega),hx,hy⟩
  · by_cases y0:ys=[]
    · subst y0
      refine Spec.go [(1,.t (.s [0,1,2,3,5,6] (.a 4 (.a 7 (.p 2 (.s [8] (.a 9 .d .n))) .n) .n)))] Tryz.func6 rfl rfl (by kernel_rfl) fun C _=>?_
      simp(maxSteps:=999999) (disch:=omega) only[go_sem,Nat.reduceBEq,reduceAdd]
      refine app_arr ha x0 (by omega) fun junk=>?_
      simp(maxSteps:=999999) (disch:=omega) only[go_sem,Nat.reduceBEq,reduceAdd]
      refine app_nil ?_
      simp(maxSteps:=999999) (disch:=omega) only[go_sem,Nat.reduceBEq,reduceAdd]
      intro b h1 s1 hb
      exact⟨_,_,none,0,rfl,ha.of_copy hb (by omega),Arr.nil _,hx,hy⟩
    · refine Spec.go [(1,.t (.s [0,1,2,3,5,6] (.a 4 (.a 7 (.p 2 (.p 3 (.s [8] (.a 9 .d .n)))) .n) .n)))] Tryz.func6 rfl rfl (by kernel_rfl) fun C _=>?_
      simp(maxSteps:=999999) (disch:=omega) only[go_sem,Nat.reduceBEq,reduceAdd]
      refine app_arr ha x0 (by omega) fun junk=>?_
      simp(maxSteps:=999999) (disch:=omega) only[go_sem,Nat.reduceBEq,reduceAdd]
      refine app_arr ha' y0 (by omega) fun junk'=>?_
      simp(maxSteps:=999999) (disch:=omega) only[go_sem,Nat.reduceBEq,reduceAdd]
      intro b h1 s1 hb b' h2 s2 hb'
      exact⟨_,_,_,_,rfl,(ha.of_copy hb (by omega)).to,ha'.of_copy hb' (by omega),hx,hy⟩
theorem Kept_spec {h0 h:PH} [Le h0 h] {v w:Value} {neg:Bool} {xs ys:List Nat} (hv:Rl h0 v neg xs ys) (hw:Rl h0 w neg xs ys):Spec mach 10 #[v,w] h (fun r _=>r=.bool true) NP:=by
  obtain⟨a,c,a',c',rfl,ha,ha',hx,hy⟩:=hv
  obtain⟨b,d,b',d',rfl,hb,hb',_,_⟩:=hw
  have e1:(neg != neg)=false:=by simp
  have e2:∀n:Nat,((n:Int) != (n:Int))=false:=fun n=>by simp
  have k1:xs.length < 2^40:=by omega
  have k2:ys.length < 2^40:=by omega
  refine Spec.go [] Tryz.func10 rfl rfl (by kernel_rfl) fun C _=>?_
  simp(maxSteps:=999999) (disch:=omega) only[go_sem,Nat.reduceBEq,reduceAdd,e1,e2]
  refine lp [] (fun i:Nat=>⟨[(2,.p 0 0),(3,.p 1 0),(5,.v (.int .i64 (i:Int)))],[[.bool neg,.slice a xs.length c,.slice a' ys.length c'],[.bool neg,.slice b xs.length d,.slice b' ys.length d']]⟩) (fun i h'=>Le h0 h'∧i≤xs.length) (fun i=>xs.length - i) 0 ?_ ⟨inferInstance,Nat.zero_le _⟩ (by kernel_rfl) ?_
  · simp(maxSteps:=999999) (disch:=omega) only[go_sem,Nat.reduceBEq,reduceAdd]
    all_goals rfl
  rintro i g0 ⟨le0,hi⟩
  by_cases hl:i < xs.length
  · obtain⟨ad,rfl,hat⟩:=ha.rd g0 hl
    obtain⟨ad',rfl,hat'⟩:=hb.rd g0 hl
    have e3:=e2 (xs.getD i 0)
    simp(maxSteps:=999999) (disch:=omega) only[go_sem,Nat.reduceBEq,reduceAdd]
    refine aE hat ?_
    simp(maxSteps:=999999) (disch:=omega) only[go_sem,Nat.reduceBEq,reduceAdd]
    refine aE hat' ?_
    simp(maxSteps:=999999) (disch:=omega) only[go_sem,Nat.reduceBEq,reduceAdd,e3]
    dsimp only[lpE];refine⟨i+1,?_,⟨inferInstance,by omega⟩,by omega⟩
    simp(maxSteps:=999999) (disch:=omega) only[go_sem,Nat.reduceBEq,reduceAdd]
    all_goals rfl
  · simp(maxSteps:=999999) (disch:=omega) only[go_sem,Nat.reduceBEq,reduceAdd]
    refine lp [] (fun i:Nat=>⟨[(2,.p 0 0),(3,.p 1 0),(6,.v (.int .i64 (i:Int)))],[[.bool neg,.slice a xs.length c,.slice a' ys.length c'],[.bool neg,.slice b xs.length d,.slice b' ys.length d']]⟩) (fun i h'=>Le g0 h'∧i≤ys.length) (fun i=>ys.length - i) 0 ?_ ⟨inferInstance,Nat.zero_le _⟩ (by kernel_rfl) ?_
    · simp(maxSteps:=999999) (disch:=omega) only[go_sem,Nat.reduceBEq,reduceAdd]
      all_goals rfl
    rintro j f0 ⟨le1,hj⟩
    have le2:Le h0 f0:=⟨le0.sub.trans le1.sub⟩
    by_cases hm:j < ys.length
    · obtain⟨ad,rfl,hat⟩:=ha'.rd f0 hm
      obtain⟨ad',rfl,hat'⟩:=hb'.rd f0 hm
      have e3:=e2 (ys.getD j 0)
      simp(maxSteps:=999999) (disch:=omega) only[go_sem,Nat.reduceBEq,reduceAdd]
      refine aE hat ?_
      simp(maxSteps:=999999) (disch:=omega) only[go_sem,Nat.reduceBEq,reduceAdd]
      refine aE hat' ?_
      simp(maxSteps:=999999) (disch:=omega) only[go_sem,Nat.reduceBEq,reduceAdd,e3]
      dsimp only[lpE];refine⟨j+1,?_,⟨inferInstance,by omega⟩,by omega⟩
      simp(maxSteps:=999999) (disch:=omega) only[go_sem,Nat.reduceBEq,reduceAdd]
      all_goals rfl
    · simp(maxSteps:=999999) (disch:=omega) only[go_sem,Nat.reduceBEq,reduceAdd]
def rwE (fn:Int) (neg:Bool) (n d:Nat) (p:Int):Int:=if lg neg n d then 1 else elE fn (qof neg n d) p
def rwL (fn:Int) (neg:Bool) (n d:Nat) (p:Int):Rat:=if lg neg n d then 0 else elL fn (qof neg n d) p
def rwH (fn:Int) (neg:Bool) (n d:Nat) (p:Int):Rat:=if lg neg n d then 0 else elH fn (qof neg n d) p
theorem rw_sz (fn:Int) (neg:Bool) (n d:Nat) (p:Int):sz (rwL fn neg n d p)≤2048∧sz (rwH fn neg n d p)≤2048:=by
  unfold rwL rwH
  by_cases h:lg neg n d
  · rw[if_pos h,if_pos h];decide
  · rw[if_neg h,if_neg h];exact el_sz
theorem Due_spec {h0 h:PH} [Le h0 h] {v:Value} {neg:Bool} {n d:Nat} {fn p:Int} (hv:Rw h0 v neg n d):Spec mach 7 #[.int .i64 fn,v,.int .i64 p] h (fun r h'=>Qe h' r (rwL fn neg n d p) (rwH fn neg n d p) (rwE fn neg n d p)) NP:=by
  have kL:=fun {h} [Le h0 h]=>jJ (h:=h) hv
  have kO:=fun {h} [Le h0 h]=>bM (h:=h) hv
  unfold rwL rwH rwE
  obtain⟨_,_,_,_,_,_,_,rfl,_⟩:=hv.sa
  by_cases hl:lg neg n d
  · rw[if_pos hl,if_pos hl,if_pos hl]
    rw[decide_eq_true hl] at kL
    refine Spec.go [] Tryz.func7 rfl rfl (by kernel_rfl) fun C _=>?_
    try simp(maxSteps:=999999) (disch:=omega) only[go_sem,Nat.reduceBEq,reduceAdd]
    refine caN (by exact kL) ?_;rintro v1 h1 s1 rfl
    try simp(maxSteps:=999999) (disch:=omega) only[go_sem,Nat.reduceBEq,reduceAdd]
    exact⟨_,_,_,_,_,_,_,_,_,_,_,_,_,_,rfl,dW _,dW _⟩
  · rw[if_neg hl,if_neg hl,if_neg hl]
    rw[decide_eq_false hl] at kL
    have hs:sz (qof neg n d)≤2048:=Nat.le_of_not_lt fun c=>hl (.inr (.inr c))
    have kA:=fun {h0 h:PH} {v:Value} [Le h0 h] (c:Qr h0 v (qof neg n d))=>RApply_spec (h:=h) (fn:=fn) (p:=p) c hs
    generalize elL fn (qof neg n d) p=L at*
    generalize elH fn (qof neg n d) p=H at*
    generalize elE fn (qof neg n d) p=E at*
    generalize qof neg n d=x at*
    clear hl
    refine Spec.go [] Tryz.func7 rfl rfl (by kernel_rfl) fun C _=>?_
    try simp(maxSteps:=999999) (disch:=omega) only[go_sem,Nat.reduceBEq,reduceAdd]
    refine caN (by exact kL) ?_;rintro v1 h1 s1 rfl
    try simp(maxSteps:=999999) (disch:=omega) only[go_sem,Nat.reduceBEq,reduceAdd]
    refine caN (by exact kO) ?_;rintro v2 h2 s2 q2;obtain⟨_,_,_,_,_,_,_,rfl,q2⟩:=q2.sa
    try simp(maxSteps:=999999) (disch:=omega) only[go_sem,Nat.reduceBEq,reduceAdd]
    refine caN (by exact kA q2) ?_;rintro v3 h3 s3 ⟨_,_,_,_,_,_,_,_,_,_,_,_,_,_,rfl,q3,q4⟩
    try simp(maxSteps:=999999) (disch:=omega) only[go_sem,Nat.reduceBEq,reduceAdd]
    exact⟨_,_,_,_,_,_,_,_,_,_,_,_,_,_,rfl,q3,q4⟩
theorem Apply_rw {h0 h:PH} [Le h0 h] {v:Value} {neg:Bool} {n d:Nat} {fn p:Int} (hv:Rw h0 v neg n d):Spec mach 8 #[.int .i64 fn,v,.int .i64 p] h (fun r h'=>Ber h' r (rwE fn neg n d p) (rwL fn neg n d p) (rwH fn neg n d p)) NP:=by
  unfold rwL rwH rwE
  by_cases hl:lg neg n d
  · rw[if_pos hl,if_pos hl,if_pos hl];exact pG hv hl
  · rw[if_neg hl,if_neg hl,if_neg hl];exact pH ⟨neg,n,d,hv,hl,rfl⟩
theorem Call_spec {h0 h:PH} [Le h0 h] {v:Value} {neg:Bool} {n d:Nat} {fn p:Int} (hf:1≤fn∧fn≤8) (hv:Rw h0 v neg n d):Spec mach 12 #[.int .i64 fn,v,.int .i64 p] h (fun r h'=>Ber h' r (rwE fn neg n d p) (rwL fn neg n d p) (rwH fn neg n d p)) NP:=by
  have hR:¬lg neg n d→Rv h0 v (qof neg n d):=fun hl=>⟨neg,n,d,hv,hl,rfl⟩
  unfold rwL rwH rwE
  generalize qof neg n d=x at*
  have h:fn=1∨fn=2∨fn=3∨fn=4∨fn=5∨fn=6∨fn=7∨fn=8:=by omega
  by_cases hl:lg neg n d
  · rw[if_pos hl,if_pos hl,if_pos hl]
    have k1:=fun {h} [Le h0 h]=>FExp_large (h:=h) (p:=p) hv hl
    have k2:=fun {h} [Le h0 h]=>FLog_large (h:=h) (p:=p) hv hl
    have k3:=fun {h} [Le h0 h]=>FSin_large (h:=h) (p:=p) hv hl
    have k4:=fun {h} [Le h0 h]=>FCos_large (h:=h) (p:=p) hv hl
    have k5:=fun {h} [Le h0 h]=>FTan_large (h:=h) (p:=p) hv hl
    have k6:=fun {h} [Le h0 h]=>FAsin_large (h:=h) (p:=p) hv hl
    have k7:=fun {h} [Le h0 h]=>FAcos_large (h:=h) (p:=p) hv hl
    have k8:=fun {h} [Le h0 h]=>FAtan_large (h:=h) (p:=p) hv hl
    clear hR hl hf
    obtain⟨_,_,_,_,_,_,_,rfl,_⟩:=hv.sa
    rcases h with rfl |rfl |rfl |rfl |rfl |rfl |rfl |rfl
    all_goals
      refine Spec.go [] Tryz.func12 rfl rfl (by kernel_rfl) fun C _=>?_
      try simp(maxSteps:=999999) (disch:=omega) only[go_sem,Nat.reduceBEq,reduceAdd]
      refine caN (by first |exact k1 |exact k2 |exact k3 |exact k4 |exact k5 |exact k6 |exact k7 |exact k8) ?_
      rintro v1 h1 s1 q1
      obtain⟨_,_,_,_,_,_,_,_,_,_,_,_,_,_,rfl,q1⟩:=q1.sp
      try simp(maxSteps:=999999) (disch:=omega) only[go_sem,Nat.reduceBEq,reduceAdd]
      exact q1
  · rw[if_neg hl,if_neg hl,if_neg hl]
    have hx:=hR hl
    have k1:=fun {h} [Le h0 h]=>FExp_all (h:=h) (p:=p) hx
    have k2:=fun {h} [Le h0 h]=>FLog_all (h:=h) (p:=p) hx
    have k3:=fun {h} [Le h0 h]=>FSin_all (h:=h) (p:=p) hx
    have k4:=fun {h} [Le h0 h]=>FCos_all (h:=h) (p:=p) hx
    have k5:=fun {h} [Le h0 h]=>FTan_all (h:=h) (p:=p) hx
    have k6:=fun {h} [Le h0 h]=>FAsin_all (h:=h) (p:=p) hx
    have k7:=fun {h} [Le h0 h]=>FAcos_all (h:=h) (p:=p) hx
    have k8:=fun {h} [Le h0 h]=>FAtan_all (h:=h) (p:=p) hx
    clear hR hl hf hx
    obtain⟨_,_,_,_,_,_,_,rfl,_⟩:=hv.sa
    rcases h with rfl |rfl |rfl |rfl |rfl |rfl |rfl |rfl
    all_goals
      refine Spec.go [] Tryz.func12 rfl rfl (by kernel_rfl) fun C _=>?_
      try simp(maxSteps:=999999) (disch:=omega) only[go_sem,Nat.reduceBEq,reduceAdd]
      refine caN (by first |exact k1 |exact k2 |exact k3 |exact k4 |exact k5 |exact k6 |exact k7 |exact k8) ?_
      rintro v1 h1 s1 q1
      obtain⟨_,_,_,_,_,_,_,_,_,_,_,_,_,_,rfl,q1⟩:=q1.sp
      try simp(maxSteps:=999999) (disch:=omega) only[go_sem,Nat.reduceBEq,reduceAdd]
      exact q1
theorem Rl.sa {h:PH} {v:Value} {neg:Bool} {xs ys:List Nat} (r:Rl h v neg xs ys):∃b na nl nc da dl dc,v=.agg #[.bool b,.slice na nl nc,.slice da dl dc]∧Rl h (.agg #[.bool b,.slice na nl nc,.slice da dl dc]) neg xs ys:=by
  have r0:=r
  obtain⟨a,c,a',c',rfl,_⟩:=r
  exact⟨_,_,_,_,_,_,_,rfl,r0⟩
theorem Brackets_law {h0 h:PH} [Le h0 h] {v:Value} {neg:Bool} {n d:Nat} {fn p:Int} (hv:Rw h0 v neg n d):Spec mach 3 #[.int .i64 fn,v,.int .i64 p] h (fun r _=>r=.bool true) NP:=by
  obtain⟨xs,ys,hl,rfl,rfl⟩:=hv.rl
  have kC:=fun {h} [Le h0 h]=>Copied_spec (h:=h) hl
  have kD:=fun {h} [Le h0 h]=>Due_spec (h:=h) (fn:=fn) (p:=p) hv
  have kA:=fun {h0 h:PH} {w:Value} [Le h0 h] (c:Rl h0 w neg xs ys)=>Apply_rw (h:=h) (fn:=fn) (p:=p) c.rw
  have kF:=fun {h0 h:PH} {w:Value} [Le h0 h] (hf:1≤fn∧fn≤8) (c:Rl h0 w neg xs ys)=>Call_spec (h:=h) (fn:=fn) (p:=p) hf c.rw
  obtain⟨z1,z2⟩:=rw_sz fn neg (val 4294967296 xs) (val 4294967296 ys) p
  generalize rwE fn neg (val 4294967296 xs) (val 4294967296 ys) p=E at*
  generalize rwL fn neg (val 4294967296 xs) (val 4294967296 ys) p=L at*
  generalize rwH fn neg (val 4294967296 xs) (val 4294967296 ys) p=H at*
  have e1:(E != E)=false:=by simp
  have e2:(E == E)=true:=by simp
  clear hv
  obtain⟨_,_,_,_,_,_,_,rfl,hl⟩:=hl.sa
  have F:=Hid.mk (And.intro z1 z2);clear z1 z2
  refine Spec.go [] Tryz.func3 rfl rfl (by kernel_rfl) fun C _=>?_
  try simp(maxSteps:=999999) (disch:=omega) only[go_sem,Nat.reduceBEq,reduceAdd]
  refine caN (by exact kC) ?_;rintro v1 h1 s1 q1;obtain⟨_,_,_,_,_,_,_,rfl,q1⟩:=q1.sa
  try simp(maxSteps:=999999) (disch:=omega) only[go_sem,Nat.reduceBEq,reduceAdd]
  refine caN (by exact kD) ?_;rintro v2 h2 s2 ⟨_,_,_,_,_,_,_,_,_,_,_,_,_,_,rfl,q2,q3⟩
  try simp(maxSteps:=999999) (disch:=omega) only[go_sem,Nat.reduceBEq,reduceAdd]
  refine caN (by exact kA (q1.to (h':=h2))) ?_;rintro v3 h3 s3 ⟨_,_,_,_,_,_,_,_,_,_,_,_,_,_,rfl,q4,q5⟩
  try simp(maxSteps:=999999) (disch:=omega) only[go_sem,Nat.reduceBEq,reduceAdd,e1]
  refine caN (by exact dt q4 (q2.to (h':=h3)) (by have:=F.out;omega) (by have:=F.out;omega)) ?_;rintro v5 h5 s5 rfl
  try simp(maxSteps:=999999) (disch:=omega) only[go_sem,Nat.reduceBEq,reduceAdd,decide_true]
  refine caN (by exact dt (q5.to (h':=h5)) (q3.to (h':=h5)) (by have:=F.out;omega) (by have:=F.out;omega)) ?_;rintro v6 h6 s6 rfl
  try simp(maxSteps:=999999) (disch:=omega) only[go_sem,Nat.reduceBEq,reduceAdd,decide_true]
  refine caN (by exact Kept_spec (q1.to (h':=h6)) (hl.to (h':=h6))) ?_;rintro v7 h7 s7 rfl
  try simp(maxSteps:=999999) (disch:=omega) only[go_sem,Nat.reduceBEq,reduceAdd]
  refine caN (by exact ar) ?_;rintro v8 h8 s8 rfl
  try simp(maxSteps:=999999) (disch:=omega) only[go_sem,Nat.reduceBEq,reduceAdd]
  by_cases f1:fn < 1
  · have g1:=decide_eq_true f1
    try simp(maxSteps:=999999) (disch:=omega) only[go_sem,Nat.reduceBEq,reduceAdd,g1]
  have g1:=decide_eq_false f1
  by_cases f2:fn > 8
  · have g2:=decide_eq_true f2
    try simp(maxSteps:=999999) (disch:=omega) only[go_sem,Nat.reduceBEq,reduceAdd,g1,g2]
  have g2:=decide_eq_false f2
  have hf:1≤fn∧fn≤8:=by have:=F.out;omega
  try simp(maxSteps:=999999) (disch:=omega) only[go_sem,Nat.reduceBEq,reduceAdd,g1,g2]
  refine caN (by exact kF hf (q1.to (h':=h8))) ?_;rintro v9 h9 s9 ⟨_,_,_,_,_,_,_,_,_,_,_,_,_,_,rfl,q9,q10⟩
  try simp(maxSteps:=999999) (disch:=omega) only[go_sem,Nat.reduceBEq,reduceAdd,e2]
  refine caN (by exact dt q9 (q2.to (h':=h9)) (by have:=F.out;omega) (by have:=F.out;omega)) ?_;rintro v11 h11 s11 rfl
  try simp(maxSteps:=999999) (disch:=omega) only[go_sem,Nat.reduceBEq,reduceAdd,decide_true]
  refine caN (by exact dt (q10.to (h':=h11)) (q3.to (h':=h11)) (by have:=F.out;omega) (by have:=F.out;omega)) ?_;rintro v12 h12 s12 rfl
  try simp(maxSteps:=999999) (disch:=omega) only[go_sem,Nat.reduceBEq,reduceAdd,decide_true]
  refine caN (by exact Kept_spec (q1.to (h':=h12)) (hl.to (h':=h12))) ?_;rintro v13 h13 s13 rfl
  try simp(maxSteps:=999999) (disch:=omega) only[go_sem,Nat.reduceBEq,reduceAdd]
end Go.Q
