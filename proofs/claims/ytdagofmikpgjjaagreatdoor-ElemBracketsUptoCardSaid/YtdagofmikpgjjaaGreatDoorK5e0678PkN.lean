/-
  The bounds of the exponential function on a grid, and what stands on it. Conditions: each theorem's own.
-/
import Derived.Test.YtdagofmikpgjjaaGreatDoorK98c21dPkF
import Derived.Test.YtdagofmikpgjjaaGreatDoorKb2df3ePkM
import Derived.Test.YtdagofmikpgjjaaGreatDoorK0534f2PkL
set_option linter.unusedVariables false
set_option linter.unusedSimpArgs false
open Nat (reduceAdd)
namespace Go.Q
open Go.Proofs
set_option maxRecDepth 100000
theorem jo (w:Nat):2^(w+1)=2*2^w:=by rw[Nat.pow_succ];omega
theorem C9 {w y k:Nat} (hy:y≤64*2^w) (_hk:k < 40) (h:eLo w y k≤2^(w+1)):eLo w y (k+1)≤2^(w+1):=by
  show 2^w+y*eLo w y k / 2^(w+8) / (40 - k)≤2^(w+1)
  have h1:y*eLo w y k≤64*2^w*2^(w+1):=Nat.mul_le_mul hy h
  have h2:y*eLo w y k / 2^(w+8)≤2^w:=by
    refine Nat.div_le_of_le_mul (Nat.le_trans h1 ?_)
    rw[show w+8=(w+1)+7 by omega,Nat.pow_add 2 (w+1) 7,Nat.mul_comm (64*2^w),Nat.mul_assoc (2^(w+1))]
    exact Nat.mul_le_mul_left _ (by have:=Nat.pow_pos (n:=w) (show 0 < 2 by decide);omega)
  have h3:=Nat.div_le_self (y*eLo w y k / 2^(w+8)) (40 - k)
  rw[jo w]
  omega
theorem AO {w y:Nat} (hy:y≤64*2^w):∀{k:Nat},k < 40→eLo w y k≤2^(w+1)∧eLo w y (k+1)≤2^(w+1)
  | 0,_=>by
    have h0:eLo w y 0≤2^(w+1):=by show 2^w≤_;rw[jo w];omega
    exact⟨h0,C9 hy (by decide) h0⟩
  | k+1,h=>by
    have ih:=(AO hy (k:=k) (by omega)).2
    exact⟨ih,C9 hy h ih⟩
theorem AM {w y:Nat} (hy:y≤64*2^w):∀{k:Nat},k≤40→eHi w y k≤2^(w+1)
  |0,_=>by show 2^w*2^1≤_;rw[jo w];omega
  | k +1,h=>by
    have ih:=AM hy (k:=k) (by omega)
    show 2^w+cdiv (cdiv (y*eHi w y k) (2^(w+8))) (40 - k)≤2^(w+1)
    have h1:y*eHi w y k≤64*2^w*2^(w+1):=Nat.mul_le_mul hy ih
    have h2:cdiv (y*eHi w y k) (2^(w+8))≤2^w:=by
      refine(az (am _)).2 (Nat.le_trans h1 ?_)
      rw[show w+8=(w+1)+7 by omega,Nat.pow_add 2 (w+1) 7,Nat.mul_comm (64*2^w),Nat.mul_assoc (2^(w+1))]
      exact Nat.mul_le_mul_left _ (by have:=Nat.pow_pos (n:=w) (show 0 < 2 by decide);omega)
    have h3:cdiv (cdiv (y*eHi w y k) (2^(w+8))) (40 - k)≤2^w:=by
      refine(az (by omega)).2 (Nat.le_trans h2 ?_)
      exact Nat.le_mul_of_pos_left _ (by omega)
    rw[jo w]
    omega
theorem eLo_ge (w y:Nat):∀k,2^w≤eLo w y k
  |0=>Nat.le_refl _
  |_+1=>Nat.le_add_right _ _
theorem eHi_ge (w y:Nat):∀k,2^w≤eHi w y k
  |0=>by show 2^w≤2^w*2^1;omega
  |_+1=>Nat.le_add_right _ _
theorem FK {w a:Nat} (h:2^w≤a):∀k,2^w≤qLo w a k
  |0=>h
  | k+1=>by
    have ih:=FK h k
    show 2^w≤qLo w a k*qLo w a k / 2^w
    exact(Nat.le_div_iff_mul_le (Nat.pow_pos (by decide))).2 (Nat.mul_le_mul ih ih)
theorem i8 (a:Nat) {d:Nat} (hd:d≠0):a / d≤cdiv a d:=Nat.div_le_div_right (by omega)
theorem FJ {w a:Nat} (h:2^w≤a):∀k,2^w≤qHi w a k
  |0=>h
  | k+1=>by
    have ih:=FJ h k
    show 2^w≤cdiv (qHi w a k*qHi w a k) (2^w)
    exact Nat.le_trans ((Nat.le_div_iff_mul_le (Nat.pow_pos (by decide))).2 (Nat.mul_le_mul ih ih)) (i8 _ (am w))
theorem sq_pow (w k:Nat):2^(w+2^k)*2^(w+2^k)=2^w*2^(w+2^(k+1)):=by
  rw[←Nat.pow_add,←Nat.pow_add,Nat.pow_succ];congr 1;omega
theorem qLo_le {w a:Nat} (h:a≤2^(w+1)):∀k,qLo w a k≤2^(w+2^k)
  |0=>h
  | k+1=>by
    have ih:=qLo_le h k
    show qLo w a k*qLo w a k / 2^w≤_
    exact Nat.div_le_of_le_mul (Nat.le_trans (Nat.mul_le_mul ih ih) (Nat.le_of_eq (sq_pow w k)))
theorem qHi_le {w a:Nat} (h:a≤2^(w+1)):∀k,qHi w a k≤2^(w+2^k)
  |0=>h
  | k+1=>by
    have ih:=qHi_le h k
    show cdiv (qHi w a k*qHi w a k) (2^w)≤_
    exact(az (am w)).2 (Nat.le_trans (Nat.mul_le_mul ih ih) (Nat.le_of_eq (sq_pow w k)))
def expL (x:Rat) (p:Nat):Nat:=qLo (p+112) (eLo (p+112) (glo x (p+112)) 40) 8
def expH (x:Rat) (p:Nat):Nat:=qHi (p+112) (eHi (p+112) (ghi x (p+112)) 40) 8
def expLo (x:Rat) (p:Nat):Rat:=if x.num < 0 then sgn false (2^(p+112+p) / expH x p) (2^p) else sgn false (expL x p / 2^112) (2^p)
def expHi (x:Rat) (p:Nat):Rat:=if x.num < 0 then sgn false (cdiv (2^(p+112+p)) (expL x p)) (2^p) else sgn false (cdiv (expH x p) (2^112)) (2^p)
theorem xQ {x:Rat} {n w:Nat} (h:¬x.den*n < x.num.natAbs):glo x w≤n*2^w∧ghi x w≤n*2^w:=by
  have h1:x.num.natAbs*2^w≤x.den*(n*2^w):=by
    rw[←Nat.mul_assoc];exact Nat.mul_le_mul_right _ (by omega)
  exact⟨Nat.div_le_of_le_mul h1,(az x.den_nz).2 h1⟩
theorem pj {n k:Nat} (h:n≤2^k):bl n≤k+1:=by
  refine bl_le.2 ?_
  have:2^(k+1)=2*2^k:=jo k
  have:=Nat.pow_pos (n:=k) (show 0 < 2 by decide)
  omega
theorem AT {x:Rat} {p:Nat} (h:¬x.den*64 < x.num.natAbs):bl (expL x p)≤p+369∧bl (expH x p)≤p+369∧expL x p≠0∧expH x p≠0:=by
  obtain⟨h1,h2⟩:=xQ (w:=p+112) h
  have hp:=Nat.pow_pos (n:=p+112) (show 0 < 2 by decide)
  have g1:=FK (eLo_ge (p+112) (glo x (p+112)) 40) 8
  have g2:=FJ (eHi_ge (p+112) (ghi x (p+112)) 40) 8
  refine⟨pj (qLo_le (AO h1 (k:=39) (by decide)).2 8),pj (qHi_le (AM h2 (by decide)) 8),?_,?_⟩
  · unfold expL;omega
  · unfold expH;omega
set_option maxHeartbeats 8000000
theorem cdiv_cdiv (a:Nat) {m n:Nat} (hm:m≠0) (hn:n≠0):cdiv (cdiv a m) n=cdiv a (m*n):=by
  have k:∀c,cdiv (cdiv a m) n≤c↔cdiv a (m*n)≤c:=fun c=>by rw[az hn,az hm,az (Nat.mul_ne_zero hm hn),Nat.mul_assoc]
  exact Nat.le_antisymm ((k _).2 (Nat.le_refl _)) ((k _).1 (Nat.le_refl _))
def exS (u:Bool) (w y k:Nat):Nat:=if u then eHi w y k else eLo w y k
def exP (u:Bool) (w a k:Nat):Nat:=if u then qHi w a k else qLo w a k
theorem exS_0 (u:Bool) (w y:Nat):exS u w y 0=if u then 2^w+2^w else 2^w:=by
  unfold exS
  cases u
  · exact eLo_0 w y
  · rw[if_pos rfl,if_pos rfl,eHi_0];omega
theorem exS_s (u:Bool) (w y:Nat) {k:Nat} (hk:k < 40):exS u w y (k+1)=2^w+odiv (y*exS u w y k) (256*(40 - k)*2^w) u:=by
  have e:256*(40 - k)*2^w=2^(w+8)*(40 - k):=by rw[Nat.pow_add];grind
  rw[e]
  unfold exS odiv
  cases u
  · show eLo w y (k+1)=2^w+y*eLo w y k / (2^(w+8)*(40 - k))
    rw[eLo_s,Nat.div_div_eq_div_mul]
  · show eHi w y (k+1)=2^w+cdiv (y*eHi w y k) (2^(w+8)*(40 - k))
    rw[eHi_s,cdiv_cdiv _ (am _) (by omega)]
theorem exP_s (u:Bool) (w a k:Nat):exP u w a (k+1)=odiv (exP u w a k*exP u w a k) (2^w) u:=by
  unfold exP odiv
  cases u
  · exact qLo_s ..
  · exact qHi_s ..
theorem bl_exS {u:Bool} {w y k:Nat} (hy:bl y≤w+7) (hw:w≤300) (hk:k≤40):bl (exS u w y k)≤13000:=by
  unfold exS
  have a:=bl_eLo w y k
  have b:=bl_eHi (w:=w) (y:=y) hk
  have c:k*(bl y+4)≤40*(w+11):=Nat.mul_le_mul hk (by omega)
  have d:k*(bl y+3)≤40*(w+10):=Nat.mul_le_mul hk (by omega)
  split<;>omega
theorem bl_exP {u:Bool} {w a k:Nat} (ha:bl a≤13000) (hk:k≤8):bl (exP u w a k)≤2^22:=by
  unfold exP
  have p:=bl_qLo w a k
  have q:=bl_qHi w a k
  have c:2^k*(bl a+1)≤256*13001:=Nat.mul_le_mul (Nat.pow_le_pow_right (by decide) hk) (by omega)
  split<;>omega
theorem RSeries_spec {h0 h:PH} [Le h0 h] {v:Value} {y w:Nat} {u:Bool} (hv:N16 h0 v y) (hy:bl y≤w+7) (hw:w≤300):Spec mach 221 #[v,.int .i64 w,.bool u] h (fun r h'=>N16 h' r (exP u w (exS u w y 40) 8)) NP:=by
  have bS:=fun {k} (hk:k≤40)=>bl_exS (u:=u) hy hw hk
  have bP:=fun {k} (hk:k≤8)=>bl_exP (u:=u) (w:=w) (bl_exS (u:=u) hy hw (Nat.le_refl 40)) hk
  have eS:=fun {k} (hk:k < 40)=>exS_s u w y hk
  have eP:=fun k=>exP_s u w (exS u w y 40) k
  have e0:=exS_0 u w y
  have p0:exP u w (exS u w y 40) 0=exS u w y 40:=by unfold exP;cases u<;>rfl
  have u1:=bC w
  have w0:=Hid.mk (am w)
  obtain⟨xa,ma,ca,rfl,hv⟩:=hv.sl
  generalize exS u w y=S at*
  generalize exP u w (S 40)=T at*
  have F:=Hid.mk u1;clear u1
  obtain⟨u',hu⟩:∃b,b=u:=⟨_,rfl⟩
  obtain⟨u'',hv''⟩:∃b,b=u:=⟨_,rfl⟩
  cases u
  case' false=>
    refine Spec.go [] Tryz.func221 rfl rfl (by kernel_rfl) fun C _=>?_
    try simp(maxSteps:=999999) (disch:=omega) only[go_sem,Nat.reduceBEq,reduceAdd]
    refine caN (by exact jO (w:=w) (by have:=F.out;omega)) ?_;rintro _ h2 _ q2;obtain⟨v2,v2_l,v2_c,rfl,q2⟩:=q2.sl
    try simp(maxSteps:=999999) (disch:=omega) only[go_sem,Nat.reduceBEq,reduceAdd]
  case' true=>
    refine Spec.go [] Tryz.func221 rfl rfl (by kernel_rfl) fun C _=>?_
    try simp(maxSteps:=999999) (disch:=omega) only[go_sem,Nat.reduceBEq,reduceAdd]
    refine caN (by exact jO (w:=w) (by have:=F.out;omega)) ?_;rintro _ h1 _ q1;obtain⟨v1,_,_,rfl,q1⟩:=q1.sl
    try simp(maxSteps:=999999) (disch:=omega) only[go_sem,Nat.reduceBEq,reduceAdd]
    refine caN (by exact nr q1 q1 (by have:=F.out;omega) (by have:=F.out;omega)) ?_;rintro _ h2 _ q2;obtain⟨v2,v2_l,v2_c,rfl,q2⟩:=q2.sl
    try simp(maxSteps:=999999) (disch:=omega) only[go_sem,Nat.reduceBEq,reduceAdd]
  all_goals
    have q2:N16 h2 (.slice v2 v2_l v2_c) (S 0):=by rw[e0];exact q2
    refine lp [] (fun x':Value×Nat=>⟨[(0,.v (.slice xa ma ca)),(1,.v (.int .i64 w)),(2,.v (.bool u')),(7,.v x'.1),(8,.v (.int .i64 (x'.2:Int)))],[]⟩) (fun x' h'=>Le h2 h'∧x'.2≤40∧N16 h' x'.1 (S (40 - x'.2))) (fun x'=>x'.2) (.slice v2 v2_l v2_c,40) ?_ ⟨inferInstance,Nat.le_refl 40,by show N16 h2 (.slice v2 v2_l v2_c) (S (40 - 40));exact q2⟩ (by kernel_rfl) ?_
    · try simp(maxSteps:=999999) (disch:=omega) only[go_sem,Nat.reduceBEq,reduceAdd,hu]
      all_goals rfl
    subst hu
    rintro⟨va,i⟩ g0 ⟨le0,hi,qa⟩
    dsimp only at hi qa ⊢
    obtain⟨_,_,_,rfl,qa⟩:=qa.sl
    have le1:Le h0 g0:=Le.trn inferInstance le0
    cases i with
    | zero=>
      rw[Nat.sub_zero,←p0] at qa
      try simp(maxSteps:=999999) (disch:=omega) only[go_sem,Nat.reduceBEq,reduceAdd]
      refine lp [] (fun x':Value×Nat=>⟨[(1,.v (.int .i64 w)),(2,.v (.bool u'')),(7,.v x'.1),(11,.v (.int .i64 (x'.2:Int)))],[]⟩) (fun x' h'=>Le g0 h'∧x'.2≤8∧N16 h' x'.1 (T x'.2)) (fun x'=>8 - x'.2) (.slice _ _ _,0) ?_ ⟨inferInstance,Nat.zero_le 8,qa⟩ (by kernel_rfl) ?_
      · try simp(maxSteps:=999999) (disch:=omega) only[go_sem,Nat.reduceBEq,reduceAdd,hv'']
        all_goals rfl
      subst hv''
      rintro⟨vb,i⟩ f0 ⟨le2,hi,qb⟩
      dsimp only at hi qb ⊢
      obtain⟨_,_,_,rfl,qb⟩:=qb.sl
      have le3:Le h0 f0:=Le.trn le1 le2
      by_cases c:i < 8
      · have b:=bP (k:=i) (by have:=F.out;omega)
        have e:=eP i
        generalize T i=s at*
        have F:=Hid.mk (And.intro F.out b);clear b
        try simp(maxSteps:=999999) (disch:=omega) only[go_sem,Nat.reduceBEq,reduceAdd]
        refine caN (by exact nu (n:=w) qb qb (by have:=F.out;omega) (by have:=F.out;omega) (by have:=F.out;omega)) ?_;rintro _ f1 _ r1;obtain⟨w1,w1_l,w1_c,rfl,r1⟩:=r1.sl
        try simp(maxSteps:=999999) (disch:=omega) only[go_sem,Nat.reduceBEq,reduceAdd]
        dsimp only[lpE];refine⟨(.slice w1 w1_l w1_c,i+1),?_,⟨Le.trn le2 inferInstance,show i+1≤8 by have:=F.out;omega,?_⟩,show 8 - (i+1) < 8 - i by have:=F.out;omega⟩
        · try simp(maxSteps:=999999) (disch:=omega) only[go_sem,Nat.reduceBEq,reduceAdd]
          all_goals rfl
        · show N16 f1 (.slice w1 w1_l w1_c) (T (i+1))
          rw[e];exact r1
      · have e8:i=8:=by have:=F.out;omega
        subst e8
        try simp(maxSteps:=999999) (disch:=omega) only[go_sem,Nat.reduceBEq,reduceAdd]
        exact qb.to
    | succ i=>
      have b:=bS (k:=40 - (i+1)) (by have:=F.out;omega)
      have e:=eS (k:=40 - (i+1)) (by have:=F.out;omega)
      rw[show 40 - (i+1)+1=40 - i by have:=F.out;omega,show 40 - (40 - (i+1))=i+1 by have:=F.out;omega] at e
      generalize S (40 - (i+1))=s at*
      have b1:=aG y s
      have b2:bl (256*(i+1))≤20:=bl_le.2 (by have:=F.out;omega)
      have b3:=cu (256*(i+1)) w
      have n0:=Hid.mk (Nat.mul_ne_zero (show 256*(i+1)≠0 by have:=F.out;omega) w0.out)
      have F:=Hid.mk (And.intro F.out (And.intro b (And.intro b1 (And.intro b2 b3))));clear b b1 b2 b3
      try simp(maxSteps:=999999) (disch:=omega) only[go_sem,Nat.reduceBEq,reduceAdd]
      refine caN (by exact aV (hv.to (h':=g0)) qa (by have:=F.out;omega) (by have:=F.out;omega)) ?_;rintro _ g1 _ r1;obtain⟨w1,w1_l,w1_c,rfl,r1⟩:=r1.sl
      try simp(maxSteps:=999999) (disch:=omega) only[go_sem,Nat.reduceBEq,reduceAdd]
      refine caN (by exact di (k:=((256*(i+1):Nat):Int)) (n:=256*(i+1)) (by rw[wu64 (by have:=F.out;omega) (by have:=F.out;omega)]) (by have:=F.out;omega)) ?_;rintro _ g2 _ r2;obtain⟨w2,_,_,rfl,r2⟩:=r2.sl
      try simp(maxSteps:=999999) (disch:=omega) only[go_sem,Nat.reduceBEq,reduceAdd]
      refine caN (by exact gf (n:=w) r2 (show bl (256*(i+1))+w≤2^40 by have:=F.out;omega)) ?_;rintro _ g3 _ r3;obtain⟨w3,_,_,rfl,r3⟩:=r3.sl
      try simp(maxSteps:=999999) (disch:=omega) only[go_sem,Nat.reduceBEq,reduceAdd]
      refine caN (by exact jO (w:=w) (by have:=F.out;omega)) ?_;rintro _ g4 _ r4;obtain⟨w4,_,_,rfl,r4⟩:=r4.sl
      try simp(maxSteps:=999999) (disch:=omega) only[go_sem,Nat.reduceBEq,reduceAdd]
      refine caN (by exact(by first |exact xg (r1.to (h':=g4)) (r3.to (h':=g4)) n0.out (show bl (y*s)≤2^36 by have:=F.out;omega) (show bl (256*(i+1)*2^w)≤2^36 by have:=F.out;omega) |exact rJ (r1.to (h':=g4)) (r3.to (h':=g4)) n0.out (show bl (y*s)≤2^36 by have:=F.out;omega) (show bl (256*(i+1)*2^w)≤2^36 by have:=F.out;omega))) ?_;rintro _ g5 _ r5;obtain⟨w5,_,_,rfl,r5⟩:=r5.sl
      try simp(maxSteps:=999999) (disch:=omega) only[go_sem,Nat.reduceBEq,reduceAdd]
      refine caN (by exact nr (r4.to (h':=g5)) r5 (by have:=F.out;omega) (Nat.le_trans (by first |exact fy (y*s) n0.out |exact Nat.le_succ_of_le (aZ (y*s) (256*(i+1)*2^w))) (show bl (y*s)+1≤2^40 by have:=F.out;omega))) ?_;rintro _ g6 _ r6;obtain⟨w6,w6_l,w6_c,rfl,r6⟩:=r6.sl
      try simp(maxSteps:=999999) (disch:=omega) only[go_sem,Nat.reduceBEq,reduceAdd]
      dsimp only[lpE];refine⟨(.slice w6 w6_l w6_c,i),?_,⟨Le.trn le0 inferInstance,show i≤40 by have:=F.out;omega,?_⟩,show i < i+1 by have:=F.out;omega⟩
      · try simp(maxSteps:=999999) (disch:=omega) only[go_sem,Nat.reduceBEq,reduceAdd]
        all_goals rfl
      · show N16 g6 (.slice w6 w6_l w6_c) (S (40 - i))
        rw[e];exact r6
def Be (h:PH) (r:Value) (x y:Rat):Prop:=∃b1 a1 m1 c1 a2 m2 c2 b2 a3 m3 c3 a4 m4 c4,r=.tuple #[.agg #[.bool b1,.slice a1 m1 c1,.slice a2 m2 c2,.bool b2,.slice a3 m3 c3,.slice a4 m4 c4],.int .i64 0]∧Cn h (.agg #[.bool b1,.slice a1 m1 c1,.slice a2 m2 c2]) x∧Cn h (.agg #[.bool b2,.slice a3 m3 c3,.slice a4 m4 c4]) y
theorem bl_64 {n w:Nat} (h:n≤64*2^w):bl n≤w+7:=pj (k:=w+6) (by rw[Nat.pow_add];omega)
theorem bl_cd {a k n:Nat} (h:bl a≤k) (hn:1≤n):bl (cdiv a (2^n))≤k+1:=Nat.le_trans (fy a (am n)) (by omega)
theorem yZ {h0 h:PH} [Le h0 h] {v:Value} {x:Rat} {p:Nat} (hx:Cn h0 v x) (bx:sz x≤1024) (hb:¬x.den*64 < x.num.natAbs) (hp:p≤128):Spec mach 24 #[v,.int .i64 p] h (fun r h'=>Be h' r (expLo x p) (expHi x p)) NP:=by
  have kS:=fun {h} [Le h0 h]=>iH (h:=h) (w:=p+112) hx (Nat.le_trans bx (by decide)) (by omega)
  obtain⟨g1,g2⟩:=xQ (w:=p+112) hb
  have bL:=bl_64 g1
  have bH:=bl_64 g2
  have bl1:∀{k},k < 40→bl (eLo (p+112) (glo x (p+112)) k)≤p+114:=fun hk=>pj (AO g1 hk).1
  have bl2:∀{k},k≤40→bl (eHi (p+112) (ghi x (p+112)) k)≤p+114:=fun hk=>pj (AM g2 hk)
  have bq1:=bl_qLo (p+112) (eLo (p+112) (glo x (p+112)) 40)
  have bq2:=bl_qHi (p+112) (eHi (p+112) (ghi x (p+112)) 40)
  have b40:bl (eLo (p+112) (glo x (p+112)) 40)≤p+114:=pj (AO g1 (k:=39) (by decide)).2
  have b41:=bl2 (Nat.le_refl 40)
  obtain⟨f1,f2,f3,f4⟩:=AT (p:=p) hb
  obtain⟨na,nl,nc,da,dl,dc,rfl,hn,hd,e1,e2⟩:=hx.parts
  clear hn hd e1 e2 hx
  have u1:=bC (p+112)
  have u3:=bC (p+112+p)
  have u2:=fI
  generalize hD:decide (x.num < 0)=b at kS ⊢
  have f3:=Hid.mk f3
  have f4:=Hid.mk f4
  have bq1:=fun j=>Hid.mk (bq1 j)
  have bq2:=fun j=>Hid.mk (bq2 j)
  have b40:=Hid.mk b40
  have b41:=Hid.mk b41
  have f2':=Hid.mk f2
  clear hb bx g1 g2
  have F:=Hid.mk (And.intro bL (And.intro bH (And.intro f1 (And.intro f2 (And.intro u1 (And.intro u2 u3))))));clear bL bH f1 f2 u1 u2 u3
  refine Spec.go [(9,.o [0,2,3,4,6,7,9,10,1,5,8,11,12,13,14])] Tryz.func24 rfl rfl (by kernel_rfl) fun C _=>?_
  try simp(disch:=omega) only[go_sem,Nat.reduceBEq,reduceAdd]
  refine caN (by exact kS) ?_;rintro v1 h1 s1 ⟨a1,m1,c1,a2,m2,c2,rfl,q1,q2⟩
  try simp(disch:=omega) only[go_sem,Nat.reduceBEq,reduceAdd]
  refine caN (by exact bu (w:=p+112) (by have:=F.out;omega)) ?_;rintro _ h3 _ q3;obtain⟨v3,v3_l,v3_c,rfl,q3⟩:=q3.sl
  try simp(disch:=omega) only[go_sem,Nat.reduceBEq,reduceAdd]
  refine caN (by exact bu (w:=p+112) (by have:=F.out;omega)) ?_;rintro _ h4 _ q4;obtain⟨v4,_,_,rfl,q4⟩:=q4.sl
  try simp(disch:=omega) only[go_sem,Nat.reduceBEq,reduceAdd]
  refine caN (by exact aL (n:=1) q4 (by have:=F.out;omega)) ?_;rintro _ h5 _ q5;obtain⟨v5,v5_l,v5_c,rfl,q5⟩:=q5.sl
  try simp(disch:=omega) only[go_sem,Nat.reduceBEq,reduceAdd]
  refine lp [(9,.o [0,2,3,4,6,7,9,10,1,5,8,11,12,13,14])] (fun x':Value×Value×Nat=>⟨[(1,.v (.int .i64 p)),(2,.p 0 0),(4,.p 1 0),(6,.v (.int .i64 (p+112:Nat))),(7,.p 2 0),(8,.v x'.1),(9,.v x'.2.1),(10,.v (.int .u32 (x'.2.2:Nat)))],[[.bool b,.slice na nl nc,.slice da dl dc],[.bool false,.slice none 0 0,.slice none 0 0,.bool false,.slice none 0 0,.slice none 0 0],[.slice a1 m1 c1,.slice a2 m2 c2]]⟩) (fun x' h'=>Le h1 h'∧x'.2.2≤40∧N32 h' x'.1 (eLo (p+112) (glo x (p+112)) (40 - x'.2.2))∧N32 h' x'.2.1 (eHi (p+112) (ghi x (p+112)) (40 - x'.2.2))) (fun x'=>x'.2.2) (.slice v3 v3_l v3_c,.slice v5 v5_l v5_c,40) ?_ ⟨inferInstance,Nat.le_refl _,by show N32 _ _ (eLo _ _ (40 - 40));rw[Nat.sub_self,eLo_0];exact q3.to,by show N32 _ _ (eHi _ _ (40 - 40));rw[Nat.sub_self,eHi_0];exact q5⟩ (by kernel_rfl) ?_
  · try simp(disch:=omega) only[go_sem,Nat.reduceBEq,reduceAdd]
    all_goals rfl
  rintro⟨va,vb,i⟩ h6 ⟨le6,hi,ha,hb'⟩
  dsimp only at hi ha hb' ⊢
  by_cases h0i:i=0
  · subst h0i
    rw[Nat.sub_zero] at ha hb'
    obtain⟨_,_,_,rfl,ha⟩:=ha.sl
    obtain⟨_,_,_,rfl,hb'⟩:=hb'.sl
    try simp(disch:=omega) only[go_sem,Nat.reduceBEq,reduceAdd]
    refine lp [(9,.o [0,2,3,4,6,7,9,10,1,5,8,11,12,13,14])] (fun x':Value×Value×Nat=>⟨[(1,.v (.int .i64 p)),(2,.p 0 0),(4,.p 1 0),(6,.v (.int .i64 (p+112:Nat))),(8,.v x'.1),(9,.v x'.2.1),(58,.v (.int .i64 (x'.2.2:Nat)))],[[.bool b,.slice na nl nc,.slice da dl dc],[.bool false,.slice none 0 0,.slice none 0 0,.bool false,.slice none 0 0,.slice none 0 0],[.slice a1 m1 c1,.slice a2 m2 c2]]⟩) (fun x' h'=>x'.2.2≤8∧N32 h' x'.1 (qLo (p+112) (eLo (p+112) (glo x (p+112)) 40) x'.2.2)∧N32 h' x'.2.1 (qHi (p+112) (eHi (p+112) (ghi x (p+112)) 40) x'.2.2)) (fun x'=>8 - x'.2.2) (_,_,0) ?_ ⟨(show 0≤8 by decide),by show N32 _ _ (qLo _ _ 0);rw[qLo_0];exact ha,by show N32 _ _ (qHi _ _ 0);rw[qHi_0];exact hb'⟩ (by kernel_rfl) ?_
    · try simp(disch:=omega) only[go_sem,Nat.reduceBEq,reduceAdd]
      all_goals rfl
    rintro⟨va',vb',j⟩ h7 ⟨hj,hc,hd'⟩
    dsimp only at hj hc hd' ⊢
    by_cases hj8:j=8
    · subst hj8
      have hc:N32 h7 va' (expL x p):=hc
      have hd':N32 h7 vb' (expH x p):=hd'
      obtain⟨_,_,_,rfl,hc⟩:=hc.sl
      obtain⟨_,_,_,rfl,hd'⟩:=hd'.sl
      cases b with
      | false=>
        have hlt:¬x.num < 0:=of_decide_eq_false hD
        have ea:expLo x p=sgn false (expL x p / 2^(p+112 - p)) (2^p):=by unfold expLo;rw[if_neg hlt,show p+112 - p=112 by have:=F.out;omega]
        have eb:expHi x p=sgn false (cdiv (expH x p) (2^(p+112 - p))) (2^p):=by unfold expHi;rw[if_neg hlt,show p+112 - p=112 by have:=F.out;omega]
        have y1:=aZ (expL x p) (2^(p+112 - p))
        have y2:=bl_cd (n:=p+112 - p) f2'.out (by have:=F.out;omega)
        rw[ea,eb]
        clear ea eb
        have F:=Hid.mk (And.intro F.out (And.intro y1 y2));clear y1 y2
        try simp(disch:=omega) only[go_sem,Nat.reduceBEq,reduceAdd]
        refine caN (by exact fw (a:=expL x p) (b:=expH x p) (w:=p+112) (p:=p) (neg:=false) ⟨_,_,_,_,_,_,rfl,hc,hd'⟩ (by have:=F.out;omega) (by have:=F.out;omega) (by have:=F.out;omega) (by have:=F.out;omega) (by have:=F.out;omega) (by have:=F.out;omega) (by have:=F.out;omega)) ?_;rintro v8 h8 s8 ⟨_,_,_,_,_,_,_,_,_,_,_,_,_,_,rfl,r1,r2⟩
        try simp(disch:=omega) only[go_sem,Nat.reduceBEq,reduceAdd]
        exact⟨_,_,_,_,_,_,_,_,_,_,_,_,_,_,rfl,r1,r2⟩
      | true=>
        have hlt:x.num < 0:=of_decide_eq_true hD
        have y1:=aZ (2^(p+112+p)) (expH x p)
        have y2:=fy (2^(p+112+p)) f3.out
        have ea:expLo x p=sgn false (2^(p+112+p) / expH x p) (2^p):=by unfold expLo;rw[if_pos hlt]
        have eb:expHi x p=sgn false (cdiv (2^(p+112+p)) (expL x p)) (2^p):=by unfold expHi;rw[if_pos hlt]
        rw[ea,eb]
        clear ea eb
        have F:=Hid.mk (And.intro F.out (And.intro y1 y2));clear y1 y2
        try simp(disch:=omega) only[go_sem,Nat.reduceBEq,reduceAdd]
        refine caN (by exact bu (w:=p+112+p) (by have:=F.out;omega)) ?_;rintro _ h8 _ q8;obtain⟨v8,_,_,rfl,q8⟩:=q8.sl
        try simp(disch:=omega) only[go_sem,Nat.reduceBEq,reduceAdd]
        refine caN (by exact bD (c:=false) q8 (hd'.to (h':=h8)) f4.out (by have:=F.out;omega) (by have:=F.out;omega)) ?_;rintro _ h9 _ q9;obtain⟨v9,_,_,rfl,q9⟩:=q9.sl
        try simp(disch:=omega) only[go_sem,Nat.reduceBEq,reduceAdd]
        refine caN (by exact aO (n:=p) q9 (show bl (2^(p+112+p) / expH x p)≤2048 by have:=F.out;omega) (by have:=F.out;omega)) ?_;rintro v10 h10 s10 q10;obtain⟨_,_,_,_,_,_,_,rfl,q10⟩:=q10.sa
        try simp(disch:=omega) only[go_sem,Nat.reduceBEq,reduceAdd]
        refine caN (by exact bD (c:=true) (q8.to (h':=h10)) (hc.to (h':=h10)) f3.out (by have:=F.out;omega) (by have:=F.out;omega)) ?_;rintro _ h11 _ q11;obtain⟨v11,_,_,rfl,q11⟩:=q11.sl
        try simp(disch:=omega) only[go_sem,Nat.reduceBEq,reduceAdd]
        refine caN (by exact aO (n:=p) q11 (show bl (cdiv (2^(p+112+p)) (expL x p))≤2048 by have:=F.out;omega) (by have:=F.out;omega)) ?_;rintro v12 h12 s12 q12;obtain⟨_,_,_,_,_,_,_,rfl,q12⟩:=q12.sa
        try simp(disch:=omega) only[go_sem,Nat.reduceBEq,reduceAdd]
        exact⟨_,_,_,_,_,_,_,_,_,_,_,_,_,_,rfl,q10.to,q12⟩
    · have hj8:j < 8:=by have:=F.out;omega
      have z0:2^j≤2^8:=Nat.pow_le_pow_right (by decide) (by have:=F.out;omega)
      have z1:=Nat.le_trans (bq1 j).out (Nat.mul_le_mul z0 (Nat.add_le_add_right b40.out 1))
      have z2:=Nat.le_trans (bq2 j).out (Nat.mul_le_mul z0 (Nat.add_le_add_right b41.out 1))
      have z3:=aG (qLo (p+112) (eLo (p+112) (glo x (p+112)) 40) j) (qLo (p+112) (eLo (p+112) (glo x (p+112)) 40) j)
      have z4:=aG (qHi (p+112) (eHi (p+112) (ghi x (p+112)) 40) j) (qHi (p+112) (eHi (p+112) (ghi x (p+112)) 40) j)
      clear z0
      have F:=Hid.mk (And.intro F.out (And.intro z1 (And.intro z2 (And.intro z3 z4))));clear z1 z2 z3 z4
      try simp(disch:=omega) only[go_sem,Nat.reduceBEq,reduceAdd]
      refine caN (by exact aI hc hc (by have:=F.out;omega) (by have:=F.out;omega)) ?_;rintro _ h8 _ r1;obtain⟨w1,_,_,rfl,r1⟩:=r1.sl
      try simp(disch:=omega) only[go_sem,Nat.reduceBEq,reduceAdd]
      refine caN (by exact gD (n:=p+112) r1 (by have:=F.out;omega) (by have:=F.out;omega)) ?_;rintro _ h9 _ r2;obtain⟨w2,_,_,rfl,r2⟩:=r2.sl
      try simp(disch:=omega) only[go_sem,Nat.reduceBEq,reduceAdd]
      refine caN (by exact aI (hd'.to (h':=h9)) (hd'.to (h':=h9)) (by have:=F.out;omega) (by have:=F.out;omega)) ?_;rintro _ h10 _ r3;obtain⟨w3,_,_,rfl,r3⟩:=r3.sl
      try simp(disch:=omega) only[go_sem,Nat.reduceBEq,reduceAdd]
      refine caN (by exact kJ (n:=p+112) r3 (by have:=F.out;omega) (by have:=F.out;omega)) ?_;rintro _ h11 _ r4;obtain⟨w4,_,_,rfl,r4⟩:=r4.sl
      try simp(disch:=omega) only[go_sem,Nat.reduceBEq,reduceAdd]
      dsimp only[lpE];refine⟨(_,_,j+1),?_,⟨(show j+1≤8 by have:=F.out;omega),by show N32 _ _ (qLo _ _ (j+1));rw[qLo_s];exact r2.to,by show N32 _ _ (qHi _ _ (j+1));rw[qHi_s];exact r4⟩,(show 8 - (j+1) < 8 - j by have:=F.out;omega)⟩
      try simp(disch:=omega) only[go_sem,Nat.reduceBEq,reduceAdd]
      all_goals rfl
  · obtain⟨k,hk,ek⟩:∃k,k < 40∧40 - i=k:=⟨_,by have:=F.out;omega,rfl⟩
    have ei:i=40 - k:=by have:=F.out;omega
    have en:40 - (i - 1)=k+1:=by have:=F.out;omega
    rw[ek] at ha hb'
    have c1:=bl1 hk
    have c2:=bl2 (Nat.le_of_lt hk)
    have d1:=aG (glo x (p+112)) (eLo (p+112) (glo x (p+112)) k)
    have d2:=aG (ghi x (p+112)) (eHi (p+112) (ghi x (p+112)) k)
    have d3:=aZ (glo x (p+112)*eLo (p+112) (glo x (p+112)) k) (2^(p+112+8))
    have d4:=aZ (glo x (p+112)*eLo (p+112) (glo x (p+112)) k / 2^(p+112+8)) i
    have d5:=bl_cd (n:=p+112+8) d2 (by have:=F.out;omega)
    have d6:bl (odiv (cdiv (ghi x (p+112)*eHi (p+112) (ghi x (p+112)) k) (2^(p+112+8))) i true)≤_:=fy _ h0i
    have d7:bl i≤6:=bl_le.2 (by have:=F.out;omega)
    have h0i:=Hid.mk h0i
    have hi0:1≤i:=by have:=F.out;omega
    have ei:=Hid.mk ei
    have en:=Hid.mk en
    clear ek hk
    have F:=Hid.mk (And.intro F.out (And.intro c1 (And.intro c2 (And.intro d1 (And.intro d2 (And.intro d3 (And.intro d4 (And.intro d5 (And.intro d6 d7)))))))));clear c1 c2 d1 d2 d3 d4 d5 d6 d7
    try simp(disch:=omega) only[go_sem,Nat.reduceBEq,reduceAdd]
    refine caN (by exact aI (q1.to (h':=h6)) ha (by have:=F.out;omega) (by have:=F.out;omega)) ?_;rintro _ h7 _ r1;obtain⟨w1,_,_,rfl,r1⟩:=r1.sl
    try simp(disch:=omega) only[go_sem,Nat.reduceBEq,reduceAdd]
    refine caN (by exact gD (n:=p+112+8) r1 (by have:=F.out;omega) (by have:=F.out;omega)) ?_;rintro _ h8 _ r2;obtain⟨w2,_,_,rfl,r2⟩:=r2.sl
    try simp(disch:=omega) only[go_sem,Nat.reduceBEq,reduceAdd]
    refine caN (by exact nN (d:=i) r2 (by have:=F.out;omega) (by have:=F.out;omega) (by have:=F.out;omega)) ?_;rintro w3 h9 s9 ⟨_,rfl,r3⟩;obtain⟨_,_,_,rfl,r3⟩:=r3.sl
    try simp(disch:=omega) only[go_sem,Nat.reduceBEq,reduceAdd]
    refine caN (by exact bu (w:=p+112) (by have:=F.out;omega)) ?_;rintro _ h10 _ r4;obtain⟨w4,_,_,rfl,r4⟩:=r4.sl
    try simp(disch:=omega) only[go_sem,Nat.reduceBEq,reduceAdd]
    refine caN (by exact bR r4 (r3.to (h':=h10)) (by have:=F.out;omega) (by have:=F.out;omega)) ?_;rintro _ h11 _ r5;obtain⟨w5,w5_l,w5_c,rfl,r5⟩:=r5.sl
    try simp(disch:=omega) only[go_sem,Nat.reduceBEq,reduceAdd]
    refine caN (by exact bu (w:=p+112) (by have:=F.out;omega)) ?_;rintro _ h12 _ r6;obtain⟨w6,_,_,rfl,r6⟩:=r6.sl
    try simp(disch:=omega) only[go_sem,Nat.reduceBEq,reduceAdd]
    refine caN (by exact aI (q2.to (h':=h12)) (hb'.to (h':=h12)) (by have:=F.out;omega) (by have:=F.out;omega)) ?_;rintro _ h13 _ r7;obtain⟨w7,_,_,rfl,r7⟩:=r7.sl
    try simp(disch:=omega) only[go_sem,Nat.reduceBEq,reduceAdd]
    refine caN (by exact kJ (n:=p+112+8) r7 (by have:=F.out;omega) (by have:=F.out;omega)) ?_;rintro _ h14 _ r8;obtain⟨w8,_,_,rfl,r8⟩:=r8.sl
    try simp(disch:=omega) only[go_sem,Nat.reduceBEq,reduceAdd]
    refine caN (by exact aw (n:=i) (by have:=F.out;omega)) ?_;rintro _ h15 _ r9;obtain⟨w9,_,_,rfl,r9⟩:=r9.sl
    try simp(disch:=omega) only[go_sem,Nat.reduceBEq,reduceAdd]
    refine caN (by exact bD (c:=true) (r8.to (h':=h15)) r9 h0i.out (by have:=F.out;omega) (by have:=F.out;omega)) ?_;rintro _ h16 _ r10;obtain⟨w10,_,_,rfl,r10⟩:=r10.sl
    try simp(disch:=omega) only[go_sem,Nat.reduceBEq,reduceAdd]
    refine caN (by exact bR (r6.to (h':=h16)) r10 (by have:=F.out;omega) (by have:=F.out;omega)) ?_;rintro _ h17 _ r11;obtain⟨w11,w11_l,w11_c,rfl,r11⟩:=r11.sl
    try simp(disch:=omega) only[go_sem,Nat.reduceBEq,reduceAdd]
    dsimp only[lpE];refine⟨(.slice w5 w5_l w5_c,.slice w11 w11_l w11_c,i - 1),?_,⟨Le.trn le6 inferInstance,(show i - 1≤40 by have:=F.out;omega),?_,?_⟩,(show i - 1 < i by have:=F.out;omega)⟩
    · try simp(disch:=omega) only[go_sem,Nat.reduceBEq,reduceAdd]
      all_goals rfl
    · show N32 _ _ (eLo _ _ (40 - (i - 1)))
      rw[en.out,eLo_s,←ei.out]
      exact r5.to
    · show N32 _ _ (eHi _ _ (40 - (i - 1)))
      rw[en.out,eHi_s,←ei.out]
      exact r11
theorem dt {h0 h:PH} [Le h0 h] {v w:Value} {x y:Rat} (hx:Cn h0 v x) (hy:Qr h0 w y) (bx:sz x≤2^30) (by_:sz y≤2^30):Spec mach 9 #[v,w] h (fun r _=>r=.bool (decide (x=y))) NP:=by
  have kC:=fun {h} [Le h0 h]=>mq (h:=h) hx bx
  have hw:=hx.rw bx
  have kO:=fun {h} [Le h0 h]=>bM (h:=h) hw
  rw[jA] at kO
  have e3:(cmpQ x y == 0)=decide (x=y):=by unfold cmpQ;grind
  obtain⟨_,_,_,_,_,_,_,rfl,_⟩:=hx.sa
  have hy0:=hy
  obtain⟨_,_,_,_,_,_,_,rfl,_⟩:=hy.sl
  refine Spec.go [(1,.o [0,1,2,3,5,4,6,7,8,9])] Tryz.func9 rfl rfl (by kernel_rfl) fun C _=>?_
  try simp(disch:=omega) only[go_sem,Nat.reduceBEq,reduceAdd]
  refine caN (by exact kC) ?_;rintro v1 h1 s1 rfl
  try simp(disch:=omega) only[go_sem,Nat.reduceBEq,reduceAdd]
  refine caN (by exact kO) ?_;rintro v2 h2 s2 q2;have q2':=q2;obtain⟨_,_,_,_,_,_,_,rfl,_⟩:=q2'.sl
  try simp(disch:=omega) only[go_sem,Nat.reduceBEq,reduceAdd]
  refine caN (by exact av q2 (hy0.to (h':=h2)) (Nat.le_trans bx (by decide)) (Nat.le_trans by_ (by decide))) ?_;rintro v3 h3 s3 rfl
  try simp(disch:=omega) only[go_sem,Nat.reduceBEq,reduceAdd,e3]
theorem dW (h:PH):Qr h (.agg #[.bool false,.slice none 0 0,.slice none 0 0]) 0:=⟨_,_,0,rfl,N16.zero h,N16.zero h,rfl⟩
theorem wS {h0 h:PH} [Le h0 h] {v:Value} {x:Rat} (hx:Qr h0 v x):Spec mach 150 #[v] h (fun v h'=>Qr h' v (sgn false x.num.natAbs x.den)) NP:=by
  obtain⟨_,_,_,_,_,_,e,rfl,k1,k2,k3⟩:=hx.sl
  obtain⟨e1,e2⟩:=rf (neg:=false) x.den_nz x.reduced
  refine Spec.go [] Tryz.func150 rfl rfl (by kernel_rfl) fun C _=>?_
  try simp(disch:=omega) only[go_sem,Nat.reduceBEq,reduceAdd]
  exact⟨_,_,e,by rw[show decide ((sgn false x.num.natAbs x.den).num < 0)=false from decide_eq_false (by rw[e1];exact Int.not_lt.2 (Int.natCast_nonneg _))],by rw[e1];exact k1.to,k2.to,by rw[e2];exact k3⟩
theorem vK (a:Nat) {d:Nat} (hd:d≠0):sgn false a d*(d:Rat)=(a:Rat):=by
  have h:(d:Rat)≠0:=by exact_mod_cast hd
  unfold sgn
  rw[Rat.mkRat_eq_div]
  exact Rat.div_mul_cancel h
theorem yS {h0 h:PH} [Le h0 h] {v:Value} {x:Rat} {fn:Int} (hx:Qr h0 v x) (bx:sz x≤2048):Spec mach 151 #[.int .i64 fn,v] h (fun r _=>r=.bool (defB fn x)) NP:=by
  have kS:=fun {h} [Le h0 h]=>bS (h:=h) hx
  have kM:=fun {h} [Le h0 h]=>wS (h:=h) hx
  have bm:sz (sgn false x.num.natAbs x.den)≤2048:=by
    have:=dg false x.num.natAbs x.den_nz
    have:=bG x
    have:=bB x
    omega
  obtain⟨_,_,_,_,_,_,_,rfl,_⟩:=hx.sl
  unfold defB
  by_cases h2:fn=2
  · subst h2
    have e3:decide (sgn3 x > 0)=decide (0 < x):=by unfold sgn3;grind
    rw[if_pos rfl]
    refine Spec.go [] Tryz.func151 rfl rfl (by kernel_rfl) fun C _=>?_
    try simp(disch:=omega) only[go_sem,Nat.reduceBEq,reduceAdd]
    refine caN (by exact kS) ?_;rintro v1 h1 s1 rfl
    try simp(disch:=omega) only[go_sem,Nat.reduceBEq,reduceAdd,e3]
  · have f2 :(fn == 2)=false:=by simpa using h2
    rw[if_neg h2]
    by_cases h6:fn=6∨fn=7
    · rw[if_pos h6]
      have e5:decide (cmpQ (sgn false x.num.natAbs x.den) ((1:Int):Rat)≤0)=decide (x.num.natAbs≤x.den):=by
        have k1:=vK x.num.natAbs x.den_nz
        have k2:(0:Rat) < (x.den:Rat):=by exact_mod_cast x.den_pos
        generalize sgn false x.num.natAbs x.den=t at*
        have k3:t≤1↔x.num.natAbs≤x.den:=by
          constructor
          · intro k
            have:t*(x.den:Rat)≤1*(x.den:Rat):=mlr k (llt k2)
            rw[k1,Rat.one_mul] at this
            exact_mod_cast this
          · intro k
            have:(x.num.natAbs:Rat)≤(x.den:Rat):=by exact_mod_cast k
            rw[←k1] at this
            refine Decidable.byContradiction fun hc=>?_
            have h3:1 < t:=by grind
            have h4:1*(x.den:Rat) < t*(x.den:Rat):=Rat.mul_lt_mul_of_pos_right h3 k2
            grind
        have e1:((1:Int):Rat)=1:=rfl
        rw[e1]
        unfold cmpQ
        grind
      rcases h6 with rfl |rfl
      all_goals
        refine Spec.go [] Tryz.func151 rfl rfl (by kernel_rfl) fun C _=>?_
        try simp(disch:=omega) only[go_sem,Nat.reduceBEq,reduceAdd]
        refine caN (by exact kM) ?_;rintro v1 h1 s1 q1;have q1':=q1;obtain⟨_,_,_,_,_,_,_,rfl,_⟩:=q1'.sl
        try simp(disch:=omega) only[go_sem,Nat.reduceBEq,reduceAdd]
        refine caN (by exact aF (n:=1) (by decide) (by decide)) ?_;rintro v2 h2 s2 q2;have q2':=q2;obtain⟨_,_,_,_,_,_,_,rfl,_⟩:=q2'.sl
        try simp(disch:=omega) only[go_sem,Nat.reduceBEq,reduceAdd]
        refine caN (by exact av (q1.to (h':=h2)) q2 (Nat.le_trans bm (by decide)) (by decide)) ?_;rintro v3 h3 s3 rfl
        try simp(disch:=omega) only[go_sem,Nat.reduceBEq,reduceAdd,e5]
    · have f6:(fn == 6)=false:=by simp;omega
      have f7:(fn == 7)=false:=by simp;omega
      rw[if_neg h6]
      refine Spec.go [] Tryz.func151 rfl rfl (by kernel_rfl) fun C _=>?_
      try simp(disch:=omega) only[go_sem,Nat.reduceBEq,reduceAdd,f2,f6,f7]
theorem CG {h0 h:PH} [Le h0 h] {v:Value} {x:Rat} {fn:Int} (hx:Qr h0 v x) (bx:sz x≤2048):Spec mach 71 #[.int .i64 fn,v] h (fun r h'=>∃b na nl nc da dl dc,r=.tuple #[.agg #[.bool b,.slice na nl nc,.slice da dl dc],.bool (exB fn x)]∧Qr h' (.agg #[.bool b,.slice na nl nc,.slice da dl dc]) (exV fn x)) NP:=by
  have hx0:=hx
  have bx':sz x≤2^34:=Nat.le_trans bx (by decide)
  obtain⟨_,_,_,_,_,_,_,rfl,_⟩:=hx.sl
  have c0:(cmpQ x ((0:Int):Rat) != 0)=!decide (x=0):=by
    have:((0:Int):Rat)=0:=rfl
    rw[this];unfold cmpQ;grind
  have c1:(cmpQ x ((1:Int):Rat) != 0)=!decide (x=1):=by
    have:((1:Int):Rat)=1:=rfl
    rw[this];unfold cmpQ;grind
  unfold exB exV
  by_cases h27:fn=2∨fn=7
  · rw[if_pos h27,if_neg (show ¬((fn=1∨fn=4)∧x=0) by omega)]
    cases e:decide (x=1)
    all_goals
      rw[e] at c1
      rcases h27 with rfl |rfl
      all_goals
        refine Spec.go [] Tryz.func71 rfl rfl (by kernel_rfl) fun C _=>?_
        try simp(disch:=omega) only[go_sem,Nat.reduceBEq,reduceAdd]
        refine caN (by exact aF (n:=1) (by decide) (by decide)) ?_;rintro v2 h2 s2 q2;have q2':=q2;obtain⟨_,_,_,_,_,_,_,rfl,_⟩:=q2'.sl
        try simp(disch:=omega) only[go_sem,Nat.reduceBEq,reduceAdd]
        refine caN (by exact av (hx0.to (h':=h2)) q2 bx' (by decide)) ?_;rintro v3 h3 s3 rfl
        try simp(disch:=omega) only[go_sem,Nat.reduceBEq,reduceAdd,c1]
        first
          |exact⟨_,_,_,_,_,_,_,rfl,dW _⟩
          |(refine caN (by exact aF (n:=0) (by decide) (by decide)) ?_;rintro v4 h4 s4 q4;have q4':=q4;obtain⟨_,_,_,_,_,_,_,rfl,_⟩:=q4'.sl;simp(disch:=omega) only[go_sem,Nat.reduceBEq,reduceAdd];exact⟨_,_,_,_,_,_,_,rfl,q4⟩)
  · rw[if_neg h27]
    have f2:(fn == 2)=false:=by simp;omega
    have f7:(fn == 7)=false:=by simp;omega
    by_cases h14:fn=1∨fn=4
    · cases e:decide (x=0)
      all_goals
        rw[e] at c0
        simp only[decide_eq_true_eq,decide_eq_false_iff_not] at e
        rcases h14 with rfl |rfl
        all_goals
          refine Spec.go [] Tryz.func71 rfl rfl (by kernel_rfl) fun C _=>?_
          try simp(disch:=omega) only[go_sem,Nat.reduceBEq,reduceAdd]
          refine caN (by exact aF (n:=0) (by decide) (by decide)) ?_;rintro v2 h2 s2 q2;have q2':=q2;obtain⟨_,_,_,_,_,_,_,rfl,_⟩:=q2'.sl
          try simp(disch:=omega) only[go_sem,Nat.reduceBEq,reduceAdd]
          refine caN (by exact av (hx0.to (h':=h2)) q2 bx' (by decide)) ?_;rintro v3 h3 s3 rfl
          try simp(disch:=omega) only[go_sem,Nat.reduceBEq,reduceAdd,c0]
          first
            |exact⟨_,_,_,_,_,_,_,rfl,by(first |rw[if_neg e] |rw[if_neg (fun k=>e k.2)]);exact dW _⟩
            |(refine caN (by exact aF (n:=1) (by decide) (by decide)) ?_;rintro v4 h4 s4 q4;have q4':=q4;obtain⟨_,_,_,_,_,_,_,rfl,_⟩:=q4'.sl;simp(disch:=omega) only[go_sem,Nat.reduceBEq,reduceAdd];exact⟨_,_,_,_,_,_,_,rfl,by(first |rw[if_pos e] |rw[if_pos ⟨by decide,e⟩]);exact q4⟩)
    · have f1:(fn == 1)=false:=by simp;omega
      have f4:(fn == 4)=false:=by simp;omega
      rw[if_neg (fun k=>h14 k.1)]
      cases e:decide (x=0)
      all_goals
        rw[e] at c0
        refine Spec.go [] Tryz.func71 rfl rfl (by kernel_rfl) fun C _=>?_
        try simp(disch:=omega) only[go_sem,Nat.reduceBEq,reduceAdd,f1,f2,f4,f7]
        refine caN (by exact aF (n:=0) (by decide) (by decide)) ?_;rintro v2 h2 s2 q2;have q2':=q2;obtain⟨_,_,_,_,_,_,_,rfl,_⟩:=q2'.sl
        try simp(disch:=omega) only[go_sem,Nat.reduceBEq,reduceAdd]
        refine caN (by exact av (hx0.to (h':=h2)) q2 bx' (by decide)) ?_;rintro v3 h3 s3 rfl
        try simp(disch:=omega) only[go_sem,Nat.reduceBEq,reduceAdd,c0]
        first
          |exact⟨_,_,_,_,_,_,_,rfl,dW _⟩
          |(refine caN (by exact aF (n:=0) (by decide) (by decide)) ?_;rintro v4 h4 s4 q4;have q4':=q4;obtain⟨_,_,_,_,_,_,_,rfl,_⟩:=q4'.sl;simp(disch:=omega) only[go_sem,Nat.reduceBEq,reduceAdd];exact⟨_,_,_,_,_,_,_,rfl,q4⟩)
theorem Eu {h0 h:PH} [Le h0 h] {v:Value} {x:Rat} {p:Int} (hx:Rv h0 v x) (hp:0≤p∧p≤128) (hl:¬1024 < sz x) (hb:¬x.den*64 < x.num.natAbs):Spec mach 105 #[.int .i64 1,v,.int .i64 p] h (fun r h'=>∃b na nl nc da dl dc,r=.tuple #[.agg #[.bool b,.slice na nl nc,.slice da dl dc],.int .i64 0]∧Cn h' (.agg #[.bool b,.slice na nl nc,.slice da dl dc]) x) NP:=by
  have kK:=fun {h} [Le h0 h]=>qv (h:=h) (fn:=1) hx (by decide)
  have bx:=hx.sz
  obtain⟨_,_,_,_,_,_,_,rfl,_⟩:=hx.sa
  have d1:defB 1 x=true:=rfl
  refine Spec.go [] Tryz.func105 rfl rfl (by kernel_rfl) fun C _=>?_
  try simp(disch:=omega) only[go_sem,Nat.reduceBEq,reduceAdd]
  refine caN (by exact kK) ?_;rintro v1 h1 s1 ⟨_,_,_,_,_,_,_,rfl,c⟩
  try simp(disch:=omega) only[go_sem,Nat.reduceBEq,reduceAdd]
  refine caN (by exact dE (fn:=1) c) ?_;rintro v2 h2 s2 rfl
  try simp(disch:=omega) only[go_sem,Nat.reduceBEq,reduceAdd]
  rw[d1]
  try simp(disch:=omega) only[go_sem,Nat.reduceBEq,reduceAdd]
  refine caN (by exact dX (c.to (h':=h2))) ?_;rintro v3 h3 s3 rfl
  try simp(disch:=omega) only[go_sem,Nat.reduceBEq,reduceAdd]
  try rw[decide_eq_false hl]
  try simp(disch:=omega) only[go_sem,Nat.reduceBEq,reduceAdd]
  refine caN (by exact fY (n:=64) (c.to (h':=h3)) (by omega) (by decide)) ?_;rintro v4 h4 s4 rfl
  try simp(disch:=omega) only[go_sem,Nat.reduceBEq,reduceAdd]
  try rw[decide_eq_false hb]
  try simp(disch:=omega) only[go_sem,Nat.reduceBEq,reduceAdd]
  exact⟨_,_,_,_,_,_,_,rfl,c.to⟩
theorem Ep {h0 h:PH} [Le h0 h] {v:Value} {x y z:Rat} {p:Int} {g:FuncId} (hx:Rv h0 v x) (hp:0≤p∧p≤128) (hl:¬1024 < sz x) (hb:¬x.den*64 < x.num.natAbs) (hx0:x≠0) (hg:∀{h0 h:PH} {a:Value} [Le h0 h],Cn h0 a x→Spec mach g #[a,.int .i64 p] h (fun r h'=>Be h' r y z) NP):
    Spec mach 33 #[.int .i64 1,v,.int .i64 p,.func (.func g) #[] #[]] h (fun r h'=>Be h' r y z) NP:=by
  have kK:=fun {h} [Le h0 h]=>Eu (h:=h) hx hp hl hb
  have e1:exB 1 x=false:=by unfold exB;rw[if_neg (by decide)];exact decide_eq_false hx0
  have kE:=fun {h1 h:PH} {a:Value} [Le h1 h] (c:Cn h1 a x)=>ni (h:=h) (fn:=1) c
  rw[e1] at kE
  obtain⟨_,_,_,_,_,_,_,rfl,_⟩:=hx.sa
  refine Spec.go [] Tryz.func33 rfl rfl (by kernel_rfl) fun C _=>?_
  try simp(disch:=omega) only[go_sem,Nat.reduceBEq,reduceAdd]
  refine caN (by exact kK) ?_;rintro v1 h1 s1 ⟨_,_,_,_,_,_,_,rfl,c⟩
  try simp(disch:=omega) only[go_sem,Nat.reduceBEq,reduceAdd]
  refine caN (by exact kE c) ?_;rintro v2 h2 s2 ⟨_,_,_,_,_,_,_,rfl,_⟩
  try simp(disch:=omega) only[go_sem,Nat.reduceBEq,reduceAdd]
  refine caN (by exact hg (c.to (h':=h2))) ?_;rintro v3 h3 s3 ⟨_,_,_,_,_,_,_,_,_,_,_,_,_,_,rfl,q3⟩
  try simp(disch:=omega) only[go_sem,Nat.reduceBEq,reduceAdd]
  exact⟨_,_,_,_,_,_,_,_,_,_,_,_,_,_,rfl,q3⟩
theorem FExp_ok {h0 h:PH} [Le h0 h] {v:Value} {x:Rat} {p:Nat} (hx:Rv h0 v x) (hp:p≤128) (hl:¬1024 < sz x) (hb:¬x.den*64 < x.num.natAbs) (hx0:x≠0):Spec mach 36 #[v,.int .i64 p] h (fun r h'=>Be h' r (expLo x p) (expHi x p)) NP:=by
  have kA:=fun {h} [Le h0 h]=>Ep (h:=h) (p:=p) (g:=24) hx (by omega) hl hb hx0 (fun {h0 h a} _ c=>yZ c (by omega) hb hp)
  obtain⟨_,_,_,_,_,_,_,rfl,_⟩:=hx.sa
  clear hl hb
  refine Spec.go [] Tryz.func36 rfl rfl (by kernel_rfl) fun C _=>?_
  try simp(disch:=omega) only[go_sem,Nat.reduceBEq,reduceAdd]
  refine caN (by exact kA) ?_;rintro v1 h1 s1 ⟨_,_,_,_,_,_,_,_,_,_,_,_,_,_,rfl,r1,r2⟩
  try simp(disch:=omega) only[go_sem,Nat.reduceBEq,reduceAdd]
  exact⟨_,_,_,_,_,_,_,_,_,_,_,_,_,_,rfl,r1,r2⟩
theorem at1 {h:PH} {b:Nat} {v:Value} (hb:h b=some #[v]):h.at ⟨b,0,none⟩=some v:=by simp[PH.at,hb]
theorem nU (w:Nat):2^(2*w)=2^w*2^w:=by rw[Nat.two_mul,Nat.pow_add]
theorem sF {h0 h:PH} [Le h0 h] {v:Value} {a b w:Nat} (hv:Pr h0 v a b) (la:a≤2^w) (lb:b≤2^w) (hw:20≤w) (hw':w≤1000):Spec mach 186 #[v,.int .i64 w] h (fun v h'=>Pr h' v (arcL a b w) (arcH a b w)) NP:=by
  have hv0:=hv
  obtain⟨x,m,c,y,n,d,rfl,k1,k2⟩:=hv
  have ba:bl a≤w+2:=bh (by omega)
  have bb:bl b≤w+2:=bh (by omega)
  obtain⟨bs,bt⟩:=bl_sq (a:=a) la
  obtain⟨bs',bt'⟩:=bl_sq (a:=b) lb
  have hs:=mj la
  have ht:=jV lb
  have u1:=bC w
  have u2:=bC (2*w)
  have u3:=aG (2^w) 81
  have u4:=aG (sqH b w) 79
  have u5:bl (2^w*81 - sqH b w*79)≤bl (2^w*81):=aR (Nat.sub_le _ _)
  have u6:bl 81=7:=by decide
  have u7:bl 79=7:=by decide
  have u8:bl 6399=13:=by decide
  have bA:∀{j c},j≤39→bl (arcV w (sqL a w) (sqH b w) c j)≤w+2:=fun hj=>GB hj
  have sA:∀{j},j < 39→_:=fun {j} hj=>sR (j:=j) hw hs ht hj
  have h79:sqH b w*79≤2^w*81:=by omega
  clear hs la lb
  have F:=Hid.mk (And.intro ba (And.intro bb (And.intro bs (And.intro bt (And.intro bs' (And.intro bt' (And.intro ht (And.intro u1 (And.intro u2 (And.intro u3 (And.intro u4 (And.intro u5 (And.intro u6 (And.intro u7 (And.intro u8 h79)))))))))))))));clear ba bb bs bt bs' bt' ht u1 u2 u3 u4 u5 u6 u7 u8 h79
  refine Spec.go [(3,.o [0,4,5,6,1,2,3,7,8,9]),(9,.o [0,1,3,4,5,7,2,6,8,9,10]),(10,.o [0,1,3,4,5,7,2,6,8,9,10]),(12,.o [0,1,2,4,6,7,8,10,3,5,9,11,12,13])] Tryz.func186 rfl rfl (by kernel_rfl) fun C _=>?_
  try simp(disch:=omega) only[go_sem,Nat.reduceBEq,reduceAdd]
  refine caN (by exact o8 hv0 (by have:=F.out;omega) (by have:=F.out;omega) (by have:=F.out;omega)) ?_;rintro v1 h1 s1 ⟨x1,m1,c1,y1,n1,d1,rfl,q1,q2⟩;have q1:N32 h1 (.slice x1 m1 c1) (sqL a w):=q1;have q2:N32 h1 (.slice y1 n1 d1) (sqH b w):=q2
  try simp(disch:=omega) only[go_sem,Nat.reduceBEq,reduceAdd]
  refine caN (by exact aw (n:=79) (by decide)) ?_;rintro _ h2 _ q3;obtain⟨v2,_,_,rfl,q3⟩:=q3.sl
  try simp(disch:=omega) only[go_sem,Nat.reduceBEq,reduceAdd]
  refine caN (by exact bu (w:=w) (by have:=F.out;omega)) ?_;rintro _ h3 _ q4;obtain⟨v3,_,_,rfl,q4⟩:=q4.sl
  try simp(disch:=omega) only[go_sem,Nat.reduceBEq,reduceAdd]
  refine caN (by exact aw (n:=81) (by decide)) ?_;rintro _ h4 _ q5;obtain⟨v4,_,_,rfl,q5⟩:=q5.sl
  try simp(disch:=omega) only[go_sem,Nat.reduceBEq,reduceAdd]
  refine caN (by exact aI (q4.to (h':=h4)) q5 (by have:=F.out;omega) (by have:=F.out;omega)) ?_;rintro _ h5 _ q6;obtain⟨v5,_,_,rfl,q6⟩:=q6.sl
  try simp(disch:=omega) only[go_sem,Nat.reduceBEq,reduceAdd]
  refine caN (by exact aI (q2.to (h':=h5)) (q3.to (h':=h5)) (show bl (sqH b w)≤2^40 by have:=F.out;omega) (by have:=F.out;omega)) ?_;rintro _ h6 _ q7;obtain⟨v6,_,_,rfl,q7⟩:=q7.sl
  try simp(disch:=omega) only[go_sem,Nat.reduceBEq,reduceAdd]
  refine caN (by exact gE (q6.to (h':=h6)) q7 (show sqH b w*79≤2^w*81 by have:=F.out;omega) (by have:=F.out;omega)) ?_;rintro _ h7 _ q8;obtain⟨v7,_,_,rfl,q8⟩:=q8.sl
  try simp(disch:=omega) only[go_sem,Nat.reduceBEq,reduceAdd]
  refine caN (by exact aw (n:=6399) (by decide)) ?_;rintro _ h8 _ q9;obtain⟨_,_,_,rfl,q9⟩:=q9.sl
  try simp(disch:=omega) only[go_sem,Nat.reduceBEq,reduceAdd]
  refine caN (by exact bD (c:=false) (q8.to (h':=h8)) q9 (by decide) (show bl (2^w*81 - sqH b w*79)≤2^36 by have:=F.out;omega) (by have:=F.out;omega)) ?_;rintro _ h9 _ q10;obtain⟨v9,v9_l,v9_c,rfl,q10⟩:=q10.sl
  try simp(disch:=omega) only[go_sem,Nat.reduceBEq,reduceAdd]
  refine caN (by exact bu (w:=w) (by have:=F.out;omega)) ?_;rintro _ h10 _ q11;obtain⟨v10,_,_,rfl,q11⟩:=q11.sl
  try simp(disch:=omega) only[go_sem,Nat.reduceBEq,reduceAdd]
  refine caN (by exact bD (c:=true) q11 (q3.to (h':=h10)) (by decide) (by have:=F.out;omega) (by have:=F.out;omega)) ?_;rintro _ h11 _ q12;obtain⟨v11,v11_l,v11_c,rfl,q12⟩:=q12.sl
  try simp(disch:=omega) only[go_sem,Nat.reduceBEq,reduceAdd]
  refine lp [(3,.o [0,4,5,6,1,2,3,7,8,9]),(9,.o [0,1,3,4,5,7,2,6,8,9,10]),(10,.o [0,1,3,4,5,7,2,6,8,9,10]),(12,.o [0,1,2,4,6,7,8,10,3,5,9,11,12,13])] (fun x':Value×Value×Nat=>⟨[(1,.v (.int .i64 w)),(2,.p 0 0),(4,.p 1 0),(5,.p 2 0),(8,.v x'.1),(9,.v x'.2.1),(10,.v (.int .i64 ((x'.2.2:Int) - 1)))],[[.slice x m c,.slice y n d],[.slice none 0 0,.slice none 0 0],[.slice x1 m1 c1,.slice y1 n1 d1]]⟩) (fun x' h'=>Le h1 h'∧x'.2.2≤39∧N32 h' x'.1 (arcV w (sqL a w) (sqH b w) false (39 - x'.2.2))∧N32 h' x'.2.1 (arcV w (sqL a w) (sqH b w) true (39 - x'.2.2))) (fun x'=>x'.2.2) (.slice v9 v9_l v9_c,.slice v11 v11_l v11_c,39) ?_ ⟨inferInstance,Nat.le_refl _,by show N32 _ _ (arcV _ _ _ _ (39 - 39));rw[Nat.sub_self,EQ];exact q10.to,by show N32 _ _ (arcV _ _ _ _ (39 - 39));rw[Nat.sub_self,vR];exact q12⟩ (by kernel_rfl) ?_
  · try simp(disch:=omega) only[go_sem,Nat.reduceBEq,reduceAdd]
    all_goals rfl
  rintro⟨va,vb,i⟩ g0 ⟨le0,hi,hl,hh⟩
  dsimp only at hi hl hh ⊢
  cases i with
  | zero=>
    rw[Nat.sub_zero] at hl hh
    have b1:=bA (j:=39) (c:=false) (Nat.le_refl _)
    have b2:=bA (j:=39) (c:=true) (Nat.le_refl _)
    have b3:=aG a (arcV w (sqL a w) (sqH b w) false 39)
    have b4:=aG b (arcV w (sqL a w) (sqH b w) true 39)
    have le1:Le h0 g0:=Le.trn inferInstance le0
    obtain⟨_,_,_,rfl,hl⟩:=hl.sl
    obtain⟨_,_,_,rfl,hh⟩:=hh.sl
    have F:=Hid.mk (And.intro F.out (And.intro b1 (And.intro b2 (And.intro b3 b4))));clear b1 b2 b3 b4
    try simp(disch:=omega) only[go_sem,Nat.reduceBEq,reduceAdd]
    refine caN (by exact aI (k1.to (h':=g0)) hl (by have:=F.out;omega) (show bl (arcV w (sqL a w) (sqH b w) false 39)≤2^40 by have:=F.out;omega)) ?_;rintro _ g1 _ r1;obtain⟨w1,_,_,rfl,r1⟩:=r1.sl
    try simp(disch:=omega) only[go_sem,Nat.reduceBEq,reduceAdd]
    refine caN (by exact gD (n:=w) r1 (show bl (a*arcV w (sqL a w) (sqH b w) false 39)≤2^40 by have:=F.out;omega) (by have:=F.out;omega)) ?_;rintro _ g2 _ r2;obtain⟨w2,_,_,rfl,r2⟩:=r2.sl
    try simp(disch:=omega) only[go_sem,Nat.reduceBEq,reduceAdd]
    refine caN (by exact aI (k2.to (h':=g2)) (hh.to (h':=g2)) (by have:=F.out;omega) (show bl (arcV w (sqL a w) (sqH b w) true 39)≤2^40 by have:=F.out;omega)) ?_;rintro _ g3 _ r3;obtain⟨w3,_,_,rfl,r3⟩:=r3.sl
    try simp(disch:=omega) only[go_sem,Nat.reduceBEq,reduceAdd]
    refine caN (by exact kJ (n:=w) r3 (show bl (b*arcV w (sqL a w) (sqH b w) true 39)≤2^39 by have:=F.out;omega) (by have:=F.out;omega)) ?_;rintro _ g4 _ r4;obtain⟨w4,_,_,rfl,r4⟩:=r4.sl
    try simp(disch:=omega) only[go_sem,Nat.reduceBEq,reduceAdd]
    exact⟨_,_,_,_,_,_,rfl,r2.to,r4⟩
  | succ i=>
    obtain⟨j,hj,ej⟩:∃j,j < 39∧39 - (i+1)=j:=⟨_,by have:=F.out;omega,rfl⟩
    have en:39 - i=j+1:=by have:=F.out;omega
    have eo:77 - 2*j=2*i+1:=by have:=F.out;omega
    rw[ej] at hl hh
    obtain⟨s1',s2'⟩:=sA hj
    rw[eo] at s1' s2'
    have b1:=bA (j:=j) (c:=false) (by have:=F.out;omega)
    have b2:=bA (j:=j) (c:=true) (by have:=F.out;omega)
    have b3:bl (2*i+1)≤7:=bl_le.2 (by have:=F.out;omega)
    have b4:=aG (sqH b w) (arcV w (sqL a w) (sqH b w) true j)
    have b5:=aG (sqL a w) (arcV w (sqL a w) (sqH b w) false j)
    have b6:=aG (sqH b w*arcV w (sqL a w) (sqH b w) true j) (2*i+1)
    have b7:=aG (sqL a w*arcV w (sqL a w) (sqH b w) false j) (2*i+1)
    have b8:bl (2^(2*w) - sqH b w*arcV w (sqL a w) (sqH b w) true j*(2*i+1))≤_:=aR (Nat.sub_le _ _)
    have b9:bl (2^(2*w) - sqL a w*arcV w (sqL a w) (sqH b w) false j*(2*i+1))≤_:=aR (Nat.sub_le _ _)
    have b10:=cu (2*i+1) w
    have n0:Hid ((2*i+1)*2^w≠0):=⟨Nat.mul_ne_zero (by have:=F.out;omega) (am w)⟩
    have s1':=Hid.mk s1'
    have s2':=Hid.mk s2'
    have eo:=Hid.mk eo
    have en:=Hid.mk en
    clear ej hj
    have F:=Hid.mk (And.intro F.out (And.intro b1 (And.intro b2 (And.intro b3 (And.intro b4 (And.intro b5 (And.intro b6 (And.intro b7 (And.intro b8 (And.intro b9 b10))))))))));clear b1 b2 b3 b4 b5 b6 b7 b8 b9 b10
    try simp(disch:=omega) only[go_sem,Nat.reduceBEq,reduceAdd]
    refine caN (by exact aw (n:=2*i+1) (by have:=F.out;omega)) ?_;rintro _ g1 _ r1;obtain⟨w1,_,_,rfl,r1⟩:=r1.sl
    try simp(disch:=omega) only[go_sem,Nat.reduceBEq,reduceAdd]
    refine caN (by exact bu (w:=2*w) (by have:=F.out;omega)) ?_;rintro _ g2 _ r2;obtain⟨w2,_,_,rfl,r2⟩:=r2.sl
    try simp(disch:=omega) only[go_sem,Nat.reduceBEq,reduceAdd]
    refine caN (by exact aI (q2.to (h':=g2)) (hh.to (h':=g2)) (show bl (sqH b w)≤2^40 by have:=F.out;omega) (by have:=F.out;omega)) ?_;rintro _ g3 _ r3;obtain⟨w3,_,_,rfl,r3⟩:=r3.sl
    try simp(disch:=omega) only[go_sem,Nat.reduceBEq,reduceAdd]
    refine caN (by exact aI r3 (r1.to (h':=g3)) (show bl (sqH b w*arcV w (sqL a w) (sqH b w) true j)≤2^40 by have:=F.out;omega) (by have:=F.out;omega)) ?_;rintro _ g4 _ r4;obtain⟨w4,_,_,rfl,r4⟩:=r4.sl
    try simp(disch:=omega) only[go_sem,Nat.reduceBEq,reduceAdd]
    refine caN (by exact gE (r2.to (h':=g4)) r4 (by rw[nU];exact s1'.out) (by have:=F.out;omega)) ?_;rintro _ g5 _ r5;obtain⟨w5,_,_,rfl,r5⟩:=r5.sl
    try simp(disch:=omega) only[go_sem,Nat.reduceBEq,reduceAdd]
    refine caN (by exact bu (w:=2*w) (by have:=F.out;omega)) ?_;rintro _ g6 _ r6;obtain⟨w6,_,_,rfl,r6⟩:=r6.sl
    try simp(disch:=omega) only[go_sem,Nat.reduceBEq,reduceAdd]
    refine caN (by exact aI (q1.to (h':=g6)) (hl.to (h':=g6)) (show bl (sqL a w)≤2^40 by have:=F.out;omega) (by have:=F.out;omega)) ?_;rintro _ g7 _ r7;obtain⟨w7,_,_,rfl,r7⟩:=r7.sl
    try simp(disch:=omega) only[go_sem,Nat.reduceBEq,reduceAdd]
    refine caN (by exact aI r7 (r1.to (h':=g7)) (show bl (sqL a w*arcV w (sqL a w) (sqH b w) false j)≤2^40 by have:=F.out;omega) (by have:=F.out;omega)) ?_;rintro _ g8 _ r8;obtain⟨w8,_,_,rfl,r8⟩:=r8.sl
    try simp(disch:=omega) only[go_sem,Nat.reduceBEq,reduceAdd]
    refine caN (by exact gE (r6.to (h':=g8)) r8 (by rw[nU];exact s2'.out) (by have:=F.out;omega)) ?_;rintro _ g9 _ r9;obtain⟨w9,_,_,rfl,r9⟩:=r9.sl
    try simp(disch:=omega) only[go_sem,Nat.reduceBEq,reduceAdd]
    refine caN (by exact aL (n:=w) (r1.to (h':=g9)) (by have:=F.out;omega)) ?_;rintro _ g10 _ r10;obtain⟨w10,_,_,rfl,r10⟩:=r10.sl
    try simp(disch:=omega) only[go_sem,Nat.reduceBEq,reduceAdd]
    refine caN (by exact bD (c:=false) (r5.to (h':=g10)) r10 n0.out (show bl (2^(2*w) - sqH b w*arcV w (sqL a w) (sqH b w) true j*(2*i+1))≤2^36 by have:=F.out;omega) (by have:=F.out;omega)) ?_;rintro _ g11 _ r11;obtain⟨w11,w11_l,w11_c,rfl,r11⟩:=r11.sl
    try simp(disch:=omega) only[go_sem,Nat.reduceBEq,reduceAdd]
    refine caN (by exact aL (n:=w) (r1.to (h':=g11)) (by have:=F.out;omega)) ?_;rintro _ g12 _ r12;obtain⟨w12,_,_,rfl,r12⟩:=r12.sl
    try simp(disch:=omega) only[go_sem,Nat.reduceBEq,reduceAdd]
    refine caN (by exact bD (c:=true) (r9.to (h':=g12)) r12 n0.out (show bl (2^(2*w) - sqL a w*arcV w (sqL a w) (sqH b w) false j*(2*i+1))≤2^36 by have:=F.out;omega) (by have:=F.out;omega)) ?_;rintro _ g13 _ r13;obtain⟨w13,w13_l,w13_c,rfl,r13⟩:=r13.sl
    try simp(disch:=omega) only[go_sem,Nat.reduceBEq,reduceAdd]
    dsimp only[lpE];refine⟨(.slice w11 w11_l w11_c,.slice w13 w13_l w13_c,i),?_,⟨Le.trn le0 inferInstance,(show i≤39 by have:=F.out;omega),?_,?_⟩,(show i < i+1 by have:=F.out;omega)⟩
    · try simp(disch:=omega) only[go_sem,Nat.reduceBEq,reduceAdd]
      all_goals rfl
    · show N32 _ _ (arcV _ _ _ false (39 - i))
      rw[en.out,Az,eo.out,←nU]
      exact r11.to
    · show N32 _ _ (arcV _ _ _ true (39 - i))
      rw[en.out,vT,eo.out,←nU]
      exact r13
theorem CF {h:PH} {n w b:Nat} (hb:h b=some #[.int .i64 w]) (hn:n≠0) (hn':n < 2^60) (hw:20≤w) (hw':w≤1000):Spec mach 185 #[.int .u64 n,.pointer (some ⟨b,0,none⟩)] h (fun v h'=>Pr h' v (fifL n w) (fifH n w)) NP:=by
  obtain⟨l1,l2⟩:=pV n (w:=w) hn
  have u1:=bC w
  have u2:bl n≤60:=bl_le.2 hn'
  have l1:=Hid.mk l1
  have l2:=Hid.mk l2
  have hn:=Hid.mk hn
  have F:=Hid.mk (And.intro u1 u2);clear u1 u2
  refine Spec.go [(1,.o [0,2,5,7,11,1,3,4,6,8,9,10,12,13])] Tryz.func185 rfl rfl (by kernel_rfl) fun C _=>?_
  try simp(disch:=omega) only[go_sem,Nat.reduceBEq,reduceAdd]
  refine aE (at1 hb) ?_
  try simp(disch:=omega) only[go_sem,Nat.reduceBEq,reduceAdd]
  refine aE (at1 hb) ?_
  try simp(disch:=omega) only[go_sem,Nat.reduceBEq,reduceAdd]
  refine aE (at1 hb) ?_
  try simp(disch:=omega) only[go_sem,Nat.reduceBEq,reduceAdd]
  refine caN (by exact bu (w:=w) (by have:=F.out;omega)) ?_;rintro _ h1 _ q1;obtain⟨v1,_,_,rfl,q1⟩:=q1.sl
  try simp(disch:=omega) only[go_sem,Nat.reduceBEq,reduceAdd]
  refine caN (by exact aw (n:=n) (by have:=F.out;omega)) ?_;rintro _ h2 _ q2;obtain⟨v2,_,_,rfl,q2⟩:=q2.sl
  try simp(disch:=omega) only[go_sem,Nat.reduceBEq,reduceAdd]
  refine caN (by exact bD (c:=false) (q1.to (h':=h2)) q2 hn.out (by have:=F.out;omega) (by have:=F.out;omega)) ?_;rintro _ h3 _ q3;obtain⟨v3,_,_,rfl,q3⟩:=q3.sl
  try simp(disch:=omega) only[go_sem,Nat.reduceBEq,reduceAdd]
  refine caN (by exact bu (w:=w) (by have:=F.out;omega)) ?_;rintro _ h4 _ q4;obtain⟨v4,_,_,rfl,q4⟩:=q4.sl
  try simp(disch:=omega) only[go_sem,Nat.reduceBEq,reduceAdd]
  refine caN (by exact aw (n:=n) (by have:=F.out;omega)) ?_;rintro _ h5 _ q5;obtain⟨v5,_,_,rfl,q5⟩:=q5.sl
  try simp(disch:=omega) only[go_sem,Nat.reduceBEq,reduceAdd]
  refine caN (by exact bD (c:=true) (q4.to (h':=h5)) q5 hn.out (by have:=F.out;omega) (by have:=F.out;omega)) ?_;rintro _ h6 _ q6;obtain⟨v6,_,_,rfl,q6⟩:=q6.sl
  try simp(disch:=omega) only[go_sem,Nat.reduceBEq,reduceAdd]
  refine caN (by exact sF (a:=2^w / n) (b:=cdiv (2^w) n) (w:=w) ⟨_,_,_,_,_,_,rfl,q3.to (h':=h6),q6⟩ l1.out l2.out hw hw') ?_;rintro v7 h7 s7 ⟨_,_,_,_,_,_,rfl,r1,r2⟩
  try simp(disch:=omega) only[go_sem,Nat.reduceBEq,reduceAdd]
  exact⟨_,_,_,_,_,_,rfl,r1,r2⟩
theorem kt {h:PH} {w:Nat} (hw:32≤w) (hw':w≤192):Spec mach 100 #[.int .i64 w] h (fun v h'=>Pr h' v (piL w) (piH w)) NP:=by
  obtain⟨z1,z2,_,_⟩:=FG hw hw'
  obtain⟨b1,b2⟩:=uy (n:=5) (w:=w) (by decide)
  obtain⟨b3,b4⟩:=uy (n:=239) (w:=w) (by decide)
  have b5:=cu (fifL 5 w) 4
  have b6:=cu (fifH 5 w) 4
  have F:=Hid.mk (And.intro z1 (And.intro z2 (And.intro b1 (And.intro b2 (And.intro b3 (And.intro b4 (And.intro b5 b6)))))));clear z1 z2 b1 b2 b3 b4 b5 b6
  refine Spec.go [(3,.o [0,1,2,3,5,6,7,8,4,9,10,11]),(1,.t (.p 0 (.s [0,1] .d)))] Tryz.func100 rfl rfl (by kernel_rfl) fun C _=>?_
  try simp(disch:=omega) only[go_sem,Nat.reduceBEq,reduceAdd]
  intro b h1 st1 hb
  try simp(disch:=omega) only[go_sem,Nat.reduceBEq,reduceAdd]
  have hb:=hb (by simp)
  try simp(disch:=omega) only[go_sem,Nat.reduceBEq,reduceAdd]
  refine caN (by exact CF (n:=5) (w:=w) hb (by decide) (by decide) (by have:=F.out;omega) (by have:=F.out;omega)) ?_;rintro v2 h2 st2 ⟨_,_,_,_,_,_,rfl,q1,q2⟩
  try simp(disch:=omega) only[go_sem,Nat.reduceBEq,reduceAdd]
  refine caN (by exact jh (n:=4) ⟨_,_,_,_,_,_,rfl,q1,q2⟩ (by have:=F.out;omega) (by have:=F.out;omega) (by decide)) ?_;rintro v3 h3 st3 ⟨_,_,_,_,_,_,rfl,q3,q4⟩
  try simp(disch:=omega) only[go_sem,Nat.reduceBEq,reduceAdd]
  refine caN (by exact CF (n:=239) (w:=w) (st3.sub _ _ (st2.sub _ _ hb)) (by decide) (by decide) (by have:=F.out;omega) (by have:=F.out;omega)) ?_;rintro v4 h4 st4 ⟨_,_,_,_,_,_,rfl,q5,q6⟩
  try simp(disch:=omega) only[go_sem,Nat.reduceBEq,reduceAdd]
  refine caN (by exact jh (n:=2) ⟨_,_,_,_,_,_,rfl,q5,q6⟩ (by have:=F.out;omega) (by have:=F.out;omega) (by decide)) ?_;rintro v5 h5 st5 ⟨_,_,_,_,_,_,rfl,q7,q8⟩
  try simp(disch:=omega) only[go_sem,Nat.reduceBEq,reduceAdd]
  refine caN (by exact gE (q3.to (h':=h5)) q8 (by have:=F.out;omega) (by have:=F.out;omega)) ?_;rintro _ h6 _ q9;obtain⟨v6,_,_,rfl,q9⟩:=q9.sl
  try simp(disch:=omega) only[go_sem,Nat.reduceBEq,reduceAdd]
  refine caN (by exact gE (q4.to (h':=h6)) (q7.to (h':=h6)) (by have:=F.out;omega) (by have:=F.out;omega)) ?_;rintro _ h7 _ q10;obtain⟨v7,_,_,rfl,q10⟩:=q10.sl
  try simp(disch:=omega) only[go_sem,Nat.reduceBEq,reduceAdd]
  exact⟨_,_,_,_,_,_,rfl,q9.to,q10⟩
theorem pN {h:PH} {a b:Nat} (ha:a < 2^20) (hb:b < 2^20):Spec mach 37 #[.int .i64 a,.int .i64 b] h (fun v h'=>Qr h' v ((a:Rat) / (b:Rat))) NP:=by
  have S:∀{n:Nat},n < 2^20→sz (((n:Int)):Rat)≤2^35:=by
    intro n hn
    unfold sz
    have e1:bl ((((n:Int)):Rat).num.natAbs)≤64:=bl_le.2 (by simp;omega)
    have e2:bl ((((n:Int)):Rat).den)≤64:=bl_le.2 (by simp)
    omega
  have b1:=S ha
  have b2:=S hb
  have e:((((a:Int)):Rat) / (((b:Int)):Rat))=(a:Rat) / (b:Rat):=rfl
  refine Spec.go [] Tryz.func37 rfl rfl (by kernel_rfl) fun C _=>?_
  try simp(disch:=omega) only[go_sem,Nat.reduceBEq,reduceAdd]
  refine caN (by exact aF (n:=a) (by omega) (by omega)) ?_;rintro v1 g1 s1 q1;obtain⟨_,_,_,_,_,_,_,rfl,q1⟩:=q1.sa
  try simp(disch:=omega) only[go_sem,Nat.reduceBEq,reduceAdd]
  refine caN (by exact aF (n:=b) (by omega) (by omega)) ?_;rintro v2 g2 s2 q2;obtain⟨_,_,_,_,_,_,_,rfl,q2⟩:=q2.sa
  try simp(disch:=omega) only[go_sem,Nat.reduceBEq,reduceAdd]
  refine caN (by exact cU (q1.to (h':=g2)) q2 b1 b2) ?_;rintro v3 g3 s3 q3;rw[e] at q3;obtain⟨_,_,_,_,_,_,_,rfl,q3⟩:=q3.sa
  try simp(disch:=omega) only[go_sem,Nat.reduceBEq,reduceAdd]
  exact q3
theorem Jb:expLo 1 3=((21:Nat):Rat) / ((8:Nat):Rat):=by
  unfold expLo
  rw[if_neg (by decide),show expL 1 3 / 2^112=21 by decide+kernel]
  decide+kernel
theorem Jc:expHi 1 3=((11:Nat):Rat) / ((4:Nat):Rat):=by
  unfold expHi
  rw[if_neg (by decide),show cdiv (expH 1 3) (2^112)=22 by decide+kernel]
  decide+kernel
theorem one_rv {h:PH} {b:Nat} (hb:h b=some #[.int .u32 1]):Rv h (.agg #[.bool false,.slice (some ⟨b,0,none⟩) 1 1,.slice none 0 0]) 1:=by
  have e:qof false 1 0=1:=by decide+kernel
  refine⟨false,1,0,⟨some ⟨b,0,none⟩,1,[1],none,0,[],rfl,Arr.of_row (fun _=>hb) (by decide) (by decide) (by decide),Arr.nil _,rfl,rfl,by decide,by decide⟩,?_,e⟩
  unfold lg
  rw[e]
  decide+kernel
theorem ar {h:PH}:Spec mach 11 #[] h (fun r _=>r=.bool true) NP:=by
  have z1:sz (((21:Nat):Rat) / ((8:Nat):Rat))≤2^30:=by decide+kernel
  have z2:sz (((11:Nat):Rat) / ((4:Nat):Rat))≤2^30:=by decide+kernel
  have e1:decide (((21:Nat):Rat) / ((8:Nat):Rat)=((21:Nat):Rat) / ((8:Nat):Rat))=true:=decide_eq_true rfl
  have e2:decide (((11:Nat):Rat) / ((4:Nat):Rat)=((11:Nat):Rat) / ((4:Nat):Rat))=true:=decide_eq_true rfl
  have z1:=Hid.mk z1
  have z2:=Hid.mk z2
  refine Spec.go [(1,.t (.s [0] (.p 0 (.s [1,2,3,4,5,6,7,8] .d))))] Tryz.func11 rfl rfl (by kernel_rfl) fun C _=>?_
  try simp(disch:=omega) only[go_sem,Nat.reduceBEq,reduceAdd]
  intro b h1 st1 hb
  try simp(disch:=omega) only[go_sem,Nat.reduceBEq,reduceAdd]
  have hb:=hb (by simp[uw])
  try simp(disch:=omega) only[go_sem,Nat.reduceBEq,reduceAdd]
  refine caN (by exact FExp_ok (x:=1) (p:=3) (one_rv hb) (by decide) (by decide) (by decide) (by decide)) ?_;rintro v2 h2 s2 ⟨_,_,_,_,_,_,_,_,_,_,_,_,_,_,rfl,r1,r2⟩
  try simp(disch:=omega) only[go_sem,Nat.reduceBEq,reduceAdd]
  rw[Jb] at r1
  rw[Jc] at r2
  try simp(disch:=omega) only[go_sem,Nat.reduceBEq,reduceAdd]
  refine caN (by exact pN (a:=21) (b:=8) (by decide) (by decide)) ?_;rintro v3 h3 s3 q3;obtain⟨_,_,_,_,_,_,_,rfl,q3⟩:=q3.sa
  try simp(disch:=omega) only[go_sem,Nat.reduceBEq,reduceAdd]
  refine caN (by exact dt (r1.to (h':=h3)) q3 z1.out z1.out) ?_;rintro v4 h4 s4 rfl
  try simp(disch:=omega) only[go_sem,Nat.reduceBEq,reduceAdd,e1,decide_true]
  refine caN (by exact pN (a:=11) (b:=4) (by decide) (by decide)) ?_;rintro v5 h5 s5 q5;obtain⟨_,_,_,_,_,_,_,rfl,q5⟩:=q5.sa
  try simp(disch:=omega) only[go_sem,Nat.reduceBEq,reduceAdd]
  refine caN (by exact dt (r2.to (h':=h5)) q5 z2.out z2.out) ?_;rintro v6 h6 s6 rfl
  try simp(disch:=omega) only[go_sem,Nat.reduceBEq,reduceAdd,e2,decide_true]
theorem sgn_up (n p k:Nat):sgn false n (2^(p+k))*2^p=mkRat n (2^k):=by
  have hP:(2:Rat)^p≠0:=by have:=Rat.pow_pos (n:=p) (show(0:Rat) < 2 by decide);grind
  have hK:(2:Rat)^k≠0:=by have:=Rat.pow_pos (n:=k) (show(0:Rat) < 2 by decide);grind
  rw[Nat.pow_add]
  simp only[sgn,Rat.mkRat_eq_div,Rat.natCast_pow,Rat.natCast_mul,Bool.false_eq_true,if_false]
  simp only[show((2:Nat):Rat)=2 from rfl,show((n:Int):Rat)=(n:Rat) from rfl]
  grind
theorem Ji (n p k:Nat):gdown (sgn false n (2^(p+k))) p=sgn false (n / 2^k) (2^p):=by
  unfold gdown
  rw[sgn_up,pW _ (am k)]
  simp only[sgn,Rat.mkRat_eq_div,Rat.natCast_pow,Bool.false_eq_true,if_false]
  rfl
theorem cdiv_int (n d:Nat) (hd:d≠0):((cdiv n d:Nat):Int)= -(-(n:Int) / (d:Int)):=by
  have e:(d:Int)*((n:Int) / (d:Int))+(n:Int) % (d:Int)=n:=Int.mul_ediv_add_emod _ _
  have l0:=Int.emod_nonneg (n:Int) (b:=(d:Int)) (by omega)
  have l1:=Int.emod_lt_of_pos (n:Int) (b:=(d:Int)) (by omega)
  have ec:((n / d:Nat):Int)=(n:Int) / (d:Int):=rfl
  have em:((n % d:Nat):Int)=(n:Int) % (d:Int):=rfl
  by_cases h0:n % d=0
  · rw[pT hd h0,ec]
    rw[h0] at em
    have: -(n:Int) / (d:Int)= -((n:Int) / (d:Int)):=by
      rw[Int.ediv_eq_iff_of_pos (by omega)]
      generalize(n:Int) / (d:Int)=Q at*
      rw[show -Q*(d:Int)= -((d:Int)*Q) by rw[Int.neg_mul,Int.mul_comm]]
      omega
    omega
  · rw[uA hd h0]
    have: -(n:Int) / (d:Int)= -((n:Int) / (d:Int)+1):=by
      rw[Int.ediv_eq_iff_of_pos (by omega)]
      have h1:((n % d:Nat):Int)≠0:=by omega
      generalize(n:Int) / (d:Int)=Q at*
      rw[show -(Q+1)*(d:Int)= -((d:Int)*Q) - (d:Int) by rw[Int.neg_mul,Int.mul_comm,Int.mul_add,Int.mul_one];omega]
      omega
    omega
theorem gup_sgn (n p k:Nat):gup (sgn false n (2^(p+k))) p=sgn false (cdiv n (2^k)) (2^p):=by
  unfold gup
  rw[sgn_up,xH _ (am k)]
  simp only[sgn,Rat.mkRat_eq_div,Rat.natCast_pow,Bool.false_eq_true,if_false]
  rw[cdiv_int _ _ (am k)]
  rfl
def Qp (h:PH) (r:Value) (x y:Rat):Prop:=∃b1 a1 m1 c1 a2 m2 c2 b2 a3 m3 c3 a4 m4 c4,r=.tuple #[.agg #[.bool b1,.slice a1 m1 c1,.slice a2 m2 c2],.agg #[.bool b2,.slice a3 m3 c3,.slice a4 m4 c4]]∧Qr h (.agg #[.bool b1,.slice a1 m1 c1,.slice a2 m2 c2]) x∧Qr h (.agg #[.bool b2,.slice a3 m3 c3,.slice a4 m4 c4]) y
theorem sz_grid {n w k:Nat} (hn:bl n≤k) (hw:w+1≤k):sz (sgn false n (2^w))≤k:=by
  have a:=dg false n (d:=2^w) (am w)
  have b:=bC w
  omega
theorem REx_spec {h0 h:PH} [Le h0 h] {v:Value} {x:Rat} {p:Nat} (hx:Qr h0 v x) (bx:sz x≤2048) (hb:¬x.den*64 < x.num.natAbs) (h00:x≠0) (hp:p≤128):Spec mach 157 #[v,.int .i64 p] h (fun r h'=>Qp h' r (expLo x p) (expHi x p)) NP:=by
  obtain⟨f1,f2,f3,f4⟩:=AT (p:=p) hb
  obtain⟨g1,g2⟩:=xQ (w:=p+112) hb
  have g1:=bl_64 g1
  have g2:=bl_64 g2
  have kS:=fun {h} [Le h0 h]=>bS (h:=h) hx
  have kO:=fun {h} [Le h0 h]=>bK (h:=h) hx
  have bx':sz x≤2^30:=by omega
  have bn:sz (-x)≤2^30:=by rw[cz];exact bx'
  have kG0:=fun {h0 h:PH} {w:Value} [Le h0 h] (c:Qr h0 w x)=>EH (h:=h) (w:=p+112) (u:=false) c bx' (by omega)
  have kG1:=fun {h0 h:PH} {w:Value} [Le h0 h] (c:Qr h0 w x)=>EH (h:=h) (w:=p+112) (u:=true) c bx' (by omega)
  have kN0:=fun {h0 h:PH} {w:Value} [Le h0 h] (c:Qr h0 w (-x))=>EH (h:=h) (w:=p+112) (u:=false) c bn (by omega)
  have kN1:=fun {h0 h:PH} {w:Value} [Le h0 h] (c:Qr h0 w (-x))=>EH (h:=h) (w:=p+112) (u:=true) c bn (by omega)
  have o2:=Rat.neg_den x
  have o3:(-x).num.natAbs=x.num.natAbs:=by rw[Rat.neg_num,Int.natAbs_neg]
  simp only[o2,o3] at kN0 kN1
  have eL:exP false (p+112) (exS false (p+112) (glo x (p+112)) 40) 8=expL x p:=rfl
  have eH:exP true (p+112) (exS true (p+112) (ghi x (p+112)) 40) 8=expH x p:=rfl
  have ew:IntKind.i64.wrap ((p:Int)+112)=((p+112:Nat):Int):=by rw[wi64 (by omega) (by omega)];omega
  have e1:=Ji (expL x p) p 112
  have e2:=gup_sgn (expH x p) p 112
  have z1:=sz_grid (w:=p+112) f1 (by omega)
  have z2:=sz_grid (w:=p+112) f2 (by omega)
  have b1:=aZ (2^(p+112+p)) (expH x p)
  have b2:=fy (2^(p+112+p)) f3
  have b3:=bC (p+112+p)
  have hn:x.num < 0↔x < 0:=num_neg
  have kD:=fun {h0 h:PH} {v:Value} {N:Nat} (u:Bool) [Le h0 h] (c:N16 h0 v N) (hc:bl N≤p+112+7)=>RSeries_spec (h:=h) (w:=p+112) (u:=u) c hc (by omega)
  have gF:bl (odiv (x.num.natAbs*2^(p+112)) x.den false)≤p+112+7:=g1
  have gT:bl (odiv (x.num.natAbs*2^(p+112)) x.den true)≤p+112+7:=g2
  have eL:exP false (p+112) (exS false (p+112) (odiv (x.num.natAbs*2^(p+112)) x.den false) 40) 8=expL x p:=eL
  have eH:exP true (p+112) (exS true (p+112) (odiv (x.num.natAbs*2^(p+112)) x.den true) 40) 8=expH x p:=eH
  have f3:=Hid.mk f3
  have f4:=Hid.mk f4
  obtain⟨_,_,_,_,_,_,_,rfl,hx⟩:=hx.sa
  clear g1 g2
  generalize odiv (x.num.natAbs*2^(p+112)) x.den false=GL at*
  generalize odiv (x.num.natAbs*2^(p+112)) x.den true=GH at*
  have F:=Hid.mk (And.intro f1 (And.intro f2 (And.intro gF (And.intro gT (And.intro z1 (And.intro z2 (And.intro b1 (And.intro b2 (And.intro b3 (And.intro bx (And.intro bx' bn)))))))))));clear f1 f2 gF gT z1 z2 b1 b2 b3 bx bx' bn
  by_cases h1:x < 0
  · have eS:decide (sgn3 x > 0)=false:=by unfold sgn3;rw[if_pos h1];rfl
    have e3:expLo x p=sgn false (2^(p+112+p) / expH x p) (2^p):=by unfold expLo;rw[if_pos (hn.2 h1)]
    have e4:expHi x p=sgn false (cdiv (2^(p+112+p)) (expL x p)) (2^p):=by unfold expHi;rw[if_pos (hn.2 h1)]
    rw[e3,e4]
    clear e1 e2 e3 e4 hn
    generalize expL x p=XL at*
    generalize expH x p=XH at*
    refine Spec.go [] Tryz.func157 rfl rfl (by kernel_rfl) fun C _=>?_
    try simp(maxSteps:=999999) (disch:=omega) only[go_sem,Nat.reduceBEq,reduceAdd]
    refine caN (by exact kS) ?_;rintro v1 k1 s1 rfl
    try simp(maxSteps:=999999) (disch:=omega) only[go_sem,Nat.reduceBEq,reduceAdd,eS]
    refine caN (by exact kO) ?_;rintro v2 k2 s2 q2;obtain⟨_,_,_,_,_,_,_,rfl,q2⟩:=q2.sa
    try simp(maxSteps:=999999) (disch:=omega) only[go_sem,Nat.reduceBEq,reduceAdd]
    refine caN (by exact kN1 q2) ?_;rintro _ k3 _ q3;obtain⟨v3,_,_,rfl,q3⟩:=q3.sl
    try simp(maxSteps:=999999) (disch:=omega) only[go_sem,Nat.reduceBEq,reduceAdd]
    refine caN (by exact kD true q3 (by have:=F.out;omega)) ?_;rintro _ k4 _ q4;obtain⟨v4,_,_,rfl,q4⟩:=q4.sl
    try simp(maxSteps:=999999) (disch:=omega) only[go_sem,Nat.reduceBEq,reduceAdd]
    rw[eH] at q4
    refine caN (by exact kN0 (q2.to (h':=k4))) ?_;rintro _ k5 _ q5;obtain⟨v5,_,_,rfl,q5⟩:=q5.sl
    try simp(maxSteps:=999999) (disch:=omega) only[go_sem,Nat.reduceBEq,reduceAdd]
    refine caN (by exact kD false q5 (by have:=F.out;omega)) ?_;rintro _ k6 _ q6;obtain⟨v6,_,_,rfl,q6⟩:=q6.sl
    try simp(maxSteps:=999999) (disch:=omega) only[go_sem,Nat.reduceBEq,reduceAdd]
    rw[eL] at q6
    refine caN (by exact jO (w:=p+112+p) (by have:=F.out;omega)) ?_;rintro _ k7 _ q7;obtain⟨v7,_,_,rfl,q7⟩:=q7.sl
    try simp(maxSteps:=999999) (disch:=omega) only[go_sem,Nat.reduceBEq,reduceAdd]
    refine caN (by exact rJ q7 (q4.to (h':=k7)) f4.out (by have:=F.out;omega) (by have:=F.out;omega)) ?_;rintro _ k8 _ q8;obtain⟨v8,_,_,rfl,q8⟩:=q8.sl
    try simp(maxSteps:=999999) (disch:=omega) only[go_sem,Nat.reduceBEq,reduceAdd]
    refine caN (by exact o9 (w:=p) q8 (show bl (2^(p+112+p) / XH)≤2^20 by have:=F.out;omega) (by have:=F.out;omega)) ?_;rintro v9 k9 s9 q9;obtain⟨_,_,_,_,_,_,_,rfl,q9⟩:=q9.sa
    try simp(maxSteps:=999999) (disch:=omega) only[go_sem,Nat.reduceBEq,reduceAdd]
    refine caN (by exact jO (w:=p+112+p) (by have:=F.out;omega)) ?_;rintro _ k10 _ q10;obtain⟨v10,_,_,rfl,q10⟩:=q10.sl
    try simp(maxSteps:=999999) (disch:=omega) only[go_sem,Nat.reduceBEq,reduceAdd]
    refine caN (by exact xg q10 (q6.to (h':=k10)) f3.out (by have:=F.out;omega) (by have:=F.out;omega)) ?_;rintro _ k11 _ q11;obtain⟨v11,_,_,rfl,q11⟩:=q11.sl
    try simp(maxSteps:=999999) (disch:=omega) only[go_sem,Nat.reduceBEq,reduceAdd]
    refine caN (by exact o9 (w:=p) q11 (show bl (cdiv (2^(p+112+p)) XL)≤2^20 by have:=F.out;omega) (by have:=F.out;omega)) ?_;rintro v12 k12 s12 q12;obtain⟨_,_,_,_,_,_,_,rfl,q12⟩:=q12.sa
    try simp(maxSteps:=999999) (disch:=omega) only[go_sem,Nat.reduceBEq,reduceAdd]
    exact⟨_,_,_,_,_,_,_,_,_,_,_,_,_,_,rfl,q9.to,q12⟩
  · have eS:decide (sgn3 x > 0)=true:=by unfold sgn3;rw[if_neg h1,if_pos (by grind)];rfl
    have e3:expLo x p=gdown (sgn false (expL x p) (2^(p+112))) p:=by rw[e1];unfold expLo;rw[if_neg (fun c=>h1 (hn.1 c))]
    have e4:expHi x p=gup (sgn false (expH x p) (2^(p+112))) p:=by rw[e2];unfold expHi;rw[if_neg (fun c=>h1 (hn.1 c))]
    rw[e3,e4]
    clear e1 e2 e3 e4 hn
    generalize expL x p=XL at*
    generalize expH x p=XH at*
    refine Spec.go [] Tryz.func157 rfl rfl (by kernel_rfl) fun C _=>?_
    try simp(maxSteps:=999999) (disch:=omega) only[go_sem,Nat.reduceBEq,reduceAdd]
    refine caN (by exact kS) ?_;rintro v1 k1 s1 rfl
    try simp(maxSteps:=999999) (disch:=omega) only[go_sem,Nat.reduceBEq,reduceAdd,eS]
    refine caN (by exact kG0 hx) ?_;rintro _ k3 _ q3;obtain⟨v3,_,_,rfl,q3⟩:=q3.sl
    try simp(maxSteps:=999999) (disch:=omega) only[go_sem,Nat.reduceBEq,reduceAdd]
    refine caN (by exact kD false q3 (by have:=F.out;omega)) ?_;rintro _ k4 _ q4;obtain⟨v4,_,_,rfl,q4⟩:=q4.sl
    try simp(maxSteps:=999999) (disch:=omega) only[go_sem,Nat.reduceBEq,reduceAdd]
    rw[eL] at q4
    refine caN (by exact kG1 hx) ?_;rintro _ k5 _ q5;obtain⟨v5,_,_,rfl,q5⟩:=q5.sl
    try simp(maxSteps:=999999) (disch:=omega) only[go_sem,Nat.reduceBEq,reduceAdd]
    refine caN (by exact kD true q5 (by have:=F.out;omega)) ?_;rintro _ k6 _ q6;obtain⟨v6,_,_,rfl,q6⟩:=q6.sl
    try simp(maxSteps:=999999) (disch:=omega) only[go_sem,Nat.reduceBEq,reduceAdd]
    rw[eH] at q6
    refine caN (by exact o9 (w:=p+112) (q4.to (h':=k6)) (by have:=F.out;omega) (by have:=F.out;omega)) ?_;rintro v7 k7 s7 q7;obtain⟨_,_,_,_,_,_,_,rfl,q7⟩:=q7.sa
    try simp(maxSteps:=999999) (disch:=omega) only[go_sem,Nat.reduceBEq,reduceAdd]
    refine caN (by exact j9 (p:=p) q7 (show sz (sgn false XL (2^(p+112)))≤2^30 by have:=F.out;omega) (by have:=F.out;omega)) ?_;rintro v8 k8 s8 q8;obtain⟨_,_,_,_,_,_,_,rfl,q8⟩:=q8.sa
    try simp(maxSteps:=999999) (disch:=omega) only[go_sem,Nat.reduceBEq,reduceAdd]
    refine caN (by exact o9 (w:=p+112) (q6.to (h':=k8)) (by have:=F.out;omega) (by have:=F.out;omega)) ?_;rintro v9 k9 s9 q9;obtain⟨_,_,_,_,_,_,_,rfl,q9⟩:=q9.sa
    try simp(maxSteps:=999999) (disch:=omega) only[go_sem,Nat.reduceBEq,reduceAdd]
    refine caN (by exact np (p:=p) q9 (show sz (sgn false XH (2^(p+112)))≤2^30 by have:=F.out;omega) (by have:=F.out;omega)) ?_;rintro v10 k10 s10 q10;obtain⟨_,_,_,_,_,_,_,rfl,q10⟩:=q10.sa
    try simp(maxSteps:=999999) (disch:=omega) only[go_sem,Nat.reduceBEq,reduceAdd]
    exact⟨_,_,_,_,_,_,_,_,_,_,_,_,_,_,rfl,q8.to,q10⟩
end Go.Q
