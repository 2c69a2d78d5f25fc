/-
  The series of the logarithm on a grid, and what logs returns, and what stands on it. Conditions: each theorem's own.
-/
import Derived.Test.YtdagofmikpgjjaaGreatDoorK98c21dPkF
import Derived.Test.YtdagofmikpgjjaaGreatDoorK5e0678PkN
import Derived.Test.YtdagofmikpgjjaaGreatDoorKb2df3ePkM
import Derived.Test.YtdagofmikpgjjaaGreatDoorK56fa9ePkH
import Derived.Test.YtdagofmikpgjjaaGreatDoorK0534f2PkL
import Derived.Test.YtdagofmikpgjjaaGreatDoorKea3f49PkK
set_option linter.unusedVariables false
set_option linter.unusedSimpArgs false
open Nat (reduceAdd)
namespace Go.Q
open Go.Proofs
set_option maxRecDepth 100000
set_option maxHeartbeats 8000000
def logV (w s t:Nat):Bool→Nat→Nat
  |false,0=>2^w / 111
  |true,0=>cdiv (2^w*100+t*111) 11100
  |false,j+1=>(2^w*2^w+s*logV w s t false j*(109 - 2*j)) / ((109 - 2*j)*2^w)
  |true,j+1=>cdiv (2^w*2^w+t*logV w s t true j*(109 - 2*j)) ((109 - 2*j)*2^w)
theorem yf (w s t:Nat):logV w s t false 0=2^w / 111:=rfl
theorem tD (w s t:Nat):logV w s t true 0=cdiv (2^w*100+t*111) 11100:=rfl
theorem uI (w s t j:Nat):logV w s t false (j+1)=(2^w*2^w+s*logV w s t false j*(109 - 2*j)) / ((109 - 2*j)*2^w):=rfl
theorem qQ (w s t j:Nat):logV w s t true (j+1)=cdiv (2^w*2^w+t*logV w s t true j*(109 - 2*j)) ((109 - 2*j)*2^w):=rfl
def logL (a b w:Nat):Nat:=a*logV w (sqL a w) (sqH b w) false 55*2^1 / 2^w
def logH (a b w:Nat):Nat:=cdiv (b*logV w (sqL a w) (sqH b w) true 55*2^1) (2^w)
theorem Hp {u k s v m:Nat} (hk:0 < k) (hs:s≤u) (hv:v≤m*u):u*u+s*v*k≤k*u*((m+1)*u):=by
  have h1:s*v*k≤u*(m*u)*k:=Nat.mul_le_mul_right k (Nat.mul_le_mul hs hv)
  have h2:u*u≤k*(u*u):=Nat.le_mul_of_pos_left _ hk
  have e:k*u*((m+1)*u)=u*(m*u)*k+k*(u*u):=by
    rw[Nat.add_mul,Nat.one_mul,Nat.mul_add,Nat.mul_comm k u,Nat.mul_assoc u k,Nat.mul_assoc u k,Nat.mul_left_comm k,Nat.mul_assoc u,Nat.mul_comm (m*u) k,Nat.mul_left_comm k m u,Nat.mul_left_comm u k u]
  omega
theorem qP {w s t:Nat} (hs:s≤2^w) (ht:t≤2^w):∀{j:Nat},j≤55→logV w s t true j≤(j+1)*2^w∧logV w s t false j≤(j+1)*2^w
  | 0,_=>by
    rw[yf,tD]
    refine⟨(az (by decide)).2 (by omega),?_⟩
    have:=Nat.div_le_self (2^w) 111
    omega
  | j+1,h=>by
    obtain⟨h1,h2⟩:=qP hs ht (j:=j) (by omega)
    have hk:0 < 109 - 2*j:=by omega
    have hn:(109 - 2*j)*2^w≠0:=Nat.mul_ne_zero (by omega) (am w)
    rw[uI,qQ]
    exact⟨(az hn).2 (Hp hk ht h1),Nat.div_le_of_le_mul (Hp hk hs h2)⟩
theorem bl_logV {w s t j:Nat} {c:Bool} (hs:s≤2^w) (ht:t≤2^w) (hj:j≤55):bl (logV w s t c j)≤w+7:=by
  obtain⟨h1,h2⟩:=qP hs ht hj
  have:(j+1)*2^w≤64*2^w:=Nat.mul_le_mul_right _ (by omega)
  cases c
  · exact bl_64 (Nat.le_trans h2 this)
  · exact bl_64 (Nat.le_trans h1 this)
theorem wh {a b w:Nat} (ha:a≤2^w) (hb:b≤2^w):logL a b w≤112*2^w∧logH a b w≤112*2^w:=by
  obtain⟨h1,h2⟩:=qP (mj ha) (jV hb) (Nat.le_refl 55)
  unfold logL logH
  refine⟨Nat.div_le_of_le_mul ?_,(az (am w)).2 ?_⟩
  · have:=Nat.mul_le_mul ha h2
    rw[show 2^w*(112*2^w)=2^w*((55+1)*2^w)*2^1 by rw[Nat.mul_assoc,Nat.mul_comm ((55+1)*2^w) (2^1),←Nat.mul_assoc (2^1)]]
    exact Nat.mul_le_mul_right _ this
  · have:=Nat.mul_le_mul hb h1
    rw[show 2^w*(112*2^w)=2^w*((55+1)*2^w)*2^1 by rw[Nat.mul_assoc,Nat.mul_comm ((55+1)*2^w) (2^1),←Nat.mul_assoc (2^1)]]
    exact Nat.mul_le_mul_right _ this
theorem wO {h0 h:PH} [Le h0 h] {v:Value} {a b w:Nat} (hv:Pr h0 v a b) (la:a≤2^w) (lb:b≤2^w) (hw:20≤w) (hw':w≤1000):Spec mach 93 #[v,.int .i64 w] h (fun v h'=>Pr h' v (logL a b w) (logH a b w)) NP:=by
  have hv0:=hv
  obtain⟨x,m,c,y,n,d,rfl,k1,k2⟩:=hv
  have ba:bl a≤w+2:=bh (by omega)
  have bb:bl b≤w+2:=bh (by omega)
  obtain⟨bs,bt⟩:=bl_sq (a:=a) la
  obtain⟨bs',bt'⟩:=bl_sq (a:=b) lb
  have hs:=mj la
  have ht:=jV lb
  have u1:=bC w
  have u2:=bC (2*w)
  have u3:=aG (2^w) 100
  have u4:=aG (sqH b w) 111
  have u5:=cY (2^w*100) (sqH b w*111)
  have u6:bl 100=7:=by decide
  have u7:bl 111=7:=by decide
  have u8:bl 11100=14:=by decide
  have bA:∀{j c},j≤55→bl (logV w (sqL a w) (sqH b w) c j)≤w+7:=fun hj=>bl_logV hs ht hj
  clear hs la lb ht
  have F:=Hid.mk (And.intro ba (And.intro bb (And.intro bs (And.intro bt (And.intro bs' (And.intro bt' (And.intro u1 (And.intro u2 (And.intro u3 (And.intro u4 (And.intro u5 (And.intro u6 (And.intro u7 u8)))))))))))));clear ba bb bs bt bs' bt' u1 u2 u3 u4 u5 u6 u7 u8
  refine Spec.go [(4,.o [0,4,5,6,1,2,3,7,8,9,10,11]),(9,.o [0,1,3,4,5,7,2,6,8,9,10]),(10,.o [0,1,3,4,5,7,2,6,8,9,10]),(12,.o [0,1,2,5,7,8,9,12,3,4,6,10,11,13,14,15])] Tryz.func93 rfl rfl (by kernel_rfl) fun C _=>?_
  try simp(disch:=omega) only[go_sem,Nat.reduceBEq,reduceAdd]
  refine caN (by exact o8 hv0 (by have:=F.out;omega) (by have:=F.out;omega) (by have:=F.out;omega)) ?_;rintro v1 h1 s1 ⟨x1,m1,c1,y1,n1,d1,rfl,q1,q2⟩;have q1:N32 h1 (.slice x1 m1 c1) (sqL a w):=q1;have q2:N32 h1 (.slice y1 n1 d1) (sqH b w):=q2
  try simp(disch:=omega) only[go_sem,Nat.reduceBEq,reduceAdd]
  refine caN (by exact aw (n:=111) (by decide)) ?_;rintro _ h2 _ q3;obtain⟨_,_,_,rfl,q3⟩:=q3.sl
  try simp(disch:=omega) only[go_sem,Nat.reduceBEq,reduceAdd]
  refine caN (by exact bu (w:=w) (by have:=F.out;omega)) ?_;rintro _ h3 _ q4;obtain⟨v3,_,_,rfl,q4⟩:=q4.sl
  try simp(disch:=omega) only[go_sem,Nat.reduceBEq,reduceAdd]
  refine caN (by exact bD (c:=false) q4 (q3.to (h':=h3)) (by decide) (by have:=F.out;omega) (by have:=F.out;omega)) ?_;rintro _ h4 _ q5;obtain⟨v4,v4_l,v4_c,rfl,q5⟩:=q5.sl
  try simp(disch:=omega) only[go_sem,Nat.reduceBEq,reduceAdd]
  refine caN (by exact bu (w:=w) (by have:=F.out;omega)) ?_;rintro _ h5 _ q6;obtain⟨v5,_,_,rfl,q6⟩:=q6.sl
  try simp(disch:=omega) only[go_sem,Nat.reduceBEq,reduceAdd]
  refine caN (by exact aw (n:=100) (by decide)) ?_;rintro _ h6 _ q7;obtain⟨_,_,_,rfl,q7⟩:=q7.sl
  try simp(disch:=omega) only[go_sem,Nat.reduceBEq,reduceAdd]
  refine caN (by exact aI (q6.to (h':=h6)) q7 (by have:=F.out;omega) (by have:=F.out;omega)) ?_;rintro _ h7 _ q8;obtain⟨v7,_,_,rfl,q8⟩:=q8.sl
  try simp(disch:=omega) only[go_sem,Nat.reduceBEq,reduceAdd]
  refine caN (by exact aI (q2.to (h':=h7)) (q3.to (h':=h7)) (show bl (sqH b w)≤2^40 by have:=F.out;omega) (by have:=F.out;omega)) ?_;rintro _ h8 _ q9;obtain⟨v8,_,_,rfl,q9⟩:=q9.sl
  try simp(disch:=omega) only[go_sem,Nat.reduceBEq,reduceAdd]
  refine caN (by exact bR (q8.to (h':=h8)) q9 (by have:=F.out;omega) (show bl (sqH b w*111)≤2^40 by have:=F.out;omega)) ?_;rintro _ h9 _ q10;obtain⟨v9,_,_,rfl,q10⟩:=q10.sl
  try simp(disch:=omega) only[go_sem,Nat.reduceBEq,reduceAdd]
  refine caN (by exact aw (n:=11100) (by decide)) ?_;rintro _ h10 _ q11;obtain⟨_,_,_,rfl,q11⟩:=q11.sl
  try simp(disch:=omega) only[go_sem,Nat.reduceBEq,reduceAdd]
  refine caN (by exact bD (c:=true) (q10.to (h':=h10)) q11 (by decide) (show bl (2^w*100+sqH b w*111)≤2^36 by have:=F.out;omega) (by have:=F.out;omega)) ?_;rintro _ h11 _ q12;obtain⟨v11,v11_l,v11_c,rfl,q12⟩:=q12.sl
  try simp(disch:=omega) only[go_sem,Nat.reduceBEq,reduceAdd]
  refine lp [(4,.o [0,4,5,6,1,2,3,7,8,9,10,11]),(9,.o [0,1,3,4,5,7,2,6,8,9,10]),(10,.o [0,1,3,4,5,7,2,6,8,9,10]),(12,.o [0,1,2,5,7,8,9,12,3,4,6,10,11,13,14,15])] (fun x':Value×Value×Nat=>⟨[(1,.v (.int .i64 w)),(2,.p 0 0),(4,.p 1 0),(5,.p 2 0),(7,.v x'.1),(8,.v x'.2.1),(9,.v (.int .i64 ((x'.2.2:Int) - 1)))],[[.slice x m c,.slice y n d],[.slice none 0 0,.slice none 0 0],[.slice x1 m1 c1,.slice y1 n1 d1]]⟩) (fun x' h'=>Le h1 h'∧x'.2.2≤55∧N32 h' x'.1 (logV w (sqL a w) (sqH b w) false (55 - x'.2.2))∧N32 h' x'.2.1 (logV w (sqL a w) (sqH b w) true (55 - x'.2.2))) (fun x'=>x'.2.2) (.slice v4 v4_l v4_c,.slice v11 v11_l v11_c,55) ?_ ⟨inferInstance,Nat.le_refl _,by show N32 _ _ (logV _ _ _ _ (55 - 55));rw[Nat.sub_self,yf];exact q5.to,by show N32 _ _ (logV _ _ _ _ (55 - 55));rw[Nat.sub_self,tD];exact q12⟩ (by kernel_rfl) ?_
  · try simp(disch:=omega) only[go_sem,Nat.reduceBEq,reduceAdd]
    all_goals rfl
  rintro⟨va,vb,i⟩ g0 ⟨le0,hi,hl,hh⟩
  dsimp only at hi hl hh ⊢
  cases i with
  | zero=>
    rw[Nat.sub_zero] at hl hh
    have b1:=bA (j:=55) (c:=false) (Nat.le_refl _)
    have b2:=bA (j:=55) (c:=true) (Nat.le_refl _)
    have b3:=aG a (logV w (sqL a w) (sqH b w) false 55)
    have b4:=aG b (logV w (sqL a w) (sqH b w) true 55)
    have b5:=cu (a*logV w (sqL a w) (sqH b w) false 55) 1
    have b6:=cu (b*logV w (sqL a w) (sqH b w) true 55) 1
    have le1:Le h0 g0:=Le.trn inferInstance le0
    obtain⟨_,_,_,rfl,hl⟩:=hl.sl
    obtain⟨_,_,_,rfl,hh⟩:=hh.sl
    have F:=Hid.mk (And.intro F.out (And.intro b1 (And.intro b2 (And.intro b3 (And.intro b4 (And.intro b5 b6))))));clear b1 b2 b3 b4 b5 b6
    try simp(disch:=omega) only[go_sem,Nat.reduceBEq,reduceAdd]
    refine caN (by exact aI (k1.to (h':=g0)) hl (by have:=F.out;omega) (show bl (logV w (sqL a w) (sqH b w) false 55)≤2^40 by have:=F.out;omega)) ?_;rintro _ g1 _ r1;obtain⟨w1,_,_,rfl,r1⟩:=r1.sl
    try simp(disch:=omega) only[go_sem,Nat.reduceBEq,reduceAdd]
    refine caN (by exact aL (n:=1) r1 (show bl (a*logV w (sqL a w) (sqH b w) false 55)+1≤2^40 by have:=F.out;omega)) ?_;rintro _ g2 _ r2;obtain⟨w2,_,_,rfl,r2⟩:=r2.sl
    try simp(disch:=omega) only[go_sem,Nat.reduceBEq,reduceAdd]
    refine caN (by exact gD (n:=w) r2 (show bl (a*logV w (sqL a w) (sqH b w) false 55*2^1)≤2^40 by have:=F.out;omega) (by have:=F.out;omega)) ?_;rintro _ g3 _ r3;obtain⟨w3,_,_,rfl,r3⟩:=r3.sl
    try simp(disch:=omega) only[go_sem,Nat.reduceBEq,reduceAdd]
    refine caN (by exact aI (k2.to (h':=g3)) (hh.to (h':=g3)) (by have:=F.out;omega) (show bl (logV w (sqL a w) (sqH b w) true 55)≤2^40 by have:=F.out;omega)) ?_;rintro _ g4 _ r4;obtain⟨w4,_,_,rfl,r4⟩:=r4.sl
    try simp(disch:=omega) only[go_sem,Nat.reduceBEq,reduceAdd]
    refine caN (by exact aL (n:=1) r4 (show bl (b*logV w (sqL a w) (sqH b w) true 55)+1≤2^40 by have:=F.out;omega)) ?_;rintro _ g5 _ r5;obtain⟨w5,_,_,rfl,r5⟩:=r5.sl
    try simp(disch:=omega) only[go_sem,Nat.reduceBEq,reduceAdd]
    refine caN (by exact kJ (n:=w) r5 (show bl (b*logV w (sqL a w) (sqH b w) true 55*2^1)≤2^39 by have:=F.out;omega) (by have:=F.out;omega)) ?_;rintro _ g6 _ r6;obtain⟨w6,_,_,rfl,r6⟩:=r6.sl
    try simp(disch:=omega) only[go_sem,Nat.reduceBEq,reduceAdd]
    exact⟨_,_,_,_,_,_,rfl,r3.to,r6⟩
  | succ i=>
    obtain⟨j,hj,ej⟩:∃j,j < 55∧55 - (i+1)=j:=⟨_,by have:=F.out;omega,rfl⟩
    have en:55 - i=j+1:=by have:=F.out;omega
    have eo:109 - 2*j=2*i+1:=by have:=F.out;omega
    rw[ej] at hl hh
    have b1:=bA (j:=j) (c:=false) (by have:=F.out;omega)
    have b2:=bA (j:=j) (c:=true) (by have:=F.out;omega)
    have b3:bl (2*i+1)≤7:=bl_le.2 (by have:=F.out;omega)
    have b4:=aG (sqH b w) (logV w (sqL a w) (sqH b w) true j)
    have b5:=aG (sqL a w) (logV w (sqL a w) (sqH b w) false j)
    have b6:=aG (sqH b w*logV w (sqL a w) (sqH b w) true j) (2*i+1)
    have b7:=aG (sqL a w*logV w (sqL a w) (sqH b w) false j) (2*i+1)
    have b8:=cY (2^(2*w)) (sqH b w*logV w (sqL a w) (sqH b w) true j*(2*i+1))
    have b9:=cY (2^(2*w)) (sqL a w*logV w (sqL a w) (sqH b w) false j*(2*i+1))
    have b10:=cu (2*i+1) w
    have n0:Hid ((2*i+1)*2^w≠0):=⟨Nat.mul_ne_zero (by have:=F.out;omega) (am w)⟩
    have eo:=Hid.mk eo
    have en:=Hid.mk en
    clear ej hj
    have F:=Hid.mk (And.intro F.out (And.intro b1 (And.intro b2 (And.intro b3 (And.intro b4 (And.intro b5 (And.intro b6 (And.intro b7 (And.intro b8 (And.intro b9 b10))))))))));clear b1 b2 b3 b4 b5 b6 b7 b8 b9 b10
    try simp(disch:=omega) only[go_sem,Nat.reduceBEq,reduceAdd]
    refine caN (by exact aw (n:=2*i+1) (by have:=F.out;omega)) ?_;rintro _ g1 _ r1;obtain⟨w1,_,_,rfl,r1⟩:=r1.sl
    try simp(disch:=omega) only[go_sem,Nat.reduceBEq,reduceAdd]
    refine caN (by exact bu (w:=2*w) (by have:=F.out;omega)) ?_;rintro _ g2 _ r2;obtain⟨w2,_,_,rfl,r2⟩:=r2.sl
    try simp(disch:=omega) only[go_sem,Nat.reduceBEq,reduceAdd]
    refine caN (by exact aI (q1.to (h':=g2)) (hl.to (h':=g2)) (show bl (sqL a w)≤2^40 by have:=F.out;omega) (by have:=F.out;omega)) ?_;rintro _ g3 _ r3;obtain⟨w3,_,_,rfl,r3⟩:=r3.sl
    try simp(disch:=omega) only[go_sem,Nat.reduceBEq,reduceAdd]
    refine caN (by exact aI r3 (r1.to (h':=g3)) (show bl (sqL a w*logV w (sqL a w) (sqH b w) false j)≤2^40 by have:=F.out;omega) (by have:=F.out;omega)) ?_;rintro _ g4 _ r4;obtain⟨w4,_,_,rfl,r4⟩:=r4.sl
    try simp(disch:=omega) only[go_sem,Nat.reduceBEq,reduceAdd]
    refine caN (by exact bR (r2.to (h':=g4)) r4 (by have:=F.out;omega) (show bl (sqL a w*logV w (sqL a w) (sqH b w) false j*(2*i+1))≤2^40 by have:=F.out;omega)) ?_;rintro _ g5 _ r5;obtain⟨w5,_,_,rfl,r5⟩:=r5.sl
    try simp(disch:=omega) only[go_sem,Nat.reduceBEq,reduceAdd]
    refine caN (by exact bu (w:=2*w) (by have:=F.out;omega)) ?_;rintro _ g6 _ r6;obtain⟨w6,_,_,rfl,r6⟩:=r6.sl
    try simp(disch:=omega) only[go_sem,Nat.reduceBEq,reduceAdd]
    refine caN (by exact aI (q2.to (h':=g6)) (hh.to (h':=g6)) (show bl (sqH b w)≤2^40 by have:=F.out;omega) (by have:=F.out;omega)) ?_;rintro _ g7 _ r7;obtain⟨w7,_,_,rfl,r7⟩:=r7.sl
    try simp(disch:=omega) only[go_sem,Nat.reduceBEq,reduceAdd]
    refine caN (by exact aI r7 (r1.to (h':=g7)) (show bl (sqH b w*logV w (sqL a w) (sqH b w) true j)≤2^40 by have:=F.out;omega) (by have:=F.out;omega)) ?_;rintro _ g8 _ r8;obtain⟨w8,_,_,rfl,r8⟩:=r8.sl
    try simp(disch:=omega) only[go_sem,Nat.reduceBEq,reduceAdd]
    refine caN (by exact bR (r6.to (h':=g8)) r8 (by have:=F.out;omega) (show bl (sqH b w*logV w (sqL a w) (sqH b w) true j*(2*i+1))≤2^40 by have:=F.out;omega)) ?_;rintro _ g9 _ r9;obtain⟨w9,_,_,rfl,r9⟩:=r9.sl
    try simp(disch:=omega) only[go_sem,Nat.reduceBEq,reduceAdd]
    refine caN (by exact aL (n:=w) (r1.to (h':=g9)) (by have:=F.out;omega)) ?_;rintro _ g10 _ r10;obtain⟨w10,_,_,rfl,r10⟩:=r10.sl
    try simp(disch:=omega) only[go_sem,Nat.reduceBEq,reduceAdd]
    refine caN (by exact bD (c:=false) (r5.to (h':=g10)) r10 n0.out (show bl (2^(2*w)+sqL a w*logV w (sqL a w) (sqH b w) false j*(2*i+1))≤2^36 by have:=F.out;omega) (by have:=F.out;omega)) ?_;rintro _ g11 _ r11;obtain⟨w11,w11_l,w11_c,rfl,r11⟩:=r11.sl
    try simp(disch:=omega) only[go_sem,Nat.reduceBEq,reduceAdd]
    refine caN (by exact aL (n:=w) (r1.to (h':=g11)) (by have:=F.out;omega)) ?_;rintro _ g12 _ r12;obtain⟨w12,_,_,rfl,r12⟩:=r12.sl
    try simp(disch:=omega) only[go_sem,Nat.reduceBEq,reduceAdd]
    refine caN (by exact bD (c:=true) (r9.to (h':=g12)) r12 n0.out (show bl (2^(2*w)+sqH b w*logV w (sqL a w) (sqH b w) true j*(2*i+1))≤2^36 by have:=F.out;omega) (by have:=F.out;omega)) ?_;rintro _ g13 _ r13;obtain⟨w13,w13_l,w13_c,rfl,r13⟩:=r13.sl
    try simp(disch:=omega) only[go_sem,Nat.reduceBEq,reduceAdd]
    dsimp only[lpE];refine⟨(.slice w11 w11_l w11_c,.slice w13 w13_l w13_c,i),?_,⟨Le.trn le0 inferInstance,(show i≤55 by have:=F.out;omega),?_,?_⟩,(show i < i+1 by have:=F.out;omega)⟩
    · try simp(disch:=omega) only[go_sem,Nat.reduceBEq,reduceAdd]
      all_goals rfl
    · show N32 _ _ (logV _ _ _ false (55 - i))
      rw[en.out,uI,eo.out,←nU]
      exact r11.to
    · show N32 _ _ (logV _ _ _ true (55 - i))
      rw[en.out,qQ,eo.out,←nU]
      exact r13
def risN (k x y d w:Nat) (u:Bool):Nat:=odiv (2^w*d+k*(x*y)) (k*d) u
theorem RRising_spec {h0 h:PH} [Le h0 h] {vx vy vd:Value} {x y d w k:Nat} {u:Bool} (hx:N16 h0 vx x) (hy:N16 h0 vy y) (hd:N16 h0 vd d) (hk:0 < k) (hk':k < 2^60) (hd0:d≠0) (bx:bl x≤2^30) (by_:bl y≤2^30) (bd:bl d≤2^30) (hw:w≤2^30):
    Spec mach 268 #[.int .i64 k,vx,vy,vd,.int .i64 w,.bool u] h (fun v h'=>N16 h' v (risN k x y d w u)) NP:=by
  have b1:=aG x y
  have b2:=bC w
  have b3:=aG (2^w) d
  have b4:=aG k (x*y)
  have b5:bl k≤60:=bl_le.2 hk'
  have b6:=aG k d
  have b7:=cY (2^w*d) (k*(x*y))
  have ek:IntKind.u64.wrap (k:Int)=(k:Int):=wu64 (by omega) (by omega)
  have hkd:k*d≠0:=Nat.mul_ne_zero (by omega) hd0
  obtain⟨_,_,_,rfl,_⟩:=hx.sl
  obtain⟨_,_,_,rfl,_⟩:=hy.sl
  obtain⟨_,_,_,rfl,_⟩:=hd.sl
  cases u
  all_goals
    refine Spec.go [] Tryz.func268 rfl rfl (by kernel_rfl) fun C _=>?_
    try simp(maxSteps:=999999) (disch:=omega) only[go_sem,Nat.reduceBEq,reduceAdd]
    refine caN (by exact jO (w:=w) (by omega)) ?_;rintro _ g1 _ q1;obtain⟨v1,v1_l,v1_c,rfl,q1⟩:=q1.sl
    try simp(maxSteps:=999999) (disch:=omega) only[go_sem,Nat.reduceBEq,reduceAdd]
    refine caN (by exact aV q1 (hd.to (h':=g1)) (by omega) (by omega)) ?_;rintro _ g2 _ q2;obtain⟨v2,v2_l,v2_c,rfl,q2⟩:=q2.sl
    try simp(maxSteps:=999999) (disch:=omega) only[go_sem,Nat.reduceBEq,reduceAdd]
    refine caN (by exact di (n:=k) ek (by omega)) ?_;rintro _ g3 _ q3;obtain⟨v3,v3_l,v3_c,rfl,q3⟩:=q3.sl
    try simp(maxSteps:=999999) (disch:=omega) only[go_sem,Nat.reduceBEq,reduceAdd]
    refine caN (by exact aV (hx.to (h':=g3)) (hy.to (h':=g3)) (by omega) (by omega)) ?_;rintro _ g4 _ q4;obtain⟨v4,v4_l,v4_c,rfl,q4⟩:=q4.sl
    try simp(maxSteps:=999999) (disch:=omega) only[go_sem,Nat.reduceBEq,reduceAdd]
    refine caN (by exact aV (q3.to (h':=g4)) q4 (by omega) (by omega)) ?_;rintro _ g5 _ q5;obtain⟨v5,v5_l,v5_c,rfl,q5⟩:=q5.sl
    try simp(maxSteps:=999999) (disch:=omega) only[go_sem,Nat.reduceBEq,reduceAdd]
    refine caN (by exact nr (q2.to (h':=g5)) q5 (by omega) (by omega)) ?_;rintro _ g6 _ q6;obtain⟨v6,v6_l,v6_c,rfl,q6⟩:=q6.sl
    try simp(maxSteps:=999999) (disch:=omega) only[go_sem,Nat.reduceBEq,reduceAdd]
    refine caN (by exact di (n:=k) ek (by omega)) ?_;rintro _ g7 _ q7;obtain⟨_,_,_,rfl,q7⟩:=q7.sl
    try simp(maxSteps:=999999) (disch:=omega) only[go_sem,Nat.reduceBEq,reduceAdd]
    refine caN (by exact aV q7 (hd.to (h':=g7)) (by omega) (by omega)) ?_;rintro _ g8 _ q8;obtain⟨_,_,_,rfl,q8⟩:=q8.sl
    try simp(maxSteps:=999999) (disch:=omega) only[go_sem,Nat.reduceBEq,reduceAdd]
  · refine caN (by exact rJ (q6.to (h':=g8)) q8 hkd (by omega) (by omega)) ?_;rintro _ g9 _ q9;obtain⟨v9,_,_,rfl,q9⟩:=q9.sl
    try simp(maxSteps:=999999) (disch:=omega) only[go_sem,Nat.reduceBEq,reduceAdd]
    exact q9
  · refine caN (by exact xg (q6.to (h':=g8)) q8 hkd (by omega) (by omega)) ?_;rintro _ g9 _ q9;obtain⟨v9,_,_,rfl,q9⟩:=q9.sl
    try simp(maxSteps:=999999) (disch:=omega) only[go_sem,Nat.reduceBEq,reduceAdd]
    exact q9
theorem ris_first {w s:Nat}:risN 111 s 0 1 w false=2^w / 111:=by
  show(2^w*1+111*(s*0)) / (111*1)=_
  rw[Nat.mul_zero,Nat.mul_zero,Nat.mul_one,Nat.mul_one,Nat.add_zero]
theorem ris_firstU {w t:Nat}:risN 111 t 1 100 w true=cdiv (2^w*100+t*111) 11100:=by
  show cdiv (2^w*100+111*(t*1)) (111*100)=_
  rw[Nat.mul_one,Nat.mul_comm 111 t]
theorem ris_log {w k x y:Nat} {u:Bool}:risN k x y (2^w) w u=odiv (2^w*2^w+x*y*k) (k*2^w) u:=by
  unfold risN
  rw[Nat.mul_comm k (x*y)]
theorem RTwice_spec {h0 h:PH} [Le h0 h] {va vb:Value} {a b w:Nat} (hva:N16 h0 va a) (hvb:N16 h0 vb b) (la:a≤2^w) (lb:b≤2^w) (hw':w≤1000):Spec mach 227 #[va,vb,.int .i64 w] h (fun v h'=>∃x m c y n d,v=.tuple #[.slice x m c,.slice y n d]∧N16 h' (.slice x m c) (logL a b w)∧N16 h' (.slice y n d) (logH a b w)) NP:=by
  have ba:bl a≤w+2:=bh (by omega)
  have bb:bl b≤w+2:=bh (by omega)
  obtain⟨bs,_⟩:=bl_sq (a:=a) la
  obtain⟨_,bt⟩:=bl_sq (a:=b) lb
  have bA:∀{j c},j≤55→bl (logV w (sqL a w) (sqH b w) c j)≤w+7:=fun hj=>bl_logV (mj la) (jV lb) hj
  have u1:=bC w
  have u2:bl 0≤2^30:=by decide
  have u3:bl 1≤2^30:=by decide
  have u4:bl 100≤2^30:=by decide
  have u5:bl 2≤2:=by decide
  have u6:=aG 2 a
  have u7:=aG 2 b
  have eL:2*a*logV w (sqL a w) (sqH b w) false 55 / 2^w=logL a b w:=by unfold logL;congr 1;grind
  have eH:cdiv (2*b*logV w (sqL a w) (sqH b w) true 55) (2^w)=logH a b w:=by unfold logH;congr 1;grind
  obtain⟨xa,ma,ca,rfl,hva⟩:=hva.sl
  obtain⟨xb,mb,cb,rfl,hvb⟩:=hvb.sl
  have w0:=Hid.mk (am w)
  have u3':=Hid.mk u3
  have u2':=Hid.mk u2
  have u4':=Hid.mk u4
  have eL:=Hid.mk eL
  have eH:=Hid.mk eH
  clear la lb
  have F:=Hid.mk (And.intro ba (And.intro bb (And.intro bs (And.intro bt (And.intro u1 (And.intro u2 (And.intro u3 (And.intro u4 (And.intro u5 (And.intro u6 u7))))))))));clear ba bb bs bt u1 u2 u3 u4 u5 u6 u7
  refine Spec.go [] Tryz.func227 rfl rfl (by kernel_rfl) fun C _=>?_
  try simp(maxSteps:=999999) (disch:=omega) only[go_sem,Nat.reduceBEq,reduceAdd]
  refine caN (by exact nu (u:=false) hva hva (by have:=F.out;omega) (by have:=F.out;omega) (by have:=F.out;omega)) ?_;rintro _ h1 _ q1;obtain⟨v1,v1_l,v1_c,rfl,q1⟩:=q1.sl
  try simp(maxSteps:=999999) (disch:=omega) only[go_sem,Nat.reduceBEq,reduceAdd]
  have q1:N16 h1 (.slice v1 v1_l v1_c) (sqL a w):=q1
  refine caN (by exact nu (u:=true) (hvb.to (h':=h1)) (hvb.to (h':=h1)) (by have:=F.out;omega) (by have:=F.out;omega) (by have:=F.out;omega)) ?_;rintro _ h2 _ q2;obtain⟨v2,v2_l,v2_c,rfl,q2⟩:=q2.sl
  try simp(maxSteps:=999999) (disch:=omega) only[go_sem,Nat.reduceBEq,reduceAdd]
  have q2:N16 h2 (.slice v2 v2_l v2_c) (sqH b w):=q2
  have q1:=q1.to (h':=h2)
  refine caN (by exact di (k:=0) (n:=0) (by decide) (by decide)) ?_;rintro _ h3 _ q3;obtain⟨v3,v3_l,v3_c,rfl,q3⟩:=q3.sl
  try simp(maxSteps:=999999) (disch:=omega) only[go_sem,Nat.reduceBEq,reduceAdd]
  refine caN (by exact di (k:=1) (n:=1) (by decide) (by decide)) ?_;rintro _ h4 _ q4;obtain⟨v4,v4_l,v4_c,rfl,q4⟩:=q4.sl
  try simp(maxSteps:=999999) (disch:=omega) only[go_sem,Nat.reduceBEq,reduceAdd]
  refine caN (by exact di (k:=1) (n:=1) (by decide) (by decide)) ?_;rintro _ h5 _ q5;obtain⟨v5,v5_l,v5_c,rfl,q5⟩:=q5.sl
  try simp(maxSteps:=999999) (disch:=omega) only[go_sem,Nat.reduceBEq,reduceAdd]
  refine caN (by exact di (k:=100) (n:=100) (by decide) (by decide)) ?_;rintro _ h6 _ q6;obtain⟨v6,v6_l,v6_c,rfl,q6⟩:=q6.sl
  try simp(maxSteps:=999999) (disch:=omega) only[go_sem,Nat.reduceBEq,reduceAdd]
  refine lp [] (fun x':Value×Value×Value×Value×Nat=>⟨[(0,.v (.slice xa ma ca)),(1,.v (.slice xb mb cb)),(2,.v (.int .i64 w)),(8,.v (.slice v1 v1_l v1_c)),(9,.v (.slice v2 v2_l v2_c)),(10,.v x'.1),(11,.v x'.2.1),(12,.v x'.2.2.1),(13,.v x'.2.2.2.1),(14,.v (.int .i64 ((x'.2.2.2.2:Int) - 1)))],[]⟩) (fun x' h'=>Le h2 h'∧(x'.2.2.2.2=56∧N16 h' x'.1 0∧N16 h' x'.2.1 1∧N16 h' x'.2.2.1 1∧N16 h' x'.2.2.2.1 100∨x'.2.2.2.2≤55∧N16 h' x'.1 (logV w (sqL a w) (sqH b w) false (55 - x'.2.2.2.2))∧N16 h' x'.2.1 (2^w)∧N16 h' x'.2.2.1 (logV w (sqL a w) (sqH b w) true (55 - x'.2.2.2.2))∧N16 h' x'.2.2.2.1 (2^w))) (fun x'=>x'.2.2.2.2) (.slice v3 v3_l v3_c,.slice v4 v4_l v4_c,.slice v5 v5_l v5_c,.slice v6 v6_l v6_c,56) ?_ ⟨inferInstance,.inl ⟨rfl,q3.to,q4.to,q5.to,q6⟩⟩ (by kernel_rfl) ?_
  · try simp(maxSteps:=999999) (disch:=omega) only[go_sem,Nat.reduceBEq,reduceAdd]
    all_goals rfl
  rintro⟨vl,vld,vu,vud,i⟩ g0 ⟨le0,hi⟩
  dsimp only at hi ⊢
  rcases hi with⟨rfl,hl,hld,hu,hud⟩ |⟨hi,hl,hld,hu,hud⟩
  · try simp(maxSteps:=999999) (disch:=omega) only[go_sem,Nat.reduceBEq,reduceAdd]
    refine caN (by exact RRising_spec (k:=111) (w:=w) (u:=false) (q1.to (h':=g0)) hl hld (by decide) (by decide) (by decide) (show bl (sqL a w)≤2^30 by have:=F.out;omega) u2'.out u3'.out (by have:=F.out;omega)) ?_;rintro _ g1 _ r1;obtain⟨w1,w1_l,w1_c,rfl,r1⟩:=r1.sl
    try simp(maxSteps:=999999) (disch:=omega) only[go_sem,Nat.reduceBEq,reduceAdd]
    refine caN (by exact RRising_spec (k:=111) (w:=w) (u:=true) (q2.to (h':=g1)) (hu.to (h':=g1)) (hud.to (h':=g1)) (by decide) (by decide) (by decide) (show bl (sqH b w)≤2^30 by have:=F.out;omega) u3'.out u4'.out (by have:=F.out;omega)) ?_;rintro _ g2 _ r2;obtain⟨w2,w2_l,w2_c,rfl,r2⟩:=r2.sl
    try simp(maxSteps:=999999) (disch:=omega) only[go_sem,Nat.reduceBEq,reduceAdd]
    rw[ris_first] at r1
    rw[ris_firstU] at r2
    try simp(maxSteps:=999999) (disch:=omega) only[go_sem,Nat.reduceBEq,reduceAdd]
    refine caN (by exact jO (w:=w) (by have:=F.out;omega)) ?_;rintro _ g3 _ r3;obtain⟨w3,w3_l,w3_c,rfl,r3⟩:=r3.sl
    try simp(maxSteps:=999999) (disch:=omega) only[go_sem,Nat.reduceBEq,reduceAdd]
    refine caN (by exact jO (w:=w) (by have:=F.out;omega)) ?_;rintro _ g4 _ r4;obtain⟨w4,w4_l,w4_c,rfl,r4⟩:=r4.sl
    try simp(maxSteps:=999999) (disch:=omega) only[go_sem,Nat.reduceBEq,reduceAdd]
    dsimp only[lpE];refine⟨(_,_,_,_,55),?_,⟨Le.trn le0 inferInstance,.inr ⟨(show 55≤55 by decide),by show N16 _ _ (logV _ _ _ _ (55 - 55));rw[Nat.sub_self,yf];exact r1.to,r3.to,by show N16 _ _ (logV _ _ _ _ (55 - 55));rw[Nat.sub_self,tD];exact r2.to,r4⟩⟩,(show 55 < 56 by decide)⟩
    try simp(maxSteps:=999999) (disch:=omega) only[go_sem,Nat.reduceBEq,reduceAdd]
    all_goals rfl
  · cases i with
    | zero=>
      rw[Nat.sub_zero] at hl hu
      have b1:=bA (j:=55) (c:=false) (Nat.le_refl _)
      have b2:=bA (j:=55) (c:=true) (Nat.le_refl _)
      have le1:Le h0 g0:=Le.trn inferInstance le0
      obtain⟨_,_,_,rfl,hl⟩:=hl.sl
      obtain⟨_,_,_,rfl,hu⟩:=hu.sl
      have F:=Hid.mk (And.intro F.out (And.intro b1 b2));clear b1 b2
      try simp(maxSteps:=999999) (disch:=omega) only[go_sem,Nat.reduceBEq,reduceAdd]
      refine caN (by exact di (k:=2) (n:=2) (by decide) (by decide)) ?_;rintro _ g1 _ r1;obtain⟨w1,w1_l,w1_c,rfl,r1⟩:=r1.sl
      try simp(maxSteps:=999999) (disch:=omega) only[go_sem,Nat.reduceBEq,reduceAdd]
      refine caN (by exact aV r1 (hva.to (h':=g1)) (by have:=F.out;omega) (by have:=F.out;omega)) ?_;rintro _ g2 _ r2;obtain⟨w2,w2_l,w2_c,rfl,r2⟩:=r2.sl
      try simp(maxSteps:=999999) (disch:=omega) only[go_sem,Nat.reduceBEq,reduceAdd]
      refine caN (by exact nu (u:=false) r2 (hl.to (h':=g2)) (show bl (2*a)≤2^30 by have:=F.out;omega) (show bl (logV w (sqL a w) (sqH b w) false 55)≤2^30 by have:=F.out;omega) (by have:=F.out;omega)) ?_;rintro _ g3 _ r3;obtain⟨w3,w3_l,w3_c,rfl,r3⟩:=r3.sl
      try simp(maxSteps:=999999) (disch:=omega) only[go_sem,Nat.reduceBEq,reduceAdd]
      refine caN (by exact di (k:=2) (n:=2) (by decide) (by decide)) ?_;rintro _ g4 _ r4;obtain⟨w4,w4_l,w4_c,rfl,r4⟩:=r4.sl
      try simp(maxSteps:=999999) (disch:=omega) only[go_sem,Nat.reduceBEq,reduceAdd]
      refine caN (by exact aV r4 (hvb.to (h':=g4)) (by have:=F.out;omega) (by have:=F.out;omega)) ?_;rintro _ g5 _ r5;obtain⟨w5,_,_,rfl,r5⟩:=r5.sl
      try simp(maxSteps:=999999) (disch:=omega) only[go_sem,Nat.reduceBEq,reduceAdd]
      refine caN (by exact nu (u:=true) r5 (hu.to (h':=g5)) (show bl (2*b)≤2^30 by have:=F.out;omega) (show bl (logV w (sqL a w) (sqH b w) true 55)≤2^30 by have:=F.out;omega) (by have:=F.out;omega)) ?_;rintro _ g6 _ r6;obtain⟨w6,w6_l,w6_c,rfl,r6⟩:=r6.sl
      try simp(maxSteps:=999999) (disch:=omega) only[go_sem,Nat.reduceBEq,reduceAdd]
      have r3:N16 g3 (.slice w3 w3_l w3_c) (logL a b w):=by rw[←eL.out];exact r3
      have r6:N16 g6 (.slice w6 w6_l w6_c) (logH a b w):=by rw[←eH.out];exact r6
      exact⟨_,_,_,_,_,_,rfl,r3.to,r6⟩
    | succ i=>
      obtain⟨j,hj,ej⟩:∃j,j < 55∧55 - (i+1)=j:=⟨_,by have:=F.out;omega,rfl⟩
      have en:55 - i=j+1:=by have:=F.out;omega
      have eo:109 - 2*j=2*i+1:=by have:=F.out;omega
      rw[ej] at hl hu
      have b1:=bA (j:=j) (c:=false) (by have:=F.out;omega)
      have b2:=bA (j:=j) (c:=true) (by have:=F.out;omega)
      have eo:=Hid.mk eo
      have en:=Hid.mk en
      clear ej hj
      have F:=Hid.mk (And.intro F.out (And.intro b1 b2));clear b1 b2
      try simp(maxSteps:=999999) (disch:=omega) only[go_sem,Nat.reduceBEq,reduceAdd]
      refine caN (by exact RRising_spec (k:=2*i+1) (w:=w) (u:=false) (q1.to (h':=g0)) hl hld (by have:=F.out;omega) (by have:=F.out;omega) w0.out (show bl (sqL a w)≤2^30 by have:=F.out;omega) (by have:=F.out;omega) (by have:=F.out;omega) (by have:=F.out;omega)) ?_;rintro _ g1 _ r1;obtain⟨w1,w1_l,w1_c,rfl,r1⟩:=r1.sl
      try simp(maxSteps:=999999) (disch:=omega) only[go_sem,Nat.reduceBEq,reduceAdd]
      refine caN (by exact RRising_spec (k:=2*i+1) (w:=w) (u:=true) (q2.to (h':=g1)) (hu.to (h':=g1)) (hud.to (h':=g1)) (by have:=F.out;omega) (by have:=F.out;omega) w0.out (show bl (sqH b w)≤2^30 by have:=F.out;omega) (by have:=F.out;omega) (by have:=F.out;omega) (by have:=F.out;omega)) ?_;rintro _ g2 _ r2;obtain⟨w2,w2_l,w2_c,rfl,r2⟩:=r2.sl
      try simp(maxSteps:=999999) (disch:=omega) only[go_sem,Nat.reduceBEq,reduceAdd]
      rw[ris_log] at r1 r2
      try simp(maxSteps:=999999) (disch:=omega) only[go_sem,Nat.reduceBEq,reduceAdd]
      refine caN (by exact jO (w:=w) (by have:=F.out;omega)) ?_;rintro _ g3 _ r3;obtain⟨w3,w3_l,w3_c,rfl,r3⟩:=r3.sl
      try simp(maxSteps:=999999) (disch:=omega) only[go_sem,Nat.reduceBEq,reduceAdd]
      refine caN (by exact jO (w:=w) (by have:=F.out;omega)) ?_;rintro _ g4 _ r4;obtain⟨w4,w4_l,w4_c,rfl,r4⟩:=r4.sl
      try simp(maxSteps:=999999) (disch:=omega) only[go_sem,Nat.reduceBEq,reduceAdd]
      dsimp only[lpE];refine⟨(.slice w1 w1_l w1_c,.slice w3 w3_l w3_c,.slice w2 w2_l w2_c,.slice w4 w4_l w4_c,i),?_,⟨Le.trn le0 inferInstance,.inr ⟨(show i≤55 by have:=F.out;omega),?_,r3.to,?_,r4⟩⟩,(show i < i+1 by have:=F.out;omega)⟩
      · try simp(maxSteps:=999999) (disch:=omega) only[go_sem,Nat.reduceBEq,reduceAdd]
        all_goals rfl
      · show N16 _ _ (logV _ _ _ false (55 - i))
        rw[en.out,uI,eo.out]
        exact r1.to
      · show N16 _ _ (logV _ _ _ true (55 - i))
        rw[en.out,qQ,eo.out]
        exact r2.to
theorem xq {h0 h:PH} [Le h0 h] {v w:Value} {x y z:Rat} {g:FuncId} (hx:Rv h0 v x) (hy:Rv h0 w y) (hg:∀{h0 h:PH} {a b:Value} [Le h0 h],Fr h0 a x→Fr h0 b y→Spec mach g #[a,b] h (fun v h'=>Fr h' v z) NP):Spec mach 239 #[v,w,.func (.func g) #[] #[]] h (fun r h'=>Nc h' r z) NP:=by
  have kX:=fun {h} [Le h0 h]=>kg (h:=h) hx
  have kY:=fun {h} [Le h0 h]=>kg (h:=h) hy
  obtain⟨_,_,_,_,_,_,_,rfl,_⟩:=hx.sa
  obtain⟨_,_,_,_,_,_,_,rfl,_⟩:=hy.sa
  refine Spec.go [] Tryz.func239 rfl rfl (by kernel_rfl) fun C _=>?_
  try simp(disch:=omega) only[go_sem,Nat.reduceBEq,reduceAdd]
  refine caN (by exact kX) ?_;rintro v1 h1 s1 ⟨f,rfl,hf⟩;obtain⟨_,_,_,_,_,_,_,rfl,hf⟩:=hf.sa
  try simp(disch:=omega) only[go_sem,Nat.reduceBEq,reduceAdd]
  refine caN (by exact kY) ?_;rintro v2 h2 s2 ⟨f',rfl,hf'⟩;obtain⟨_,_,_,_,_,_,_,rfl,hf'⟩:=hf'.sa
  try simp(disch:=omega) only[go_sem,Nat.reduceBEq,reduceAdd]
  refine caN (by exact hg (hf.to (h':=h2)) hf') ?_;rintro v3 h3 s3 hz
  try simp(disch:=omega) only[go_sem,Nat.reduceBEq,reduceAdd]
  refine caN (by exact qy hz) ?_;rintro v4 h4 s4 q4;obtain⟨_,_,_,_,_,_,_,_,rfl,w4⟩:=q4
  try simp(disch:=omega) only[go_sem,Nat.reduceBEq,reduceAdd]
  exact Nc.mk w4
theorem Ak {h0 h:PH} [Le h0 h] {v w:Value} {x y:Rat} (hx:Rv h0 v x) (hy:Rv h0 w y):Spec mach 184 #[v,w] h (fun r h'=>Nc h' r (x+y)) NP:=by
  have kT:=fun {h} [Le h0 h]=>xq (h:=h) (g:=212) hx hy (fun a b=>iV a b hx.up hy.up)
  obtain⟨_,_,_,_,_,_,_,rfl,_⟩:=hx.sa
  obtain⟨_,_,_,_,_,_,_,rfl,_⟩:=hy.sa
  refine Spec.go [] Tryz.func184 rfl rfl (by kernel_rfl) fun C _=>?_
  try simp(disch:=omega) only[go_sem,Nat.reduceBEq,reduceAdd]
  refine caN (by exact kT) ?_;rintro v1 h1 s1 q1;obtain⟨_,_,_,_,_,_,_,_,rfl,w1⟩:=q1
  try simp(disch:=omega) only[go_sem,Nat.reduceBEq,reduceAdd]
  exact Nc.mk w1
theorem NumSub1 {h0 h:PH} [Le h0 h] {v w:Value} {x y:Rat} (hx:Fr h0 v x) (hy:Fr h0 w y) (sx:sz x≤2^36) (sy:sz y≤2^36):Spec mach 240 #[v,w] h (fun v h'=>Fr h' v (x+ -y)) NP:=by
  have kO:=fun {h} [Le h0 h]=>kf (h:=h) hy
  have kA:=fun {h h':PH} {u:Value} [Le h0 h] [Le h h'] (hu:Fr h u (-y))=>iV (h0:=h) (h:=h') (hx.to (h':=h)) hu sx (by rw[cz];exact sy)
  obtain⟨_,_,_,_,_,_,_,rfl,_⟩:=hx.sa
  obtain⟨_,_,_,_,_,_,_,rfl,_⟩:=hy.sa
  refine Spec.go [] Tryz.func240 rfl rfl (by kernel_rfl) fun C _=>?_
  try simp(disch:=omega) only[go_sem,Nat.reduceBEq,reduceAdd]
  refine caN (by exact kO) ?_;rintro v1 h1 s1 q1;obtain⟨_,_,_,_,_,_,_,rfl,q1⟩:=q1.sa
  try simp(disch:=omega) only[go_sem,Nat.reduceBEq,reduceAdd]
  refine caN (by exact kA q1) ?_;rintro v2 h2 s2 q2;obtain⟨_,_,_,_,_,_,_,rfl,q2⟩:=q2.sa
  try simp(disch:=omega) only[go_sem,Nat.reduceBEq,reduceAdd]
  exact q2
theorem wX {h0 h:PH} [Le h0 h] {v w:Value} {x y:Rat} (hx:Rv h0 v x) (hy:Rv h0 w y):Spec mach 169 #[v,w] h (fun r h'=>Nc h' r (x+ -y)) NP:=by
  have kT:=fun {h} [Le h0 h]=>xq (h:=h) (g:=240) hx hy (fun a b=>NumSub1 a b hx.up hy.up)
  obtain⟨_,_,_,_,_,_,_,rfl,_⟩:=hx.sa
  obtain⟨_,_,_,_,_,_,_,rfl,_⟩:=hy.sa
  refine Spec.go [] Tryz.func169 rfl rfl (by kernel_rfl) fun C _=>?_
  try simp(disch:=omega) only[go_sem,Nat.reduceBEq,reduceAdd]
  refine caN (by exact kT) ?_;rintro v1 h1 s1 q1;obtain⟨_,_,_,_,_,_,_,_,rfl,w1⟩:=q1
  try simp(disch:=omega) only[go_sem,Nat.reduceBEq,reduceAdd]
  exact Nc.mk w1
theorem EB {h0 h:PH} [Le h0 h] {v w:Value} {x y:Rat} (hx:Rv h0 v x) (hy:Rv h0 w y):Spec mach 180 #[v,w] h (fun r h'=>Nc h' r (x*y)) NP:=by
  have kT:=fun {h} [Le h0 h]=>xq (h:=h) (g:=177) hx hy (fun a b=>wU a b hx.up hy.up)
  obtain⟨_,_,_,_,_,_,_,rfl,_⟩:=hx.sa
  obtain⟨_,_,_,_,_,_,_,rfl,_⟩:=hy.sa
  refine Spec.go [] Tryz.func180 rfl rfl (by kernel_rfl) fun C _=>?_
  try simp(disch:=omega) only[go_sem,Nat.reduceBEq,reduceAdd]
  refine caN (by exact kT) ?_;rintro v1 h1 s1 q1;obtain⟨_,_,_,_,_,_,_,_,rfl,w1⟩:=q1
  try simp(disch:=omega) only[go_sem,Nat.reduceBEq,reduceAdd]
  exact Nc.mk w1
theorem o6 {h0 h:PH} [Le h0 h] {v w:Value} {x y:Rat} (hx:Rv h0 v x) (hy:Rv h0 w y) (hz:y≠0):Spec mach 97 #[v,w] h (fun r h'=>Nc h' r (x*y⁻¹)) NP:=by
  have kX:=fun {h} [Le h0 h]=>kg (h:=h) hx
  have kY:=fun {h} [Le h0 h]=>kg (h:=h) hy
  have sx:=hx.up
  have sy:sz y⁻¹≤2^36:=Nat.le_trans (iQ y) hy.up
  have hn:¬y.num.natAbs=0:=by rw[Int.natAbs_eq_zero];exact fun e=>hz (Rat.num_eq_zero.1 e)
  obtain⟨_,_,_,_,_,_,_,rfl,_⟩:=hx.sa
  obtain⟨_,_,_,_,_,_,_,rfl,_⟩:=hy.sa
  clear hx hy
  refine Spec.go [] Tryz.func97 rfl rfl (by kernel_rfl) fun C _=>?_
  try simp(disch:=omega) only[go_sem,Nat.reduceBEq,reduceAdd]
  refine caN (by exact kX) ?_;rintro v1 h1 s1 ⟨f,rfl,hf⟩;obtain⟨_,_,_,_,_,_,_,rfl,hf⟩:=hf.sa
  try simp(disch:=omega) only[go_sem,Nat.reduceBEq,reduceAdd]
  refine caN (by exact kY) ?_;rintro v2 h2 s2 ⟨f',rfl,hf'⟩;have hf0:=hf';obtain⟨na,nl,nc,da,dl,dc,rfl,hnn,hdd⟩:=hf'.sl
  try simp(disch:=omega) only[go_sem,Nat.reduceBEq,reduceAdd]
  refine caN (by exact bU hnn) ?_;rintro v3 h3 s3 rfl
  try simp(disch:=omega) only[go_sem,Nat.reduceBEq,reduceAdd]
  refine caN (by exact mu (hf0.to (h':=h3)) hz) ?_;rintro v4 h4 s4 q4;obtain⟨_,_,_,_,_,_,_,rfl,q4⟩:=q4.sa
  try simp(disch:=omega) only[go_sem,Nat.reduceBEq,reduceAdd]
  refine caN (by exact wU (hf.to (h':=h4)) q4 sx sy) ?_;rintro v5 h5 s5 q5
  try simp(disch:=omega) only[go_sem,Nat.reduceBEq,reduceAdd]
  refine caN (by exact qy q5) ?_;rintro v6 h6 s6 q6;obtain⟨_,_,_,_,_,_,_,_,rfl,w6⟩:=q6
  try simp(disch:=omega) only[go_sem,Nat.reduceBEq,reduceAdd]
  exact Nc.mk w6
theorem gY {h0 h:PH} [Le h0 h] {v w:Value} {x y:Rat} (hx:Rv h0 v x) (hy:Rv h0 w y):Spec mach 98 #[v,w] h (fun r _=>r=.tuple #[.int .i64 (cmpQ x y),.int .i64 0]) NP:=by
  have kX:=fun {h} [Le h0 h]=>kg (h:=h) hx
  have kY:=fun {h} [Le h0 h]=>kg (h:=h) hy
  have sx:=hx.up
  have sy:=hy.up
  obtain⟨_,_,_,_,_,_,_,rfl,_⟩:=hx.sa
  obtain⟨_,_,_,_,_,_,_,rfl,_⟩:=hy.sa
  clear hx hy
  refine Spec.go [] Tryz.func98 rfl rfl (by kernel_rfl) fun C _=>?_
  try simp(disch:=omega) only[go_sem,Nat.reduceBEq,reduceAdd]
  refine caN (by exact kX) ?_;rintro v1 h1 s1 ⟨f,rfl,hf⟩;obtain⟨_,_,_,_,_,_,_,rfl,hf⟩:=hf.sa
  try simp(disch:=omega) only[go_sem,Nat.reduceBEq,reduceAdd]
  refine caN (by exact kY) ?_;rintro v2 h2 s2 ⟨f',rfl,hf'⟩;obtain⟨_,_,_,_,_,_,_,rfl,hf'⟩:=hf'.sa
  try simp(disch:=omega) only[go_sem,Nat.reduceBEq,reduceAdd]
  refine caN (by exact dq (hf.to (h':=h2)) hf' sx sy) ?_;rintro v3 h3 s3 rfl
  try simp(disch:=omega) only[go_sem,Nat.reduceBEq,reduceAdd]
theorem gdown_0 (x:Rat):gdown x 0=(x.floor:Rat):=by
  unfold gdown
  rw[Rat.pow_zero,Rat.mul_one,Rat.div_def,show(1:Rat)⁻¹=1 by grind,Rat.mul_one]
theorem Ch {h0 h:PH} [Le h0 h] {v:Value} {x:Rat} (hx:Fr h0 v x) (sx:sz x≤2^36):Spec mach 274 #[v] h (fun v h'=>Fr h' v (x.floor:Rat)) NP:=by
  have kG:=fun {h} [Le h0 h]=>jG (h:=h) (p:=0) (u:=false) hx sx (by decide)
  have e:(if false=true then gup x 0 else gdown x 0)=(x.floor:Rat):=gdown_0 x
  rw[e] at kG
  obtain⟨_,_,_,_,_,_,_,rfl,_⟩:=hx.sa
  refine Spec.go [] Tryz.func274 rfl rfl (by kernel_rfl) fun C _=>?_
  try simp(disch:=omega) only[go_sem,Nat.reduceBEq,reduceAdd]
  refine caN (by exact kG) ?_;rintro v1 h1 s1 q1;obtain⟨_,_,_,_,_,_,_,rfl,q1⟩:=q1.sa
  try simp(disch:=omega) only[go_sem,Nat.reduceBEq,reduceAdd]
  exact q1
theorem CE {h0 h:PH} [Le h0 h] {v:Value} {x:Rat} (hx:Rv h0 v x):Spec mach 241 #[v] h (fun r h'=>Nc h' r (x.floor:Rat)) NP:=by
  have kO:=fun {h} [Le h0 h]=>pL (h:=h) (g:=274) hx (fun a=>Ch a hx.up)
  obtain⟨_,_,_,_,_,_,_,rfl,_⟩:=hx.sa
  refine Spec.go [] Tryz.func241 rfl rfl (by kernel_rfl) fun C _=>?_
  try simp(disch:=omega) only[go_sem,Nat.reduceBEq,reduceAdd]
  refine caN (by exact kO) ?_;rintro v1 h1 s1 q1;obtain⟨_,_,_,_,_,_,_,_,rfl,w1⟩:=q1
  try simp(disch:=omega) only[go_sem,Nat.reduceBEq,reduceAdd]
  exact Nc.mk w1
theorem Bk.sp {h:PH} {v:Value} {x y:Rat} (r:Bk h v x y):∃b1 a1 m1 c1 a2 m2 c2 b2 a3 m3 c3 a4 m4 c4,v=.agg #[.bool b1,.slice a1 m1 c1,.slice a2 m2 c2,.bool b2,.slice a3 m3 c3,.slice a4 m4 c4]∧Bk h (.agg #[.bool b1,.slice a1 m1 c1,.slice a2 m2 c2,.bool b2,.slice a3 m3 c3,.slice a4 m4 c4]) x y:=by
  obtain⟨b1,a1,m1,c1,a2,m2,c2,b2,a3,m3,c3,a4,m4,c4,rfl,k1,k2⟩:=r
  exact⟨b1,a1,m1,c1,a2,m2,c2,b2,a3,m3,c3,a4,m4,c4,rfl,_,_,_,_,_,_,_,_,_,_,_,_,_,_,rfl,k1,k2⟩
theorem NumRnd {h0 h:PH} [Le h0 h] {v:Value} {x:Rat} {p:Nat} {u:Bool} (hx:Rv h0 v x) (hp:p≤256):Spec mach 248 #[v,.int .i64 p,.bool u] h (fun r h'=>Nc h' r (if u=true then gup x p else gdown x p)) NP:=by
  have kX:=fun {h} [Le h0 h]=>kg (h:=h) hx
  have kG:=fun {h0 h:PH} [Le h0 h] {a:Value} (ha:Fr h0 a x)=>jG (h:=h) (p:=p) (u:=u) ha hx.up (by omega)
  obtain⟨_,_,_,_,_,_,_,rfl,_⟩:=hx.sa
  refine Spec.go [] Tryz.func248 rfl rfl (by kernel_rfl) fun C _=>?_
  try simp(disch:=omega) only[go_sem,Nat.reduceBEq,reduceAdd]
  refine caN (by exact kX) ?_;rintro v1 h1 s1 ⟨f,rfl,hf⟩;obtain⟨_,_,_,_,_,_,_,rfl,hf⟩:=hf.sa
  try simp(disch:=omega) only[go_sem,Nat.reduceBEq,reduceAdd]
  refine caN (by exact kG hf) ?_;rintro v3 h3 s3 hz;obtain⟨_,_,_,_,_,_,_,rfl,hz⟩:=hz.sa
  try simp(disch:=omega) only[go_sem,Nat.reduceBEq,reduceAdd]
  refine caN (by exact qy hz) ?_;rintro v4 h4 s4 q4;obtain⟨_,_,_,_,_,_,_,_,rfl,w4⟩:=q4
  try simp(disch:=omega) only[go_sem,Nat.reduceBEq,reduceAdd]
  exact Nc.mk w4
theorem NumDn {h0 h:PH} [Le h0 h] {v:Value} {x:Rat} {p:Nat} (hx:Rv h0 v x) (hp:p≤256):Spec mach 174 #[v,.int .i64 p] h (fun r h'=>Nc h' r (gdown x p)) NP:=by
  have kR:=fun {h} [Le h0 h]=>NumRnd (h:=h) (u:=false) hx hp
  obtain⟨_,_,_,_,_,_,_,rfl,_⟩:=hx.sa
  refine Spec.go [] Tryz.func174 rfl rfl (by kernel_rfl) fun C _=>?_
  try simp(disch:=omega) only[go_sem,Nat.reduceBEq,reduceAdd]
  refine caN (by exact kR) ?_;rintro v1 h1 s1 q1;obtain⟨_,_,_,_,_,_,_,_,rfl,w1⟩:=q1
  try simp(disch:=omega) only[go_sem,Nat.reduceBEq,reduceAdd]
  exact Nc.mk w1
theorem EC {h0 h:PH} [Le h0 h] {v:Value} {x:Rat} {p:Nat} (hx:Rv h0 v x) (hp:p≤256):Spec mach 175 #[v,.int .i64 p] h (fun r h'=>Nc h' r (gup x p)) NP:=by
  have kR:=fun {h} [Le h0 h]=>NumRnd (h:=h) (u:=true) hx hp
  obtain⟨_,_,_,_,_,_,_,rfl,_⟩:=hx.sa
  refine Spec.go [] Tryz.func175 rfl rfl (by kernel_rfl) fun C _=>?_
  try simp(disch:=omega) only[go_sem,Nat.reduceBEq,reduceAdd]
  refine caN (by exact kR) ?_;rintro v1 h1 s1 q1;obtain⟨_,_,_,_,_,_,_,_,rfl,w1⟩:=q1
  try simp(disch:=omega) only[go_sem,Nat.reduceBEq,reduceAdd]
  exact Nc.mk w1
theorem jZ {h0 h:PH} [Le h0 h] {v w:Value} {x y:Rat} {p:Nat} (hx:Cn h0 v x) (hy:Cn h0 w y) (hp:p≤256) (sx:sz x≤2048) (sy:sz y≤2048) (tx:sz (gdown x p)≤2048) (ty:sz (gup y p)≤2048):
    Spec mach 96 #[v,w,.int .i64 p] h (fun v h'=>Bk h' v (gdown x p) (gup y p)) NP:=by
  have kD:=fun {h} [Le h0 h]=>NumDn (h:=h) (Rv.of hx sx) hp
  have kU:=fun {h} [Le h0 h]=>EC (h:=h) (Rv.of hy sy) hp
  obtain⟨_,_,_,_,_,_,_,rfl,hx⟩:=hx.sa
  obtain⟨_,_,_,_,_,_,_,rfl,hy⟩:=hy.sa
  refine Spec.go [] Tryz.func96 rfl rfl (by kernel_rfl) fun C _=>?_
  try simp(disch:=omega) only[go_sem,Nat.reduceBEq,reduceAdd]
  refine caN (by exact kD) ?_;rintro v1 h1 s1 q1;obtain⟨_,_,_,_,_,_,_,rfl,r1⟩:=q1.ok tx
  try simp(disch:=omega) only[go_sem,Nat.reduceBEq,reduceAdd]
  refine caN (by exact kU) ?_;rintro v2 h2 s2 q2;obtain⟨_,_,_,_,_,_,_,rfl,r2⟩:=q2.ok ty
  try simp(disch:=omega) only[go_sem,Nat.reduceBEq,reduceAdd]
  exact⟨_,_,_,_,_,_,_,_,_,_,_,_,_,_,rfl,r1.to,r2⟩
theorem uZ {h0 h:PH} [Le h0 h] {va vb vc vd:Value} {a b c d w p:Nat} (ha:N32 h0 va a) (hb:N32 h0 vb b) (hc:N32 h0 vc c) (hd:N32 h0 vd d) (ba:bl a≤2048) (bb:bl b≤2048) (bc:bl c≤2048) (bd:bl d≤2048) (hw:w < 2048) (hp:p≤256)
    (sx:sz (sgn false b (2^w)+ -sgn false a (2^w))≤2048) (sy:sz (sgn false d (2^w)+ -sgn false c (2^w))≤2048)
    (tx:sz (gdown (sgn false b (2^w)+ -sgn false a (2^w)) p)≤2048) (ty:sz (gup (sgn false d (2^w)+ -sgn false c (2^w)) p)≤2048):
    Spec mach 94 #[va,vb,vc,vd,.int .i64 w,.int .i64 p] h (fun v h'=>Bk h' v (gdown (sgn false b (2^w)+ -sgn false a (2^w)) p) (gup (sgn false d (2^w)+ -sgn false c (2^w)) p)) NP:=by
  have ss:∀{a:Nat},bl a≤2048→sz (sgn false a (2^w))≤2048:=fun {a} h=>by
    have:=dg false a (am w)
    have:=bC w
    omega
  have sa:=Hid.mk (ss ba)
  have sb:=Hid.mk (ss bb)
  have sc:=Hid.mk (ss bc)
  have sd:=Hid.mk (ss bd)
  obtain⟨_,_,_,rfl,ha⟩:=ha.sl
  obtain⟨_,_,_,rfl,hb⟩:=hb.sl
  obtain⟨_,_,_,rfl,hc⟩:=hc.sl
  obtain⟨_,_,_,rfl,hd⟩:=hd.sl
  have ba:=Hid.mk ba
  have bb:=Hid.mk bb
  have bc:=Hid.mk bc
  have bd:=Hid.mk bd
  have sx:=Hid.mk sx
  have sy:=Hid.mk sy
  have tx:=Hid.mk tx
  have ty:=Hid.mk ty
  refine Spec.go [] Tryz.func94 rfl rfl (by kernel_rfl) fun C _=>?_
  try simp(disch:=omega) only[go_sem,Nat.reduceBEq,reduceAdd]
  refine caN (by exact aO (n:=w) hb bb.out hw) ?_;rintro v1 h1 s1 q1;obtain⟨_,_,_,_,_,_,_,rfl,q1⟩:=q1.sa
  try simp(disch:=omega) only[go_sem,Nat.reduceBEq,reduceAdd]
  refine caN (by exact aO (n:=w) (ha.to (h':=h1)) ba.out hw) ?_;rintro v2 h2 s2 q2;obtain⟨_,_,_,_,_,_,_,rfl,q2⟩:=q2.sa
  try simp(disch:=omega) only[go_sem,Nat.reduceBEq,reduceAdd]
  refine caN (by exact wX (Rv.of (q1.to (h':=h2)) sb.out) (Rv.of q2 sa.out)) ?_;rintro v3 h3 s3 q3;obtain⟨_,_,_,_,_,_,_,rfl,r3⟩:=q3.ok sx.out
  try simp(disch:=omega) only[go_sem,Nat.reduceBEq,reduceAdd]
  refine caN (by exact aO (n:=w) (hd.to (h':=h3)) bd.out hw) ?_;rintro v4 h4 s4 q4;obtain⟨_,_,_,_,_,_,_,rfl,q4⟩:=q4.sa
  try simp(disch:=omega) only[go_sem,Nat.reduceBEq,reduceAdd]
  refine caN (by exact aO (n:=w) (hc.to (h':=h4)) bc.out hw) ?_;rintro v5 h5 s5 q5;obtain⟨_,_,_,_,_,_,_,rfl,q5⟩:=q5.sa
  try simp(disch:=omega) only[go_sem,Nat.reduceBEq,reduceAdd]
  refine caN (by exact wX (Rv.of (q4.to (h':=h5)) sd.out) (Rv.of q5 sc.out)) ?_;rintro v6 h6 s6 q6;obtain⟨_,_,_,_,_,_,_,rfl,r6⟩:=q6.ok sy.out
  try simp(disch:=omega) only[go_sem,Nat.reduceBEq,reduceAdd]
  refine caN (by exact jZ (p:=p) (r3.to (h':=h6)) r6 hp sx.out sy.out tx.out ty.out) ?_;rintro v7 h7 s7 q7;obtain⟨_,_,_,_,_,_,_,_,_,_,_,_,_,_,rfl,q7⟩:=q7.sp
  try simp(disch:=omega) only[go_sem,Nat.reduceBEq,reduceAdd]
  exact q7
def lge0 (n d:Nat):Int:=(bl n:Int) - bl d
def lgn (n:Nat) (e:Int):Nat:=n*2^(max 0 (-e)).toNat
def lgd (d:Nat) (e:Int):Nat:=d*2^(max 0 e).toNat
def lge (n d:Nat):Int:=if lgn n (lge0 n d) < lgd d (lge0 n d) then lge0 n d - 1 else lge0 n d
theorem jy {n d:Nat} (hn:n≠0):lgd d (lge n d)≤lgn n (lge n d):=by
  unfold lge
  split
  · obtain⟨n1,n2⟩:=xG hn
    have d2:d < 2^bl d:=bl_le.1 (Nat.le_refl _)
    unfold lgn lgd lge0
    by_cases h:1≤(bl n:Int) - bl d
    · obtain⟨k,hk⟩:∃k:Nat,bl n=bl d+1+k:=⟨bl n - bl d - 1,by omega⟩
      rw[show(max 0 (-((bl n:Int) - bl d - 1))).toNat=0 by omega,show(max 0 ((bl n:Int) - bl d - 1)).toNat=k by omega,Nat.pow_zero,Nat.mul_one]
      rw[show bl n - 1=bl d+k by omega,Nat.pow_add] at n2
      exact Nat.le_trans (Nat.mul_le_mul_right _ (Nat.le_of_lt d2)) n2
    · obtain⟨k,hk⟩:∃k:Nat,bl d=bl n+k:=⟨bl d - bl n,by omega⟩
      rw[show(max 0 (-((bl n:Int) - bl d - 1))).toNat=k+1 by omega,show(max 0 ((bl n:Int) - bl d - 1)).toNat=0 by omega,Nat.pow_zero,Nat.mul_one]
      have e:2^bl d=2^(bl n - 1)*2^(k+1):=by rw[←Nat.pow_add];congr 1;omega
      rw[e] at d2
      exact Nat.le_trans (Nat.le_of_lt d2) (Nat.mul_le_mul_right _ n2)
  · omega
theorem Bj {n d k:Nat} (hn:bl n≤k) (hd:bl d≤k): -((k:Int)+1)≤lge n d∧lge n d≤k∧ -(k:Int)≤lge0 n d∧lge0 n d≤k:=by
  unfold lge lge0
  split<;>omega
def lgT (n d w:Nat):Nat:=(lgn n (lge n d) - lgd d (lge n d))*2^w
def lgB (n d:Nat):Nat:=lgn n (lge n d)+lgd d (lge n d)
theorem lP {n d:Nat} (hn:n≠0):lgB n d≠0:=by
  have:lgn n (lge n d)≠0:=Nat.mul_ne_zero hn (am _)
  unfold lgB
  omega
theorem lgT_le {n d w:Nat}:lgT n d w≤lgB n d*2^w:=Nat.mul_le_mul_right _ (by unfold lgB;omega)
def lgmL (n d w:Nat):Nat:=logL (lgT n d w / lgB n d) (cdiv (lgT n d w) (lgB n d)) w
def lgmH (n d w:Nat):Nat:=logH (lgT n d w / lgB n d) (cdiv (lgT n d w) (lgB n d)) w
def lg2L (w:Nat):Nat:=logL (2^w / 3) (cdiv (2^w) 3) w
def lg2H (w:Nat):Nat:=logH (2^w / 3) (cdiv (2^w) 3) w
theorem Bl {n d w:Nat} (hn:n≠0):lgT n d w / lgB n d≤2^w∧cdiv (lgT n d w) (lgB n d)≤2^w:=
  ⟨Nat.div_le_of_le_mul lgT_le,(az (lP hn)).2 lgT_le⟩
theorem Bi (w:Nat):2^w / 3≤2^w∧cdiv (2^w) 3≤2^w:=pV 3 (by decide)
def lnLo (n d p:Nat):Rat:=
  if 0≤lge n d then sgn false ((lg2L (p+32)*(lge n d).toNat+lgmL n d (p+32)) / 2^32) (2^p)
  else gdown (sgn false (lgmL n d (p+32)) (2^(p+32))+ -sgn false (lg2H (p+32)*(0 - lge n d).toNat) (2^(p+32))) p
def lnHi (n d p:Nat):Rat:=
  if 0≤lge n d then sgn false (cdiv (lg2H (p+32)*(lge n d).toNat+lgmH n d (p+32)) (2^32)) (2^p)
  else gup (sgn false (lgmH n d (p+32)) (2^(p+32))+ -sgn false (lg2L (p+32)*(0 - lge n d).toNat) (2^(p+32))) p
theorem ln_pos {n d p m:Nat} (h:lge n d=(m:Int)):lnLo n d p=sgn false ((lg2L (p+32)*m+lgmL n d (p+32)) / 2^32) (2^p)∧lnHi n d p=sgn false (cdiv (lg2H (p+32)*m+lgmH n d (p+32)) (2^32)) (2^p):=by
  unfold lnLo lnHi
  rw[if_pos (by omega),if_pos (by omega),h]
  exact⟨rfl,rfl⟩
theorem ln_neg {n d p m:Nat} (h:0 - lge n d=(m:Int)) (h':¬0≤lge n d):lnLo n d p=gdown (sgn false (lgmL n d (p+32)) (2^(p+32))+ -sgn false (lg2H (p+32)*m) (2^(p+32))) p∧lnHi n d p=gup (sgn false (lgmH n d (p+32)) (2^(p+32))+ -sgn false (lg2L (p+32)*m) (2^(p+32))) p:=by
  unfold lnLo lnHi
  rw[if_neg h',if_neg h',h]
  exact⟨rfl,rfl⟩
theorem lO {n w:Nat} (h:n≤112*2^w):bl n≤w+8:=pj (k:=w+7) (by rw[Nat.pow_add];omega)
theorem qo {a b w k:Nat} (ha:bl a≤k) (hb:bl b≤k) (hk:w+1≤k):sz (sgn false a (2^w)+ -sgn false b (2^w))≤2*k+1:=by
  have h1:=dg false a (am w)
  have h2:=dg false b (am w)
  have h3:=bC w
  have h4:=dA (sgn false a (2^w)) (-sgn false b (2^w))
  rw[cz] at h4
  omega
theorem W_1 {m:Nat} (h0:m≠0) (h:m < 4294967296):W 4294967296 m=[m]:=by
  rw[W_pos (by decide) h0,Nat.mod_eq_of_lt h,Nat.div_eq_of_lt h,ff]
theorem N32.one {h:PH} {a:Option Addr} {l c m:Nat} (r:N32 h (.slice a l c) m) (h0:m≠0) (hm:m < 4294967296):∃ad,a=some ad∧l=1∧h.at (ad.add 0)=some (.int .u32 m):=by
  obtain⟨a',c',e,r⟩:=r
  cases e
  rw[W_1 h0 hm] at r ⊢
  obtain⟨ad,rfl,e⟩:=r.get (i:=0) (by simp)
  exact⟨ad,rfl,rfl,e⟩
def mt (a b r:Int):Bool:=decide (a+(r - a) % 4≤b)
theorem iP {x:Rat} (h:¬x.den*4294967296 < x.num.natAbs): -4294967296≤x∧x≤4294967296:=by
  have e:x=mkRat x.num x.den:=(Rat.mkRat_self x).symm
  have hd:(0:Rat) < (x.den:Rat):=by exact_mod_cast x.den_pos
  have e2:x*(x.den:Rat)=(x.num:Rat):=by
    have key:∀(d n y:Rat),d≠0→y=n / d→y*d=n:=fun d n y hd hy=>by rw[hy];exact Rat.div_mul_cancel hd
    have:=Rat.mkRat_eq_div x.num x.den
    rw[←e] at this
    exact key _ _ _ (Rat.ne_of_gt hd) this
  have k1:(x.num:Rat)≤4294967296*(x.den:Rat):=by
    have h1:x.num≤4294967296*(x.den:Int):=by omega
    have h2:=Rat.intCast_le_intCast.2 h1
    rw[Rat.intCast_mul] at h2
    exact h2
  have k2: -(4294967296*(x.den:Rat))≤(x.num:Rat):=by
    have h1: -(4294967296*(x.den:Int))≤x.num:=by omega
    have h2:=Rat.intCast_le_intCast.2 h1
    rw[Rat.intCast_neg,Rat.intCast_mul] at h2
    exact h2
  rw[←e2] at k1 k2
  constructor
  · refine Decidable.byContradiction fun hc=>?_
    have:=Rat.mul_lt_mul_of_pos_right (show x < -4294967296 by grind) hd
    grind
  · refine Decidable.byContradiction fun hc=>?_
    have:=Rat.mul_lt_mul_of_pos_right (show 4294967296 < x by grind) hd
    grind
theorem FL {x y:Rat} (hx: -4294967296≤x∧x≤4294967296) (hy:3 / 2≤y): -2863311531≤x*y⁻¹∧x*y⁻¹≤2863311531:=by
  have y0:y≠0:=by grind
  have e:x*y⁻¹*y=x:=by rw[Rat.mul_assoc,Rat.inv_mul_cancel _ y0,Rat.mul_one]
  generalize x*y⁻¹=q at*
  have key:∀p:Rat,2863311531 < p→¬p*y≤4294967296:=by
    intro p hp hc
    have h1:p*(3 / 2)≤p*y:=mll hy (by grind)
    have h2:2863311531*(3 / 2)≤p*(3 / 2):=mlr (by grind) (by decide+kernel)
    grind
  constructor
  · refine Decidable.byContradiction fun hc=>key (-q) (by grind) (by rw[Rat.neg_mul,e];grind)
  · refine Decidable.byContradiction fun hc=>key q (by grind) (by rw[e];exact hx.2)
theorem sZ {q:Rat} {c:Int} (h: -(c:Rat)≤q∧q≤(c:Rat)): -c≤q.floor∧q.floor≤c:=by
  constructor
  · rw[Rat.le_floor_iff]
    exact_mod_cast h.1
  · have:=Rat.le_trans (Rat.floor_le q) h.2
    exact_mod_cast this
set_option maxHeartbeats 16000000
def wideB (x:Rat):Prop:=1024 < sz x∨x.den*4294967296 < x.num.natAbs
instance (x:Rat):Decidable (wideB x):=inferInstanceAs (Decidable (_∨_))

theorem rr {h:PH} {w:Nat} (hw:32≤w) (hw':w≤192):Spec mach 160 #[.int .i64 w] h (fun r h'=>∃b1 a1 m1 c1 a2 m2 c2 b2 a3 m3 c3 a4 m4 c4,r=.tuple #[.agg #[.bool b1,.slice a1 m1 c1,.slice a2 m2 c2],.agg #[.bool b2,.slice a3 m3 c3,.slice a4 m4 c4]]∧Qr h' (.agg #[.bool b1,.slice a1 m1 c1,.slice a2 m2 c2]) (sgn false (piL w) (2^(w+1)))∧Qr h' (.agg #[.bool b2,.slice a3 m3 c3,.slice a4 m4 c4]) (sgn false (piH w) (2^(w+1)))) NP:=by
  obtain⟨b1,b2⟩:=bl_pi (w:=w)
  have F:=Hid.mk (And.intro b1 b2);clear b1 b2
  refine Spec.go [] Tryz.func160 rfl rfl (by kernel_rfl) fun C _=>?_
  try simp(disch:=omega) only[go_sem,Nat.reduceBEq,reduceAdd]
  refine caN (by exact CI (w:=w) hw hw') ?_;rintro v1 h1 s1 ⟨_,_,_,_,_,_,rfl,q1,q2⟩
  try simp(disch:=omega) only[go_sem,Nat.reduceBEq,reduceAdd]
  refine caN (by exact o9 (w:=w+1) q1 (by have:=F.out;omega) (by have:=F.out;omega)) ?_;rintro v2 h2 s2 q3;obtain⟨_,_,_,_,_,_,_,rfl,q3⟩:=q3.sa
  try simp(disch:=omega) only[go_sem,Nat.reduceBEq,reduceAdd]
  refine caN (by exact o9 (w:=w+1) (q2.to (h':=h2)) (by have:=F.out;omega) (by have:=F.out;omega)) ?_;rintro v3 h3 s3 q4;obtain⟨_,_,_,_,_,_,_,rfl,q4⟩:=q4.sa
  try simp(disch:=omega) only[go_sem,Nat.reduceBEq,reduceAdd]
  exact⟨_,_,_,_,_,_,_,_,_,_,_,_,_,_,rfl,q3.to,q4⟩
theorem Ce {h0 h:PH} [Le h0 h] {v:Value} {x:Rat} (hx:Qr h0 v x) (bx:sz x≤2048):Spec mach 152 #[v] h (fun r _=>r=.int .i64 (sz x:Nat)) NP:=by
  have b1:=bG x
  have b2:=bB x
  have kD:=fun {h} [Le h0 h]=>dU (h:=h) hx
  obtain⟨_,_,_,_,_,_,e,rfl,k1,k2,k3⟩:=hx.sl
  have e3:(if (bl x.den:Int) > (bl x.num.natAbs:Int) then (bl x.den:Int) else (bl x.num.natAbs:Int))=((sz x:Nat):Int):=by
    unfold sz
    split<;>omega
  refine Spec.go [(1,.o [0,1,3,2,4,5,6,7])] Tryz.func152 rfl rfl (by kernel_rfl) fun C _=>?_
  try simp(disch:=omega) only[go_sem,Nat.reduceBEq,reduceAdd]
  refine caN (by exact mv k1 (by omega)) ?_;rintro v1 h1 s1 rfl
  try simp(disch:=omega) only[go_sem,Nat.reduceBEq,reduceAdd]
  refine caN (by exact kD) ?_;rintro _ h2 _ q2;obtain⟨v2,_,_,rfl,q2⟩:=q2.sl
  try simp(disch:=omega) only[go_sem,Nat.reduceBEq,reduceAdd]
  refine caN (by exact mv q2 (by omega)) ?_;rintro v3 h3 s3 rfl
  try simp(disch:=omega) only[go_sem,Nat.reduceBEq,reduceAdd,e3]
theorem mag_gt (x:Rat) (n:Nat):decide (cmpQ (sgn false x.num.natAbs x.den) ((n:Int):Rat) > 0)=decide (x.den*n < x.num.natAbs):=by
  have k1:=vK x.num.natAbs x.den_nz
  have k2:(0:Rat) < (x.den:Rat):=by exact_mod_cast x.den_pos
  generalize sgn false x.num.natAbs x.den=t at*
  have k3:((n:Int):Rat) < t↔x.den*n < x.num.natAbs:=by
    constructor
    · intro k
      have:=Rat.mul_lt_mul_of_pos_right k k2
      rw[k1] at this
      have:((n*x.den:Nat):Rat) < ((x.num.natAbs:Nat):Rat):=by rw[Rat.natCast_mul];exact this
      rw[Nat.mul_comm]
      exact_mod_cast this
    · intro k
      have h1:((n*x.den:Nat):Rat) < ((x.num.natAbs:Nat):Rat):=by rw[Nat.mul_comm];exact_mod_cast k
      rw[Rat.natCast_mul,←k1] at h1
      refine Decidable.byContradiction fun hc=>?_
      have h3:t≤((n:Int):Rat):=by grind
      have h4:t*(x.den:Rat)≤((n:Int):Rat)*(x.den:Rat):=mlr h3 (llt k2)
      have h5:((n:Int):Rat)=(n:Rat):=rfl
      rw[h5] at h4
      grind
  have k4:(cmpQ t ((n:Int):Rat) > 0)↔((n:Int):Rat) < t:=by unfold cmpQ;grind
  rw[decide_eq_decide,k4,k3]
theorem aY {h0 h:PH} [Le h0 h] {v w:Value} {x y:Rat} (hx:Qr h0 v x) (hy:Qr h0 w y) (bx:sz x≤2^35) (by_:sz y≤2^35):
    Spec mach 218 #[v,w] h (fun v h'=>Qr h' v (x*y)) NP:=by
  have hx0:=hx
  have hy0:=hy
  obtain⟨na,nl,nc,da,dl,dc,e,rfl,hn,hd,he⟩:=hx.sl
  obtain⟨na',nl',nc',da',dl',dc',e',rfl,hn',hd',he'⟩:=hy.sl
  have b1:=bG x;have b2:=bB x;have b3:=bG y;have b4:=bB y
  have b5:=aG x.num.natAbs y.num.natAbs
  have b6:=aG x.den y.den
  refine Spec.go [(1,.o [0,1,2,3,4,5,6,7,8,10,12,9,11,13,14,15,16])] Tryz.func218 rfl rfl (by kernel_rfl) fun C _=>?_
  try simp(disch:=omega) only[go_sem,Nat.reduceBEq,reduceAdd]
  refine caN (by exact aV hn hn' (by omega) (by omega)) ?_;rintro _ h1 _ hv1;obtain⟨v1,_,_,rfl,hv1⟩:=hv1.sl
  try simp(disch:=omega) only[go_sem,Nat.reduceBEq,reduceAdd]
  refine caN (by exact dU hx0) ?_;rintro _ g1 _ hd1;obtain⟨_,_,_,rfl,hd1⟩:=hd1.sl
  try simp(disch:=omega) only[go_sem,Nat.reduceBEq,reduceAdd]
  refine caN (by exact dU hy0) ?_;rintro _ g2 _ hd2;obtain⟨_,_,_,rfl,hd2⟩:=hd2.sl
  try simp(disch:=omega) only[go_sem,Nat.reduceBEq,reduceAdd]
  refine caN (by exact aV (hd1.to (h':=g2)) hd2 (by omega) (by omega)) ?_;rintro _ h2 _ hv2;obtain⟨v2,_,_,rfl,hv2⟩:=hv2.sl
  try simp(disch:=omega) only[go_sem,Nat.reduceBEq,reduceAdd]
  refine caN (by exact fQ (hv1.to (h':=h2)) hv2 (by omega) (by omega)) ?_;rintro _ h3 _ hv3;obtain⟨_,_,_,_,_,_,_,rfl,hv3⟩:=hv3.sa
  try simp(disch:=omega) only[go_sem,Nat.reduceBEq,reduceAdd]
  rw[qZ] at hv3
  exact hv3
theorem sz_gd (x:Rat) (p:Nat):sz (gdown x p)≤sz x+2*p+2:=by
  have h1:=su ((x*2^p).floor:Rat) p
  have h2:=oz (x*2^p)
  have h3:=yH x p
  unfold gdown
  omega
theorem zI (x:Rat) (p:Nat):gup x p= -gdown (-x) p:=by
  unfold gup gdown
  rw[Rat.ceil_eq_neg_floor_neg,Rat.neg_mul,Rat.intCast_neg,Rat.div_def,Rat.div_def,Rat.neg_mul]
theorem sz_gu (x:Rat) (p:Nat):sz (gup x p)≤sz x+2*p+2:=by
  rw[zI,cz]
  have:=sz_gd (-x) p
  rw[cz] at this
  exact this
theorem Iz {h0 h:PH} [Le h0 h] {v:Value} {x:Rat} {p:Nat} (hx:Cn h0 v x) (bx:sz x≤1024) (hp0:x.num.natAbs≠0) (hp:p≤128):Spec mach 25 #[v,.int .i64 p] h (fun r h'=>Be h' r (lnLo x.num.natAbs x.den p) (lnHi x.num.natAbs x.den p)) NP:=by
  have kW:=fun {h} [Le h0 h]=>jg (h:=h) hx
  have bn:=Nat.le_trans (bG x) bx
  have bd:=Nat.le_trans (bB x) bx
  obtain⟨na,nl,nc,da,dl,dc,rfl,hn,hd,e1,e2⟩:=hx.parts
  have kO:=fun {h} [Le h0 h]=>rH (h:=h) hn
  clear hn hd e1 e2 hx bx
  generalize x.num.natAbs=N at*
  generalize x.den=D at*
  generalize decide (x.num < 0)=b at*
  obtain⟨a1,a2,a3,a4⟩:=Bj bn bd
  have e0:(bl N:Int) - bl D=lge0 N D:=rfl
  obtain⟨c,hc⟩:∃c,decide (lgn N (lge0 N D) < lgd D (lge0 N D))=c:=⟨_,rfl⟩
  obtain⟨k1,hk1,f1⟩:∃k:Nat,(if 0 - lge0 N D > 0 then 0 - lge0 N D else 0)=(k:Int)∧(max 0 (-lge0 N D)).toNat=k:=⟨_,by split<;>omega,rfl⟩
  obtain⟨k2,hk2,f2⟩:∃k:Nat,(if lge0 N D > 0 then lge0 N D else 0)=(k:Int)∧(max 0 (lge0 N D)).toNat=k:=⟨_,by split<;>omega,rfl⟩
  obtain⟨k3,hk3,f3⟩:∃k:Nat,(if 0 - lge N D > 0 then 0 - lge N D else 0)=(k:Int)∧(max 0 (-lge N D)).toNat=k:=⟨_,by split<;>omega,rfl⟩
  obtain⟨k4,hk4,f4⟩:∃k:Nat,(if lge N D > 0 then lge N D else 0)=(k:Int)∧(max 0 (lge N D)).toNat=k:=⟨_,by split<;>omega,rfl⟩
  have bk1:k1≤1024:=by omega
  have bk2:k2≤1024:=by omega
  have bk3:k3≤1025:=by omega
  have bk4:k4≤1024:=by omega
  have g1:Hid (lgn N (lge0 N D)=N*2^k1):=⟨by unfold lgn;rw[f1]⟩
  have g2:Hid (lgd D (lge0 N D)=D*2^k2):=⟨by unfold lgd;rw[f2]⟩
  have g3:Hid (lgn N (lge N D)=N*2^k3):=⟨by unfold lgn;rw[f3]⟩
  have g4:Hid (lgd D (lge N D)=D*2^k4):=⟨by unfold lgd;rw[f4]⟩
  clear f1 f2 f3 f4
  have b1:=cu N k3
  have b2:=cu D k4
  have b3:=cY (N*2^k3) (D*2^k4)
  have b4:bl (N*2^k3 - D*2^k4)≤_:=aR (Nat.sub_le _ _)
  have b5:=cu (N*2^k3 - D*2^k4) (p+32)
  have b6:=cu N k1
  have b7:=cu D k2
  have hs:Hid (D*2^k4≤N*2^k3):=⟨by rw[←g3.out,←g4.out];exact jy hp0⟩
  have hB:Hid (N*2^k3+D*2^k4≠0):=⟨by have:=Nat.mul_ne_zero hp0 (am k3);omega⟩
  have ec:Hid (decide (cmp3 (N*2^k1) (D*2^k2) < 0)=c):=⟨by rw[←hc,g1.out,g2.out];unfold cmp3;grind⟩
  have hc:=Hid.mk hc
  have F:=Hid.mk (And.intro b1 (And.intro b2 (And.intro b3 (And.intro b4 (And.intro b5 (And.intro b6 b7))))));clear b1 b2 b3 b4 b5 b6 b7
  refine Spec.go [(2,.o [0,1,3,2,4,5,6]),(12,.o [0,1,2,4,5,7,8,9,11,12,15,16,3,6,10,13,14,17,18,19]),(14,.o [0,1,2,4,5,6,7,8,10,11,12,13,3,9,14,15,16])] Tryz.func25 rfl rfl (by kernel_rfl) fun C _=>?_
  try simp(disch:=omega) only[go_sem,Nat.reduceBEq,reduceAdd]
  refine caN (by exact kO) ?_;rintro _ h1 _ q1;obtain⟨_,_,_,rfl,q1⟩:=q1.sl
  try simp(disch:=omega) only[go_sem,Nat.reduceBEq,reduceAdd]
  refine caN (by exact kW) ?_;rintro _ h2 _ q2;obtain⟨_,_,_,rfl,q2⟩:=q2.sl
  try simp(disch:=omega) only[go_sem,Nat.reduceBEq,reduceAdd]
  refine caN (by exact mG (q1.to (h':=h2))) ?_;rintro v3 h3 s3 rfl
  try simp(disch:=omega) only[go_sem,Nat.reduceBEq,reduceAdd]
  refine caN (by exact mG (q2.to (h':=h3))) ?_;rintro v4 h4 s4 rfl
  try simp(disch:=omega) only[go_sem,Nat.reduceBEq,reduceAdd,e0,hk1,hk2]
  refine caN (by exact aL (n:=k1) (q1.to (h':=h4)) (by have:=F.out;omega)) ?_;rintro _ h5 _ q5;obtain⟨v5,_,_,rfl,q5⟩:=q5.sl
  try simp(disch:=omega) only[go_sem,Nat.reduceBEq,reduceAdd,hk2]
  refine caN (by exact aL (n:=k2) (q2.to (h':=h5)) (by have:=F.out;omega)) ?_;rintro _ h6 _ q6;obtain⟨v6,_,_,rfl,q6⟩:=q6.sl
  try simp(disch:=omega) only[go_sem,Nat.reduceBEq,reduceAdd]
  refine caN (by exact fO (q5.to (h':=h6)) q6) ?_;rintro v7 h7 s7 rfl
  try simp(disch:=omega) only[go_sem,Nat.reduceBEq,reduceAdd,ec.out]
  have et:Hid (if c then lge0 N D - 1=lge N D else lge0 N D=lge N D):=⟨by
    have hc:=hc.out
    subst hc
    unfold lge
    by_cases hl:lgn N (lge0 N D) < lgd D (lge0 N D)
    · simp[hl]
    · simp[hl]⟩
  obtain⟨l1,l2⟩:=Bl (n:=N) (d:=D) (w:=p+32) hp0
  obtain⟨l3,l4⟩:=Bi (p+32)
  have l5:=Hid.mk (wh l1 l2)
  have l6:=Hid.mk (wh l3 l4)
  have l1:=Hid.mk l1
  have l2:=Hid.mk l2
  have l3:=Hid.mk l3
  have l4:=Hid.mk l4
  have gT:Hid (lgT N D (p+32)=(N*2^k3 - D*2^k4)*2^(p+32)):=⟨by unfold lgT;rw[g3.out,g4.out]⟩
  have gB:Hid (lgB N D=N*2^k3+D*2^k4):=⟨by unfold lgB;rw[g3.out,g4.out]⟩
  have u1:=bC (p+32)
  have u2:bl 3=2:=by decide
  have F:=Hid.mk (And.intro F.out (And.intro u1 u2));clear u1 u2
  have et:=et.out
  cases c
  all_goals
    simp only[Bool.false_eq_true,if_false,if_true] at et
    try simp(disch:=omega) only[go_sem,Nat.reduceBEq,reduceAdd,et,hk3]
    refine caN (by exact aL (n:=k3) (q1.to (h':=h7)) (by have:=F.out;omega)) ?_;rintro _ h8 _ q8;obtain⟨v8,_,_,rfl,q8⟩:=q8.sl
    try simp(disch:=omega) only[go_sem,Nat.reduceBEq,reduceAdd,et,hk4]
    refine caN (by exact aL (n:=k4) (q2.to (h':=h8)) (by have:=F.out;omega)) ?_;rintro _ h9 _ q9;obtain⟨v9,_,_,rfl,q9⟩:=q9.sl
    try simp(disch:=omega) only[go_sem,Nat.reduceBEq,reduceAdd]
    refine caN (by exact gE (q8.to (h':=h9)) q9 hs.out (by have:=F.out;omega)) ?_;rintro _ h10 _ q10;obtain⟨v10,_,_,rfl,q10⟩:=q10.sl
    try simp(disch:=omega) only[go_sem,Nat.reduceBEq,reduceAdd]
    refine caN (by exact aL (n:=p+32) q10 (show bl (N*2^k3 - D*2^k4)+(p+32)≤2^40 by have:=F.out;omega)) ?_;rintro _ h11 _ q11;obtain⟨v11,_,_,rfl,q11⟩:=q11.sl
    try simp(disch:=omega) only[go_sem,Nat.reduceBEq,reduceAdd]
    refine caN (by exact bR (q8.to (h':=h11)) (q9.to (h':=h11)) (by have:=F.out;omega) (by have:=F.out;omega)) ?_;rintro _ h12 _ q12;obtain⟨v12,_,_,rfl,q12⟩:=q12.sl
    try simp(disch:=omega) only[go_sem,Nat.reduceBEq,reduceAdd]
    refine caN (by exact bD (c:=false) (q11.to (h':=h12)) q12 hB.out (show bl ((N*2^k3 - D*2^k4)*2^(p+32))≤2^36 by have:=F.out;omega) (show bl (N*2^k3+D*2^k4)≤2^36 by have:=F.out;omega)) ?_;rintro _ h13 _ q13;obtain⟨v13,v13_l,v13_c,rfl,q13⟩:=q13.sl
    try simp(disch:=omega) only[go_sem,Nat.reduceBEq,reduceAdd]
    refine caN (by exact bD (c:=true) (q11.to (h':=h13)) (q12.to (h':=h13)) hB.out (show bl ((N*2^k3 - D*2^k4)*2^(p+32))≤2^36 by have:=F.out;omega) (show bl (N*2^k3+D*2^k4)≤2^36 by have:=F.out;omega)) ?_;rintro _ h14 _ q14;obtain⟨v14,v14_l,v14_c,rfl,q14⟩:=q14.sl
    try simp(disch:=omega) only[go_sem,Nat.reduceBEq,reduceAdd]
    have q13:N32 h13 (.slice v13 v13_l v13_c) (lgT N D (p+32) / lgB N D):=by rw[gT.out,gB.out];exact q13
    have q14:N32 h14 (.slice v14 v14_l v14_c) (cdiv (lgT N D (p+32)) (lgB N D)):=by rw[gT.out,gB.out];exact q14
    refine caN (by exact wO ⟨_,_,_,_,_,_,rfl,q13.to,q14⟩ l1.out l2.out (by have:=F.out;omega) (by have:=F.out;omega)) ?_;rintro v15 h15 s15 ⟨x1,m1,c1,y1,n1,d1,rfl,r1,r2⟩
    try simp(disch:=omega) only[go_sem,Nat.reduceBEq,reduceAdd]
    refine caN (by exact bu (w:=p+32) (by have:=F.out;omega)) ?_;rintro _ h16 _ q16;obtain⟨v16,_,_,rfl,q16⟩:=q16.sl
    try simp(disch:=omega) only[go_sem,Nat.reduceBEq,reduceAdd]
    refine caN (by exact aw (n:=3) (by decide)) ?_;rintro _ h17 _ q17;obtain⟨_,_,_,rfl,q17⟩:=q17.sl
    try simp(disch:=omega) only[go_sem,Nat.reduceBEq,reduceAdd]
    refine caN (by exact bD (c:=false) (q16.to (h':=h17)) q17 (by decide) (by have:=F.out;omega) (by have:=F.out;omega)) ?_;rintro _ h18 _ q18;obtain⟨v18,v18_l,v18_c,rfl,q18⟩:=q18.sl
    try simp(disch:=omega) only[go_sem,Nat.reduceBEq,reduceAdd]
    refine caN (by exact bu (w:=p+32) (by have:=F.out;omega)) ?_;rintro _ h19 _ q19;obtain⟨v19,_,_,rfl,q19⟩:=q19.sl
    try simp(disch:=omega) only[go_sem,Nat.reduceBEq,reduceAdd]
    refine caN (by exact aw (n:=3) (by decide)) ?_;rintro _ h20 _ q20;obtain⟨_,_,_,rfl,q20⟩:=q20.sl
    try simp(disch:=omega) only[go_sem,Nat.reduceBEq,reduceAdd]
    refine caN (by exact bD (c:=true) (q19.to (h':=h20)) q20 (by decide) (by have:=F.out;omega) (by have:=F.out;omega)) ?_;rintro _ h21 _ q21;obtain⟨v21,v21_l,v21_c,rfl,q21⟩:=q21.sl
    try simp(disch:=omega) only[go_sem,Nat.reduceBEq,reduceAdd]
    have q18:N32 h18 (.slice v18 v18_l v18_c) (2^(p+32) / 3):=q18
    have q21:N32 h21 (.slice v21 v21_l v21_c) (cdiv (2^(p+32)) 3):=q21
    refine caN (by exact wO ⟨_,_,_,_,_,_,rfl,q18.to,q21⟩ l3.out l4.out (by have:=F.out;omega) (by have:=F.out;omega)) ?_;rintro v22 h22 s22 ⟨x2,m2,c2,y2,n2,d2,rfl,r3,r4⟩
    try simp(disch:=omega) only[go_sem,Nat.reduceBEq,reduceAdd]
    have r1:N32 h15 (.slice x1 m1 c1) (lgmL N D (p+32)):=r1
    have r2:N32 h15 (.slice y1 n1 d1) (lgmH N D (p+32)):=r2
    have r3:N32 h22 (.slice x2 m2 c2) (lg2L (p+32)):=r3
    have r4:N32 h22 (.slice y2 n2 d2) (lg2H (p+32)):=r4
    by_cases he:0≤lge N D
    · obtain⟨m,hm⟩:∃m:Nat,lge N D=(m:Int):=⟨_,(Int.toNat_of_nonneg he).symm⟩
      have bm:bl m≤11:=bl_le.2 (by have:=F.out;omega)
      have b10:=lO l5.out.1
      have b11:=lO l5.out.2
      have b12:=lO l6.out.1
      have b13:=lO l6.out.2
      have b14:=aG (lg2L (p+32)) m
      have b15:=aG (lg2H (p+32)) m
      have b16:=cY (lg2L (p+32)*m) (lgmL N D (p+32))
      have b17:=cY (lg2H (p+32)*m) (lgmH N D (p+32))
      have b18:=aZ (lg2L (p+32)*m+lgmL N D (p+32)) (2^32)
      have b19:=fy (lg2H (p+32)*m+lgmH N D (p+32)) (am 32)
      have b10:bl (lgmL N D (p+32))≤p+32+8:=b10
      have b11:bl (lgmH N D (p+32))≤p+32+8:=b11
      have b12:bl (lg2L (p+32))≤p+32+8:=b12
      have b13:bl (lg2H (p+32))≤p+32+8:=b13
      have b20:bl (lg2L (p+32)*m+lgmL N D (p+32))≤2048:=by have:=F.out;omega
      have b21:bl (lg2H (p+32)*m+lgmH N D (p+32))≤2047:=by have:=F.out;omega
      have ep:p+32 - p=32:=by have:=F.out;omega
      have b22:Hid (bl ((lg2L (p+32)*m+lgmL N D (p+32)) / 2^(p+32 - p))≤2048):=⟨by rw[ep];exact Nat.le_trans b18 b20⟩
      have b23:Hid (bl (cdiv (lg2H (p+32)*m+lgmH N D (p+32)) (2^(p+32 - p)))≤2048):=⟨by rw[ep];omega⟩
      have eL:=Hid.mk (ln_pos (p:=p) hm)
      have ep:=Hid.mk ep
      clear b18 b19
      have hm2:m < 2^32:=by have:=F.out;omega
      have F:=Hid.mk (And.intro F.out (And.intro bm (And.intro b10 (And.intro b11 (And.intro b12 (And.intro b13 (And.intro b14 (And.intro b15 (And.intro b16 (And.intro b17 (And.intro b20 b21)))))))))));clear bm b10 b11 b12 b13 b14 b15 b16 b17 b20 b21
      try simp(disch:=omega) only[go_sem,Nat.reduceBEq,reduceAdd,et,hm]
      refine caN (by exact aw (n:=m) (by have:=F.out;omega)) ?_;rintro _ g1 _ t1;obtain⟨w1,_,_,rfl,t1⟩:=t1.sl
      try simp(disch:=omega) only[go_sem,Nat.reduceBEq,reduceAdd]
      refine caN (by exact aI (r3.to (h':=g1)) t1 (show bl (lg2L (p+32))≤2^40 by have:=F.out;omega) (by have:=F.out;omega)) ?_;rintro _ g2 _ t2;obtain⟨w2,_,_,rfl,t2⟩:=t2.sl
      try simp(disch:=omega) only[go_sem,Nat.reduceBEq,reduceAdd]
      refine caN (by exact bR t2 (r1.to (h':=g2)) (show bl (lg2L (p+32)*m)≤2^40 by have:=F.out;omega) (show bl (lgmL N D (p+32))≤2^40 by have:=F.out;omega)) ?_;rintro _ g3 _ t3;obtain⟨w3,_,_,rfl,t3⟩:=t3.sl
      try simp(disch:=omega) only[go_sem,Nat.reduceBEq,reduceAdd]
      refine caN (by exact aI (r4.to (h':=g3)) (t1.to (h':=g3)) (show bl (lg2H (p+32))≤2^40 by have:=F.out;omega) (by have:=F.out;omega)) ?_;rintro _ g4 _ t4;obtain⟨w4,_,_,rfl,t4⟩:=t4.sl
      try simp(disch:=omega) only[go_sem,Nat.reduceBEq,reduceAdd]
      refine caN (by exact bR t4 (r2.to (h':=g4)) (show bl (lg2H (p+32)*m)≤2^40 by have:=F.out;omega) (show bl (lgmH N D (p+32))≤2^40 by have:=F.out;omega)) ?_;rintro _ g5 _ t5;obtain⟨w5,_,_,rfl,t5⟩:=t5.sl
      try simp(disch:=omega) only[go_sem,Nat.reduceBEq,reduceAdd]
      refine caN (by exact fw (w:=p+32) (p:=p) (neg:=false) ⟨_,_,_,_,_,_,rfl,t3.to (h':=g5),t5⟩ (show bl (lg2L (p+32)*m+lgmL N D (p+32))≤2^30 by have:=F.out;omega) (show bl (lg2H (p+32)*m+lgmH N D (p+32))≤2^30 by have:=F.out;omega) (by have:=F.out;omega) (by have:=F.out;omega) (by have:=F.out;omega) b22.out b23.out) ?_;rintro w6 g6 z6 t6;obtain⟨_,_,_,_,_,_,_,_,_,_,_,_,_,_,rfl,t6,t7⟩:=t6
      try simp(disch:=omega) only[go_sem,Nat.reduceBEq,reduceAdd]
      rw[eL.out.1,eL.out.2]
      simp only[Bool.false_eq_true,if_false,ep.out] at t6 t7
      exact⟨_,_,_,_,_,_,_,_,_,_,_,_,_,_,rfl,t6,t7⟩
    · obtain⟨m,hm,hm'⟩:∃m:Nat,0 - lge N D=(m:Int)∧decide (0≤lge N D)=false:=⟨(0 - lge N D).toNat,by have:=F.out;omega,by simpa using he⟩
      have bm:bl m≤11:=bl_le.2 (by have:=F.out;omega)
      have b10:bl (lgmL N D (p+32))≤p+32+8:=lO l5.out.1
      have b11:bl (lgmH N D (p+32))≤p+32+8:=lO l5.out.2
      have b12:bl (lg2L (p+32))≤p+32+8:=lO l6.out.1
      have b13:bl (lg2H (p+32))≤p+32+8:=lO l6.out.2
      have b14:=aG (lg2L (p+32)) m
      have b15:=aG (lg2H (p+32)) m
      have y1':=qo (a:=lgmL N D (p+32)) (b:=lg2H (p+32)*m) (w:=p+32) (k:=p+52) (by have:=F.out;omega) (by have:=F.out;omega) (by have:=F.out;omega)
      have y2':=qo (a:=lgmH N D (p+32)) (b:=lg2L (p+32)*m) (w:=p+32) (k:=p+52) (by have:=F.out;omega) (by have:=F.out;omega) (by have:=F.out;omega)
      have y3':=sz_gd (sgn false (lgmL N D (p+32)) (2^(p+32))+ -sgn false (lg2H (p+32)*m) (2^(p+32))) p
      have y4':=sz_gu (sgn false (lgmH N D (p+32)) (2^(p+32))+ -sgn false (lg2L (p+32)*m) (2^(p+32))) p
      have y1:=Hid.mk (Nat.le_trans y1' (show 2*(p+52)+1≤2048 by have:=F.out;omega))
      have y2:=Hid.mk (Nat.le_trans y2' (show 2*(p+52)+1≤2048 by have:=F.out;omega))
      have y3:=Hid.mk (Nat.le_trans y3' (show _≤2048 by have:=F.out;omega))
      have y4:=Hid.mk (Nat.le_trans y4' (show _≤2048 by have:=F.out;omega))
      clear y1' y2' y3' y4'
      have eL:=Hid.mk (ln_neg (p:=p) hm he)
      have hm2:m < 2^32:=by have:=F.out;omega
      have F:=Hid.mk (And.intro F.out (And.intro bm (And.intro b10 (And.intro b11 (And.intro b12 (And.intro b13 (And.intro b14 b15)))))));clear bm b10 b11 b12 b13 b14 b15
      try simp(disch:=omega) only[go_sem,Nat.reduceBEq,reduceAdd,et,hm',hm]
      refine caN (by exact aw (n:=m) (by have:=F.out;omega)) ?_;rintro _ g1 _ t1;obtain⟨w1,_,_,rfl,t1⟩:=t1.sl
      try simp(disch:=omega) only[go_sem,Nat.reduceBEq,reduceAdd]
      refine caN (by exact aI (r4.to (h':=g1)) t1 (show bl (lg2H (p+32))≤2^40 by have:=F.out;omega) (by have:=F.out;omega)) ?_;rintro _ g2 _ t2;obtain⟨w2,_,_,rfl,t2⟩:=t2.sl
      try simp(disch:=omega) only[go_sem,Nat.reduceBEq,reduceAdd]
      refine caN (by exact aI (r3.to (h':=g2)) (t1.to (h':=g2)) (show bl (lg2L (p+32))≤2^40 by have:=F.out;omega) (by have:=F.out;omega)) ?_;rintro _ g3 _ t3;obtain⟨w3,_,_,rfl,t3⟩:=t3.sl
      try simp(disch:=omega) only[go_sem,Nat.reduceBEq,reduceAdd]
      refine caN (by exact uZ (w:=p+32) (p:=p) (t2.to (h':=g3)) (r1.to (h':=g3)) t3 (r2.to (h':=g3)) (show bl (lg2H (p+32)*m)≤2048 by have:=F.out;omega) (show bl (lgmL N D (p+32))≤2048 by have:=F.out;omega) (show bl (lg2L (p+32)*m)≤2048 by have:=F.out;omega) (show bl (lgmH N D (p+32))≤2048 by have:=F.out;omega) (by have:=F.out;omega) (by have:=F.out;omega) y1.out y2.out y3.out y4.out) ?_;rintro w6 g6 z6 t6;obtain⟨_,_,_,_,_,_,_,_,_,_,_,_,_,_,rfl,t6,t7⟩:=t6
      try simp(disch:=omega) only[go_sem,Nat.reduceBEq,reduceAdd]
      rw[eL.out.1,eL.out.2]
      exact⟨_,_,_,_,_,_,_,_,_,_,_,_,_,_,rfl,t6,t7⟩
inductive NS where
  |e
  |i (lo hi:Option Rat)
def ordO:Option Rat→Option Rat→Bool
  |some x,some y=>!decide (y < x)
  |_,_=>true
namespace NS
def void:NS→Bool
  |.e=>true
  |_=>false
def ok:NS→Prop
  |.e=>True
  |.i a b=>ordO a b=true
def all (f:Rat→Bool):NS→Bool
  |.e=>true
  |.i a b=>a.all f && b.all f
def le (k:Nat) (x:NS):Prop:=x.all (fun q=>decide (sz q≤k))=true
instance (k:Nat) (x:NS):Decidable (x.le k):=by unfold le;infer_instance
def slo:NS→Int
  |.e=>0
  | .i a _=>match a with
    |none=>-1
    |some q=>sgn3 q
def shi:NS→Int
  |.e=>0
  | .i _ b=>match b with
    |none=>1
    |some q=>sgn3 q
def zero (x:NS):Bool:=!x.void && decide (x.slo≤0) && decide (0≤x.shi)
def lowIn:Option Rat→Option Rat→Bool
  |none,_=>true
  |some _,none=>false
  |some c,some a=>!decide (a < c)
def highIn:Option Rat→Option Rat→Bool
  |none,_=>true
  |some _,none=>false
  |some d,some b=>!decide (d < b)
def within:NS→NS→Bool
  |.e,_=>true
  |_,.e=>false
  |.i a b,.i c d=>lowIn c a && highIn d b
def has:NS→Rat→Bool
  |.e,_=>false
  |.i a b,q=>a.all (fun x=>!decide (q < x)) && b.all (fun x=>!decide (x < q))
end NS
namespace NS
theorem has_i {a b:Option Rat} {q:Rat}:(NS.i a b).has q=true↔(∀x,a=some x→x≤q)∧(∀x,b=some x→q≤x):=by
  cases a<;>cases b<;>simp[has]<;>grind
theorem ne_has {a b:Option Rat} (h:ordO a b=true):∃q,(NS.i a b).has q=true:=by
  cases a with
  | none=>cases b with
    |none=>exact⟨0,by simp[has]⟩
    |some b=>exact⟨b,by simp[has]<;>grind⟩
  | some a=>cases b with
    |none=>exact⟨a,by simp[has]<;>grind⟩
    |some b=>exact⟨a,by simp[ordO] at h;simp[has];grind⟩
theorem low_has {b:Option Rat} (c:Rat):∃q,q < c∧(NS.i none b).has q=true:=by
  cases b with
  |none=>exact⟨c - 1,by grind,by simp[has]⟩
  |some b=>exact⟨min (c - 1) b,by grind,by simp[has]<;>grind⟩
theorem high_has {a:Option Rat} (c:Rat):∃q,c < q∧(NS.i a none).has q=true:=by
  cases a with
  |none=>exact⟨c+1,by grind,by simp[has]⟩
  |some a=>exact⟨max (c+1) a,by grind,by simp[has]<;>grind⟩
theorem lo_has {a:Rat} {b:Option Rat} (h:ordO (some a) b=true):(NS.i (some a) b).has a=true:=by
  cases b with
  |none=>simp[has]<;>grind
  |some b=>simp[ordO] at h;simp[has];grind
theorem hi_has {a:Option Rat} {b:Rat} (h:ordO a (some b)=true):(NS.i a (some b)).has b=true:=by
  cases a with
  |none=>simp[has]<;>grind
  |some a=>simp[ordO] at h;simp[has];grind
theorem within_iff {x y:NS} (hx:x.ok):x.within y=true↔∀q,x.has q=true→y.has q=true:=by
  cases x with
  |e=>simp[within,has]
  | i a b =>
    cases y with
    | e=>
      obtain⟨q,hq⟩:=ne_has hx
      simp only[within,has,Bool.false_eq_true,false_iff]
      exact fun h=>h q hq
    | i c d =>
      constructor
      · intro h q hq
        rw[has_i] at hq ⊢
        cases a<;>cases b<;>cases c<;>cases d<;>simp[within,lowIn,highIn] at h hq ⊢<;>grind
      · intro h
        have h1:lowIn c a=true:=by
          cases c with
          |none=>rfl
          | some c=>cases a with
            | none=>
              obtain⟨q,hc,hq⟩:=low_has (b:=b) c
              have:=has_i.1 (h q hq)
              have:=this.1 c rfl
              grind
            | some a=>
              have:=has_i.1 (h a (lo_has hx))
              have:=this.1 c rfl
              simp[lowIn,highIn];grind
        have h2:highIn d b=true:=by
          cases d with
          |none=>rfl
          | some d=>cases b with
            | none=>
              obtain⟨q,hc,hq⟩:=high_has (a:=a) d
              have:=has_i.1 (h q hq)
              have:=this.2 d rfl
              grind
            | some b=>
              have:=has_i.1 (h b (hi_has hx))
              have:=this.2 d rfl
              simp[lowIn,highIn];grind
        simp only[within,h1,h2,Bool.and_self]
theorem anti {x y:NS} (hx:x.ok) (hy:y.ok) (h1:x.within y=true) (h2:y.within x=true):x=y:=by
  cases x with
  | e=>cases y with
    |e=>rfl
    |i c d=>cases h2
  | i a b=>cases y with
    |e=>cases h1
    | i c d=>
      cases a<;>cases b<;>cases c<;>cases d<;>simp[within,lowIn,highIn] at h1 h2 ⊢<;>grind
theorem ext {x y:NS} (hx:x.ok) (hy:y.ok) (h:∀q,x.has q=y.has q):x=y:=
  anti hx hy ((within_iff hx).2 fun q k=>by rw[←h];exact k) ((within_iff hy).2 fun q k=>by rw[h];exact k)
end NS
theorem co (p:Nat):(0:Rat) < 2^p:=Rat.pow_pos (by decide)
theorem GK {a b c:Rat} (hb:0 < b):a / b≤c↔a≤c*b:=by
  have:=Rat.lt_div_iff (a:=c) (b:=a) hb
  grind
theorem dV (x:Rat) (p:Nat):gdown x p≤x:=by
  unfold gdown
  have h:=Rat.floor_le (x*2^p)
  rw[GK (co p)]
  exact h
theorem mW {x y:Rat} (p:Nat) (h:x≤y):gdown x p≤gdown y p:=by
  unfold gdown
  have h1:x*2^p≤y*2^p:=mlr h (llt (co p))
  have h2:(x*2^p).floor≤(y*2^p).floor:=Rat.le_floor_iff.2 (Rat.le_trans (Rat.floor_le _) h1)
  rw[GK (co p),Rat.div_mul_cancel (by have:=co p;grind)]
  exact_mod_cast h2
theorem GY (x:Rat) (p:Nat):gup (-x) p= -gdown x p:=by
  unfold gup gdown
  rw[Rat.neg_mul,Rat.ceil_eq_neg_floor_neg,Rat.neg_neg,Rat.intCast_neg,Rat.div_def,Rat.neg_mul,←Rat.div_def]
theorem zG (x:Rat) (p:Nat):gdown (-x) p= -gup x p:=by
  have:=GY (-x) p
  rw[Rat.neg_neg] at this
  rw[this,Rat.neg_neg]
theorem uG (x:Rat) (p:Nat):gup x p= -gdown (-x) p:=by rw[zG,Rat.neg_neg]
theorem jc (x:Rat) (p:Nat):x≤gup x p:=by
  have:=dV (-x) p
  rw[uG];grind
namespace NS
end NS
def piFine (w:Nat):Bool:=Nat.ble (piH w*5) (16*2^w) && Nat.ble (piH w) (piL w+1024)
theorem FE:((List.range 129).all fun i=>piFine (i+64))=true:=by decide+kernel
theorem HF {w:Nat} (h1:64≤w) (h2:w≤192):piH w*5≤16*2^w∧piH w≤piL w+1024:=by
  have h:=List.all_eq_true.1 FE (w - 64) (List.mem_range.2 (by omega))
  rw[show w - 64+64=w by omega] at h
  simpa[piFine] using h
def fW (w:Nat):Rat:=sgn false (piL w) (2^(w+1))
def gW (w:Nat):Rat:=sgn false (piH w) (2^(w+1))
theorem sgn_u (n w:Nat):sgn false n (2^w)*((2^w:Nat):Rat)=(n:Rat):=by
  have hd:((2^w:Nat):Rat)≠0:=by exact_mod_cast am w
  unfold sgn
  rw[Rat.mkRat_eq_div]
  show((n:Int):Rat) / ((2^w:Nat):Rat)*((2^w:Nat):Rat)=_
  rw[Rat.div_mul_cancel hd]
  rfl
theorem u_pos (w:Nat):(0:Rat) < ((2^w:Nat):Rat):=by exact_mod_cast Nat.pow_pos (by decide)
theorem fW_bd {w:Nat} (h1:64≤w) (h2:w≤192):3 / 2≤fW w∧fW w≤gW w∧gW w≤8 / 5∧(gW w - fW w)*18014398509481984≤1:=by
  obtain⟨a1,a2,a3⟩:=pn (w:=w) (by omega) h2
  obtain⟨a4,a5⟩:=HF h1 h2
  have e1:=sgn_u (piL w) (w+1)
  have e2:=sgn_u (piH w) (w+1)
  have hp:=u_pos (w+1)
  have eu:((2^(w+1):Nat):Rat)=((2^w:Nat):Rat)*2:=by rw[Nat.pow_succ];push_cast;rfl
  have b1:(3:Rat)*((2^w:Nat):Rat)≤(piL w:Rat):=by exact_mod_cast a1
  have b2:(piL w:Rat)≤(piH w:Rat):=by exact_mod_cast Nat.le_of_lt a2
  have b3:(piH w:Rat)*5≤16*((2^w:Nat):Rat):=by exact_mod_cast a4
  have b4:(piH w:Rat)≤(piL w:Rat)+1024:=by exact_mod_cast a5
  have b5:(18446744073709551616:Rat)≤((2^w:Nat):Rat):=by
    have:2^64≤2^w:=Nat.pow_le_pow_right (by decide) h1
    exact_mod_cast this
  unfold fW gW
  generalize sgn false (piL w) (2^(w+1))=f at*
  generalize sgn false (piH w) (2^(w+1))=g at*
  rw[←e1] at b1 b2 b4
  rw[←e2] at b2 b3 b4
  rw[eu] at e1 e2 b1 b2 b3 b4 hp
  generalize((2^w:Nat):Rat)=u at*
  clear e1 e2 eu a1 a2 a3 a4 a5
  have hu:(0:Rat) < u:=by grind
  refine⟨?_,?_,?_,?_⟩
  · exact lmm (by grind) hu
  · exact lmm (by grind) hp
  · exact lmm (by grind) hp
  · have:(g - f)*(u*2)≤1024:=by grind
    have h0:0≤g - f:=by
      have:f≤g:=lmm (by grind) hp
      grind
    have:=mll b5 h0
    grind
def rsK (x:Rat) (w:Nat):Int:=(x*(fW w)⁻¹+1 / 2).floor
def rsA (x:Rat) (w:Nat):Rat:=gdown (x+ -((rsK x w:Rat)*(if rsK x w < 0 then fW w else gW w))) w
def rsB (x:Rat) (w:Nat):Rat:=gup (x+ -((rsK x w:Rat)*(if rsK x w < 0 then gW w else fW w))) w
theorem BE {x:Rat} {w:Nat} (h1:64≤w) (h2:w≤192) (hx: -4294967296≤x∧x≤4294967296): -2863311532≤rsK x w∧rsK x w≤2863311532:=by
  obtain⟨a1,_,_,_⟩:=fW_bd h1 h2
  obtain⟨b1,b2⟩:=FL hx a1
  have e:((2863311532:Int):Rat)=2863311532:=rfl
  exact sZ (c:=2863311532) (by rw[e];constructor<;>grind)
theorem zF {x:Rat} {z:Int} {w:Nat} (h:(z:Rat)≤x):(z:Rat)≤gdown x w:=by
  have e:gdown (z:Rat) w=(z:Rat):=by
    unfold gdown
    have hp:=co w
    rw[show(z:Rat)*2^w=((z*2^w:Int):Rat) by push_cast;rfl,Rat.floor_intCast]
    push_cast
    rw[Rat.div_def,Rat.mul_assoc,Rat.mul_inv_cancel _ (by grind),Rat.mul_one]
  rw[←e]
  exact mW w h
theorem Jn {x:Rat} {z:Int} {w:Nat} (h:x≤(z:Rat)):gup x w≤(z:Rat):=by
  rw[uG]
  have:=zF (x:=-x) (z:=-z) (w:=w) (by push_cast;grind)
  push_cast at this
  grind
theorem rs_mid {x:Rat} {w:Nat} (h1:64≤w) (h2:w≤192) (hx: -4294967296≤x∧x≤4294967296):
    -1≤x+ -((rsK x w:Rat)*(if rsK x w < 0 then fW w else gW w))∧x+ -((rsK x w:Rat)*(if rsK x w < 0 then fW w else gW w))≤x+ -((rsK x w:Rat)*(if rsK x w < 0 then gW w else fW w))∧x+ -((rsK x w:Rat)*(if rsK x w < 0 then gW w else fW w))≤1:=by
  obtain⟨a1,a2,a3,a4⟩:=fW_bd h1 h2
  obtain⟨k1,k2⟩:=BE h1 h2 hx
  have l1:=Rat.floor_le (x*(fW w)⁻¹+1 / 2)
  have l2:=Rat.lt_floor_add_one (x*(fW w)⁻¹+1 / 2)
  have e:x*(fW w)⁻¹*fW w=x:=by rw[Rat.mul_assoc,Rat.inv_mul_cancel _ (by grind),Rat.mul_one]
  have k1':(-2863311532:Rat)≤(rsK x w:Rat):=Rat.intCast_le_intCast.2 k1
  have k2':(rsK x w:Rat)≤(2863311532:Rat):=Rat.intCast_le_intCast.2 k2
  have ks:rsK x w < 0↔(rsK x w:Rat) < 0:=by
    have:=@Rat.intCast_lt_intCast (rsK x w) 0
    simpa using this.symm
  unfold rsK at*
  generalize hk:(x*(fW w)⁻¹+1 / 2).floor=k at*
  clear hk
  generalize(fW w)⁻¹=i at*
  generalize fW w=f at*
  generalize gW w=g at*
  have m1:x≤((k:Rat)+1 / 2)*f:=by
    have:x*i≤(k:Rat)+1 / 2:=by grind
    have:=mlr this (show 0≤f by grind)
    grind
  have m2:((k:Rat) - 1 / 2)*f≤x:=by
    have:(k:Rat) - 1 / 2≤x*i:=by grind
    have:=mlr this (show 0≤f by grind)
    grind
  have d0:0≤g - f:=by grind
  clear e l1 l2
  by_cases hk:k < 0
  · have hk':=ks.1 hk
    simp only[if_pos hk]
    have n1:=mlr k1' d0
    have n2:=mlr (llt hk') d0
    clear ks k1 k2
    refine⟨?_,?_,?_⟩<;>grind
  · have hk':(0:Rat)≤(k:Rat):=Rat.not_lt.1 fun c=>hk (ks.2 c)
    simp only[if_neg hk]
    have n1:=mlr k2' d0
    have n2:=mlr hk' d0
    clear ks k1 k2
    refine⟨?_,?_,?_⟩<;>grind
theorem rs_bd {x:Rat} {w:Nat} (h1:64≤w) (h2:w≤192) (hx: -4294967296≤x∧x≤4294967296): -1≤rsA x w∧rsA x w≤rsB x w∧rsB x w≤1:=by
  obtain⟨a1,a2,a3⟩:=rs_mid h1 h2 hx
  unfold rsA rsB
  refine⟨?_,Rat.le_trans (dV _ _) (Rat.le_trans a2 (jc _ _)),?_⟩
  · exact_mod_cast zF (z:=-1) (w:=w) (by exact_mod_cast a1)
  · exact_mod_cast Jn (z:=1) (w:=w) (by exact_mod_cast a3)
theorem q_den (q:Rat):q*(q.den:Rat)=(q.num:Rat):=by
  have hd:(q.den:Rat)≠0:=by exact_mod_cast q.den_nz
  have e:=Rat.mkRat_self q
  rw[Rat.mkRat_eq_div] at e
  generalize(q.den:Rat)=d at*
  generalize(q.num:Rat)=n at*
  rw[←e,Rat.div_mul_cancel hd]
theorem sP {q:Rat} (h1: -1≤q) (h2:q≤1):¬q.den < q.num.natAbs:=by
  have hd:(0:Rat) < (q.den:Rat):=by exact_mod_cast q.den_pos
  have e:=q_den q
  have m1:=mlr h1 (llt hd)
  have m2:=mlr h2 (llt hd)
  rw[e] at m1 m2
  have n1: -(q.den:Int)≤q.num:=by
    have:((-(q.den:Int):Int):Rat)≤(q.num:Rat):=by push_cast;grind
    exact_mod_cast this
  have n2:q.num≤(q.den:Int):=by
    have:(q.num:Rat)≤((q.den:Int):Rat):=by push_cast;grind
    exact_mod_cast this
  omega
end Go.Q
