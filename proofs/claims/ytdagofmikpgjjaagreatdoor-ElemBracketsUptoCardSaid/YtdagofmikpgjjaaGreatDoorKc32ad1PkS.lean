/-
  The reference of layer 2, and what stands on it. Conditions: each theorem's own.
-/
import Derived.Test.YtdagofmikpgjjaaGreatDoorK98c21dPkF
import Derived.Test.YtdagofmikpgjjaaGreatDoorKa3ff51PkQ
import Derived.Test.YtdagofmikpgjjaaGreatDoorK6ebe72PkR
import Derived.Test.YtdagofmikpgjjaaGreatDoorKb2df3ePkM
import Derived.Test.YtdagofmikpgjjaaGreatDoorK5e0678PkN
import Derived.Test.YtdagofmikpgjjaaGreatDoorKe61fbbPkP
import Derived.Test.YtdagofmikpgjjaaGreatDoorKef6d44PkO
set_option linter.unusedVariables false
set_option linter.unusedSimpArgs false
open Nat (reduceAdd)
namespace Go.Q
open Go.Proofs
set_option maxRecDepth 100000
set_option maxHeartbeats 8000000
def arL (x:Rat) (w:Nat):Rat:=if x=0 then 0 else if x < 0 then -sgn false (asU x w) (2^w) else sgn false (asL x w) (2^w)
def arH (x:Rat) (w:Nat):Rat:=if x=0 then 0 else if x < 0 then -sgn false (asL x w) (2^w) else sgn false (asU x w) (2^w)
theorem RArcs_spec {h0 h:PH} [Le h0 h] {v:Value} {x:Rat} {w:Nat} (hx:Qr h0 v x) (bx:sz x≤1024) (dx:x.num.natAbs≤x.den) (hw:20≤w) (hw':w≤200):Spec mach 159 #[v,.int .i64 w] h (fun r h'=>Qp h' r (arL x w) (arH x w)) NP:=by
  unfold arL arH
  by_cases h0:x=0
  · subst h0
    rw[if_pos rfl,if_pos rfl]
    exact RArcsine_zero hx
  rw[if_neg h0,if_neg h0]
  by_cases h1:x < 0
  · rw[if_pos h1,if_pos h1]
    exact RArcsine_neg hx bx h1 dx hw hw'
  rw[if_neg h1,if_neg h1]
  exact RArcsine_pos hx bx (by grind) dx hw hw'
theorem ar_sz {x:Rat} {w:Nat} (dx:x.num.natAbs≤x.den) (hw:20≤w):sz (arL x w)≤w+4∧sz (arH x w)≤w+4:=by
  obtain⟨b1,b2⟩:=bl_as (w:=w) (by omega) dx
  have a1:=sz_grid (w:=w) b1 (by omega)
  have a2:=sz_grid (w:=w) b2 (by omega)
  have z:sz (0:Rat)≤w+4:=Nat.le_trans (show sz (0:Rat)≤1 by decide) (by omega)
  unfold arL arH
  by_cases h0:x=0
  · rw[if_pos h0,if_pos h0];exact⟨z,z⟩
  rw[if_neg h0,if_neg h0]
  by_cases h1:x < 0
  · rw[if_pos h1,if_pos h1,cz,cz];exact⟨a2,a1⟩
  rw[if_neg h1,if_neg h1];exact⟨a1,a2⟩
theorem ar_asin {x:Rat} {p:Nat} (h0:x≠0):gdown (arL x (p+32)) p=fg x p∧gup (arH x (p+32)) p=dM x p:=by
  unfold arL arH fg dM bkL bkH
  rw[if_neg h0,if_neg h0]
  by_cases h1:x < 0
  · rw[if_pos h1,if_pos h1,zG,GY,Ji,gup_sgn,decide_eq_true (num_neg.2 h1),if_pos rfl,if_pos rfl,qk,qk]
    exact⟨rfl,rfl⟩
  · rw[if_neg h1,if_neg h1,Ji,gup_sgn,decide_eq_false (fun k=>h1 (num_neg.1 k)),if_neg (by decide),if_neg (by decide)]
    exact⟨rfl,rfl⟩
theorem sgn_plus (a b w:Nat):sgn false a (2^w)+sgn false b (2^w)=sgn false (a+b) (2^w):=by
  have e:=sgn_grid (a+b) w
  have f:=sgn_grid a w
  have g:=sgn_grid b w
  have u0:(0:Rat) < ((2^w:Nat):Rat):=by exact_mod_cast Nat.pos_of_ne_zero (am w)
  rw[Rat.natCast_add] at e
  generalize sgn false (a+b) (2^w)=r at*
  generalize sgn false a (2^w)=s at*
  generalize sgn false b (2^w)=t at*
  generalize((2^w:Nat):Rat)=U at*
  have k:(s+t - r)*U=0:=by grind
  rcases Rat.mul_eq_zero.1 k with c |c<;>grind
theorem ar_acos (x:Rat) (p:Nat):gdown (sgn false (piL (p+32)) (2^(p+32+1)) - arH x (p+32)) p=acLo x p∧gup (sgn false (piH (p+32)) (2^(p+32+1)) - arL x (p+32)) p=acHi x p:=by
  unfold arL arH acLo acHi bkL bkH
  have t1:=sgn_two (asL x (p+32)) (p+32)
  have t2:=sgn_two (asU x (p+32)) (p+32)
  have e3:(2:Nat)^1=2:=rfl
  by_cases h0:x=0
  · simp only[if_pos h0,Bool.false_eq_true,if_false]
    rw[Rat.sub_eq_add_neg,Rat.sub_eq_add_neg,show -(0:Rat)=0 from rfl,Rat.add_zero,Rat.add_zero]
    exact⟨Ji _ _ 33,gup_sgn _ _ 33⟩
  simp only[if_neg h0]
  by_cases h1:x < 0
  · have h2:=num_neg.2 h1
    simp only[if_pos h1,if_pos h2,Bool.false_eq_true,if_false]
    rw[e3,Rat.sub_eq_add_neg,Rat.sub_eq_add_neg,Rat.neg_neg,Rat.neg_neg,←t1,←t2,sgn_plus,sgn_plus]
    exact⟨Ji _ _ 33,gup_sgn _ _ 33⟩
  · have h2:¬x.num < 0:=fun k=>h1 (num_neg.1 k)
    simp only[if_neg h1,if_neg h2]
    rw[e3,t1,t2,Rat.sub_eq_add_neg,Rat.sub_eq_add_neg]
    exact⟨rfl,rfl⟩
theorem RWaves_spec {h0 h:PH} [Le h0 h] {v:Value} {y w f:Nat} (hv:N16 h0 v y) (la:y≤2^w) (hf:1≤f) (hf':f≤2) (hw:20≤w) (hw':w≤1000):Spec mach 265 #[v,.int .i64 f,.int .i64 w] h (fun v h'=>∃x m c y' n d,v=.tuple #[.slice x m c,.slice y' n d]∧N16 h' (.slice x m c) (wvL y w f)∧N16 h' (.slice y' n d) (wvH y w f)) NP:=by
  obtain⟨x,m,c,rfl,hv⟩:=hv.sl
  have by_:bl y≤w+2:=bh (by omega)
  obtain⟨bs,bt⟩:=bl_sq (a:=y) la
  have hs:=mj la
  have ht:=jV la
  have u1:=bC w
  have bA:∀{j c},bl (waV w f (sqL y w) (sqH y w) c j)≤w+2:=fun {j c}=>bl_waV hf
  have sA:∀{j},_:=fun {j}=>B6 (w:=w) (j:=j) hf hs ht
  clear hs la ht
  have F:=Hid.mk (And.intro by_ (And.intro bs (And.intro bt u1)));clear by_ bs bt u1
  refine Spec.go [] Tryz.func265 rfl rfl (by kernel_rfl) fun C _=>?_
  try simp(maxSteps:=999999) (disch:=omega) only[go_sem,Nat.reduceBEq,reduceAdd]
  refine caN (by exact nu (u:=false) hv hv (by have:=F.out;omega) (by have:=F.out;omega) (by have:=F.out;omega)) ?_;rintro _ h1 _ q1;obtain⟨v1,v1_l,v1_c,rfl,q1⟩:=q1.sl
  try simp(maxSteps:=999999) (disch:=omega) only[go_sem,Nat.reduceBEq,reduceAdd]
  have q1:N16 h1 (.slice v1 v1_l v1_c) (sqL y w):=q1
  refine caN (by exact nu (u:=true) (hv.to (h':=h1)) (hv.to (h':=h1)) (by have:=F.out;omega) (by have:=F.out;omega) (by have:=F.out;omega)) ?_;rintro _ h2 _ q2;obtain⟨v2,v2_l,v2_c,rfl,q2⟩:=q2.sl
  try simp(maxSteps:=999999) (disch:=omega) only[go_sem,Nat.reduceBEq,reduceAdd]
  have q2:N16 h2 (.slice v2 v2_l v2_c) (sqH y w):=q2
  refine caN (by exact di (k:=0) (n:=0) (by decide) (by decide)) ?_;rintro _ h3 _ q3;obtain⟨v3,v3_l,v3_c,rfl,q3⟩:=q3.sl
  try simp(maxSteps:=999999) (disch:=omega) only[go_sem,Nat.reduceBEq,reduceAdd]
  refine caN (by exact jO (w:=w) (by have:=F.out;omega)) ?_;rintro _ h4 _ q4;obtain⟨v4,v4_l,v4_c,rfl,q4⟩:=q4.sl
  try simp(maxSteps:=999999) (disch:=omega) only[go_sem,Nat.reduceBEq,reduceAdd]
  have q1:=q1.to (h':=h4)
  have q2:=q2.to (h':=h4)
  refine lp [] (fun x':Value×Value×Nat=>⟨[(1,.v (.int .i64 f)),(2,.v (.int .i64 w)),(8,.v (.slice v1 v1_l v1_c)),(9,.v (.slice v2 v2_l v2_c)),(10,.v x'.1),(11,.v x'.2.1),(12,.v (.int .i64 ((x'.2.2:Int) - 1)))],[]⟩) (fun x' h'=>Le h4 h'∧x'.2.2≤24∧N16 h' x'.1 (waV w f (sqL y w) (sqH y w) false (24 - x'.2.2))∧N16 h' x'.2.1 (waV w f (sqL y w) (sqH y w) true (24 - x'.2.2))) (fun x'=>x'.2.2) (.slice v3 v3_l v3_c,.slice v4 v4_l v4_c,24) ?_ ⟨inferInstance,Nat.le_refl _,by show N16 _ _ (waV _ _ _ _ _ (24 - 24));rw[Nat.sub_self,waV_0];exact q3.to,by show N16 _ _ (waV _ _ _ _ _ (24 - 24));rw[Nat.sub_self,Gd];exact q4⟩ (by kernel_rfl) ?_
  · try simp(maxSteps:=999999) (disch:=omega) only[go_sem,Nat.reduceBEq,reduceAdd]
    all_goals rfl
  rintro⟨va,vb,i⟩ g0 ⟨le0,hi,hl,hh⟩
  dsimp only at hi hl hh ⊢
  obtain⟨_,_,_,rfl,hl⟩:=hl.sl
  obtain⟨_,_,_,rfl,hh⟩:=hh.sl
  cases i with
  | zero=>
    rw[Nat.sub_zero] at hl hh
    try simp(maxSteps:=999999) (disch:=omega) only[go_sem,Nat.reduceBEq,reduceAdd]
    exact⟨_,_,_,_,_,_,rfl,hl,hh⟩
  | succ i=>
    obtain⟨j,hj,ej⟩:∃j,j < 24∧24 - (i+1)=j:=⟨_,by have:=F.out;omega,rfl⟩
    have en:24 - i=j+1:=by have:=F.out;omega
    have eo:23 - j=i:=by have:=F.out;omega
    rw[ej] at hl hh
    have lw:=wav_lt (f:=f) (i:=i) hf' (by have:=F.out;omega)
    obtain⟨s1',s2'⟩:=sA (j:=j)
    rw[eo] at s1' s2'
    have ea:2^w*(wav f i*2^w)=2^w*2^w*wav f i:=by rw[Nat.mul_comm (wav f i),Nat.mul_assoc]
    have b1:=bA (j:=j) (c:=false)
    have b2:=bA (j:=j) (c:=true)
    have b3:bl (wav f i)≤12:=bl_le.2 (by have:=F.out;omega)
    have b4:=aG (sqH y w) (waV w f (sqL y w) (sqH y w) true j)
    have b5:=aG (sqL y w) (waV w f (sqL y w) (sqH y w) false j)
    have b9:=cu (wav f i) w
    have b6:=aG (2^w) (wav f i*2^w)
    rw[ea] at b6
    have b7:bl (2^w*2^w*wav f i - sqH y w*waV w f (sqL y w) (sqH y w) true j)≤_:=aR (Nat.sub_le _ _)
    have b8:bl (2^w*2^w*wav f i - sqL y w*waV w f (sqL y w) (sqH y w) false j)≤_:=aR (Nat.sub_le _ _)
    have n0:Hid (wav f i*2^w≠0):=⟨Nat.mul_ne_zero (nJ hf) (am w)⟩
    have s1':=Hid.mk s1'
    have s2':=Hid.mk s2'
    have eo:=Hid.mk eo
    have en:=Hid.mk en
    have ea:=Hid.mk ea
    have lw':=lw
    have ew:IntKind.i64.wrap (((2*i+f)*(2*i+f+1):Nat):Int)=(wav f i:Nat):=by
      unfold wav at lw ⊢
      exact wi64 (by have:=F.out;omega) (by have:=F.out;omega)
    have ew':IntKind.u64.wrap ((wav f i:Nat):Int)=(wav f i:Nat):=by
      generalize wav f i=z at lw'
      simp(disch:=omega) only[go_sem]
    have lw:=Hid.mk lw'
    clear ej hj lw'
    have F:=Hid.mk (And.intro F.out (And.intro b1 (And.intro b2 (And.intro b3 (And.intro b4 (And.intro b5 (And.intro b6 (And.intro b7 (And.intro b8 b9)))))))));clear b1 b2 b3 b4 b5 b6 b7 b8 b9
    try simp(maxSteps:=999999) (disch:=omega) only[go_sem,Nat.reduceBEq,reduceAdd,ew]
    refine caN (by exact di (n:=wav f i) ew' (Nat.lt_of_le_of_lt lw.out (by decide))) ?_;rintro _ g1 _ r1;obtain⟨_,_,_,rfl,r1⟩:=r1.sl
    try simp(maxSteps:=999999) (disch:=omega) only[go_sem,Nat.reduceBEq,reduceAdd]
    refine caN (by exact gf (n:=w) r1 (show bl (wav f i)+w≤2^40 by have:=F.out;omega)) ?_;rintro _ g2 _ r2;obtain⟨w2,_,_,rfl,r2⟩:=r2.sl
    try simp(maxSteps:=999999) (disch:=omega) only[go_sem,Nat.reduceBEq,reduceAdd]
    refine caN (by exact jO (w:=w) (by have:=F.out;omega)) ?_;rintro _ g3 _ r3;obtain⟨w3,_,_,rfl,r3⟩:=r3.sl
    try simp(maxSteps:=999999) (disch:=omega) only[go_sem,Nat.reduceBEq,reduceAdd]
    refine caN (by exact aV r3 (r2.to (h':=g3)) (by have:=F.out;omega) (by have:=F.out;omega)) ?_;rintro _ g4 _ r4;obtain⟨w4,_,_,rfl,r4⟩:=r4.sl
    try simp(maxSteps:=999999) (disch:=omega) only[go_sem,Nat.reduceBEq,reduceAdd]
    rw[ea.out] at r4
    refine caN (by exact aV (q2.to (h':=g4)) (hh.to (h':=g4)) (show bl (sqH y w)≤2^40 by have:=F.out;omega) (by have:=F.out;omega)) ?_;rintro _ g5 _ r5;obtain⟨w5,_,_,rfl,r5⟩:=r5.sl
    try simp(maxSteps:=999999) (disch:=omega) only[go_sem,Nat.reduceBEq,reduceAdd]
    refine caN (by exact lj (r4.to (h':=g5)) r5 s1'.out (show bl (2^w*2^w*wav f i)≤2^40 by have:=F.out;omega)) ?_;rintro _ g6 _ r6;obtain⟨w6,_,_,rfl,r6⟩:=r6.sl
    try simp(maxSteps:=999999) (disch:=omega) only[go_sem,Nat.reduceBEq,reduceAdd]
    refine caN (by exact rJ r6 (r2.to (h':=g6)) n0.out (show bl (2^w*2^w*wav f i - sqH y w*waV w f (sqL y w) (sqH y w) true j)≤2^36 by have:=F.out;omega) (by have:=F.out;omega)) ?_;rintro _ g7 _ r7;obtain⟨w7,w7_l,w7_c,rfl,r7⟩:=r7.sl
    try simp(maxSteps:=999999) (disch:=omega) only[go_sem,Nat.reduceBEq,reduceAdd]
    refine caN (by exact aV (q1.to (h':=g7)) (hl.to (h':=g7)) (show bl (sqL y w)≤2^40 by have:=F.out;omega) (by have:=F.out;omega)) ?_;rintro _ g8 _ r8;obtain⟨w8,_,_,rfl,r8⟩:=r8.sl
    try simp(maxSteps:=999999) (disch:=omega) only[go_sem,Nat.reduceBEq,reduceAdd]
    refine caN (by exact lj (r4.to (h':=g8)) r8 s2'.out (show bl (2^w*2^w*wav f i)≤2^40 by have:=F.out;omega)) ?_;rintro _ g9 _ r9;obtain⟨w9,_,_,rfl,r9⟩:=r9.sl
    try simp(maxSteps:=999999) (disch:=omega) only[go_sem,Nat.reduceBEq,reduceAdd]
    refine caN (by exact xg r9 (r2.to (h':=g9)) n0.out (show bl (2^w*2^w*wav f i - sqL y w*waV w f (sqL y w) (sqH y w) false j)≤2^36 by have:=F.out;omega) (by have:=F.out;omega)) ?_;rintro _ g10 _ r10;obtain⟨w10,w10_l,w10_c,rfl,r10⟩:=r10.sl
    try simp(maxSteps:=999999) (disch:=omega) only[go_sem,Nat.reduceBEq,reduceAdd]
    dsimp only[lpE];refine⟨(.slice w7 w7_l w7_c,.slice w10 w10_l w10_c,i),?_,⟨Le.trn le0 inferInstance,(show i≤24 by have:=F.out;omega),?_,?_⟩,(show i < i+1 by have:=F.out;omega)⟩
    · try simp(maxSteps:=999999) (disch:=omega) only[go_sem,Nat.reduceBEq,reduceAdd]
      all_goals rfl
    · show N16 _ _ (waV _ _ _ _ false (24 - i))
      rw[en.out,waV_s,eo.out]
      exact r7.to
    · show N16 _ _ (waV _ _ _ _ true (24 - i))
      rw[en.out,qp,eo.out]
      exact r10.to
theorem sgn_negd (b:Bool) (n d:Nat):sgn (!b) n d= -sgn b n d:=by
  cases b
  · rw[yC (!false)];simp
  · rw[yC true];simp
def wvU (u:Bool) (n w:Nat):Nat:=if u then cdiv (n*wvH n w 2) (2^w) else n*wvL n w 2 / 2^w
theorem wvU_bl {u:Bool} {n w:Nat} (h:n≤2^w):bl (wvU u n w)≤w+2:=by
  obtain⟨a,b⟩:=sn_n h
  refine bh ?_
  unfold wvU
  split<;>omega
theorem snAt_p {x:Rat} {w:Nat} (h:¬x.num < 0) (low:Bool):snAt x w low=sgn false (wvU (!low) (glo x w) w) (2^w):=by
  unfold snAt wvU
  rw[decide_eq_false h]
  cases low<;>rfl
theorem snAt_n {x:Rat} {w:Nat} (h:x.num < 0) (low:Bool):snAt x w low= -sgn false (wvU low (glo x w) w) (2^w):=by
  unfold snAt wvU
  rw[decide_eq_true h,←sgn_negd]
  cases low<;>rfl
theorem RLow_spec {h0 h:PH} [Le h0 h] {v:Value} {x:Rat} {w n:Nat} (hx:Qr h0 v x) (bx:sz x≤2048) (hn:x.num.natAbs*2^w / x.den=n) (la:n≤2^w) (hw:20≤w) (hw':w≤200):
    Spec mach 263 #[v,.int .i64 w] h (fun r h'=>Qr h' r (sgn false (wvU false n w) (2^w))) NP∧Spec mach 264 #[v,.int .i64 w] h (fun r h'=>Qr h' r (sgn false (wvU true n w) (2^w))) NP:=by
  have b1:bl n≤w+2:=bh (by omega)
  have b2:bl (wvL n w 2)≤w+2:=bl_waV (by decide)
  have b3:bl (wvH n w 2)≤w+2:=bl_waV (by decide)
  have b4:=wvU_bl (u:=false) la
  have b5:=wvU_bl (u:=true) la
  have e:odiv (x.num.natAbs*2^w) x.den false=n:=hn
  have e1:odiv (n*wvL n w 2) (2^w) false=wvU false n w:=rfl
  have e2:odiv (n*wvH n w 2) (2^w) true=wvU true n w:=rfl
  have la:=Hid.mk la
  obtain⟨_,_,_,_,_,_,_,rfl,hx⟩:=hx.sa
  clear hn
  generalize wvU false n w=L at*
  generalize wvU true n w=H at*
  have F:=Hid.mk (And.intro b1 (And.intro b2 (And.intro b3 (And.intro b4 (And.intro b5 bx)))));clear b1 b2 b3 b4 b5 bx
  constructor
  · refine Spec.go [] Tryz.func263 rfl rfl (by kernel_rfl) fun C _=>?_
    try simp(maxSteps:=999999) (disch:=omega) only[go_sem,Nat.reduceBEq,reduceAdd]
    refine caN (by exact EH (w:=w) (u:=false) hx (by have:=F.out;omega) (by have:=F.out;omega)) ?_;rintro _ h1 _ q1;obtain⟨v1,_,_,rfl,q1⟩:=q1.sl
    try simp(maxSteps:=999999) (disch:=omega) only[go_sem,Nat.reduceBEq,reduceAdd]
    rw[e] at q1
    refine caN (by exact RWaves_spec (f:=2) q1 la.out (by decide) (by decide) hw (by have:=F.out;omega)) ?_;rintro v2 h2 r2 ⟨_,_,_,_,_,_,rfl,q2,q3⟩
    try simp(maxSteps:=999999) (disch:=omega) only[go_sem,Nat.reduceBEq,reduceAdd]
    refine caN (by exact nu (u:=false) (q1.to (h':=h2)) q2 (by have:=F.out;omega) (show bl (wvL n w 2)≤2^30 by have:=F.out;omega) (by have:=F.out;omega)) ?_;rintro _ h4 _ q4;obtain⟨v4,_,_,rfl,q4⟩:=q4.sl
    try simp(maxSteps:=999999) (disch:=omega) only[go_sem,Nat.reduceBEq,reduceAdd]
    rw[e1] at q4
    refine caN (by exact o9 (w:=w) q4 (by have:=F.out;omega) (by have:=F.out;omega)) ?_;rintro v5 h5 r5 q5;obtain⟨_,_,_,_,_,_,_,rfl,q5⟩:=q5.sa
    try simp(maxSteps:=999999) (disch:=omega) only[go_sem,Nat.reduceBEq,reduceAdd]
    exact q5
  · refine Spec.go [] Tryz.func264 rfl rfl (by kernel_rfl) fun C _=>?_
    try simp(maxSteps:=999999) (disch:=omega) only[go_sem,Nat.reduceBEq,reduceAdd]
    refine caN (by exact EH (w:=w) (u:=false) hx (by have:=F.out;omega) (by have:=F.out;omega)) ?_;rintro _ h1 _ q1;obtain⟨v1,_,_,rfl,q1⟩:=q1.sl
    try simp(maxSteps:=999999) (disch:=omega) only[go_sem,Nat.reduceBEq,reduceAdd]
    rw[e] at q1
    refine caN (by exact RWaves_spec (f:=2) q1 la.out (by decide) (by decide) hw (by have:=F.out;omega)) ?_;rintro v2 h2 r2 ⟨_,_,_,_,_,_,rfl,q2,q3⟩
    try simp(maxSteps:=999999) (disch:=omega) only[go_sem,Nat.reduceBEq,reduceAdd]
    refine caN (by exact nu (u:=true) (q1.to (h':=h2)) q3 (by have:=F.out;omega) (show bl (wvH n w 2)≤2^30 by have:=F.out;omega) (by have:=F.out;omega)) ?_;rintro _ h4 _ q4;obtain⟨v4,_,_,rfl,q4⟩:=q4.sl
    try simp(maxSteps:=999999) (disch:=omega) only[go_sem,Nat.reduceBEq,reduceAdd]
    rw[e2] at q4
    refine caN (by exact o9 (w:=w) q4 (by have:=F.out;omega) (by have:=F.out;omega)) ?_;rintro v5 h5 r5 q5;obtain⟨_,_,_,_,_,_,_,rfl,q5⟩:=q5.sa
    try simp(maxSteps:=999999) (disch:=omega) only[go_sem,Nat.reduceBEq,reduceAdd]
    exact q5
theorem RSine_spec {h0 h:PH} [Le h0 h] {va vb:Value} {x y:Rat} {w:Nat} (ha:Qr h0 va x) (hb:Qr h0 vb y) (bx:sz x≤2048) (by_:sz y≤2048) (lx:glo x w≤2^w) (ly:glo y w≤2^w) (hw:20≤w) (hw':w≤200):Spec mach 215 #[va,vb,.int .i64 w] h (fun r h'=>Qp h' r (snAt x w true) (snAt y w false)) NP:=by
  have kS:=fun {h} [Le h0 h]=>bS (h:=h) ha
  have kT:=fun {h} [Le h0 h]=>bS (h:=h) hb
  have gx:x.num.natAbs*2^w / x.den=glo x w:=by unfold glo;rfl
  have gy:y.num.natAbs*2^w / y.den=glo y w:=by unfold glo;rfl
  have nx:=Rat.neg_num x
  have ny:=Rat.neg_num y
  have gx':(-x).num.natAbs*2^w / (-x).den=glo x w:=by rw[Rat.neg_num,Rat.neg_den,Int.natAbs_neg];exact gx
  have gy':(-y).num.natAbs*2^w / (-y).den=glo y w:=by rw[Rat.neg_num,Rat.neg_den,Int.natAbs_neg];exact gy
  have bx':sz (-x)≤2048:=by rw[cz];exact bx
  have by':sz (-y)≤2048:=by rw[cz];exact by_
  have kA:=fun {h} [Le h0 h]=>(RLow_spec (h:=h) ha bx gx lx hw hw').1
  have kB:=fun {h0 h:PH} {v:Value} [Le h0 h] (c:Qr h0 v (-x))=>(RLow_spec (h:=h) c bx' gx' lx hw hw').2
  have kC:=fun {h} [Le h0 h]=>(RLow_spec (h:=h) hb by_ gy ly hw hw').2
  have kD:=fun {h0 h:PH} {v:Value} [Le h0 h] (c:Qr h0 v (-y))=>(RLow_spec (h:=h) c by' gy' ly hw hw').1
  have kO:=fun {h} [Le h0 h]=>bK (h:=h) ha
  have kP:=fun {h} [Le h0 h]=>bK (h:=h) hb
  have sg:∀z:Rat,decide (sgn3 z≥0)=decide (¬z.num < 0):=fun z=>by
    rw[decide_eq_decide,num_neg]
    unfold sgn3;grind
  have ex:=sg x
  have ey:=sg y
  have px:=fun h=>snAt_p (x:=x) (w:=w) h true
  have py:=fun h=>snAt_p (x:=y) (w:=w) h false
  have mx:=fun h=>snAt_n (x:=x) (w:=w) h true
  have my:=fun h=>snAt_n (x:=y) (w:=w) h false
  rw[show(!true)=false from rfl] at px
  rw[show(!false)=true from rfl] at py
  obtain⟨_,_,_,_,_,_,_,rfl,ha⟩:=ha.sa
  obtain⟨_,_,_,_,_,_,_,rfl,hb⟩:=hb.sa
  clear gx gy gx' gy' sg lx ly bx by_ bx' by' nx ny
  generalize snAt x w true=X at*
  generalize snAt y w false=Y at*
  refine Spec.go [(8,.h [(9,6)] [] [] [0,1,2,3])] Tryz.func215 rfl rfl (by kernel_rfl) fun C _=>?_
  try simp(maxSteps:=999999) (disch:=omega) only[go_sem,Nat.reduceBEq,reduceAdd]
  refine caN (by exact kS) ?_;rintro v1 h1 r1 rfl
  try simp(maxSteps:=999999) (disch:=omega) only[go_sem,Nat.reduceBEq,reduceAdd]
  by_cases c1:x.num < 0
  case' pos=>
    have ex:=ex.trans (decide_eq_false (fun k=>k c1))
    try simp(maxSteps:=999999) (disch:=omega) only[go_sem,Nat.reduceBEq,reduceAdd,ex]
    refine caN (by exact kO) ?_;rintro v2 h2 r2 q2;obtain⟨_,_,_,_,_,_,_,rfl,q2⟩:=q2.sa
    try simp(maxSteps:=999999) (disch:=omega) only[go_sem,Nat.reduceBEq,reduceAdd]
    refine caN (by exact kB q2) ?_;rintro v3 h3 r3 q3;obtain⟨_,_,_,_,_,_,_,rfl,q3⟩:=q3.sa
    try simp(maxSteps:=999999) (disch:=omega) only[go_sem,Nat.reduceBEq,reduceAdd]
    refine caN (by exact bK q3) ?_;rintro v9 h9 r9 q9;obtain⟨_,_,_,_,_,_,_,rfl,q9⟩:=q9.sa
    try simp(maxSteps:=999999) (disch:=omega) only[go_sem,Nat.reduceBEq,reduceAdd]
  case' neg=>
    have ex:=ex.trans (decide_eq_true c1)
    try simp(maxSteps:=999999) (disch:=omega) only[go_sem,Nat.reduceBEq,reduceAdd,ex]
    refine caN (by exact kA) ?_;rintro v9 h9 r9 q9;obtain⟨_,_,_,_,_,_,_,rfl,q9⟩:=q9.sa
    try simp(maxSteps:=999999) (disch:=omega) only[go_sem,Nat.reduceBEq,reduceAdd]
  all_goals
    refine caN (by exact kT) ?_;rintro v10 h10 r10 rfl
    try simp(maxSteps:=999999) (disch:=omega) only[go_sem,Nat.reduceBEq,reduceAdd]
    by_cases c2:y.num < 0
    case' pos=>
      have ey:=ey.trans (decide_eq_false (fun k=>k c2))
      try simp(maxSteps:=999999) (disch:=omega) only[go_sem,Nat.reduceBEq,reduceAdd,ey]
      refine caN (by exact kP) ?_;rintro v11 h11 r11 q11;obtain⟨_,_,_,_,_,_,_,rfl,q11⟩:=q11.sa
      try simp(maxSteps:=999999) (disch:=omega) only[go_sem,Nat.reduceBEq,reduceAdd]
      refine caN (by exact kD q11) ?_;rintro v12 h12 r12 q12;obtain⟨_,_,_,_,_,_,_,rfl,q12⟩:=q12.sa
      try simp(maxSteps:=999999) (disch:=omega) only[go_sem,Nat.reduceBEq,reduceAdd]
      refine caN (by exact bK q12) ?_;rintro v14 h14 r14 q14;obtain⟨_,_,_,_,_,_,_,rfl,q14⟩:=q14.sa
      try simp(maxSteps:=999999) (disch:=omega) only[go_sem,Nat.reduceBEq,reduceAdd]
    case' neg=>
      have ey:=ey.trans (decide_eq_true c2)
      try simp(maxSteps:=999999) (disch:=omega) only[go_sem,Nat.reduceBEq,reduceAdd,ey]
      refine caN (by exact kC) ?_;rintro v14 h14 r14 q14;obtain⟨_,_,_,_,_,_,_,rfl,q14⟩:=q14.sa
      try simp(maxSteps:=999999) (disch:=omega) only[go_sem,Nat.reduceBEq,reduceAdd]
    all_goals
      refine⟨_,_,_,_,_,_,_,_,_,_,_,_,_,_,rfl,?_,?_⟩
      · first |(rw[mx c1];exact q9.to) |(rw[px c1];exact q9.to)
      · first |(rw[my c2];exact q14) |(rw[py c2];exact q14)
theorem RMx_spec {h0 h:PH} [Le h0 h] {v w:Value} {x y:Rat} (hx:Qr h0 v x) (hy:Qr h0 w y) (bx:sz x≤2^34) (by_:sz y≤2^34):Spec mach 155 #[v,w] h (fun v h'=>Qr h' v (max x y)) NP:=by
  obtain⟨_,_,_,_,_,_,_,rfl,hx⟩:=hx.sa
  obtain⟨_,_,_,_,_,_,_,rfl,hy⟩:=hy.sa
  refine Spec.go [] Tryz.func155 rfl rfl (by kernel_rfl) fun C _=>?_
  try simp(maxSteps:=999999) (disch:=omega) only[go_sem,Nat.reduceBEq,reduceAdd]
  refine caN (by exact av hy hx by_ bx) ?_;rintro v1 h1 s1 rfl
  try simp(maxSteps:=999999) (disch:=omega) only[go_sem,Nat.reduceBEq,reduceAdd]
  by_cases hc:x < y
  · have e1:decide (cmpQ y x > 0)=true:=by unfold cmpQ;grind
    have e2:max x y=y:=by grind
    try simp(maxSteps:=999999) (disch:=omega) only[go_sem,Nat.reduceBEq,reduceAdd,e1]
    rw[e2]
    exact hy.to
  · have e1:decide (cmpQ y x > 0)=false:=by unfold cmpQ;grind
    have e2:max x y=x:=by grind
    try simp(maxSteps:=999999) (disch:=omega) only[go_sem,Nat.reduceBEq,reduceAdd,e1]
    rw[e2]
    exact hx.to
theorem glo_mn {u v:Rat} {w:Nat} (h0:0≤u) (h:u≤v):glo u w≤glo v w:=by
  have n0:∀{q:Rat},0≤q→q*(q.den:Rat)=(q.num.natAbs:Rat):=fun {q} h=>by
    rw[show((q.num.natAbs:Nat):Rat)=(((q.num.natAbs:Nat):Int):Rat) from rfl,Int.natAbs_of_nonneg (Rat.num_nonneg.2 h)]
    exact q_den q
  have a:=n0 h0
  have b:=n0 (Rat.le_trans h0 h)
  have du:(0:Rat) < (u.den:Rat):=by exact_mod_cast u.den_pos
  have dv:(0:Rat) < (v.den:Rat):=by exact_mod_cast v.den_pos
  have m:=mlr h (llt (Rat.mul_pos du dv))
  have k:u.num.natAbs*v.den≤v.num.natAbs*u.den:=by
    have:((u.num.natAbs*v.den:Nat):Rat)≤((v.num.natAbs*u.den:Nat):Rat):=by rw[Rat.natCast_mul,Rat.natCast_mul,←a,←b];grind
    exact Rat.natCast_le_natCast.1 this
  unfold glo
  refine(Nat.le_div_iff_mul_le v.den_pos).2 ?_
  have c:=Nat.div_mul_le_self (u.num.natAbs*2^w) u.den
  generalize u.num.natAbs*2^w / u.den=g at*
  refine Nat.le_of_mul_le_mul_right (c:=u.den) ?_ u.den_pos
  have c2:=Nat.mul_le_mul_right v.den c
  have k2:=Nat.mul_le_mul_right (2^w) k
  calc g*v.den*u.den=g*u.den*v.den:=by grind
    _≤u.num.natAbs*2^w*v.den:=c2
    _=u.num.natAbs*v.den*2^w:=by grind
    _≤v.num.natAbs*u.den*2^w:=k2
    _=v.num.natAbs*2^w*u.den:=by grind
theorem abQ_g (x:Rat) (w:Nat):glo (abQ x) w=glo x w∧0≤abQ x:=by
  obtain⟨p1,p2⟩:=qD x
  constructor
  · unfold glo;rw[p1,p2,Int.natAbs_natCast]
  · exact Rat.num_nonneg.1 (by rw[p1];omega)
theorem csX_g (x y:Rat) (w:Nat):glo (max (abQ x) (abQ y)) w=csX x y w:=by
  obtain⟨a,a0⟩:=abQ_g x w
  obtain⟨b,b0⟩:=abQ_g y w
  unfold csX
  by_cases h:abQ x≤abQ y
  · have m:=glo_mn (w:=w) a0 h
    rw[show max (abQ x) (abQ y)=abQ y by grind]
    omega
  · have m:=glo_mn (w:=w) b0 (show abQ y≤abQ x by grind)
    rw[show max (abQ x) (abQ y)=abQ x by grind]
    omega
theorem csN_g {x y:Rat} {w:Nat}:(x≤0∧0≤y→csN x y w=0)∧(¬(x≤0∧0≤y)→glo (min (abQ x) (abQ y)) w=csN x y w):=by
  obtain⟨a,a0⟩:=abQ_g x w
  obtain⟨b,b0⟩:=abQ_g y w
  have z:glo 0 w=0:=by unfold glo;rw[show(0:Rat).num.natAbs=0 from rfl,Nat.zero_mul,Nat.zero_div]
  constructor
  · rintro⟨h1,h2⟩
    unfold csN
    refine if_pos ?_
    rw[num_neg,num_neg]
    grind
  · intro h
    have m:glo (min (abQ x) (abQ y)) w=min (glo x w) (glo y w):=by
      by_cases h:abQ x≤abQ y
      · have m:=glo_mn (w:=w) a0 h
        rw[show min (abQ x) (abQ y)=abQ x by grind]
        omega
      · have m:=glo_mn (w:=w) b0 (show abQ y≤abQ x by grind)
        rw[show min (abQ x) (abQ y)=abQ y by grind]
        omega
    rw[m]
    unfold csN
    by_cases c:x.num < 0∧¬y.num < 0∨x=0∨y=0
    · rw[if_pos c]
      rcases c with⟨c1,c2⟩ |c |c
      · rw[num_neg] at c1 c2
        exact absurd ⟨llt c1,Rat.not_lt.1 c2⟩ h
      · rw[c,z];omega
      · rw[c,z];omega
    · rw[if_neg c]
theorem RCosine_spec {h0 h:PH} [Le h0 h] {va vb:Value} {x y:Rat} {w:Nat} (ha:Qr h0 va x) (hb:Qr h0 vb y) (bx:sz x≤2048) (by_:sz y≤2048) (lx:glo x w≤2^w) (ly:glo y w≤2^w) (hw:20≤w) (hw':w≤200):
    Spec mach 216 #[va,vb,.int .i64 w] h (fun r h'=>Qp h' r (sgn false (wvL (csX x y w) w 1) (2^w)) (sgn false (wvH (csN x y w) w 1) (2^w))) NP:=by
  have kM:=fun {h} [Le h0 h]=>wS (h:=h) ha
  have kN:=fun {h} [Le h0 h]=>wS (h:=h) hb
  rw[show sgn false x.num.natAbs x.den=abQ x from rfl] at kM
  rw[show sgn false y.num.natAbs y.den=abQ y from rfl] at kN
  have kS:=fun {h} [Le h0 h]=>bS (h:=h) ha
  have kT:=fun {h} [Le h0 h]=>bS (h:=h) hb
  have sx:sz (abQ x)≤2048:=by rw[EP];exact bx
  have sy:sz (abQ y)≤2048:=by rw[EP];exact by_
  have sM:sz (max (abQ x) (abQ y))≤2048:=by
    by_cases h:abQ x≤abQ y
    · rw[show max (abQ x) (abQ y)=abQ y by grind];exact sy
    · rw[show max (abQ x) (abQ y)=abQ x by grind];exact sx
  have sN:sz (min (abQ x) (abQ y))≤2048:=by
    by_cases h:abQ x≤abQ y
    · rw[show min (abQ x) (abQ y)=abQ x by grind];exact sx
    · rw[show min (abQ x) (abQ y)=abQ y by grind];exact sy
  have s0:sz (0:Rat)≤2048:=by decide
  have eX:odiv ((max (abQ x) (abQ y)).num.natAbs*2^w) (max (abQ x) (abQ y)).den false=csX x y w:=by rw[←csX_g];unfold glo;rfl
  obtain⟨n0,n1⟩:=csN_g (x:=x) (y:=y) (w:=w)
  have e0:x≤0∧0≤y→odiv ((0:Rat).num.natAbs*2^w) (0:Rat).den false=csN x y w:=fun h=>by
    rw[n0 h,show(0:Rat).num.natAbs=0 from rfl,Nat.zero_mul];exact Nat.zero_div _
  have e1:¬(x≤0∧0≤y)→odiv ((min (abQ x) (abQ y)).num.natAbs*2^w) (min (abQ x) (abQ y)).den false=csN x y w:=fun h=>by rw[←n1 h];unfold glo;rfl
  have lX:csX x y w≤2^w:=by unfold csX;omega
  have lN:csN x y w≤2^w:=by unfold csN;split<;>omega
  have c1:bl (wvL (csX x y w) w 1)≤w+2:=bl_waV (by decide)
  have c2:bl (wvH (csN x y w) w 1)≤w+2:=bl_waV (by decide)
  have gx:decide (sgn3 x≤0)=decide (x≤0):=by rw[decide_eq_decide];unfold sgn3;grind
  have gy:decide (sgn3 y≥0)=decide (0≤y):=by rw[decide_eq_decide];unfold sgn3;grind
  have lX:=Hid.mk lX
  have lN:=Hid.mk lN
  obtain⟨_,_,_,_,_,_,_,rfl,ha⟩:=ha.sa
  obtain⟨_,_,_,_,_,_,_,rfl,hb⟩:=hb.sa
  clear n0 n1 lx ly bx by_
  generalize csX x y w=CX at*
  generalize csN x y w=CN at*
  generalize abQ x=X at*
  generalize abQ y=Y at*
  have F:=Hid.mk (And.intro sx (And.intro sy (And.intro sM (And.intro sN (And.intro s0 (And.intro c1 c2))))));clear sx sy sM sN s0 c1 c2
  refine Spec.go [(1,.h [] [] [4,5] [4,5,0,2,1,3,6,7])] Tryz.func216 rfl rfl (by kernel_rfl) fun C _=>?_
  try simp(maxSteps:=999999) (disch:=omega) only[go_sem,Nat.reduceBEq,reduceAdd]
  refine caN (by exact kM) ?_;rintro v1 h1 r1 q1;obtain⟨_,_,_,_,_,_,_,rfl,q1⟩:=q1.sa
  try simp(maxSteps:=999999) (disch:=omega) only[go_sem,Nat.reduceBEq,reduceAdd]
  refine caN (by exact kN) ?_;rintro v2 h2 r2 q2;obtain⟨_,_,_,_,_,_,_,rfl,q2⟩:=q2.sa
  try simp(maxSteps:=999999) (disch:=omega) only[go_sem,Nat.reduceBEq,reduceAdd]
  refine caN (by exact RMx_spec (q1.to (h':=h2)) q2 (by have:=F.out;omega) (by have:=F.out;omega)) ?_;rintro v3 h3 r3 q3;obtain⟨_,_,_,_,_,_,_,rfl,q3⟩:=q3.sa
  try simp(maxSteps:=999999) (disch:=omega) only[go_sem,Nat.reduceBEq,reduceAdd]
  refine caN (by exact EH (w:=w) (u:=false) q3 (by have:=F.out;omega) (by have:=F.out;omega)) ?_;rintro _ h4 _ q4;obtain⟨v4,_,_,rfl,q4⟩:=q4.sl
  try simp(maxSteps:=999999) (disch:=omega) only[go_sem,Nat.reduceBEq,reduceAdd]
  rw[eX] at q4
  refine caN (by exact RWaves_spec (f:=1) q4 lX.out (by decide) (by decide) hw (by have:=F.out;omega)) ?_;rintro v5 h5 r5 ⟨_,_,_,_,_,_,rfl,q5,q6⟩
  try simp(maxSteps:=999999) (disch:=omega) only[go_sem,Nat.reduceBEq,reduceAdd]
  refine caN (by exact fD (q1.to (h':=h5)) (q2.to (h':=h5)) (by have:=F.out;omega) (by have:=F.out;omega)) ?_;rintro v7 h7 r7 q7;obtain⟨_,_,_,_,_,_,_,rfl,q7⟩:=q7.sa
  try simp(maxSteps:=999999) (disch:=omega) only[go_sem,Nat.reduceBEq,reduceAdd]
  refine caN (by exact kS) ?_;rintro v8 h9 r8 rfl
  try simp(maxSteps:=999999) (disch:=omega) only[go_sem,Nat.reduceBEq,reduceAdd]
  rcases Classical.em (x≤0) with d1 |d1
  case' inl=>
    have gx:=gx.trans (decide_eq_true d1)
    try simp(maxSteps:=999999) (disch:=omega) only[go_sem,Nat.reduceBEq,reduceAdd,gx]
    refine caN (by exact kT) ?_;rintro v9 h10 r9 rfl
    try simp(maxSteps:=999999) (disch:=omega) only[go_sem,Nat.reduceBEq,reduceAdd]
    by_cases d2:0≤y
    case' pos=>
      have gy:=gy.trans (decide_eq_true d2)
      have e:=e0 ⟨d1,d2⟩
      have qL:=dW h10
      try simp(maxSteps:=999999) (disch:=omega) only[go_sem,Nat.reduceBEq,reduceAdd,gx,gy]
    case' neg=>
      have gy:=gy.trans (decide_eq_false d2)
      have e:=e1 (fun k=>d2 k.2)
      have qL:=q7.to (h':=h10)
      try simp(maxSteps:=999999) (disch:=omega) only[go_sem,Nat.reduceBEq,reduceAdd,gx,gy]
  case' inr=>
    have gx:=gx.trans (decide_eq_false d1)
    have e:=e1 (fun k=>d1 k.1)
    have qL:=q7.to (h':=h9)
    try simp(maxSteps:=999999) (disch:=omega) only[go_sem,Nat.reduceBEq,reduceAdd,gx]
  all_goals
    refine caN (by exact EH (w:=w) (u:=false) qL (by have:=F.out;omega) (by have:=F.out;omega)) ?_;rintro _ h11 _ q11;obtain⟨v11,_,_,rfl,q11⟩:=q11.sl
    try simp(maxSteps:=999999) (disch:=omega) only[go_sem,Nat.reduceBEq,reduceAdd]
    rw[e] at q11
    refine caN (by exact RWaves_spec (f:=1) q11 lN.out (by decide) (by decide) hw (by have:=F.out;omega)) ?_;rintro v12 h12 r12 ⟨_,_,_,_,_,_,rfl,q12,q13⟩
    try simp(maxSteps:=999999) (disch:=omega) only[go_sem,Nat.reduceBEq,reduceAdd]
    refine caN (by exact o9 (w:=w) (show N16 h12 _ (wvL CX w 1) from q5.to) (by have:=F.out;omega) (by have:=F.out;omega)) ?_;rintro v14 h14 r14 q14;obtain⟨_,_,_,_,_,_,_,rfl,q14⟩:=q14.sa
    try simp(maxSteps:=999999) (disch:=omega) only[go_sem,Nat.reduceBEq,reduceAdd]
    refine caN (by exact o9 (w:=w) (show N16 h14 _ (wvH CN w 1) from q13.to) (by have:=F.out;omega) (by have:=F.out;omega)) ?_;rintro v15 h15 r15 q15;obtain⟨_,_,_,_,_,_,_,rfl,q15⟩:=q15.sa
    try simp(maxSteps:=999999) (disch:=omega) only[go_sem,Nat.reduceBEq,reduceAdd]
    exact⟨_,_,_,_,_,_,_,_,_,_,_,_,_,_,rfl,q14.to,q15⟩
def Q3 (h:PH) (r:Value) (x y z:Rat):Prop:=∃b1 a1 m1 c1 a2 m2 c2 b2 a3 m3 c3 a4 m4 c4 b3 a5 m5 c5 a6 m6 c6,r=.tuple #[.agg #[.bool b1,.slice a1 m1 c1,.slice a2 m2 c2],.agg #[.bool b2,.slice a3 m3 c3,.slice a4 m4 c4],.agg #[.bool b3,.slice a5 m5 c5,.slice a6 m6 c6]]∧Qr h (.agg #[.bool b1,.slice a1 m1 c1,.slice a2 m2 c2]) x∧Qr h (.agg #[.bool b2,.slice a3 m3 c3,.slice a4 m4 c4]) y∧Qr h (.agg #[.bool b3,.slice a5 m5 c5,.slice a6 m6 c6]) z
theorem Fh {w:Nat} (h2:w≤192):sz (fW w)≤400∧sz (gW w)≤400:=by
  obtain⟨b1,b2⟩:=fW_sz (w:=w)
  omega
theorem DQ (z:Int):decide (sgn3 (z:Rat) < 0)=decide (z < 0):=by
  have:(z:Rat) < 0↔z < 0:=by
    have:=@Rat.intCast_lt_intCast z 0
    simpa using this
  rw[decide_eq_decide]
  unfold sgn3
  grind
theorem xf {h0 h:PH} [Le h0 h] {v:Value} {x:Rat} {w:Nat} (hx:Qr h0 v x) (bx:sz x≤2048) (h1:64≤w) (h2:w≤192):Spec mach 214 #[v,.int .i64 w] h (fun r h'=>Q3 h' r (rsK x w:Rat) (rsA x w) (rsB x w)) NP:=by
  obtain⟨bf,bg⟩:=Fh h2
  have kQ:=fun {h}=>rr (h:=h) (w:=w) (by omega) h2
  have ef:sgn false (piL w) (2^(w+1))=fW w:=rfl
  have eg:sgn false (piH w) (2^(w+1))=gW w:=rfl
  rw[ef,eg] at kQ
  have ek:(x / fW w+1 / ((2:Nat):Rat)).floor=rsK x w:=rfl
  have eA:gdown (x - (rsK x w:Rat)*(if rsK x w < 0 then fW w else gW w)) w=rsA x w:=by unfold rsA;rw[Rat.sub_eq_add_neg]
  have eB:gup (x - (rsK x w:Rat)*(if rsK x w < 0 then gW w else fW w)) w=rsB x w:=by unfold rsB;rw[Rat.sub_eq_add_neg]
  have b1:sz (x / fW w)≤4096:=by
    rw[Rat.div_def]
    have:=bV x (fW w)⁻¹
    have:=iQ (fW w)
    omega
  have b2:sz (1 / ((2:Nat):Rat))≤4096:=by decide+kernel
  have b3:=dA (x / fW w) (1 / ((2:Nat):Rat))
  have b4:=oz (x / fW w+1 / ((2:Nat):Rat))
  rw[ek] at b4
  have b5:=bV (rsK x w:Rat) (fW w)
  have b6:=bV (rsK x w:Rat) (gW w)
  have b7:=BS x ((rsK x w:Rat)*fW w)
  have b8:=BS x ((rsK x w:Rat)*gW w)
  have c1:sz (x / fW w+1 / ((2:Nat):Rat))≤16384:=by omega
  have c2:sz (rsK x w:Rat)≤16384:=by omega
  have c5:sz ((rsK x w:Rat)*fW w)≤65536:=by omega
  have c6:sz ((rsK x w:Rat)*gW w)≤65536:=by omega
  have c7:sz (x - (rsK x w:Rat)*fW w)≤131072:=by omega
  have c8:sz (x - (rsK x w:Rat)*gW w)≤131072:=by omega
  have es:=DQ (rsK x w)
  clear b3 b4 b5 b6 b7 b8 ef eg
  generalize rsK x w=k at*
  generalize rsA x w=A at*
  generalize rsB x w=B at*
  generalize fW w=f at*
  generalize gW w=g at*
  have w3:w≤2^30:=by omega
  obtain⟨_,_,_,_,_,_,_,rfl,hx⟩:=hx.sa
  by_cases hk:k < 0
  · rw[if_pos hk] at eA eB
    rw[decide_eq_true hk] at es
    refine Spec.go [(5,.h [] [] [7] [7,0,1,2,5,3,4,6,8]),(6,.h [] [] [7] [7,0,1,2,5,3,4,6,8]),(7,.h [(10,4),(11,4),(11,5)] [] [] [0,1,2,3,4,5])] Tryz.func214 rfl rfl (by kernel_rfl) fun C _=>?_
    try simp(maxSteps:=999999) (disch:=omega) only[go_sem,Nat.reduceBEq,reduceAdd]
    refine caN (by exact kQ) ?_;rintro v1 g1 s1 ⟨_,_,_,_,_,_,_,_,_,_,_,_,_,_,rfl,qf,qg⟩
    try simp(maxSteps:=999999) (disch:=omega) only[go_sem,Nat.reduceBEq,reduceAdd]
    refine caN (by exact cU (hx.to (h':=g1)) qf (Nat.le_trans bx (by decide)) (Nat.le_trans bf (by decide))) ?_;rintro v2 g2 s2 q2;obtain⟨_,_,_,_,_,_,_,rfl,q2⟩:=q2.sa
    try simp(maxSteps:=999999) (disch:=omega) only[go_sem,Nat.reduceBEq,reduceAdd]
    refine caN (by exact jN (n:=2) (by decide)) ?_;rintro v3 g3 s3 q3;obtain⟨_,_,_,_,_,_,_,rfl,q3⟩:=q3.sa
    try simp(maxSteps:=999999) (disch:=omega) only[go_sem,Nat.reduceBEq,reduceAdd]
    refine caN (by exact aW (q2.to (h':=g3)) q3 (Nat.le_trans b1 (by decide)) (Nat.le_trans b2 (by decide))) ?_;rintro v4 g4 s4 q4;obtain⟨_,_,_,_,_,_,_,rfl,q4⟩:=q4.sa
    try simp(maxSteps:=999999) (disch:=omega) only[go_sem,Nat.reduceBEq,reduceAdd]
    refine caN (by exact ko q4 (Nat.le_trans c1 (by decide))) ?_;rintro v5 g5 s5 q5;rw[ek] at q5;obtain⟨_,_,_,_,_,_,_,rfl,q5⟩:=q5.sa
    try simp(maxSteps:=999999) (disch:=omega) only[go_sem,Nat.reduceBEq,reduceAdd]
    refine caN (by exact bS q5) ?_;rintro v6 g6 s6 rfl
    try simp(maxSteps:=999999) (disch:=omega) only[go_sem,Nat.reduceBEq,reduceAdd,es]
    refine caN (by exact aY (q5.to (h':=g6)) (qf.to (h':=g6)) (Nat.le_trans c2 (by decide)) (Nat.le_trans bf (by decide))) ?_;rintro v7 g7 s7 q7;obtain⟨_,_,_,_,_,_,_,rfl,q7⟩:=q7.sa
    try simp(maxSteps:=999999) (disch:=omega) only[go_sem,Nat.reduceBEq,reduceAdd]
    refine caN (by exact cR (hx.to (h':=g7)) q7 (Nat.le_trans bx (by decide)) (Nat.le_trans c5 (by decide))) ?_;rintro v8 g8 s8 q8;obtain⟨_,_,_,_,_,_,_,rfl,q8⟩:=q8.sa
    try simp(maxSteps:=999999) (disch:=omega) only[go_sem,Nat.reduceBEq,reduceAdd]
    refine caN (by exact j9 q8 (Nat.le_trans c7 (by decide)) w3) ?_;rintro v9 g9 s9 q9;rw[eA] at q9;obtain⟨_,_,_,_,_,_,_,rfl,q9⟩:=q9.sa
    try simp(maxSteps:=999999) (disch:=omega) only[go_sem,Nat.reduceBEq,reduceAdd]
    refine caN (by exact aY (q5.to (h':=g9)) (qg.to (h':=g9)) (Nat.le_trans c2 (by decide)) (Nat.le_trans bg (by decide))) ?_;rintro v10 g10 s10 q10;obtain⟨_,_,_,_,_,_,_,rfl,q10⟩:=q10.sa
    try simp(maxSteps:=999999) (disch:=omega) only[go_sem,Nat.reduceBEq,reduceAdd]
    refine caN (by exact cR (hx.to (h':=g10)) q10 (Nat.le_trans bx (by decide)) (Nat.le_trans c6 (by decide))) ?_;rintro v11 g11 s11 q11;obtain⟨_,_,_,_,_,_,_,rfl,q11⟩:=q11.sa
    try simp(maxSteps:=999999) (disch:=omega) only[go_sem,Nat.reduceBEq,reduceAdd]
    refine caN (by exact np q11 (Nat.le_trans c8 (by decide)) w3) ?_;rintro v12 g12 s12 q12;rw[eB] at q12;obtain⟨_,_,_,_,_,_,_,rfl,q12⟩:=q12.sa
    try simp(maxSteps:=999999) (disch:=omega) only[go_sem,Nat.reduceBEq,reduceAdd]
    exact⟨_,_,_,_,_,_,_,_,_,_,_,_,_,_,_,_,_,_,_,_,_,rfl,q5.to,q9.to,q12⟩
  · rw[if_neg hk] at eA eB
    rw[decide_eq_false hk] at es
    refine Spec.go [(5,.h [] [] [7] [7,0,1,2,5,3,4,6,8]),(6,.h [] [] [7] [7,0,1,2,5,3,4,6,8]),(7,.h [(10,4),(11,4),(11,5)] [] [] [0,1,2,3,4,5])] Tryz.func214 rfl rfl (by kernel_rfl) fun C _=>?_
    try simp(maxSteps:=999999) (disch:=omega) only[go_sem,Nat.reduceBEq,reduceAdd]
    refine caN (by exact kQ) ?_;rintro v1 g1 s1 ⟨_,_,_,_,_,_,_,_,_,_,_,_,_,_,rfl,qf,qg⟩
    try simp(maxSteps:=999999) (disch:=omega) only[go_sem,Nat.reduceBEq,reduceAdd]
    refine caN (by exact cU (hx.to (h':=g1)) qf (Nat.le_trans bx (by decide)) (Nat.le_trans bf (by decide))) ?_;rintro v2 g2 s2 q2;obtain⟨_,_,_,_,_,_,_,rfl,q2⟩:=q2.sa
    try simp(maxSteps:=999999) (disch:=omega) only[go_sem,Nat.reduceBEq,reduceAdd]
    refine caN (by exact jN (n:=2) (by decide)) ?_;rintro v3 g3 s3 q3;obtain⟨_,_,_,_,_,_,_,rfl,q3⟩:=q3.sa
    try simp(maxSteps:=999999) (disch:=omega) only[go_sem,Nat.reduceBEq,reduceAdd]
    refine caN (by exact aW (q2.to (h':=g3)) q3 (Nat.le_trans b1 (by decide)) (Nat.le_trans b2 (by decide))) ?_;rintro v4 g4 s4 q4;obtain⟨_,_,_,_,_,_,_,rfl,q4⟩:=q4.sa
    try simp(maxSteps:=999999) (disch:=omega) only[go_sem,Nat.reduceBEq,reduceAdd]
    refine caN (by exact ko q4 (Nat.le_trans c1 (by decide))) ?_;rintro v5 g5 s5 q5;rw[ek] at q5;obtain⟨_,_,_,_,_,_,_,rfl,q5⟩:=q5.sa
    try simp(maxSteps:=999999) (disch:=omega) only[go_sem,Nat.reduceBEq,reduceAdd]
    refine caN (by exact bS q5) ?_;rintro v6 g6 s6 rfl
    try simp(maxSteps:=999999) (disch:=omega) only[go_sem,Nat.reduceBEq,reduceAdd,es]
    refine caN (by exact aY (q5.to (h':=g6)) (qg.to (h':=g6)) (Nat.le_trans c2 (by decide)) (Nat.le_trans bg (by decide))) ?_;rintro v7 g7 s7 q7;obtain⟨_,_,_,_,_,_,_,rfl,q7⟩:=q7.sa
    try simp(maxSteps:=999999) (disch:=omega) only[go_sem,Nat.reduceBEq,reduceAdd]
    refine caN (by exact cR (hx.to (h':=g7)) q7 (Nat.le_trans bx (by decide)) (Nat.le_trans c6 (by decide))) ?_;rintro v8 g8 s8 q8;obtain⟨_,_,_,_,_,_,_,rfl,q8⟩:=q8.sa
    try simp(maxSteps:=999999) (disch:=omega) only[go_sem,Nat.reduceBEq,reduceAdd]
    refine caN (by exact j9 q8 (Nat.le_trans c8 (by decide)) w3) ?_;rintro v9 g9 s9 q9;rw[eA] at q9;obtain⟨_,_,_,_,_,_,_,rfl,q9⟩:=q9.sa
    try simp(maxSteps:=999999) (disch:=omega) only[go_sem,Nat.reduceBEq,reduceAdd]
    refine caN (by exact aY (q5.to (h':=g9)) (qf.to (h':=g9)) (Nat.le_trans c2 (by decide)) (Nat.le_trans bf (by decide))) ?_;rintro v10 g10 s10 q10;obtain⟨_,_,_,_,_,_,_,rfl,q10⟩:=q10.sa
    try simp(maxSteps:=999999) (disch:=omega) only[go_sem,Nat.reduceBEq,reduceAdd]
    refine caN (by exact cR (hx.to (h':=g10)) q10 (Nat.le_trans bx (by decide)) (Nat.le_trans c5 (by decide))) ?_;rintro v11 g11 s11 q11;obtain⟨_,_,_,_,_,_,_,rfl,q11⟩:=q11.sa
    try simp(maxSteps:=999999) (disch:=omega) only[go_sem,Nat.reduceBEq,reduceAdd]
    refine caN (by exact np q11 (Nat.le_trans c7 (by decide)) w3) ?_;rintro v12 g12 s12 q12;rw[eB] at q12;obtain⟨_,_,_,_,_,_,_,rfl,q12⟩:=q12.sa
    try simp(maxSteps:=999999) (disch:=omega) only[go_sem,Nat.reduceBEq,reduceAdd]
    exact⟨_,_,_,_,_,_,_,_,_,_,_,_,_,_,_,_,_,_,_,_,_,rfl,q5.to,q9.to,q12⟩
set_option maxHeartbeats 16000000
theorem val_drop {xs:List Nat} {j:Nat} (hj:j < xs.length):val 65536 (xs.drop j)=val 65536 (xs.drop (j+1))*65536+xs.getD j 0:=by
  rw[List.drop_eq_getElem_cons hj]
  have e:xs.getD j 0=xs[j]:=by simp[hj]
  rw[e]
  show xs[j]+65536*val 65536 (xs.drop (j+1))=_
  omega
theorem Eb (xs:List Nat):∀j,val 65536 (xs.drop j)≤val 65536 xs:=by
  intro j
  have h:=dD 65536 (xs.take j) (xs.drop j)
  rw[List.take_append_drop] at h
  have:1*val 65536 (xs.drop j)≤65536^(xs.take j).length*val 65536 (xs.drop j):=Nat.mul_le_mul_right _ (Nat.pow_pos (by decide))
  omega
theorem CJ {h0 h:PH} [Le h0 h] {v:Value} {z:Int} (hx:Qr h0 v (z:Rat)) (hz:z.natAbs < 4294967296):Spec mach 217 #[v] h (fun r _=>r=.tuple #[.int .i64 z,.bool true]) NP:=by
  have kW:=fun {h} [Le h0 h]=>sC (h:=h) hx
  have ed:((z:Rat)).den=1:=Rat.den_intCast z
  have en:((z:Rat)).num=z:=Rat.num_intCast z
  rw[ed] at kW
  obtain⟨na,nl,nc,da,dl,dc,e,rfl,k1,k2,k3⟩:=hx.sl
  rw[en] at k1 kW ⊢
  have bl1:bl z.natAbs≤32:=bl_le.2 hz
  have kB:=fun {h} [Le h0 h]=>mv (h:=h) k1 (by omega)
  obtain⟨a,c,xs,ex,ha,_,hm,hlt⟩:=k1.out
  cases ex
  obtain⟨m,em⟩:∃m,z.natAbs=m:=⟨_,rfl⟩
  rw[em] at hz hm kB bl1
  have ez:z=(if decide (z < 0)=true then -(m:Int) else (m:Int)):=by
    by_cases hn:z < 0
    · rw[decide_eq_true hn,if_pos rfl];omega
    · rw[decide_eq_false hn,if_neg (by decide)];omega
  generalize decide (z < 0)=s at ez kW ⊢
  rw[ez]
  have hb:=ha.cap
  have hsm:=ha.small
  have bl1:=Hid.mk bl1
  have b62:decide (((bl m:Nat):Int) > 62)=false:=decide_eq_false (by have:=bl1.out;omega)
  clear ez em en ed hx k1 k3
  refine Spec.go [] Tryz.func217 rfl rfl (by kernel_rfl) fun C _=>?_
  try simp(disch:=omega) only[go_sem,Nat.reduceBEq,reduceAdd]
  refine caN (by exact kW) ?_;rintro v1 h1 s1 rfl
  try simp(disch:=omega) only[go_sem,Nat.reduceBEq,reduceAdd,decide_true]
  refine caN (by exact kB) ?_;rintro v2 h2 s2 rfl
  try simp(disch:=omega) only[go_sem,Nat.reduceBEq,reduceAdd,b62]
  refine lp [] (fun k:Nat=>⟨[(1,.p 0 0),(4,.v (.int .i64 (val 65536 (xs.drop k):Nat))),(5,.v (.int .i64 ((k:Int) - 1)))],[[.bool s,.slice na xs.length nc,.slice da dl dc]]⟩) (fun k h'=>Le h0 h'∧k≤xs.length) id xs.length ?_ ⟨inferInstance,Nat.le_refl _⟩ (by kernel_rfl) ?_
  · try simp(disch:=omega) only[go_sem,Nat.reduceBEq,reduceAdd]
    all_goals (rw[List.drop_length];first |rfl |exact⟨rfl,by rw[wi64 (by omega) (by omega)]⟩)
  · rintro k h3 ⟨le3,hk⟩
    cases k with
    | zero=>
      rw[List.drop_zero,hm]
      cases s
      all_goals (try simp(disch:=omega) only[go_sem,Nat.reduceBEq,reduceAdd,Int.zero_sub])
      all_goals rfl
    | succ j=>
      obtain⟨ad,rfl,hat⟩:=ha.rd h3 (i:=j) (by omega)
      have v1':=val_drop (xs:=xs) (j:=j) (by omega)
      have v2':=Eb xs j
      have v3':=aM (B:=65536) (by decide) hlt j
      generalize xs.getD j 0=d at*
      generalize val 65536 (xs.drop (j+1))=n at*
      rw[hm] at v2'
      rw[v1'] at v2'
      try simp(disch:=omega) only[go_sem,Nat.reduceBEq,reduceAdd]
      refine aE hat ?_
      try simp(disch:=omega) only[go_sem,Nat.reduceBEq,reduceAdd]
      dsimp only[lpE];refine⟨j,?_,⟨le3,by omega⟩,by show j < j+1;omega⟩
      try simp(disch:=omega) only[go_sem,Nat.reduceBEq,reduceAdd]
      all_goals rw[v1']
      all_goals (first |rfl |exact⟨rfl,by rw[wi64 (by omega) (by omega)]⟩)
def tnL (q:Int) (c d m n:Rat):Rat:=if q=1 then m else if q=2 then -d else if q=3 then -n else c
def tnH (q:Int) (c d m n:Rat):Rat:=if q=1 then n else if q=2 then -c else if q=3 then -m else d
theorem RTurn_spec {h0 h:PH} [Le h0 h] {vc vd vm vn:Value} {c d m n:Rat} {q:Int} (hc:Qr h0 vc c) (hd:Qr h0 vd d) (hm:Qr h0 vm m) (hn:Qr h0 vn n):Spec mach 220 #[.int .i64 q,vc,vd,vm,vn] h (fun r h'=>Qp h' r (tnL q c d m n) (tnH q c d m n)) NP:=by
  have kC:=fun {h} [Le h0 h]=>bK (h:=h) hc
  have kD:=fun {h} [Le h0 h]=>bK (h:=h) hd
  have kM:=fun {h} [Le h0 h]=>bK (h:=h) hm
  have kN:=fun {h} [Le h0 h]=>bK (h:=h) hn
  obtain⟨_,_,_,_,_,_,_,rfl,hc⟩:=hc.sa
  obtain⟨_,_,_,_,_,_,_,rfl,hd⟩:=hd.sa
  obtain⟨_,_,_,_,_,_,_,rfl,hm⟩:=hm.sa
  obtain⟨_,_,_,_,_,_,_,rfl,hn⟩:=hn.sa
  have b:∀z:Int,(q == z)=decide (q=z):=fun z=>by rw[Bool.eq_iff_iff];simp
  unfold tnL tnH
  by_cases e1:q=1
  · subst e1
    rw[if_pos rfl,if_pos rfl]
    refine Spec.go [(3,.h [(9,10)] [] [] [0,1,2,3]),(5,.o [0,2,1,3,4,5]),(7,.o [0,2,1,3,4,5]),(8,.h [(7,10)] [] [] [0,1,2,3])] Tryz.func220 rfl rfl (by kernel_rfl) fun C _=>?_
    try simp(maxSteps:=999999) (disch:=omega) only[go_sem,Nat.reduceBEq,reduceAdd]
    exact⟨_,_,_,_,_,_,_,_,_,_,_,_,_,_,rfl,hm.to,hn.to⟩
  by_cases e2:q=2
  · subst e2
    rw[if_neg e1,if_pos rfl,if_neg e1,if_pos rfl]
    refine Spec.go [(3,.h [(9,10)] [] [] [0,1,2,3]),(5,.o [0,2,1,3,4,5]),(7,.o [0,2,1,3,4,5]),(8,.h [(7,10)] [] [] [0,1,2,3])] Tryz.func220 rfl rfl (by kernel_rfl) fun C _=>?_
    try simp(maxSteps:=999999) (disch:=omega) only[go_sem,Nat.reduceBEq,reduceAdd]
    refine caN (by exact kD) ?_;rintro v1 h1 r1 q1;obtain⟨_,_,_,_,_,_,_,rfl,q1⟩:=q1.sa
    try simp(maxSteps:=999999) (disch:=omega) only[go_sem,Nat.reduceBEq,reduceAdd]
    refine caN (by exact kC) ?_;rintro v2 h2 r2 q2;obtain⟨_,_,_,_,_,_,_,rfl,q2⟩:=q2.sa
    try simp(maxSteps:=999999) (disch:=omega) only[go_sem,Nat.reduceBEq,reduceAdd]
    exact⟨_,_,_,_,_,_,_,_,_,_,_,_,_,_,rfl,q1.to,q2⟩
  by_cases e3:q=3
  · subst e3
    rw[if_neg e1,if_neg e2,if_pos rfl,if_neg e1,if_neg e2,if_pos rfl]
    refine Spec.go [(3,.h [(9,10)] [] [] [0,1,2,3]),(5,.o [0,2,1,3,4,5]),(7,.o [0,2,1,3,4,5]),(8,.h [(7,10)] [] [] [0,1,2,3])] Tryz.func220 rfl rfl (by kernel_rfl) fun C _=>?_
    try simp(maxSteps:=999999) (disch:=omega) only[go_sem,Nat.reduceBEq,reduceAdd]
    refine caN (by exact kN) ?_;rintro v1 h1 r1 q1;obtain⟨_,_,_,_,_,_,_,rfl,q1⟩:=q1.sa
    try simp(maxSteps:=999999) (disch:=omega) only[go_sem,Nat.reduceBEq,reduceAdd]
    refine caN (by exact kM) ?_;rintro v2 h2 r2 q2;obtain⟨_,_,_,_,_,_,_,rfl,q2⟩:=q2.sa
    try simp(maxSteps:=999999) (disch:=omega) only[go_sem,Nat.reduceBEq,reduceAdd]
    exact⟨_,_,_,_,_,_,_,_,_,_,_,_,_,_,rfl,q1.to,q2⟩
  · have f1:=(b 1).trans (decide_eq_false e1)
    have f2:=(b 2).trans (decide_eq_false e2)
    have f3:=(b 3).trans (decide_eq_false e3)
    rw[if_neg e1,if_neg e2,if_neg e3,if_neg e1,if_neg e2,if_neg e3]
    refine Spec.go [(3,.h [(9,10)] [] [] [0,1,2,3]),(5,.o [0,2,1,3,4,5]),(7,.o [0,2,1,3,4,5]),(8,.h [(7,10)] [] [] [0,1,2,3])] Tryz.func220 rfl rfl (by kernel_rfl) fun C _=>?_
    try simp(maxSteps:=999999) (disch:=omega) only[go_sem,Nat.reduceBEq,reduceAdd,f1,f2,f3]
    exact⟨_,_,_,_,_,_,_,_,_,_,_,_,_,_,rfl,hc.to,hd.to⟩
def Qw (h:PH) (r:Value) (x y z u:Rat):Prop:=∃b1 a1 m1 c1 a2 m2 c2 b2 a3 m3 c3 a4 m4 c4 b3 a5 m5 c5 a6 m6 c6 b4 a7 m7 c7 a8 m8 c8,r=.tuple #[.agg #[.bool b1,.slice a1 m1 c1,.slice a2 m2 c2],.agg #[.bool b2,.slice a3 m3 c3,.slice a4 m4 c4],.agg #[.bool b3,.slice a5 m5 c5,.slice a6 m6 c6],.agg #[.bool b4,.slice a7 m7 c7,.slice a8 m8 c8]]∧Qr h (.agg #[.bool b1,.slice a1 m1 c1,.slice a2 m2 c2]) x∧Qr h (.agg #[.bool b2,.slice a3 m3 c3,.slice a4 m4 c4]) y∧Qr h (.agg #[.bool b3,.slice a5 m5 c5,.slice a6 m6 c6]) z∧Qr h (.agg #[.bool b4,.slice a7 m7 c7,.slice a8 m8 c8]) u
theorem mod_q (k:Int):(k:Rat) - ((4:Int):Rat)*((((k:Rat) / ((4:Int):Rat)).floor:Int):Rat)=((k % 4:Int):Rat):=by
  have e:(k:Rat) / ((4:Int):Rat)=mkRat k 4:=by rw[Rat.mkRat_eq_div];rfl
  rw[e,pW _ (by decide),←Rat.intCast_mul,←Rat.intCast_sub]
  congr 1
  have:=Int.mul_ediv_add_emod k 4
  show k - 4*(k / ((4:Nat):Int))=_
  omega
theorem RWv_spec {h0 h:PH} [Le h0 h] {v:Value} {x:Rat} {w:Nat} (hx:Qr h0 v x) (bx:sz x≤1024) (hb:¬x.den*4294967296 < x.num.natAbs) (h1:64≤w) (h2:w≤192):Spec mach 153 #[v,.int .i64 w] h (fun r h'=>Qw h' r (siL x w) (siH x w) (coL x w) (coH x w)) NP:=by
  have kR:=fun {h} [Le h0 h]=>xf (h:=h) (w:=w) hx (Nat.le_trans bx (by decide)) h1 h2
  obtain⟨g1,g2⟩:=uP (w:=w) h1 h2 hb
  have z1:sz ((rsK x w:Int):Rat)≤2^20:=by
    have:=oz (x*(fW w)⁻¹+1 / 2)
    have:=dA (x*(fW w)⁻¹) (1 / 2)
    have:=bV x (fW w)⁻¹
    have:=iQ (fW w)
    have:=(Fh (w:=w) h2).1
    have:sz (1 / 2:Rat)≤64:=by decide+kernel
    unfold rsK
    omega
  obtain⟨z2,z3⟩:=rs_sz bx hb h1 h2
  have o4:sz ((4:Int):Rat)≤8:=by decide
  have m1:=bV ((rsK x w:Int):Rat) (((4:Int):Rat))⁻¹
  have m2:=iQ ((4:Int):Rat)
  rw[←Rat.div_def] at m1
  have m3:=oz (((rsK x w:Int):Rat) / ((4:Int):Rat))
  have m4:=bV ((4:Int):Rat) ((((((rsK x w:Int):Rat) / ((4:Int):Rat)).floor:Int)):Rat)
  have kS:=fun {h0 h:PH} {va vb:Value} [Le h0 h] (a:Qr h0 va (rsA x w)) (b:Qr h0 vb (rsB x w))=>RSine_spec (h:=h) a b z2 z3 g1 g2 (by omega) (by omega)
  have kC:=fun {h0 h:PH} {va vb:Value} [Le h0 h] (a:Qr h0 va (rsA x w)) (b:Qr h0 vb (rsB x w))=>RCosine_spec (h:=h) a b z2 z3 g1 g2 (by omega) (by omega)
  rw[show snAt (rsA x w) w true=snl x w from rfl,show snAt (rsB x w) w false=snh x w from rfl] at kS
  rw[show sgn false (wvL (csX (rsA x w) (rsB x w) w) w 1) (2^w)=csl x w from rfl,show sgn false (wvH (csN (rsA x w) (rsB x w) w) w 1) (2^w)=csh x w from rfl] at kC
  have mq:=mod_q (rsK x w)
  have kI:=fun {h}=>aF (h:=h) (n:=4) (by decide) (by decide)
  have r4:0≤rsK x w % 4∧rsK x w % 4≤3:=by omega
  have tA:siL x w=tnL (rsK x w % 4) (snl x w) (snh x w) (csl x w) (csh x w)∧siH x w=tnH (rsK x w % 4) (snl x w) (snh x w) (csl x w) (csh x w):=⟨rfl,rfl⟩
  have tB:coL x w=tnL ((rsK x w % 4+1) % 4) (snl x w) (snh x w) (csl x w) (csh x w)∧coH x w=tnH ((rsK x w % 4+1) % 4) (snl x w) (snh x w) (csl x w) (csh x w):=by
    unfold coL coH tnL tnH
    generalize rsK x w % 4=k at*
    have k4:k=0∨k=1∨k=2∨k=3:=by omega
    rcases k4 with rfl |rfl |rfl |rfl<;>exact⟨by simp,by simp⟩
  rw[tA.1,tA.2,tB.1,tB.2]
  obtain⟨_,_,_,_,_,_,_,rfl,hx⟩:=hx.sa
  clear tA tB g1 g2 hb
  generalize snl x w=A at*
  generalize snh x w=B at*
  generalize csl x w=C at*
  generalize csh x w=D at*
  generalize rsA x w=a at*
  generalize rsB x w=b at*
  generalize rsK x w=k at*
  have F:=Hid.mk (And.intro z1 (And.intro z2 (And.intro z3 (And.intro o4 (And.intro m1 (And.intro m2 (And.intro m3 (And.intro m4 bx))))))));clear z1 z2 z3 o4 m1 m2 m3 m4 bx
  refine Spec.go [(4,.o [0,2,1,3,4,5,6,7,8,9,10,11,12,13]),(7,.h [(18,4),(19,4),(19,5),(20,4),(20,5),(20,6)] [] [] [0,1,2,3,4,5,6,7])] Tryz.func153 rfl rfl (by kernel_rfl) fun C _=>?_
  try simp(maxSteps:=999999) (disch:=omega) only[go_sem,Nat.reduceBEq,reduceAdd]
  refine caN (by exact kR) ?_;rintro v1 h1 s1 ⟨_,_,_,_,_,_,_,_,_,_,_,_,_,_,_,_,_,_,_,_,_,rfl,q1,q2,q3⟩
  try simp(maxSteps:=999999) (disch:=omega) only[go_sem,Nat.reduceBEq,reduceAdd]
  refine caN (by exact kS q2 q3) ?_;rintro v4 h4 s4 ⟨_,_,_,_,_,_,_,_,_,_,_,_,_,_,rfl,q4,q5⟩
  try simp(maxSteps:=999999) (disch:=omega) only[go_sem,Nat.reduceBEq,reduceAdd]
  refine caN (by exact kC (q2.to (h':=h4)) (q3.to (h':=h4))) ?_;rintro v6 h6 s6 ⟨_,_,_,_,_,_,_,_,_,_,_,_,_,_,rfl,q6,q7⟩
  try simp(maxSteps:=999999) (disch:=omega) only[go_sem,Nat.reduceBEq,reduceAdd]
  refine caN (by exact kI) ?_;rintro v8 h8 s8 q8;obtain⟨_,_,_,_,_,_,_,rfl,q8⟩:=q8.sa
  try simp(maxSteps:=999999) (disch:=omega) only[go_sem,Nat.reduceBEq,reduceAdd]
  refine caN (by exact kI) ?_;rintro v9 h9 s9 q9;obtain⟨_,_,_,_,_,_,_,rfl,q9⟩:=q9.sa
  try simp(maxSteps:=999999) (disch:=omega) only[go_sem,Nat.reduceBEq,reduceAdd]
  refine caN (by exact cU (q1.to (h':=h9)) q9 (by have:=F.out;omega) (by have:=F.out;omega)) ?_;rintro v10 h10 s10 q10;obtain⟨_,_,_,_,_,_,_,rfl,q10⟩:=q10.sa
  try simp(maxSteps:=999999) (disch:=omega) only[go_sem,Nat.reduceBEq,reduceAdd]
  refine caN (by exact ko q10 (by have:=F.out;omega)) ?_;rintro v11 h11 s11 q11;obtain⟨_,_,_,_,_,_,_,rfl,q11⟩:=q11.sa
  try simp(maxSteps:=999999) (disch:=omega) only[go_sem,Nat.reduceBEq,reduceAdd]
  refine caN (by exact aY (q8.to (h':=h11)) q11 (by have:=F.out;omega) (by have:=F.out;omega)) ?_;rintro v12 h12 s12 q12;obtain⟨_,_,_,_,_,_,_,rfl,q12⟩:=q12.sa
  try simp(maxSteps:=999999) (disch:=omega) only[go_sem,Nat.reduceBEq,reduceAdd]
  refine caN (by exact cR (q1.to (h':=h12)) q12 (by have:=F.out;omega) (by have:=F.out;omega)) ?_;rintro v13 h13 s13 q13;rw[mq] at q13;obtain⟨_,_,_,_,_,_,_,rfl,q13⟩:=q13.sa
  try simp(maxSteps:=999999) (disch:=omega) only[go_sem,Nat.reduceBEq,reduceAdd]
  refine caN (by exact CJ q13 (by have:=F.out;omega)) ?_;rintro v14 h14 s14 rfl
  try simp(maxSteps:=999999) (disch:=omega) only[go_sem,Nat.reduceBEq,reduceAdd]
  refine caN (by exact RTurn_spec (q4.to (h':=h14)) (q5.to (h':=h14)) (q6.to (h':=h14)) (q7.to (h':=h14))) ?_;rintro v15 h15 s15 ⟨_,_,_,_,_,_,_,_,_,_,_,_,_,_,rfl,q15,q16⟩
  try simp(maxSteps:=999999) (disch:=omega) only[go_sem,Nat.reduceBEq,reduceAdd]
  have et:(k % 4+1).tmod 4=(k % 4+1) % 4:=Int.tmod_eq_emod_of_nonneg (by have:=F.out;omega)
  try simp(maxSteps:=999999) (disch:=omega) only[go_sem,Nat.reduceBEq,reduceAdd,et]
  refine caN (by exact RTurn_spec (q:=(k % 4+1) % 4) (q4.to (h':=h15)) (q5.to (h':=h15)) (q6.to (h':=h15)) (q7.to (h':=h15))) ?_;rintro v17 h17 s17 ⟨_,_,_,_,_,_,_,_,_,_,_,_,_,_,rfl,q17,q18⟩
  try simp(maxSteps:=999999) (disch:=omega) only[go_sem,Nat.reduceBEq,reduceAdd]
  exact⟨_,_,_,_,_,_,_,_,_,_,_,_,_,_,_,_,_,_,_,_,_,_,_,_,_,_,_,_,rfl,q15.to,q16.to,q17.to,q18⟩
theorem mD {neg:Bool} {n p k:Nat} (h:bl n≤k) (hp:p+1≤k):sz (sgn neg n (2^p))≤k:=by
  have h1:=dg neg n (am p)
  have h2:=bC p
  omega
theorem bk_sz {neg:Bool} {a b k p m:Nat} (ha:bl a≤m) (hb:bl b≤m) (hp:p≤m):sz (bkL neg a b k p)≤m+1∧sz (bkH neg a b k p)≤m+1:=by
  have h1:=aZ a (2^k)
  have h2:=fy b (am k)
  unfold bkL bkH
  cases neg
  · exact⟨mD (by omega) (by omega),mD (by omega) (by omega)⟩
  · exact⟨mD (by omega) (by omega),mD (by omega) (by omega)⟩
theorem exp_sz {x:Rat} {p:Nat} (hb:¬x.den*64 < x.num.natAbs) (hp:p≤128):sz (expLo x p)≤2048∧sz (expHi x p)≤2048:=by
  obtain⟨f1,f2,f3,f4⟩:=AT (p:=p) hb
  unfold expLo expHi
  generalize expL x p=A at*
  generalize expH x p=B at*
  have u:=bC (p+112+p)
  have h1:=aZ (2^(p+112+p)) B
  have h2:=fy (2^(p+112+p)) f3
  have h3:=aZ A (2^112)
  have h4:=fy B (am 112)
  generalize 2^(p+112+p)=U at*
  generalize U / B=a1 at*
  generalize cdiv U A=a2 at*
  generalize A / 2^112=a3 at*
  generalize cdiv B (2^112)=a4 at*
  constructor<;>split<;>exact mD (by omega) (by omega)
theorem ln_sz {n d p:Nat} (hn:n≠0) (b1:bl n≤1024) (b2:bl d≤1024) (hp:p≤128):sz (lnLo n d p)≤2048∧sz (lnHi n d p)≤2048:=by
  obtain⟨a1,a2,_,_⟩:=Bj b1 b2
  obtain⟨l1,l2⟩:=Bl (n:=n) (d:=d) (w:=p+32) hn
  obtain⟨l3,l4⟩:=Bi (p+32)
  obtain⟨l5,l6⟩:=wh l1 l2
  obtain⟨l7,l8⟩:=wh l3 l4
  have c1:bl (lgmL n d (p+32))≤p+32+8:=lO l5
  have c2:bl (lgmH n d (p+32))≤p+32+8:=lO l6
  have c3:bl (lg2L (p+32))≤p+32+8:=lO l7
  have c4:bl (lg2H (p+32))≤p+32+8:=lO l8
  clear l1 l2 l3 l4 l5 l6 l7 l8
  generalize e1:lgmL n d (p+32)=A at*
  generalize e2:lgmH n d (p+32)=B at*
  generalize e3:lg2L (p+32)=C at*
  generalize e4:lg2H (p+32)=D at*
  by_cases he:0≤lge n d
  · obtain⟨m,hm⟩:∃m:Nat,(lge n d).toNat=m:=⟨_,rfl⟩
    have bm:bl m≤11:=bl_le.2 (by omega)
    have b14:=aG C m
    have b15:=aG D m
    have b16:=cY (C*m) A
    have b17:=cY (D*m) B
    have b18:=aZ (C*m+A) (2^32)
    have b19:=fy (D*m+B) (am 32)
    unfold lnLo lnHi
    rw[if_pos he,if_pos he,hm,e1,e2,e3,e4]
    exact⟨mD (by omega) (by omega),mD (by omega) (by omega)⟩
  · obtain⟨m,hm⟩:∃m:Nat,(0 - lge n d).toNat=m:=⟨_,rfl⟩
    have bm:bl m≤11:=bl_le.2 (by omega)
    have b14:=aG C m
    have b15:=aG D m
    have y1:=qo (a:=A) (b:=D*m) (w:=p+32) (k:=p+52) (by omega) (by omega) (by omega)
    have y2:=qo (a:=B) (b:=C*m) (w:=p+32) (k:=p+52) (by omega) (by omega) (by omega)
    unfold lnLo lnHi
    rw[if_neg he,if_neg he,hm,e1,e2,e3,e4]
    have z1:=sz_gd (sgn false A (2^(p+32))+ -sgn false (D*m) (2^(p+32))) p
    have z2:=sz_gu (sgn false B (2^(p+32))+ -sgn false (C*m) (2^(p+32))) p
    omega
theorem at_sz {x:Rat} {p:Nat} (hp:p≤128):sz (atLo x p)≤2048∧sz (atHi x p)≤2048:=by
  have key:bl (atA x (p+32))≤p+38∧bl (atB x (p+32))≤p+38:=by
    obtain⟨b1,b2⟩:=bl_pi (w:=p+32)
    unfold atA atB
    by_cases hb:x.den < x.num.natAbs
    · rw[if_pos hb,if_pos hb]
      have h1:bl (piL (p+32) - anH (glo (invQ x) (p+32)) (ghi (invQ x) (p+32)) (p+32)*2^1)≤_:=aR (Nat.sub_le _ _)
      have h2:bl (piH (p+32) - anL (glo (invQ x) (p+32)) (ghi (invQ x) (p+32)) (p+32)*2^1)≤_:=aR (Nat.sub_le _ _)
      omega
    · rw[if_neg hb,if_neg hb]
      obtain⟨l1,l2⟩:=g_le (x:=x) (w:=p+32) hb
      obtain⟨m1,m2⟩:=an_le (w:=p+32) (by omega) l1 l2
      have b3:=bl_w3 (by omega) m1
      have b4:=bl_w3 (by omega) m2
      omega
  obtain⟨k1,k2⟩:=bk_sz (neg:=decide (x.num < 0)) (k:=atK x) (p:=p) key.1 key.2 (by omega)
  exact⟨Nat.le_trans k1 (by omega),Nat.le_trans k2 (by omega)⟩
theorem as_sz {x:Rat} {p:Nat} (h:x.num.natAbs≤x.den) (hp:p≤128):sz (fg x p)≤2048∧sz (dM x p)≤2048:=by
  obtain⟨b1,b2⟩:=bl_as (w:=p+32) (by omega) h
  obtain⟨k1,k2⟩:=bk_sz (neg:=decide (x.num < 0)) (k:=32) (p:=p) b1 b2 (by omega)
  exact⟨Nat.le_trans k1 (by omega),Nat.le_trans k2 (by omega)⟩
theorem ac_sz {x:Rat} {p:Nat} (h:x.num.natAbs≤x.den) (hp:p≤128):sz (acLo x p)≤2048∧sz (acHi x p)≤2048:=by
  obtain⟨b1,b2⟩:=bl_as (w:=p+32) (by omega) h
  obtain⟨b3,b4⟩:=bl_pi (w:=p+32)
  have b5:=cu (asL x (p+32)) 1
  have b6:=cu (asU x (p+32)) 1
  unfold acLo acHi
  by_cases h0:x=0
  · rw[if_pos h0,if_pos h0]
    obtain⟨k1,k2⟩:=bk_sz (neg:=false) (k:=33) (p:=p) b3 b4 (by omega)
    exact⟨Nat.le_trans k1 (by omega),Nat.le_trans k2 (by omega)⟩
  · rw[if_neg h0,if_neg h0]
    by_cases hs:x.num < 0
    · rw[if_pos hs,if_pos hs]
      have b9:=cY (piL (p+32)) (asL x (p+32)*2^1)
      have b10:=cY (piH (p+32)) (asU x (p+32)*2^1)
      obtain⟨k1,k2⟩:=bk_sz (neg:=false) (k:=33) (p:=p) (m:=p+50) (show bl (piL (p+32)+asL x (p+32)*2^1)≤p+50 by omega) (show bl (piH (p+32)+asU x (p+32)*2^1)≤p+50 by omega) (by omega)
      exact⟨Nat.le_trans k1 (by omega),Nat.le_trans k2 (by omega)⟩
    · rw[if_neg hs,if_neg hs]
      have y1:=qo (a:=piL (p+32)) (b:=asU x (p+32)*2^1) (w:=p+32+1) (k:=p+52) (by omega) (by omega) (by omega)
      have y2:=qo (a:=piH (p+32)) (b:=asL x (p+32)*2^1) (w:=p+32+1) (k:=p+52) (by omega) (by omega) (by omega)
      have z1:=sz_gd (sgn false (piL (p+32)) (2^(p+32+1))+ -sgn false (asU x (p+32)*2^1) (2^(p+32+1))) p
      have z2:=sz_gu (sgn false (piH (p+32)) (2^(p+32+1))+ -sgn false (asL x (p+32)*2^1) (2^(p+32+1))) p
      omega
theorem g_sz {x y:Rat} {p k:Nat} (h1:sz x≤k) (h2:sz y≤k) (hk:k+2*p+2≤2048):sz (gdown x p)≤2048∧sz (gup y p)≤2048:=by
  have z1:=sz_gd x p
  have z2:=sz_gu y p
  omega
theorem ser_sz {fn:Int} {x:Rat} {p:Int} (he:eErr fn x p=0) (hb:exB fn x=false):sz (serL fn x p.toNat)≤2048∧sz (serH fn x p.toNat)≤2048:=by
  obtain⟨hf,p0,p1,hd,bx,k1,k2⟩:=dw he
  have hp:p.toNat≤128:=by omega
  generalize p.toNat=q at*
  unfold serL serH
  by_cases h1:fn=1
  · subst h1;exact exp_sz (k1 rfl) hp
  rw[if_neg h1,if_neg h1]
  by_cases h2:fn=2
  · subst h2
    rw[if_pos rfl,if_pos rfl]
    refine ln_sz (fun e=>?_) (Nat.le_trans (bG x) bx) (Nat.le_trans (bB x) bx) hp
    have hx:0 < x:=by simpa[defB] using hd
    have:=Rat.num_eq_zero.1 (Int.natAbs_eq_zero.1 e)
    rw[this] at hx
    exact absurd hx (by decide)
  rw[if_neg h2,if_neg h2]
  by_cases h3:fn=3
  · subst h3
    rw[if_pos rfl,if_pos rfl]
    obtain⟨z1,z2,_,_⟩:=sc_sz (w:=q+64) (k2 (.inl rfl)) (by omega) (by omega)
    exact g_sz z1 z2 (by omega)
  rw[if_neg h3,if_neg h3]
  by_cases h4:fn=4
  · subst h4
    rw[if_pos rfl,if_pos rfl]
    obtain⟨_,_,z1,z2⟩:=sc_sz (w:=q+64) (k2 (.inr (.inl rfl))) (by omega) (by omega)
    exact g_sz z1 z2 (by omega)
  rw[if_neg h4,if_neg h4]
  by_cases h5:fn=5
  · subst h5
    rw[if_pos rfl,if_pos rfl]
    obtain⟨z1,z2⟩:=BV (x:=x) (w:=q+64) (k2 (.inr (.inr rfl))) (by omega) (by omega) 3
    exact g_sz z1 z2 (by omega)
  rw[if_neg h5,if_neg h5]
  by_cases h6:fn=6
  · subst h6
    rw[if_pos rfl,if_pos rfl]
    exact as_sz (abs_1 hd) hp
  rw[if_neg h6,if_neg h6]
  by_cases h7:fn=7
  · subst h7
    rw[if_pos rfl,if_pos rfl]
    exact ac_sz (abs_1 hd) hp
  rw[if_neg h7,if_neg h7]
  exact at_sz hp
theorem el_sz {fn:Int} {x:Rat} {p:Int}:sz (elL fn x p)≤2048∧sz (elH fn x p)≤2048:=by
  unfold elL elH
  by_cases e:elE fn x p≠0
  · rw[if_pos e,if_pos e];decide
  · rw[if_neg e,if_neg e]
    have he:eErr fn x p=0:=by
      refine Decidable.byContradiction fun c=>e ?_
      unfold elE
      rw[if_pos c]
      exact c
    cases hb:exB fn x with
    | true=>
      simp only[if_true]
      have:sz (exV fn x)≤2048:=by unfold exV;split<;>decide
      exact⟨this,this⟩
    |false=>exact ser_sz he hb
def Qb (h:PH) (r:Value) (x y:Rat) (b:Bool):Prop:=∃b1 a1 m1 c1 a2 m2 c2 b2 a3 m3 c3 a4 m4 c4,r=.tuple #[.agg #[.bool b1,.slice a1 m1 c1,.slice a2 m2 c2],.agg #[.bool b2,.slice a3 m3 c3,.slice a4 m4 c4],.bool b]∧Qr h (.agg #[.bool b1,.slice a1 m1 c1,.slice a2 m2 c2]) x∧Qr h (.agg #[.bool b2,.slice a3 m3 c3,.slice a4 m4 c4]) y
theorem tq_min (x:Rat) (w:Nat):min (min (tq x w 0) (tq x w 1)) (min (tq x w 2) (tq x w 3))=tqL x w 3∧max (max (tq x w 0) (tq x w 1)) (max (tq x w 2) (tq x w 3))=tqH x w 3:=by
  have l0:tqL x w 0=tq x w 0:=rfl
  have h0:tqH x w 0=tq x w 0:=rfl
  have l:∀n,tqL x w (n+1)=if tq x w (n+1) < tqL x w n then tq x w (n+1) else tqL x w n:=fun n=>rfl
  have h:∀n,tqH x w (n+1)=if tqH x w n < tq x w (n+1) then tq x w (n+1) else tqH x w n:=fun n=>rfl
  have l1:=l 0
  have l2:=l 1
  have l3:=l 2
  have h1:=h 0
  have h2:=h 1
  have h3:=h 2
  simp only[reduceAdd] at l1 l2 l3 h1 h2 h3
  rw[l0] at l1
  rw[h0] at h1
  generalize tqL x w 3=L3 at*
  generalize tqL x w 2=L2 at*
  generalize tqL x w 1=L1 at*
  generalize tqH x w 3=H3 at*
  generalize tqH x w 2=H2 at*
  generalize tqH x w 1=H1 at*
  clear l h l0 h0
  constructor<;>grind
theorem RTan_spec {h0 h:PH} [Le h0 h] {v:Value} {x:Rat} {p:Nat} (hx:Qr h0 v x) (bx:sz x≤1024) (hb:¬x.den*4294967296 < x.num.natAbs) (hp:p≤128):
    Spec mach 72 #[v,.int .i64 p] h (fun r h'=>Qb h' r (if coL x (p+64)≤0∧0≤coH x (p+64) then 0 else tanLo x p) (if coL x (p+64)≤0∧0≤coH x (p+64) then 0 else tanHi x p) (decide (¬(coL x (p+64)≤0∧0≤coH x (p+64))))) NP:=by
  have kW:=fun {h} [Le h0 h]=>RWv_spec (h:=h) (w:=p+64) hx bx hb (by omega) (by omega)
  obtain⟨z1,z2,z3,z4⟩:=sc_sz (w:=p+64) hb (by omega) (by omega)
  have zq:=tq_sz (x:=x) (w:=p+64) hb (by omega) (by omega)
  have y0:=zq 0
  have y1:=zq 1
  have y2:=zq 2
  have y3:=zq 3
  obtain⟨m1,m2⟩:=tq_min x (p+64)
  have zL:=(BV (x:=x) (w:=p+64) hb (by omega) (by omega) 3).1
  have zH:=(BV (x:=x) (w:=p+64) hb (by omega) (by omega) 3).2
  have eL:gdown (tqL x (p+64) 3) p=tanLo x p:=rfl
  have eH:gup (tqH x (p+64) 3) p=tanHi x p:=rfl
  have e0:siL x (p+64) / coL x (p+64)=tq x (p+64) 0:=Rat.div_def ..
  have e1:siL x (p+64) / coH x (p+64)=tq x (p+64) 1:=Rat.div_def ..
  have e2:siH x (p+64) / coL x (p+64)=tq x (p+64) 2:=Rat.div_def ..
  have e3:siH x (p+64) / coH x (p+64)=tq x (p+64) 3:=Rat.div_def ..
  have mn:∀a b:Rat,sz (min a b)≤max (sz a) (sz b):=fun a b=>by
    by_cases h:a≤b
    · rw[show min a b=a by grind];omega
    · rw[show min a b=b by grind];omega
  have mx:∀a b:Rat,sz (max a b)≤max (sz a) (sz b):=fun a b=>by
    by_cases h:a≤b
    · rw[show max a b=b by grind];omega
    · rw[show max a b=a by grind];omega
  have n1:=mn (tq x (p+64) 0) (tq x (p+64) 1)
  have n2:=mn (tq x (p+64) 2) (tq x (p+64) 3)
  have n3:=mx (tq x (p+64) 0) (tq x (p+64) 1)
  have n4:=mx (tq x (p+64) 2) (tq x (p+64) 3)
  rw[←eL,←eH]
  obtain⟨_,_,_,_,_,_,_,rfl,hx⟩:=hx.sa
  clear mn mx zq eL eH hb
  have ew:IntKind.i64.wrap ((p:Int)+64)=((p+64:Nat):Int):=by rw[wi64 (by omega) (by omega)];omega
  generalize tqL x (p+64) 3=TL at*
  generalize tqH x (p+64) 3=TH at*
  generalize tq x (p+64) 0=t0 at*
  generalize tq x (p+64) 1=t1 at*
  generalize tq x (p+64) 2=t2 at*
  generalize tq x (p+64) 3=t3 at*
  generalize siL x (p+64)=c at*
  generalize siH x (p+64)=d at*
  generalize coL x (p+64)=q at*
  generalize coH x (p+64)=r at*
  have gq:decide (sgn3 q≤0)=decide (q≤0):=by rw[decide_eq_decide];unfold sgn3;grind
  have gr:decide (sgn3 r≥0)=decide (0≤r):=by rw[decide_eq_decide];unfold sgn3;grind
  generalize hA:(if q≤0∧0≤r then (0:Rat) else gdown TL p)=A
  generalize hB:(if q≤0∧0≤r then (0:Rat) else gup TH p)=B
  generalize hC:decide (¬(q≤0∧0≤r))=C
  have F:=Hid.mk (And.intro z1 (And.intro z2 (And.intro z3 (And.intro z4 (And.intro y0 (And.intro y1 (And.intro y2 (And.intro y3 (And.intro zL (And.intro zH (And.intro n1 (And.intro n2 (And.intro n3 (And.intro n4 bx))))))))))))));clear z1 z2 z3 z4 y0 y1 y2 y3 zL zH n1 n2 n3 n4 bx
  refine Spec.go [(4,.h [] [] [6,7] [6,7,0,1,3,4,2,5,8,9]),(5,.h [] [] [6,7] [6,7,0,1,3,4,2,5,8,9]),(6,.h [] [] [7] [7,0,1,3,4,2,5,6,8]),(7,.h [] [] [7] [7,0,1,3,4,2,5,6,8]),(8,.o [0,1,3,4,2,5,6,7,8])] Tryz.func72 rfl rfl (by kernel_rfl) fun C _=>?_
  try simp(maxSteps:=999999) (disch:=omega) only[go_sem,Nat.reduceBEq,reduceAdd]
  refine caN (by exact kW) ?_;rintro v1 h1 s1 ⟨_,_,_,_,_,_,_,_,_,_,_,_,_,_,_,_,_,_,_,_,_,_,_,_,_,_,_,_,rfl,q1,q2,q3,q4⟩
  try simp(maxSteps:=999999) (disch:=omega) only[go_sem,Nat.reduceBEq,reduceAdd]
  refine caN (by exact bS q3) ?_;rintro v5 h5 s5 rfl
  try simp(maxSteps:=999999) (disch:=omega) only[go_sem,Nat.reduceBEq,reduceAdd]
  rcases Classical.em (q≤0) with d1 |d1
  case' inl=>
    have gq:=gq.trans (decide_eq_true d1)
    try simp(maxSteps:=999999) (disch:=omega) only[go_sem,Nat.reduceBEq,reduceAdd,gq]
    refine caN (by exact bS (q4.to (h':=h5))) ?_;rintro v6 h6 s6 rfl
    try simp(maxSteps:=999999) (disch:=omega) only[go_sem,Nat.reduceBEq,reduceAdd]
    by_cases d2:0≤r
    case' pos=>
      have gr:=gr.trans (decide_eq_true d2)
      try simp(maxSteps:=999999) (disch:=omega) only[go_sem,Nat.reduceBEq,reduceAdd,gq,gr]
      rw[←hA,←hB,←hC,if_pos ⟨d1,d2⟩,if_pos ⟨d1,d2⟩,decide_eq_false (fun k=>k ⟨d1,d2⟩)]
      exact⟨_,_,_,_,_,_,_,_,_,_,_,_,_,_,rfl,dW _,dW _⟩
    have gr:=gr.trans (decide_eq_false d2)
    have nc:¬(q≤0∧0≤r):=fun k=>d2 k.2
    try simp(maxSteps:=999999) (disch:=omega) only[go_sem,Nat.reduceBEq,reduceAdd,gq,gr]
  case' inr=>
    have gq:=gq.trans (decide_eq_false d1)
    have nc:¬(q≤0∧0≤r):=fun k=>d1 k.1
    try simp(maxSteps:=999999) (disch:=omega) only[go_sem,Nat.reduceBEq,reduceAdd,gq]
  all_goals
    rw[if_neg nc] at hA hB
    rw[decide_eq_true nc] at hC
    subst hA hB hC
    refine caN (by exact cU q1 q3 (by have:=F.out;omega) (by have:=F.out;omega)) ?_;rintro v10 h10 s10 q10;rw[e0] at q10;obtain⟨_,_,_,_,_,_,_,rfl,q10⟩:=q10.sa
    try simp(maxSteps:=999999) (disch:=omega) only[go_sem,Nat.reduceBEq,reduceAdd]
    refine caN (by exact cU q1 q4 (by have:=F.out;omega) (by have:=F.out;omega)) ?_;rintro v11 h11 s11 q11;rw[e1] at q11;obtain⟨_,_,_,_,_,_,_,rfl,q11⟩:=q11.sa
    try simp(maxSteps:=999999) (disch:=omega) only[go_sem,Nat.reduceBEq,reduceAdd]
    refine caN (by exact cU q2 q3 (by have:=F.out;omega) (by have:=F.out;omega)) ?_;rintro v12 h12 s12 q12;rw[e2] at q12;obtain⟨_,_,_,_,_,_,_,rfl,q12⟩:=q12.sa
    try simp(maxSteps:=999999) (disch:=omega) only[go_sem,Nat.reduceBEq,reduceAdd]
    refine caN (by exact cU q2 q4 (by have:=F.out;omega) (by have:=F.out;omega)) ?_;rintro v13 h13 s13 q13;rw[e3] at q13;obtain⟨_,_,_,_,_,_,_,rfl,q13⟩:=q13.sa
    try simp(maxSteps:=999999) (disch:=omega) only[go_sem,Nat.reduceBEq,reduceAdd]
    refine caN (by exact fD (q10.to (h':=h13)) (q11.to (h':=h13)) (by have:=F.out;omega) (by have:=F.out;omega)) ?_;rintro v14 h14 s14 q14;obtain⟨_,_,_,_,_,_,_,rfl,q14⟩:=q14.sa
    try simp(maxSteps:=999999) (disch:=omega) only[go_sem,Nat.reduceBEq,reduceAdd]
    refine caN (by exact fD (q12.to (h':=h14)) (q13.to (h':=h14)) (by have:=F.out;omega) (by have:=F.out;omega)) ?_;rintro v15 h15 s15 q15;obtain⟨_,_,_,_,_,_,_,rfl,q15⟩:=q15.sa
    try simp(maxSteps:=999999) (disch:=omega) only[go_sem,Nat.reduceBEq,reduceAdd]
    refine caN (by exact fD (q14.to (h':=h15)) q15 (by have:=F.out;omega) (by have:=F.out;omega)) ?_;rintro v16 h16 s16 q16;rw[m1] at q16;obtain⟨_,_,_,_,_,_,_,rfl,q16⟩:=q16.sa
    try simp(maxSteps:=999999) (disch:=omega) only[go_sem,Nat.reduceBEq,reduceAdd]
    refine caN (by exact RMx_spec (q10.to (h':=h16)) (q11.to (h':=h16)) (by have:=F.out;omega) (by have:=F.out;omega)) ?_;rintro v17 h17 s17 q17;obtain⟨_,_,_,_,_,_,_,rfl,q17⟩:=q17.sa
    try simp(maxSteps:=999999) (disch:=omega) only[go_sem,Nat.reduceBEq,reduceAdd]
    refine caN (by exact RMx_spec (q12.to (h':=h17)) (q13.to (h':=h17)) (by have:=F.out;omega) (by have:=F.out;omega)) ?_;rintro v18 h18 s18 q18;obtain⟨_,_,_,_,_,_,_,rfl,q18⟩:=q18.sa
    try simp(maxSteps:=999999) (disch:=omega) only[go_sem,Nat.reduceBEq,reduceAdd]
    refine caN (by exact RMx_spec (q17.to (h':=h18)) q18 (by have:=F.out;omega) (by have:=F.out;omega)) ?_;rintro v19 h19 s19 q19;rw[m2] at q19;obtain⟨_,_,_,_,_,_,_,rfl,q19⟩:=q19.sa
    try simp(maxSteps:=999999) (disch:=omega) only[go_sem,Nat.reduceBEq,reduceAdd]
    refine caN (by exact j9 (p:=p) (q16.to (h':=h19)) (by have:=F.out;omega) (by have:=F.out;omega)) ?_;rintro v20 h20 s20 q20;obtain⟨_,_,_,_,_,_,_,rfl,q20⟩:=q20.sa
    try simp(maxSteps:=999999) (disch:=omega) only[go_sem,Nat.reduceBEq,reduceAdd]
    refine caN (by exact np (p:=p) (q19.to (h':=h20)) (by have:=F.out;omega) (by have:=F.out;omega)) ?_;rintro v21 h21 s21 q21;obtain⟨_,_,_,_,_,_,_,rfl,q21⟩:=q21.sa
    try simp(maxSteps:=999999) (disch:=omega) only[go_sem,Nat.reduceBEq,reduceAdd]
    exact⟨_,_,_,_,_,_,_,_,_,_,_,_,_,_,rfl,q20.to,q21⟩
theorem aN (x:Rat):(-x).num= -x.num∧(-x).den=x.den∧(-x).num.natAbs=x.num.natAbs:=⟨Rat.neg_num x,Rat.neg_den x,by rw[Rat.neg_num,Int.natAbs_neg]⟩
theorem Bt {x:Rat} (h:x≠0):decide ((-x).num < 0)=!decide (x.num < 0):=by
  have:x.num≠0:=fun e=>h (Rat.num_eq_zero.1 e)
  rw[(aN x).1]
  by_cases c:x.num < 0
  · rw[decide_eq_true c,decide_eq_false (by omega)];rfl
  · rw[decide_eq_false c,decide_eq_true (by omega)];rfl
theorem wE (b:Bool) (n d:Nat):sgn (!b) n d= -sgn b n d:=by
  cases b
  · rw[yC (!false)];simp
  · rw[yC true];simp
theorem jv (x:Rat) (w:Nat):glo (-x) w=glo x w∧ghi (-x) w=ghi x w:=by
  unfold glo ghi
  rw[(aN x).2.1,(aN x).2.2]
  exact⟨rfl,rfl⟩
theorem bk_opp (b:Bool) (n m k p:Nat):bkL (!b) n m k p= -bkH b n m k p∧bkH (!b) n m k p= -bkL b n m k p:=by
  unfold bkL bkH
  cases b<;>simp[wE,←wE]
theorem xD {x:Rat} {p:Nat} (h:x≠0):atLo (-x) p= -atHi x p∧atHi (-x) p= -atLo x p:=by
  have e1:invQ (-x)=invQ x:=by unfold invQ;rw[(aN x).2.1,(aN x).2.2]
  have e2:atA (-x) (p+32)=atA x (p+32):=by unfold atA;rw[(aN x).2.1,(aN x).2.2,e1,(jv x _).1,(jv x _).2]
  have e3:atB (-x) (p+32)=atB x (p+32):=by unfold atB;rw[(aN x).2.1,(aN x).2.2,e1,(jv x _).1,(jv x _).2]
  have e4:atK (-x)=atK x:=by unfold atK;rw[(aN x).2.1,(aN x).2.2]
  unfold atLo atHi
  rw[e2,e3,e4,Bt h]
  exact bk_opp _ _ _ _ _
theorem RBr_exp {h0 h:PH} [Le h0 h] {v:Value} {x:Rat} {p:Nat} (hx:Qr h0 v x) (bx:sz x≤1024) (hb:¬x.den*64 < x.num.natAbs) (h00:x≠0) (hp:p≤128):Spec mach 73 #[.int .i64 1,v,.int .i64 p] h (fun r h'=>Qp h' r (expLo x p) (expHi x p)) NP:=by
  have k:=fun {h} [Le h0 h]=>REx_spec (h:=h) hx (Nat.le_trans bx (by decide)) hb h00 hp
  obtain⟨_,_,_,_,_,_,_,rfl,hx⟩:=hx.sa
  refine Spec.go [(8,.o [0,1,3,4,2,5,6,7]),(11,.o [0,1,3,4,2,5,6,7]),(14,.o [0,1,3,4,2,5,6,7]),(18,.o [0,1,3,5,6,8,2,4,7,9,10,11]),(21,.o [0,2,1,3,4,5])] Tryz.func73 rfl rfl (by kernel_rfl) fun C _=>?_
  try simp(maxSteps:=999999) (disch:=omega) only[go_sem,Nat.reduceBEq,reduceAdd]
  refine caN (by exact k) ?_;rintro v1 h1 s1 ⟨_,_,_,_,_,_,_,_,_,_,_,_,_,_,rfl,q1,q2⟩
  try simp(maxSteps:=999999) (disch:=omega) only[go_sem,Nat.reduceBEq,reduceAdd]
  exact⟨_,_,_,_,_,_,_,_,_,_,_,_,_,_,rfl,q1,q2⟩
theorem RBr_log {h0 h:PH} [Le h0 h] {v:Value} {x:Rat} {p:Nat} (hx:Qr h0 v x) (bx:sz x≤1024) (h00:0 < x) (hp:p≤128):Spec mach 73 #[.int .i64 2,v,.int .i64 p] h (fun r h'=>Qp h' r (lnLo x.num.natAbs x.den p) (lnHi x.num.natAbs x.den p)) NP:=by
  have k:=fun {h} [Le h0 h]=>RLog_spec (h:=h) hx (Nat.le_trans bx (by decide)) h00 hp
  obtain⟨_,_,_,_,_,_,_,rfl,hx⟩:=hx.sa
  refine Spec.go [(8,.o [0,1,3,4,2,5,6,7]),(11,.o [0,1,3,4,2,5,6,7]),(14,.o [0,1,3,4,2,5,6,7]),(18,.o [0,1,3,5,6,8,2,4,7,9,10,11]),(21,.o [0,2,1,3,4,5])] Tryz.func73 rfl rfl (by kernel_rfl) fun C _=>?_
  try simp(maxSteps:=999999) (disch:=omega) only[go_sem,Nat.reduceBEq,reduceAdd]
  refine caN (by exact k) ?_;rintro v1 h1 s1 ⟨_,_,_,_,_,_,_,_,_,_,_,_,_,_,rfl,q1,q2⟩
  try simp(maxSteps:=999999) (disch:=omega) only[go_sem,Nat.reduceBEq,reduceAdd]
  exact⟨_,_,_,_,_,_,_,_,_,_,_,_,_,_,rfl,q1,q2⟩
theorem RBr_wave {h0 h:PH} [Le h0 h] {v:Value} {x:Rat} {fn:Int} {p:Nat} (h34:fn=3∨fn=4) (hx:Qr h0 v x) (bx:sz x≤1024) (hb:¬x.den*4294967296 < x.num.natAbs) (hp:p≤128):Spec mach 73 #[.int .i64 fn,v,.int .i64 p] h (fun r h'=>Qp h' r (serL fn x p) (serH fn x p)) NP:=by
  have kW:=fun {h} [Le h0 h]=>RWv_spec (h:=h) (w:=p+64) hx bx hb (by omega) (by omega)
  obtain⟨z1,z2,z3,z4⟩:=sc_sz (w:=p+64) hb (by omega) (by omega)
  have ew:IntKind.i64.wrap ((p:Int)+64)=((p+64:Nat):Int):=by rw[wi64 (by omega) (by omega)];omega
  have s3:serL 3 x p=gdown (siL x (p+64)) p∧serH 3 x p=gup (siH x (p+64)) p:=⟨rfl,rfl⟩
  have s4:serL 4 x p=gdown (coL x (p+64)) p∧serH 4 x p=gup (coH x (p+64)) p:=⟨rfl,rfl⟩
  obtain⟨_,_,_,_,_,_,_,rfl,hx⟩:=hx.sa
  clear hb
  generalize siL x (p+64)=c at*
  generalize siH x (p+64)=d at*
  generalize coL x (p+64)=q at*
  generalize coH x (p+64)=r at*
  have F:=Hid.mk (And.intro z1 (And.intro z2 (And.intro z3 (And.intro z4 bx))));clear z1 z2 z3 z4 bx
  rcases h34 with rfl |rfl
  · rw[s3.1,s3.2]
    clear s3 s4
    refine Spec.go [(8,.o [0,1,3,4,2,5,6,7]),(11,.o [0,1,3,4,2,5,6,7]),(14,.o [0,1,3,4,2,5,6,7]),(18,.o [0,1,3,5,6,8,2,4,7,9,10,11]),(21,.o [0,2,1,3,4,5])] Tryz.func73 rfl rfl (by kernel_rfl) fun C _=>?_
    try simp(maxSteps:=999999) (disch:=omega) only[go_sem,Nat.reduceBEq,reduceAdd]
    refine caN (by exact kW) ?_;rintro v1 h1 s1 ⟨_,_,_,_,_,_,_,_,_,_,_,_,_,_,_,_,_,_,_,_,_,_,_,_,_,_,_,_,rfl,q1,q2,q3,q4⟩
    try simp(maxSteps:=999999) (disch:=omega) only[go_sem,Nat.reduceBEq,reduceAdd]
    refine caN (by exact j9 (p:=p) q1 (by have:=F.out;omega) (by have:=F.out;omega)) ?_;rintro v20 h20 s20 q20;obtain⟨_,_,_,_,_,_,_,rfl,q20⟩:=q20.sa
    try simp(maxSteps:=999999) (disch:=omega) only[go_sem,Nat.reduceBEq,reduceAdd]
    refine caN (by exact np (p:=p) (q2.to (h':=h20)) (by have:=F.out;omega) (by have:=F.out;omega)) ?_;rintro v21 h21 s21 q21;obtain⟨_,_,_,_,_,_,_,rfl,q21⟩:=q21.sa
    try simp(maxSteps:=999999) (disch:=omega) only[go_sem,Nat.reduceBEq,reduceAdd]
    exact⟨_,_,_,_,_,_,_,_,_,_,_,_,_,_,rfl,q20.to,q21⟩
  · rw[s4.1,s4.2]
    clear s3 s4
    refine Spec.go [(8,.o [0,1,3,4,2,5,6,7]),(11,.o [0,1,3,4,2,5,6,7]),(14,.o [0,1,3,4,2,5,6,7]),(18,.o [0,1,3,5,6,8,2,4,7,9,10,11]),(21,.o [0,2,1,3,4,5])] Tryz.func73 rfl rfl (by kernel_rfl) fun C _=>?_
    try simp(maxSteps:=999999) (disch:=omega) only[go_sem,Nat.reduceBEq,reduceAdd]
    refine caN (by exact kW) ?_;rintro v1 h1 s1 ⟨_,_,_,_,_,_,_,_,_,_,_,_,_,_,_,_,_,_,_,_,_,_,_,_,_,_,_,_,rfl,q1,q2,q3,q4⟩
    try simp(maxSteps:=999999) (disch:=omega) only[go_sem,Nat.reduceBEq,reduceAdd]
    refine caN (by exact j9 (p:=p) q3 (by have:=F.out;omega) (by have:=F.out;omega)) ?_;rintro v20 h20 s20 q20;obtain⟨_,_,_,_,_,_,_,rfl,q20⟩:=q20.sa
    try simp(maxSteps:=999999) (disch:=omega) only[go_sem,Nat.reduceBEq,reduceAdd]
    refine caN (by exact np (p:=p) (q4.to (h':=h20)) (by have:=F.out;omega) (by have:=F.out;omega)) ?_;rintro v21 h21 s21 q21;obtain⟨_,_,_,_,_,_,_,rfl,q21⟩:=q21.sa
    try simp(maxSteps:=999999) (disch:=omega) only[go_sem,Nat.reduceBEq,reduceAdd]
    exact⟨_,_,_,_,_,_,_,_,_,_,_,_,_,_,rfl,q20.to,q21⟩
theorem RBr_asin {h0 h:PH} [Le h0 h] {v:Value} {x:Rat} {p:Nat} (hx:Qr h0 v x) (bx:sz x≤1024) (dx:x.num.natAbs≤x.den) (h00:x≠0) (hp:p≤128):Spec mach 73 #[.int .i64 6,v,.int .i64 p] h (fun r h'=>Qp h' r (fg x p) (dM x p)) NP:=by
  have kA:=fun {h} [Le h0 h]=>RArcs_spec (h:=h) (w:=p+32) hx bx dx (by omega) (by omega)
  obtain⟨z1,z2⟩:=ar_sz (w:=p+32) dx (by omega)
  rw[←(ar_asin (p:=p) h00).1,←(ar_asin (p:=p) h00).2]
  have ew:IntKind.i64.wrap ((p:Int)+32)=((p+32:Nat):Int):=by rw[wi64 (by omega) (by omega)];omega
  obtain⟨_,_,_,_,_,_,_,rfl,hx⟩:=hx.sa
  generalize arL x (p+32)=c at*
  generalize arH x (p+32)=d at*
  have F:=Hid.mk (And.intro z1 (And.intro z2 (And.intro bx dx)));clear z1 z2 bx dx
  refine Spec.go [(8,.o [0,1,3,4,2,5,6,7]),(11,.o [0,1,3,4,2,5,6,7]),(14,.o [0,1,3,4,2,5,6,7]),(18,.o [0,1,3,5,6,8,2,4,7,9,10,11]),(21,.o [0,2,1,3,4,5])] Tryz.func73 rfl rfl (by kernel_rfl) fun C _=>?_
  try simp(maxSteps:=999999) (disch:=omega) only[go_sem,Nat.reduceBEq,reduceAdd]
  refine caN (by exact kA) ?_;rintro v1 h1 s1 ⟨_,_,_,_,_,_,_,_,_,_,_,_,_,_,rfl,q1,q2⟩
  try simp(maxSteps:=999999) (disch:=omega) only[go_sem,Nat.reduceBEq,reduceAdd]
  refine caN (by exact j9 (p:=p) q1 (by have:=F.out;omega) (by have:=F.out;omega)) ?_;rintro v20 h20 s20 q20;obtain⟨_,_,_,_,_,_,_,rfl,q20⟩:=q20.sa
  try simp(maxSteps:=999999) (disch:=omega) only[go_sem,Nat.reduceBEq,reduceAdd]
  refine caN (by exact np (p:=p) (q2.to (h':=h20)) (by have:=F.out;omega) (by have:=F.out;omega)) ?_;rintro v21 h21 s21 q21;obtain⟨_,_,_,_,_,_,_,rfl,q21⟩:=q21.sa
  try simp(maxSteps:=999999) (disch:=omega) only[go_sem,Nat.reduceBEq,reduceAdd]
  exact⟨_,_,_,_,_,_,_,_,_,_,_,_,_,_,rfl,q20.to,q21⟩
theorem RBr_acos {h0 h:PH} [Le h0 h] {v:Value} {x:Rat} {p:Nat} (hx:Qr h0 v x) (bx:sz x≤1024) (dx:x.num.natAbs≤x.den) (hp:p≤128):Spec mach 73 #[.int .i64 7,v,.int .i64 p] h (fun r h'=>Qp h' r (acLo x p) (acHi x p)) NP:=by
  have kA:=fun {h} [Le h0 h]=>RArcs_spec (h:=h) (w:=p+32) hx bx dx (by omega) (by omega)
  have kQ:=fun {h}=>rr (h:=h) (w:=p+32) (by omega) (by omega)
  obtain⟨z1,z2⟩:=ar_sz (w:=p+32) dx (by omega)
  obtain⟨z3,z4⟩:=bl_pi (w:=p+32)
  have z3:=sz_grid (w:=p+32+1) z3 (by omega)
  have z4:=sz_grid (w:=p+32+1) z4 (by omega)
  rw[←(ar_acos x p).1,←(ar_acos x p).2]
  have ew:IntKind.i64.wrap ((p:Int)+32)=((p+32:Nat):Int):=by rw[wi64 (by omega) (by omega)];omega
  obtain⟨_,_,_,_,_,_,_,rfl,hx⟩:=hx.sa
  generalize arL x (p+32)=c at*
  generalize arH x (p+32)=d at*
  generalize sgn false (piL (p+32)) (2^(p+32+1))=f at*
  generalize sgn false (piH (p+32)) (2^(p+32+1))=g at*
  have z5:=dA f (-d)
  have z6:=dA g (-c)
  rw[cz,←Rat.sub_eq_add_neg] at z5 z6
  have F:=Hid.mk (And.intro z1 (And.intro z2 (And.intro z3 (And.intro z4 (And.intro z5 (And.intro z6 (And.intro bx dx)))))));clear z1 z2 z3 z4 z5 z6 bx dx
  refine Spec.go [(8,.o [0,1,3,4,2,5,6,7]),(11,.o [0,1,3,4,2,5,6,7]),(14,.o [0,1,3,4,2,5,6,7]),(18,.o [0,1,3,5,6,8,2,4,7,9,10,11]),(21,.o [0,2,1,3,4,5])] Tryz.func73 rfl rfl (by kernel_rfl) fun C _=>?_
  try simp(maxSteps:=999999) (disch:=omega) only[go_sem,Nat.reduceBEq,reduceAdd]
  refine caN (by exact kA) ?_;rintro v1 h1 s1 ⟨_,_,_,_,_,_,_,_,_,_,_,_,_,_,rfl,q1,q2⟩
  try simp(maxSteps:=999999) (disch:=omega) only[go_sem,Nat.reduceBEq,reduceAdd]
  refine caN (by exact kQ) ?_;rintro v3 h3 s3 ⟨_,_,_,_,_,_,_,_,_,_,_,_,_,_,rfl,q3,q4⟩
  try simp(maxSteps:=999999) (disch:=omega) only[go_sem,Nat.reduceBEq,reduceAdd]
  refine caN (by exact cR q3 (q2.to (h':=h3)) (by have:=F.out;omega) (by have:=F.out;omega)) ?_;rintro v5 h5 s5 q5;obtain⟨_,_,_,_,_,_,_,rfl,q5⟩:=q5.sa
  try simp(maxSteps:=999999) (disch:=omega) only[go_sem,Nat.reduceBEq,reduceAdd]
  refine caN (by exact j9 (p:=p) q5 (by have:=F.out;omega) (by have:=F.out;omega)) ?_;rintro v20 h20 s20 q20;obtain⟨_,_,_,_,_,_,_,rfl,q20⟩:=q20.sa
  try simp(maxSteps:=999999) (disch:=omega) only[go_sem,Nat.reduceBEq,reduceAdd]
  refine caN (by exact cR (q4.to (h':=h20)) (q1.to (h':=h20)) (by have:=F.out;omega) (by have:=F.out;omega)) ?_;rintro v6 h6 s6 q6;obtain⟨_,_,_,_,_,_,_,rfl,q6⟩:=q6.sa
  try simp(maxSteps:=999999) (disch:=omega) only[go_sem,Nat.reduceBEq,reduceAdd]
  refine caN (by exact np (p:=p) q6 (by have:=F.out;omega) (by have:=F.out;omega)) ?_;rintro v21 h21 s21 q21;obtain⟨_,_,_,_,_,_,_,rfl,q21⟩:=q21.sa
  try simp(maxSteps:=999999) (disch:=omega) only[go_sem,Nat.reduceBEq,reduceAdd]
  exact⟨_,_,_,_,_,_,_,_,_,_,_,_,_,_,rfl,q20.to,q21⟩
theorem RBr_atan {h0 h:PH} [Le h0 h] {v:Value} {x:Rat} {fn:Int} {p:Nat} (h8:fn=8) (hx:Qr h0 v x) (bx:sz x≤1024) (h00:x≠0) (hp:p≤128):Spec mach 73 #[.int .i64 fn,v,.int .i64 p] h (fun r h'=>Qp h' r (atLo x p) (atHi x p)) NP:=by
  have kS:=fun {h} [Le h0 h]=>bS (h:=h) hx
  have kO:=fun {h} [Le h0 h]=>bK (h:=h) hx
  subst h8
  by_cases hn:x < 0
  · have eS:decide (sgn3 x < 0)=true:=by unfold sgn3;rw[if_pos hn];rfl
    have kA:=fun {h0 h:PH} {v:Value} [Le h0 h] (c:Qr h0 v (-x))=>RAtan_spec (h:=h) (p:=p) c (by rw[cz];exact Nat.le_trans bx (by decide)) (by grind) hp
    obtain⟨a1,a2⟩:=xD (p:=p) h00
    rw[a1,a2] at kA
    clear a1 a2
    obtain⟨_,_,_,_,_,_,_,rfl,hx⟩:=hx.sa
    generalize atLo x p=L at*
    generalize atHi x p=U at*
    refine Spec.go [(8,.o [0,1,3,4,2,5,6,7]),(11,.o [0,1,3,4,2,5,6,7]),(14,.o [0,1,3,4,2,5,6,7]),(18,.o [0,1,3,5,6,8,2,4,7,9,10,11]),(21,.o [0,2,1,3,4,5])] Tryz.func73 rfl rfl (by kernel_rfl) fun C _=>?_
    try simp(maxSteps:=999999) (disch:=omega) only[go_sem,Nat.reduceBEq,reduceAdd]
    refine caN (by exact kS) ?_;rintro v2 h2 s2 rfl
    try simp(maxSteps:=999999) (disch:=omega) only[go_sem,Nat.reduceBEq,reduceAdd,eS]
    refine caN (by exact kO) ?_;rintro v3 h3 s3 q3;obtain⟨_,_,_,_,_,_,_,rfl,q3⟩:=q3.sa
    try simp(maxSteps:=999999) (disch:=omega) only[go_sem,Nat.reduceBEq,reduceAdd]
    refine caN (by exact kA q3) ?_;rintro v4 h4 s4 ⟨_,_,_,_,_,_,_,_,_,_,_,_,_,_,rfl,q4,q5⟩
    try simp(maxSteps:=999999) (disch:=omega) only[go_sem,Nat.reduceBEq,reduceAdd]
    refine caN (by exact bK q5) ?_;rintro v6 h6 s6 q6;rw[Rat.neg_neg] at q6;obtain⟨_,_,_,_,_,_,_,rfl,q6⟩:=q6.sa
    try simp(maxSteps:=999999) (disch:=omega) only[go_sem,Nat.reduceBEq,reduceAdd]
    refine caN (by exact bK (q4.to (h':=h6))) ?_;rintro v7 h7 s7 q7;rw[Rat.neg_neg] at q7;obtain⟨_,_,_,_,_,_,_,rfl,q7⟩:=q7.sa
    try simp(maxSteps:=999999) (disch:=omega) only[go_sem,Nat.reduceBEq,reduceAdd]
    exact⟨_,_,_,_,_,_,_,_,_,_,_,_,_,_,rfl,q6.to,q7⟩
  · have eS:decide (sgn3 x < 0)=false:=by unfold sgn3;rw[if_neg hn,if_pos (by grind)];rfl
    have kA:=fun {h} [Le h0 h]=>RAtan_spec (h:=h) (p:=p) hx (Nat.le_trans bx (by decide)) (by grind) hp
    obtain⟨_,_,_,_,_,_,_,rfl,hx⟩:=hx.sa
    generalize atLo x p=L at*
    generalize atHi x p=U at*
    refine Spec.go [(8,.o [0,1,3,4,2,5,6,7]),(11,.o [0,1,3,4,2,5,6,7]),(14,.o [0,1,3,4,2,5,6,7]),(18,.o [0,1,3,5,6,8,2,4,7,9,10,11]),(21,.o [0,2,1,3,4,5])] Tryz.func73 rfl rfl (by kernel_rfl) fun C _=>?_
    try simp(maxSteps:=999999) (disch:=omega) only[go_sem,Nat.reduceBEq,reduceAdd]
    refine caN (by exact kS) ?_;rintro v2 h2 s2 rfl
    try simp(maxSteps:=999999) (disch:=omega) only[go_sem,Nat.reduceBEq,reduceAdd,eS]
    refine caN (by exact kA) ?_;rintro v4 h4 s4 ⟨_,_,_,_,_,_,_,_,_,_,_,_,_,_,rfl,q4,q5⟩
    try simp(maxSteps:=999999) (disch:=omega) only[go_sem,Nat.reduceBEq,reduceAdd]
    exact⟨_,_,_,_,_,_,_,_,_,_,_,_,_,_,rfl,q4,q5⟩
theorem RBracket_spec {h0 h:PH} [Le h0 h] {v:Value} {x:Rat} {fn p:Int} (hx:Qr h0 v x) (he:eErr fn x p=0) (hb:exB fn x=false) (h5:fn≠5):Spec mach 73 #[.int .i64 fn,v,.int .i64 p] h (fun r h'=>Qp h' r (serL fn x p.toNat) (serH fn x p.toNat)) NP:=by
  obtain⟨hf,p0,p1,hd,bx,h1,h3⟩:=dw he
  obtain⟨k,rfl⟩:∃k:Nat,p=(k:Int):=⟨p.toNat,by omega⟩
  rw[Int.toNat_natCast]
  clear he
  have h:fn=1∨fn=2∨fn=3∨fn=4∨fn=6∨fn=7∨fn=8:=by omega
  rcases h with rfl |rfl |rfl |rfl |rfl |rfl |rfl
  · exact RBr_exp hx bx (h1 rfl) (of_decide_eq_false hb) (by omega)
  · exact RBr_log hx bx (of_decide_eq_true hd) (by omega)
  · exact RBr_wave (.inl rfl) hx bx (h3 (by decide)) (by omega)
  · exact RBr_wave (.inr rfl) hx bx (h3 (by decide)) (by omega)
  · exact RBr_asin hx bx (of_decide_eq_true hd) (of_decide_eq_false hb) (by omega)
  · exact RBr_acos hx bx (of_decide_eq_true hd) (by omega)
  · exact RBr_atan rfl hx bx (of_decide_eq_false hb) (by omega)
end Go.Q
