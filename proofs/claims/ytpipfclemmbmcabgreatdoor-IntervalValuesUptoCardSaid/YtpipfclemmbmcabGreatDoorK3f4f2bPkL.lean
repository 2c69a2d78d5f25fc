/-
  What halve and angle return, and what stands on it. Conditions: each theorem's own.
-/
import Derived.Test.YtpipfclemmbmcabGreatDoorK3aad23PkF
import Derived.Test.YtpipfclemmbmcabGreatDoorK693e93PkK
import Derived.Test.YtpipfclemmbmcabGreatDoorKe626caPkI
import Derived.Test.YtpipfclemmbmcabGreatDoorK943100PkJ
import Derived.Test.YtpipfclemmbmcabGreatDoorKe53bf2PkH
set_option linter.unusedVariables false
set_option linter.unusedSimpArgs false
open Nat renaming reduceBEq→ξ,reduceAdd→ζ,le_trans→χ,mul_le_mul_right→ψ,le_refl→η,mul_comm→ρ,pos_of_ne_zero→τ,mul_le_mul_left→ω,mul_add→qAm,pow_succ→qAn,pow_pos→qAo,pow_add→qAs,pow_le_pow_right→qAv,mul_one→qAz,mul_ne_zero→qBe,mod_eq_of_lt→qBi
open Bool renaming and_eq_true→φ,false_eq_true→qAw
open Rat renaming le_trans→qAq,div_def→qAx,intCast_le_intCast→qBa,mkRat_eq_div→qBb,mul_inv_cancel→qBf
open List renaming all_eq_true→qBd
namespace Go.Q
open Go.Proofs
set_option maxRecDepth 100000
set_option maxHeartbeats 8000000
def rtUp (n:Nat):Nat:=if irt 2 n^2=n then irt 2 n else irt 2 n+1
def hvL (a w:Nat):Nat:=a*2^w / (2^w+rtUp (2^(2*w)+a*a))
def hvH (b w:Nat):Nat:=cdiv (b*2^w) (2^w+irt 2 (2^(2*w)+b*b))
def anL (a b w:Nat):Nat:=arcL (hvL (hvL a w) w) (hvH (hvH b w) w) w*2^2
def anH (a b w:Nat):Nat:=arcH (hvL (hvL a w) w) (hvH (hvH b w) w) w*2^2
theorem Pr.sp {h:PH} {v:Value} {a b:Nat} (r:Pr h v a b):∃x m c y n d,v=.agg #[.slice x m c,.slice y n d]∧Pr h (.agg #[.slice x m c,.slice y n d]) a b:=by
 obtain⟨x,m,c,y,n,d,rfl,h1,h2⟩:=r
 exact⟨x,m,c,y,n,d,rfl,_,_,_,_,_,_,rfl,h1,h2⟩
theorem rX (a w:Nat):hvL a w≤a:=by
 unfold hvL
 exact Nat.div_le_of_le_mul (by rw[Nat.add_mul,ρ (2^w) a];exact Nat.le_add_right _ _)
theorem dk (b w:Nat):hvH b w≤b:=by
 unfold hvH
 exact(az (Nat.ne_of_gt (Nat.add_pos_left (τ (am w)) _))).2 (by rw[Nat.add_mul,ρ (2^w) b];exact Nat.le_add_right _ _)
theorem irt2_le (n:Nat):irt 2 n≤n:=by
 have h:=jS (n:=2) (a:=n) (by decide)
 rw[Nat.pow_two] at h
 exact χ (Nat.le_mul_self _) h
theorem bl_rt (n:Nat):bl (irt 2 n)≤bl n:=aR (irt2_le n)
theorem rN {h0 h:PH} [Le h0 h] {v:Value} {a:Nat} {e:Bool} (hv:N32 h0 v a) (ba:bl a≤2^20) (he:decide (irt 2 a^2=a)=e):Spec mach 223 #[v,.int .i64 2] h (fun v h'=>∃r,v=.tuple #[r,.bool e]∧N32 h' r (irt 2 a)) NP:=by
 subst he
 exact gj (n:=2) hv (by decide) (by decide) ba
theorem vk {h0 h:PH} [Le h0 h] {v:Value} {a b w:Nat} (hv:Pr h0 v a b) (la:a≤2^w) (lb:b≤2^w) (hw:20≤w) (hw':w≤1000):Spec mach 175 #[v,.int .i64 w] h (fun v h'=>Pr h' v (hvL a w) (hvH b w)) NP:=by
 obtain⟨x,m,c,y,n,d,rfl,k1,k2⟩:=hv
 have ba:bl a≤w+2:=bh (by omega)
 have bb:bl b≤w+2:=bh (by omega)
 have n1:Hid (2^w+rtUp (2^(2*w)+a*a)≠0):=⟨by have:=am w;omega⟩
 have n2:Hid (2^w+irt 2 (2^(2*w)+b*b)≠0):=⟨by have:=am w;omega⟩
 clear la lb
 have u0:=bC w
 have u1:=bC (2*w)
 have u2:=aG a a
 have u3:=aG b b
 have u4:=cY (2^(2*w)) (a*a)
 have u5:=cY (2^(2*w)) (b*b)
 have u6:=bl_rt (2^(2*w)+a*a)
 have u7:=bl_rt (2^(2*w)+b*b)
 have u8:=cY (irt 2 (2^(2*w)+a*a)) 1
 have u9:=fI
 have u10:bl (rtUp (2^(2*w)+a*a))≤2*w+10:=by
  unfold rtUp
  split<;>omega
 have u11:=cY (2^w) (rtUp (2^(2*w)+a*a))
 have u12:=cY (2^w) (irt 2 (2^(2*w)+b*b))
 have u13:=cu a w
 have u14:=cu b w
 obtain⟨e,he⟩:∃e,decide (irt 2 (2^(2*w)+a*a)^2=2^(2*w)+a*a)=e:=⟨_,rfl⟩
 obtain⟨e',he'⟩:∃e,decide (irt 2 (2^(2*w)+b*b)^2=2^(2*w)+b*b)=e:=⟨_,rfl⟩
 have hr:Hid (rtUp (2^(2*w)+a*a)=if e then irt 2 (2^(2*w)+a*a) else irt 2 (2^(2*w)+a*a)+1):=⟨by
  subst he
  unfold rtUp
  simp only[decide_eq_true_eq]⟩
 have he:=Hid.mk he
 have he':=Hid.mk he'
 have F:=Hid.mk (And.intro ba (And.intro bb (And.intro u0 (And.intro u1 (And.intro u2 (And.intro u3 (And.intro u4 (And.intro u5 (And.intro u6 (And.intro u7 (And.intro u8 (And.intro u9 (And.intro u10 (And.intro u11 (And.intro u12 (And.intro u13 u14))))))))))))))));clear ba bb u0 u1 u2 u3 u4 u5 u6 u7 u8 u9 u10 u11 u12 u13 u14
 cases e
 all_goals
  refine Spec.go [(1,.o [0,1,3,4,5,6,2,7,8,9,10,11,12,13,14]),(4,.o [0,1,3,4,5,6,2,7,8,9,10,11,12,13,14]),(5,.o [0,1,2,4,6,9,10,11,13,15,3,5,7,8,12,14,16,17,18,19])] Tryz.func175 rfl rfl (by kernel_rfl) fun C _=>?_
  try simp(disch:=omega) only[go_sem,ξ,ζ]
  refine caN (by exact bu (w:=2*w) (by have:=F.1;omega)) ?_;rintro _ h1 _ q1;obtain⟨v1,_,_,rfl,q1⟩:=q1.sl
  try simp(disch:=omega) only[go_sem,ξ,ζ]
  refine caN (by exact aI k1 k1 (by have:=F.1;omega) (by have:=F.1;omega)) ?_;rintro _ h2 _ q2;obtain⟨v2,_,_,rfl,q2⟩:=q2.sl
  try simp(disch:=omega) only[go_sem,ξ,ζ]
  refine caN (by exact bR (q1.to (h':=h2)) q2 (by have:=F.1;omega) (show bl (a*a)≤2^40 by have:=F.1;omega)) ?_;rintro _ h3 _ q3;obtain⟨v3,_,_,rfl,q3⟩:=q3.sl
  try simp(disch:=omega) only[go_sem,ξ,ζ]
  refine caN (by exact rN q3 (show bl (2^(2*w)+a*a)≤2^20 by have:=F.1;omega) he.out) ?_;rintro v4 h4 s4 ⟨t,rfl,q4⟩;obtain⟨t4,t4l,t4c,rfl,q4⟩:=q4.sl
  try simp(disch:=omega) only[go_sem,ξ,ζ]
 ·refine caN (by exact aw (n:=1) (by decide)) ?_;rintro _ h5 _ q5;obtain⟨_,_,_,rfl,q5⟩:=q5.sl
  try simp(disch:=omega) only[go_sem,ξ,ζ]
  refine caN (by exact bR (q4.to (h':=h5)) q5 (show bl (irt 2 (2^(2*w)+a*a))≤2^40 by have:=F.1;omega) (by have:=F.1;omega)) ?_;rintro _ h6 _ q6;obtain⟨v6,v6_l,v6_c,rfl,q6⟩:=q6.sl
  try simp(disch:=omega) only[go_sem,ξ,ζ]
  have q6:N32 h6 (.slice v6 v6_l v6_c) (rtUp (2^(2*w)+a*a)):=by rw[hr.out];exact q6
  refine caN (by exact bu (w:=2*w) (by have:=F.1;omega)) ?_;rintro _ g1 _ r1;obtain⟨w1,_,_,rfl,r1⟩:=r1.sl
  try simp(disch:=omega) only[go_sem,ξ,ζ]
  refine caN (by exact aI (k2.to (h':=g1)) (k2.to (h':=g1)) (by have:=F.1;omega) (by have:=F.1;omega)) ?_;rintro _ g2 _ r2;obtain⟨w2,_,_,rfl,r2⟩:=r2.sl
  try simp(disch:=omega) only[go_sem,ξ,ζ]
  refine caN (by exact bR (r1.to (h':=g2)) r2 (by have:=F.1;omega) (show bl (b*b)≤2^40 by have:=F.1;omega)) ?_;rintro _ g3 _ r3;obtain⟨w3,_,_,rfl,r3⟩:=r3.sl
  try simp(disch:=omega) only[go_sem,ξ,ζ]
  refine caN (by exact rN r3 (show bl (2^(2*w)+b*b)≤2^20 by have:=F.1;omega) he'.out) ?_;rintro w4 g4 s4' ⟨t,rfl,r4⟩;obtain⟨_,_,_,rfl,r4⟩:=r4.sl
  try simp(disch:=omega) only[go_sem,ξ,ζ]
  refine caN (by exact aL (n:=w) (k1.to (h':=g4)) (by have:=F.1;omega)) ?_;rintro _ g5 _ r5;obtain⟨w5,_,_,rfl,r5⟩:=r5.sl
  try simp(disch:=omega) only[go_sem,ξ,ζ]
  refine caN (by exact bu (w:=w) (by have:=F.1;omega)) ?_;rintro _ g6 _ r6;obtain⟨w6,_,_,rfl,r6⟩:=r6.sl
  try simp(disch:=omega) only[go_sem,ξ,ζ]
  refine caN (by exact bR r6 (q6.to (h':=g6)) (by have:=F.1;omega) (show bl (rtUp (2^(2*w)+a*a))≤2^40 by have:=F.1;omega)) ?_;rintro _ g7 _ r7;obtain⟨w7,_,_,rfl,r7⟩:=r7.sl
  try simp(disch:=omega) only[go_sem,ξ,ζ]
  refine caN (by exact bD (c:=false) (r5.to (h':=g7)) r7 n1.out (by have:=F.1;omega) (show bl (2^w+rtUp (2^(2*w)+a*a))≤2^36 by have:=F.1;omega)) ?_;rintro _ g8 _ r8;obtain⟨w8,_,_,rfl,r8⟩:=r8.sl
  try simp(disch:=omega) only[go_sem,ξ,ζ]
  refine caN (by exact aL (n:=w) (k2.to (h':=g8)) (by have:=F.1;omega)) ?_;rintro _ g9 _ r9;obtain⟨w9,_,_,rfl,r9⟩:=r9.sl
  try simp(disch:=omega) only[go_sem,ξ,ζ]
  refine caN (by exact bu (w:=w) (by have:=F.1;omega)) ?_;rintro _ g10 _ r10;obtain⟨w10,_,_,rfl,r10⟩:=r10.sl
  try simp(disch:=omega) only[go_sem,ξ,ζ]
  refine caN (by exact bR r10 (r4.to (h':=g10)) (by have:=F.1;omega) (show bl (irt 2 (2^(2*w)+b*b))≤2^40 by have:=F.1;omega)) ?_;rintro _ g11 _ r11;obtain⟨w11,_,_,rfl,r11⟩:=r11.sl
  try simp(disch:=omega) only[go_sem,ξ,ζ]
  refine caN (by exact bD (c:=true) (r9.to (h':=g11)) r11 n2.out (by have:=F.1;omega) (show bl (2^w+irt 2 (2^(2*w)+b*b))≤2^36 by have:=F.1;omega)) ?_;rintro _ g12 _ r12;obtain⟨w12,_,_,rfl,r12⟩:=r12.sl
  try simp(disch:=omega) only[go_sem,ξ,ζ]
  exact⟨_,_,_,_,_,_,rfl,r8.to,r12⟩
 ·have q4:N32 h4 (.slice t4 t4l t4c) (rtUp (2^(2*w)+a*a)):=by rw[hr.out];exact q4
  refine caN (by exact bu (w:=2*w) (by have:=F.1;omega)) ?_;rintro _ g1 _ r1;obtain⟨w1,_,_,rfl,r1⟩:=r1.sl
  try simp(disch:=omega) only[go_sem,ξ,ζ]
  refine caN (by exact aI (k2.to (h':=g1)) (k2.to (h':=g1)) (by have:=F.1;omega) (by have:=F.1;omega)) ?_;rintro _ g2 _ r2;obtain⟨w2,_,_,rfl,r2⟩:=r2.sl
  try simp(disch:=omega) only[go_sem,ξ,ζ]
  refine caN (by exact bR (r1.to (h':=g2)) r2 (by have:=F.1;omega) (show bl (b*b)≤2^40 by have:=F.1;omega)) ?_;rintro _ g3 _ r3;obtain⟨w3,_,_,rfl,r3⟩:=r3.sl
  try simp(disch:=omega) only[go_sem,ξ,ζ]
  refine caN (by exact rN r3 (show bl (2^(2*w)+b*b)≤2^20 by have:=F.1;omega) he'.out) ?_;rintro w4 g4 s4' ⟨t,rfl,r4⟩;obtain⟨_,_,_,rfl,r4⟩:=r4.sl
  try simp(disch:=omega) only[go_sem,ξ,ζ]
  refine caN (by exact aL (n:=w) (k1.to (h':=g4)) (by have:=F.1;omega)) ?_;rintro _ g5 _ r5;obtain⟨w5,_,_,rfl,r5⟩:=r5.sl
  try simp(disch:=omega) only[go_sem,ξ,ζ]
  refine caN (by exact bu (w:=w) (by have:=F.1;omega)) ?_;rintro _ g6 _ r6;obtain⟨w6,_,_,rfl,r6⟩:=r6.sl
  try simp(disch:=omega) only[go_sem,ξ,ζ]
  refine caN (by exact bR r6 (q4.to (h':=g6)) (by have:=F.1;omega) (show bl (rtUp (2^(2*w)+a*a))≤2^40 by have:=F.1;omega)) ?_;rintro _ g7 _ r7;obtain⟨w7,_,_,rfl,r7⟩:=r7.sl
  try simp(disch:=omega) only[go_sem,ξ,ζ]
  refine caN (by exact bD (c:=false) (r5.to (h':=g7)) r7 n1.out (by have:=F.1;omega) (show bl (2^w+rtUp (2^(2*w)+a*a))≤2^36 by have:=F.1;omega)) ?_;rintro _ g8 _ r8;obtain⟨w8,_,_,rfl,r8⟩:=r8.sl
  try simp(disch:=omega) only[go_sem,ξ,ζ]
  refine caN (by exact aL (n:=w) (k2.to (h':=g8)) (by have:=F.1;omega)) ?_;rintro _ g9 _ r9;obtain⟨w9,_,_,rfl,r9⟩:=r9.sl
  try simp(disch:=omega) only[go_sem,ξ,ζ]
  refine caN (by exact bu (w:=w) (by have:=F.1;omega)) ?_;rintro _ g10 _ r10;obtain⟨w10,_,_,rfl,r10⟩:=r10.sl
  try simp(disch:=omega) only[go_sem,ξ,ζ]
  refine caN (by exact bR r10 (r4.to (h':=g10)) (by have:=F.1;omega) (show bl (irt 2 (2^(2*w)+b*b))≤2^40 by have:=F.1;omega)) ?_;rintro _ g11 _ r11;obtain⟨w11,_,_,rfl,r11⟩:=r11.sl
  try simp(disch:=omega) only[go_sem,ξ,ζ]
  refine caN (by exact bD (c:=true) (r9.to (h':=g11)) r11 n2.out (by have:=F.1;omega) (show bl (2^w+irt 2 (2^(2*w)+b*b))≤2^36 by have:=F.1;omega)) ?_;rintro _ g12 _ r12;obtain⟨w12,_,_,rfl,r12⟩:=r12.sl
  try simp(disch:=omega) only[go_sem,ξ,ζ]
  exact⟨_,_,_,_,_,_,rfl,r8.to,r12⟩
theorem bl_an {a b w:Nat} (la:a≤2^w) (lb:b≤2^w):bl (arcL (hvL (hvL a w) w) (hvH (hvH b w) w) w)≤w+2∧bl (arcH (hvL (hvL a w) w) (hvH (hvH b w) w) w)≤w+2:=
 ⟨bh (Gt (χ (rX _ _) (χ (rX _ _) la))),bh (Gs (χ (dk _ _) (χ (dk _ _) lb)))⟩
theorem pI {h0 h:PH} [Le h0 h] {v:Value} {a b w:Nat} (hv:Pr h0 v a b) (la:a≤2^w) (lb:b≤2^w) (hw:20≤w) (hw':w≤1000):Spec mach 116 #[v,.int .i64 w] h (fun v h'=>Pr h' v (anL a b w) (anH a b w)) NP:=by
 have l1:=χ (rX a w) la
 have l2:=χ (dk b w) lb
 have l3:=χ (rX (hvL a w) w) l1
 have l4:=χ (dk (hvH b w) w) l2
 obtain⟨b1,b2⟩:=bl_an la lb
 have hv0:=hv
 obtain⟨x,m,c,y,n,d,rfl,k1,k2⟩:=hv
 have la:=Hid.mk la
 have lb:=Hid.mk lb
 have l1:=Hid.mk l1
 have l2:=Hid.mk l2
 have l3:=Hid.mk l3
 have l4:=Hid.mk l4
 have F:=Hid.mk (And.intro b1 b2);clear b1 b2
 refine Spec.go [] Tryz.func116 rfl rfl (by kernel_rfl) fun C _=>?_
 try simp(disch:=omega) only[go_sem,ξ,ζ]
 refine caN (by exact vk hv0 la.out lb.out hw hw') ?_;rintro v1 h1 s1 q1;obtain⟨_,_,_,_,_,_,rfl,q1⟩:=q1.sp
 try simp(disch:=omega) only[go_sem,ξ,ζ]
 refine caN (by exact vk q1 l1.out l2.out hw hw') ?_;rintro v2 h2 s2 q2;obtain⟨_,_,_,_,_,_,rfl,q2⟩:=q2.sp
 try simp(disch:=omega) only[go_sem,ξ,ζ]
 refine caN (by exact sF q2 l3.out l4.out hw hw') ?_;rintro v3 h3 s3 q3;obtain⟨_,_,_,_,_,_,rfl,q3⟩:=q3.sp
 try simp(disch:=omega) only[go_sem,ξ,ζ]
 refine caN (by exact jh (n:=2) q3 (show bl (arcL (hvL (hvL a w) w) (hvH (hvH b w) w) w)≤2^30 by have:=F.1;omega) (show bl (arcH (hvL (hvL a w) w) (hvH (hvH b w) w) w)≤2^30 by have:=F.1;omega) (by decide)) ?_;rintro v4 h4 s4 q4;obtain⟨_,_,_,_,_,_,rfl,q4⟩:=q4.sp
 try simp(disch:=omega) only[go_sem,ξ,ζ]
 exact q4
theorem Dl (w a:Nat):2^w≤irt 2 (2^(2*w)+a*a):=jx (by decide) (by rw[←Nat.pow_mul,ρ w 2];exact Nat.le_add_right _ _)
theorem zV (w a:Nat):2^w≤rtUp (2^(2*w)+a*a):=by
 have:=Dl w a
 unfold rtUp
 split<;>omega
theorem H0 (c u:Nat):(u+u)*c=2*c*u:=by rw[←Nat.two_mul,Nat.mul_right_comm]
theorem tg {b c w:Nat} (h:b≤2*c):hvH b w≤c:=by
 unfold hvH
 have h1:=Dl w b
 have hn:2^w+irt 2 (2^(2*w)+b*b)≠0:=by have:=τ (am w);omega
 refine(az hn).2 ?_
 have h2:b*2^w≤2*c*2^w:=ψ _ h
 have h3:(2^w+2^w)*c≤(2^w+irt 2 (2^(2*w)+b*b))*c:=ψ _ (by omega)
 rw[H0] at h3
 exact χ h2 h3
theorem Dg {b c w:Nat} (h:b≤2*c):hvL b w≤c:=by
 unfold hvL
 refine Nat.div_le_of_le_mul ?_
 have h1:=zV w b
 have h2:b*2^w≤2*c*2^w:=ψ _ h
 have h3:(2^w+2^w)*c≤(2^w+rtUp (2^(2*w)+b*b))*c:=ψ _ (by omega)
 rw[H0] at h3
 exact χ h2 h3
theorem zx {c u v:Nat} (hc:c≤u) (hv:v≤u+1):c*v≤u*(c+1):=by
 have h1:c*v≤c*(u+1):=ω _ hv
 have e1:c*(u+1)=u*c+c:=by rw[qAm,qAz,ρ]
 have e2:u*(c+1)=u*c+u:=by rw[qAm,qAz]
 omega
theorem an_le {a b w:Nat} (hw:2≤w) (ha:a≤2^w) (hb:b≤2^w):anL a b w≤2^w+4∧anH a b w≤2^w+4:=by
 obtain⟨c,hc⟩:∃c,2^w=4*c:=⟨2^(w - 2),by rw[show w=2+(w - 2) by omega,qAs];simp⟩
 have a2:hvL (hvL a w) w≤c:=Dg (Dg (by omega))
 have b2:hvH (hvH b w) w≤c:=tg (tg (by omega))
 have v1:arcV w (sqL (hvL (hvL a w) w) w) (sqH (hvH (hvH b w) w) w) false 39≤2^w+1:=mT (η _)
 have v2:arcV w (sqL (hvL (hvL a w) w) w) (sqH (hvH (hvH b w) w) w) true 39≤2^w+1:=mT (η _)
 have m1:=zx (c:=hvL (hvL a w) w) (by omega) v1
 have m2:=zx (c:=hvH (hvH b w) w) (by omega) v2
 have k1:arcL (hvL (hvL a w) w) (hvH (hvH b w) w) w≤hvL (hvL a w) w+1:=Nat.div_le_of_le_mul m1
 have k2:arcH (hvL (hvL a w) w) (hvH (hvH b w) w) w≤hvH (hvH b w) w+1:=(az (am w)).2 m2
 unfold anL anH
 omega
def invQ (x:Rat):Rat:=sgn false x.den x.num.natAbs
theorem gC {x:Rat} (h:x.num.natAbs≠0):(invQ x).num=(x.den:Int)∧(invQ x).den=x.num.natAbs:=by
 have:=rf (neg:=false) (n:=x.den) (d:=x.num.natAbs) h (by rw[Nat.gcd_comm];exact x.reduced)
 simpa[invQ] using this
theorem invQ_cn {h:PH} {x:Rat} {v w:Value} (hd:N32 h v x.den) (hn:N32 h w x.num.natAbs) (h2:2≤x.num.natAbs):Cn h (.agg #[.bool false,v,w]) (invQ x):=by
 obtain⟨e1,e2⟩:=gC (x:=x) (by omega)
 refine⟨v,w,?_,?_,?_⟩
 ·rw[e1,decide_eq_false (by omega)]
 ·rw[e1];exact hd
 ·rw[e2,if_neg (by omega)];exact hn
def bkL (neg:Bool) (a b k p:Nat):Rat:=if neg then sgn neg (cdiv b (2^k)) (2^p) else sgn neg (a / 2^k) (2^p)
def bkH (neg:Bool) (a b k p:Nat):Rat:=if neg then sgn neg (a / 2^k) (2^p) else sgn neg (cdiv b (2^k)) (2^p)
def atA (x:Rat) (w:Nat):Nat:=if x.den < x.num.natAbs then piL w - anH (glo (invQ x) w) (ghi (invQ x) w) w*2^1 else anL (glo x w) (ghi x w) w
def atB (x:Rat) (w:Nat):Nat:=if x.den < x.num.natAbs then piH w - anL (glo (invQ x) w) (ghi (invQ x) w) w*2^1 else anH (glo x w) (ghi x w) w
def atK (x:Rat):Nat:=if x.den < x.num.natAbs then 33 else 32
def atLo (x:Rat) (p:Nat):Rat:=bkL (decide (x.num < 0)) (atA x (p+32)) (atB x (p+32)) (atK x) p
def atHi (x:Rat) (p:Nat):Rat:=bkH (decide (x.num < 0)) (atA x (p+32)) (atB x (p+32)) (atK x) p
theorem g_le {x:Rat} {w:Nat} (h:¬x.den < x.num.natAbs):glo x w≤2^w∧ghi x w≤2^w:=by
 have h1:x.num.natAbs*2^w≤x.den*2^w:=ψ _ (by omega)
 exact⟨Nat.div_le_of_le_mul h1,(az x.den_nz).2 h1⟩
theorem bl_w3 {n w:Nat} (hw:2≤w) (h:n≤2^w+4):bl n≤w+3:=bl_le.2 (by
 have:2^(w+3)=2^w*8:=qAs _ _ _
 have:2^w=2^(w - 2)*4:=by rw[←qAs 2 _ 2];congr 1;omega
 have:=τ (am (w - 2))
 omega)
theorem Et {h0 h:PH} [Le h0 h] {v:Value} {x:Rat} {p:Nat} (hx:Cn h0 v x) (bx:sz x≤1024) (hp:p≤128):Spec mach 38 #[v,.int .i64 p] h (fun r h'=>Be h' r (atLo x p) (atHi x p)) NP:=by
 have kB:=fun {h} [Le h0 h]=>fY (h:=h) (n:=1) hx (χ bx (by decide)) (by decide)
 have kW:=fun {h} [Le h0 h]=>jg (h:=h) hx
 have kS:=fun {h} [Le h0 h]=>iH (h:=h) (w:=p+32) hx (χ bx (by decide)) (by omega)
 rw[qAz] at kB
 have bn:=χ (bG x) bx
 have bd:=χ (bB x) bx
 unfold atLo atHi
 by_cases hb:x.den < x.num.natAbs
 ·have hn2:2≤x.num.natAbs:=by have:=x.den_nz;omega
  obtain⟨i1,i2⟩:=gC (x:=x) (by omega)
  have si:sz (invQ x)≤2^20:=by
   unfold sz
   rw[i1,i2]
   simp only[Int.natAbs_natCast]
   omega
  have kI:=fun {h1 h:PH} {a b:Value} [Le h1 h] (k1:N32 h1 a x.den) (k2:N32 h1 b x.num.natAbs)=>iH (h:=h) (w:=p+32) (invQ_cn k1 k2 hn2) si (by omega)
  obtain⟨l1,l2⟩:=g_le (x:=invQ x) (w:=p+32) (by rw[i1,i2];simp only[Int.natAbs_natCast];omega)
  obtain⟨m1,m2⟩:=an_le (w:=p+32) (by omega) l1 l2
  obtain⟨z1,z2,z3⟩:=pn (w:=p+32) (by omega) (by omega)
  have u1:2^(p+32)=2^p*4294967296:=qAs _ _ _
  have u2:=τ (am p)
  have e1:atA x (p+32)=piL (p+32) - anH (glo (invQ x) (p+32)) (ghi (invQ x) (p+32)) (p+32)*2^1:=if_pos hb
  have e2:atB x (p+32)=piH (p+32) - anL (glo (invQ x) (p+32)) (ghi (invQ x) (p+32)) (p+32)*2^1:=if_pos hb
  have e3:atK x=33:=if_pos hb
  rw[e1,e2,e3]
  rw[decide_eq_true hb] at kB
  obtain⟨na,nl,nc,da,dl,dc,rfl,hn,hd,_,_⟩:=hx.parts
  generalize decide (x.num < 0)=neg at*
  generalize glo (invQ x) (p+32)=ga at*
  generalize ghi (invQ x) (p+32)=gb at*
  have w1:anH ga gb (p+32)*2^1≤piL (p+32):=by omega
  have w2:anL ga gb (p+32)*2^1≤piH (p+32):=by omega
  obtain⟨b1,b2⟩:=bl_pi (w:=p+32)
  have b3:=bl_w3 (by omega) m1
  have b4:=bl_w3 (by omega) m2
  have b5:bl (piL (p+32) - anH ga gb (p+32)*2^1)≤_:=aR (Nat.sub_le _ _)
  have b6:bl (piH (p+32) - anL ga gb (p+32)*2^1)≤_:=aR (Nat.sub_le _ _)
  have b7:=aZ (piL (p+32) - anH ga gb (p+32)*2^1) (2^(p+32+1 - p))
  have b8:=fy (piH (p+32) - anL ga gb (p+32)*2^1) (am (p+32+1 - p))
  have ep:Hid (p+32+1 - p=33):=⟨by omega⟩
  have l1:=Hid.mk l1
  have l2:=Hid.mk l2
  clear u1 u2 z1 z2 z3 m1 m2 kS kW hb e1 e2 e3 i1 i2 si
  have kW:=fun {h} [Le h0 h]=>jg (h:=h) hx
  clear hd hx
  have F:=Hid.mk (And.intro w1 (And.intro w2 (And.intro b1 (And.intro b2 (And.intro b3 (And.intro b4 (And.intro b5 (And.intro b6 (And.intro b7 b8)))))))));clear w1 w2 b1 b2 b3 b4 b5 b6 b7 b8
  refine Spec.go [(3,.o [0,1,3,5,6,7,8,2,4,9,10,11]),(4,.h [] [] [9] [9,0,2,3,5,7,1,4,6,8,10]),(7,.h [] [] [13] [13,0,1,2,3,6,7,8,9,4,5,10,11,12,14])] Tryz.func38 rfl rfl (by kernel_rfl) fun C _=>?_
  try simp(disch:=omega) only[go_sem,ξ,ζ]
  refine caN (by exact kB) ?_;rintro v1 h1 s1 rfl
  try simp(disch:=omega) only[go_sem,ξ,ζ]
  refine caN (by exact kW) ?_;rintro _ h2 _ q2;obtain⟨v2,_,_,rfl,q2⟩:=q2.sl
  try simp(disch:=omega) only[go_sem,ξ,ζ]
  refine caN (by exact kI q2 (hn.to (h':=h2))) ?_;rintro v3 h3 s3 q3;obtain⟨_,_,_,_,_,_,rfl,q3⟩:=q3.sp
  try simp(disch:=omega) only[go_sem,ξ,ζ]
  refine caN (by exact pI q3 l1.out l2.out (by have:=F.1;omega) (by have:=F.1;omega)) ?_;rintro v4 h4 s4 ⟨x4,m4,c4,y4,n4,d4,rfl,a4,a5⟩
  try simp(disch:=omega) only[go_sem,ξ,ζ]
  refine caN (by exact kt (w:=p+32) (by have:=F.1;omega) (by have:=F.1;omega)) ?_;rintro v5 h5 s5 ⟨x5,m5,c5,y5,n5,d5,rfl,q5,q6⟩
  try simp(disch:=omega) only[go_sem,ξ,ζ]
  refine caN (by exact aL (n:=1) (show N32 h5 _ (anH ga gb (p+32)) from a5.to) (by have:=F.1;omega)) ?_;rintro _ h6 _ q7;obtain⟨v6,_,_,rfl,q7⟩:=q7.sl
  try simp(disch:=omega) only[go_sem,ξ,ζ]
  refine caN (by exact gE (q5.to (h':=h6)) q7 (by have:=F.1;omega) (show bl (piL (p+32))≤2^40 by have:=F.1;omega)) ?_;rintro _ h7 _ q8;obtain⟨v7,_,_,rfl,q8⟩:=q8.sl
  try simp(disch:=omega) only[go_sem,ξ,ζ]
  refine caN (by exact aL (n:=1) (show N32 h7 _ (anL ga gb (p+32)) from a4.to) (by have:=F.1;omega)) ?_;rintro _ h8 _ q9;obtain⟨v8,_,_,rfl,q9⟩:=q9.sl
  try simp(disch:=omega) only[go_sem,ξ,ζ]
  refine caN (by exact gE (q6.to (h':=h8)) q9 (by have:=F.1;omega) (show bl (piH (p+32))≤2^40 by have:=F.1;omega)) ?_;rintro _ h9 _ q10;obtain⟨v9,_,_,rfl,q10⟩:=q10.sl
  try simp(disch:=omega) only[go_sem,ξ,ζ]
  refine caN (by exact fw (w:=p+32+1) (p:=p) (neg:=neg) ⟨_,_,_,_,_,_,rfl,q8.to (h':=h9),q10⟩ (by have:=F.1;omega) (by have:=F.1;omega) (by have:=F.1;omega) (by have:=F.1;omega) (by have:=F.1;omega) (by have:=F.1;omega) (by have:=F.1;omega)) ?_;rintro v10 h10 s10 ⟨_,_,_,_,_,_,_,_,_,_,_,_,_,_,rfl,r1,r2⟩
  try simp(disch:=omega) only[go_sem,ξ,ζ]
  rw[ep.out] at r1 r2
  exact⟨_,_,_,_,_,_,_,_,_,_,_,_,_,_,rfl,r1,r2⟩
 ·rw[decide_eq_false hb] at kB
  obtain⟨l1,l2⟩:=g_le (w:=p+32) hb
  obtain⟨m1,m2⟩:=an_le (w:=p+32) (by omega) l1 l2
  have e1:atA x (p+32)=anL (glo x (p+32)) (ghi x (p+32)) (p+32):=if_neg hb
  have e2:atB x (p+32)=anH (glo x (p+32)) (ghi x (p+32)) (p+32):=if_neg hb
  have e3:atK x=32:=if_neg hb
  rw[e1,e2,e3]
  obtain⟨na,nl,nc,da,dl,dc,rfl,_,_,_,_⟩:=hx.parts
  generalize decide (x.num < 0)=neg at*
  generalize glo x (p+32)=ga at*
  generalize ghi x (p+32)=gb at*
  have b3:=bl_w3 (by omega) m1
  have b4:=bl_w3 (by omega) m2
  have b7:=aZ (anL ga gb (p+32)) (2^(p+32 - p))
  have b8:=fy (anH ga gb (p+32)) (am (p+32 - p))
  have ep:Hid (p+32 - p=32):=⟨by omega⟩
  have l1:=Hid.mk l1
  have l2:=Hid.mk l2
  clear m1 m2 hb e1 e2 e3
  have F:=Hid.mk (And.intro b3 (And.intro b4 (And.intro b7 b8)));clear b3 b4 b7 b8
  refine Spec.go [(3,.o [0,1,3,5,6,7,8,2,4,9,10,11]),(4,.h [] [] [9] [9,0,2,3,5,7,1,4,6,8,10]),(7,.h [] [] [13] [13,0,1,2,3,6,7,8,9,4,5,10,11,12,14])] Tryz.func38 rfl rfl (by kernel_rfl) fun C _=>?_
  try simp(disch:=omega) only[go_sem,ξ,ζ]
  refine caN (by exact kB) ?_;rintro v1 h1 s1 rfl
  try simp(disch:=omega) only[go_sem,ξ,ζ]
  refine caN (by exact kS) ?_;rintro v3 h3 s3 q3;obtain⟨_,_,_,_,_,_,rfl,q3⟩:=q3.sp
  try simp(disch:=omega) only[go_sem,ξ,ζ]
  refine caN (by exact pI q3 l1.out l2.out (by have:=F.1;omega) (by have:=F.1;omega)) ?_;rintro v4 h4 s4 q4;obtain⟨_,_,_,_,_,_,rfl,q4⟩:=q4.sp
  try simp(disch:=omega) only[go_sem,ξ,ζ]
  refine caN (by exact fw (w:=p+32) (p:=p) (neg:=neg) q4 (by have:=F.1;omega) (by have:=F.1;omega) (by have:=F.1;omega) (by have:=F.1;omega) (by have:=F.1;omega) (by have:=F.1;omega) (by have:=F.1;omega)) ?_;rintro v10 h10 s10 ⟨_,_,_,_,_,_,_,_,_,_,_,_,_,_,rfl,r1,r2⟩
  try simp(disch:=omega) only[go_sem,ξ,ζ]
  rw[ep.out] at r1 r2
  exact⟨_,_,_,_,_,_,_,_,_,_,_,_,_,_,rfl,r1,r2⟩
theorem xq {h0 h:PH} [Le h0 h] {v w:Value} {x y z:Rat} {g:FuncId} (hx:Rv h0 v x) (hy:Rv h0 w y) (hg:∀{h0 h:PH} {a b:Value} [Le h0 h],Fr h0 a x→Fr h0 b y→Spec mach g #[a,b] h (fun v h'=>Fr h' v z) NP):Spec mach 212 #[v,w,.func (.func g) #[] #[]] h (fun r h'=>Nc h' r z) NP:=by
 have kX:=fun {h} [Le h0 h]=>kg (h:=h) hx
 have kY:=fun {h} [Le h0 h]=>kg (h:=h) hy
 obtain⟨_,_,_,_,_,_,_,rfl,_⟩:=hx.sa
 obtain⟨_,_,_,_,_,_,_,rfl,_⟩:=hy.sa
 refine Spec.go [] Tryz.func212 rfl rfl (by kernel_rfl) fun C _=>?_
 try simp(disch:=omega) only[go_sem,ξ,ζ]
 refine caN (by exact kX) ?_;rintro v1 h1 s1 ⟨f,rfl,hf⟩;obtain⟨_,_,_,_,_,_,_,rfl,hf⟩:=hf.sa
 try simp(disch:=omega) only[go_sem,ξ,ζ]
 refine caN (by exact kY) ?_;rintro v2 h2 s2 ⟨f',rfl,hf'⟩;obtain⟨_,_,_,_,_,_,_,rfl,hf'⟩:=hf'.sa
 try simp(disch:=omega) only[go_sem,ξ,ζ]
 refine caN (by exact hg (hf.to (h':=h2)) hf') ?_;rintro v3 h3 s3 hz
 try simp(disch:=omega) only[go_sem,ξ,ζ]
 refine caN (by exact qy hz) ?_;rintro v4 h4 s4 q4;obtain⟨_,_,_,_,_,_,_,_,rfl,w4⟩:=q4
 try simp(disch:=omega) only[go_sem,ξ,ζ]
 exact Nc.mk w4
theorem Ak {h0 h:PH} [Le h0 h] {v w:Value} {x y:Rat} (hx:Rv h0 v x) (hy:Rv h0 w y):Spec mach 172 #[v,w] h (fun r h'=>Nc h' r (x+y)) NP:=by
 have kT:=fun {h} [Le h0 h]=>xq (h:=h) (g:=154) hx hy (fun a b=>iV a b hx.up hy.up)
 obtain⟨_,_,_,_,_,_,_,rfl,_⟩:=hx.sa
 obtain⟨_,_,_,_,_,_,_,rfl,_⟩:=hy.sa
 refine Spec.go [] Tryz.func172 rfl rfl (by kernel_rfl) fun C _=>?_
 try simp(disch:=omega) only[go_sem,ξ,ζ]
 refine caN (by exact kT) ?_;rintro v1 h1 s1 q1;obtain⟨_,_,_,_,_,_,_,_,rfl,w1⟩:=q1
 try simp(disch:=omega) only[go_sem,ξ,ζ]
 exact Nc.mk w1
theorem NumSub1 {h0 h:PH} [Le h0 h] {v w:Value} {x y:Rat} (hx:Fr h0 v x) (hy:Fr h0 w y) (sx:sz x≤2^36) (sy:sz y≤2^36):Spec mach 213 #[v,w] h (fun v h'=>Fr h' v (x+ -y)) NP:=by
 have kO:=fun {h} [Le h0 h]=>kf (h:=h) hy
 have kA:=fun {h h':PH} {u:Value} [Le h0 h] [Le h h'] (hu:Fr h u (-y))=>iV (h0:=h) (h:=h') (hx.to (h':=h)) hu sx (by rw[cz];exact sy)
 obtain⟨_,_,_,_,_,_,_,rfl,_⟩:=hx.sa
 obtain⟨_,_,_,_,_,_,_,rfl,_⟩:=hy.sa
 refine Spec.go [] Tryz.func213 rfl rfl (by kernel_rfl) fun C _=>?_
 try simp(disch:=omega) only[go_sem,ξ,ζ]
 refine caN (by exact kO) ?_;rintro v1 h1 s1 q1;obtain⟨_,_,_,_,_,_,_,rfl,q1⟩:=q1.sa
 try simp(disch:=omega) only[go_sem,ξ,ζ]
 refine caN (by exact kA q1) ?_;rintro v2 h2 s2 q2;obtain⟨_,_,_,_,_,_,_,rfl,q2⟩:=q2.sa
 try simp(disch:=omega) only[go_sem,ξ,ζ]
 exact q2
theorem wX {h0 h:PH} [Le h0 h] {v w:Value} {x y:Rat} (hx:Rv h0 v x) (hy:Rv h0 w y):Spec mach 159 #[v,w] h (fun r h'=>Nc h' r (x+ -y)) NP:=by
 have kT:=fun {h} [Le h0 h]=>xq (h:=h) (g:=213) hx hy (fun a b=>NumSub1 a b hx.up hy.up)
 obtain⟨_,_,_,_,_,_,_,rfl,_⟩:=hx.sa
 obtain⟨_,_,_,_,_,_,_,rfl,_⟩:=hy.sa
 refine Spec.go [] Tryz.func159 rfl rfl (by kernel_rfl) fun C _=>?_
 try simp(disch:=omega) only[go_sem,ξ,ζ]
 refine caN (by exact kT) ?_;rintro v1 h1 s1 q1;obtain⟨_,_,_,_,_,_,_,_,rfl,w1⟩:=q1
 try simp(disch:=omega) only[go_sem,ξ,ζ]
 exact Nc.mk w1
theorem EB {h0 h:PH} [Le h0 h] {v w:Value} {x y:Rat} (hx:Rv h0 v x) (hy:Rv h0 w y):Spec mach 168 #[v,w] h (fun r h'=>Nc h' r (x*y)) NP:=by
 have kT:=fun {h} [Le h0 h]=>xq (h:=h) (g:=166) hx hy (fun a b=>wU a b hx.up hy.up)
 obtain⟨_,_,_,_,_,_,_,rfl,_⟩:=hx.sa
 obtain⟨_,_,_,_,_,_,_,rfl,_⟩:=hy.sa
 refine Spec.go [] Tryz.func168 rfl rfl (by kernel_rfl) fun C _=>?_
 try simp(disch:=omega) only[go_sem,ξ,ζ]
 refine caN (by exact kT) ?_;rintro v1 h1 s1 q1;obtain⟨_,_,_,_,_,_,_,_,rfl,w1⟩:=q1
 try simp(disch:=omega) only[go_sem,ξ,ζ]
 exact Nc.mk w1
theorem o6 {h0 h:PH} [Le h0 h] {v w:Value} {x y:Rat} (hx:Rv h0 v x) (hy:Rv h0 w y) (hz:y≠0):Spec mach 110 #[v,w] h (fun r h'=>Nc h' r (x*y⁻¹)) NP:=by
 have kX:=fun {h} [Le h0 h]=>kg (h:=h) hx
 have kY:=fun {h} [Le h0 h]=>kg (h:=h) hy
 have sx:=hx.up
 have sy:sz y⁻¹≤2^36:=χ (iQ y) hy.up
 have hn:¬y.num.natAbs=0:=by rw[Int.natAbs_eq_zero];exact fun e=>hz (Rat.num_eq_zero.1 e)
 obtain⟨_,_,_,_,_,_,_,rfl,_⟩:=hx.sa
 obtain⟨_,_,_,_,_,_,_,rfl,_⟩:=hy.sa
 clear hx hy
 refine Spec.go [] Tryz.func110 rfl rfl (by kernel_rfl) fun C _=>?_
 try simp(disch:=omega) only[go_sem,ξ,ζ]
 refine caN (by exact kX) ?_;rintro v1 h1 s1 ⟨f,rfl,hf⟩;obtain⟨_,_,_,_,_,_,_,rfl,hf⟩:=hf.sa
 try simp(disch:=omega) only[go_sem,ξ,ζ]
 refine caN (by exact kY) ?_;rintro v2 h2 s2 ⟨f',rfl,hf'⟩;have hf0:=hf';obtain⟨na,nl,nc,da,dl,dc,rfl,hnn,hdd⟩:=hf'.sl
 try simp(disch:=omega) only[go_sem,ξ,ζ]
 refine caN (by exact bU hnn) ?_;rintro v3 h3 s3 rfl
 try simp(disch:=omega) only[go_sem,ξ,ζ]
 refine caN (by exact mu (hf0.to (h':=h3)) hz) ?_;rintro v4 h4 s4 q4;obtain⟨_,_,_,_,_,_,_,rfl,q4⟩:=q4.sa
 try simp(disch:=omega) only[go_sem,ξ,ζ]
 refine caN (by exact wU (hf.to (h':=h4)) q4 sx sy) ?_;rintro v5 h5 s5 q5
 try simp(disch:=omega) only[go_sem,ξ,ζ]
 refine caN (by exact qy q5) ?_;rintro v6 h6 s6 q6;obtain⟨_,_,_,_,_,_,_,_,rfl,w6⟩:=q6
 try simp(disch:=omega) only[go_sem,ξ,ζ]
 exact Nc.mk w6
theorem gY {h0 h:PH} [Le h0 h] {v w:Value} {x y:Rat} (hx:Rv h0 v x) (hy:Rv h0 w y):Spec mach 111 #[v,w] h (fun r _=>r=.tuple #[.int .i64 (cmpQ x y),.int .i64 0]) NP:=by
 have kX:=fun {h} [Le h0 h]=>kg (h:=h) hx
 have kY:=fun {h} [Le h0 h]=>kg (h:=h) hy
 have sx:=hx.up
 have sy:=hy.up
 obtain⟨_,_,_,_,_,_,_,rfl,_⟩:=hx.sa
 obtain⟨_,_,_,_,_,_,_,rfl,_⟩:=hy.sa
 clear hx hy
 refine Spec.go [] Tryz.func111 rfl rfl (by kernel_rfl) fun C _=>?_
 try simp(disch:=omega) only[go_sem,ξ,ζ]
 refine caN (by exact kX) ?_;rintro v1 h1 s1 ⟨f,rfl,hf⟩;obtain⟨_,_,_,_,_,_,_,rfl,hf⟩:=hf.sa
 try simp(disch:=omega) only[go_sem,ξ,ζ]
 refine caN (by exact kY) ?_;rintro v2 h2 s2 ⟨f',rfl,hf'⟩;obtain⟨_,_,_,_,_,_,_,rfl,hf'⟩:=hf'.sa
 try simp(disch:=omega) only[go_sem,ξ,ζ]
 refine caN (by exact dq (hf.to (h':=h2)) hf' sx sy) ?_;rintro v3 h3 s3 rfl
 try simp(disch:=omega) only[go_sem,ξ,ζ]
theorem gdown_0 (x:Rat):gdown x 0=(x.floor:Rat):=by
 unfold gdown
 rw[Rat.pow_zero,Rat.mul_one,qAx,show(1:Rat)⁻¹=1 by grind,Rat.mul_one]
theorem gup_0 (x:Rat):gup x 0=(x.ceil:Rat):=by
 unfold gup
 rw[Rat.pow_zero,Rat.mul_one,qAx,show(1:Rat)⁻¹=1 by grind,Rat.mul_one]
theorem Ch {h0 h:PH} [Le h0 h] {v:Value} {x:Rat} (hx:Fr h0 v x) (sx:sz x≤2^36):Spec mach 245 #[v] h (fun v h'=>Fr h' v (x.floor:Rat)) NP:=by
 have kG:=fun {h} [Le h0 h]=>jG (h:=h) (p:=0) (u:=false) hx sx (by decide)
 have e:(if false=true then gup x 0 else gdown x 0)=(x.floor:Rat):=gdown_0 x
 rw[e] at kG
 obtain⟨_,_,_,_,_,_,_,rfl,_⟩:=hx.sa
 refine Spec.go [] Tryz.func245 rfl rfl (by kernel_rfl) fun C _=>?_
 try simp(disch:=omega) only[go_sem,ξ,ζ]
 refine caN (by exact kG) ?_;rintro v1 h1 s1 q1;obtain⟨_,_,_,_,_,_,_,rfl,q1⟩:=q1.sa
 try simp(disch:=omega) only[go_sem,ξ,ζ]
 exact q1
theorem El {h0 h:PH} [Le h0 h] {v:Value} {x:Rat} (hx:Fr h0 v x) (sx:sz x≤2^36):Spec mach 247 #[v] h (fun v h'=>Fr h' v (x.ceil:Rat)) NP:=by
 have kG:=fun {h} [Le h0 h]=>jG (h:=h) (p:=0) (u:=true) hx sx (by decide)
 have e:(if true=true then gup x 0 else gdown x 0)=(x.ceil:Rat):=gup_0 x
 rw[e] at kG
 obtain⟨_,_,_,_,_,_,_,rfl,_⟩:=hx.sa
 refine Spec.go [] Tryz.func247 rfl rfl (by kernel_rfl) fun C _=>?_
 try simp(disch:=omega) only[go_sem,ξ,ζ]
 refine caN (by exact kG) ?_;rintro v1 h1 s1 q1;obtain⟨_,_,_,_,_,_,_,rfl,q1⟩:=q1.sa
 try simp(disch:=omega) only[go_sem,ξ,ζ]
 exact q1
theorem CE {h0 h:PH} [Le h0 h] {v:Value} {x:Rat} (hx:Rv h0 v x):Spec mach 214 #[v] h (fun r h'=>Nc h' r (x.floor:Rat)) NP:=by
 have kO:=fun {h} [Le h0 h]=>pL (h:=h) (g:=245) hx (fun a=>Ch a hx.up)
 obtain⟨_,_,_,_,_,_,_,rfl,_⟩:=hx.sa
 refine Spec.go [] Tryz.func214 rfl rfl (by kernel_rfl) fun C _=>?_
 try simp(disch:=omega) only[go_sem,ξ,ζ]
 refine caN (by exact kO) ?_;rintro v1 h1 s1 q1;obtain⟨_,_,_,_,_,_,_,_,rfl,w1⟩:=q1
 try simp(disch:=omega) only[go_sem,ξ,ζ]
 exact Nc.mk w1
theorem NumCeil {h0 h:PH} [Le h0 h] {v:Value} {x:Rat} (hx:Rv h0 v x):Spec mach 225 #[v] h (fun r h'=>Nc h' r (x.ceil:Rat)) NP:=by
 have kO:=fun {h} [Le h0 h]=>pL (h:=h) (g:=247) hx (fun a=>El a hx.up)
 obtain⟨_,_,_,_,_,_,_,rfl,_⟩:=hx.sa
 refine Spec.go [] Tryz.func225 rfl rfl (by kernel_rfl) fun C _=>?_
 try simp(disch:=omega) only[go_sem,ξ,ζ]
 refine caN (by exact kO) ?_;rintro v1 h1 s1 q1;obtain⟨_,_,_,_,_,_,_,_,rfl,w1⟩:=q1
 try simp(disch:=omega) only[go_sem,ξ,ζ]
 exact Nc.mk w1
theorem Bk.sp {h:PH} {v:Value} {x y:Rat} (r:Bk h v x y):∃b1 a1 m1 c1 a2 m2 c2 b2 a3 m3 c3 a4 m4 c4,v=.agg #[.bool b1,.slice a1 m1 c1,.slice a2 m2 c2,.bool b2,.slice a3 m3 c3,.slice a4 m4 c4]∧Bk h (.agg #[.bool b1,.slice a1 m1 c1,.slice a2 m2 c2,.bool b2,.slice a3 m3 c3,.slice a4 m4 c4]) x y:=by
 obtain⟨b1,a1,m1,c1,a2,m2,c2,b2,a3,m3,c3,a4,m4,c4,rfl,k1,k2⟩:=r
 exact⟨b1,a1,m1,c1,a2,m2,c2,b2,a3,m3,c3,a4,m4,c4,rfl,_,_,_,_,_,_,_,_,_,_,_,_,_,_,rfl,k1,k2⟩
theorem NumRnd {h0 h:PH} [Le h0 h] {v:Value} {x:Rat} {p:Nat} {u:Bool} (hx:Rv h0 v x) (hp:p≤256):Spec mach 221 #[v,.int .i64 p,.bool u] h (fun r h'=>Nc h' r (if u=true then gup x p else gdown x p)) NP:=by
 have kX:=fun {h} [Le h0 h]=>kg (h:=h) hx
 have kG:=fun {h0 h:PH} [Le h0 h] {a:Value} (ha:Fr h0 a x)=>jG (h:=h) (p:=p) (u:=u) ha hx.up (by omega)
 obtain⟨_,_,_,_,_,_,_,rfl,_⟩:=hx.sa
 refine Spec.go [] Tryz.func221 rfl rfl (by kernel_rfl) fun C _=>?_
 try simp(disch:=omega) only[go_sem,ξ,ζ]
 refine caN (by exact kX) ?_;rintro v1 h1 s1 ⟨f,rfl,hf⟩;obtain⟨_,_,_,_,_,_,_,rfl,hf⟩:=hf.sa
 try simp(disch:=omega) only[go_sem,ξ,ζ]
 refine caN (by exact kG hf) ?_;rintro v3 h3 s3 hz;obtain⟨_,_,_,_,_,_,_,rfl,hz⟩:=hz.sa
 try simp(disch:=omega) only[go_sem,ξ,ζ]
 refine caN (by exact qy hz) ?_;rintro v4 h4 s4 q4;obtain⟨_,_,_,_,_,_,_,_,rfl,w4⟩:=q4
 try simp(disch:=omega) only[go_sem,ξ,ζ]
 exact Nc.mk w4
theorem NumDn {h0 h:PH} [Le h0 h] {v:Value} {x:Rat} {p:Nat} (hx:Rv h0 v x) (hp:p≤256):Spec mach 164 #[v,.int .i64 p] h (fun r h'=>Nc h' r (gdown x p)) NP:=by
 have kR:=fun {h} [Le h0 h]=>NumRnd (h:=h) (u:=false) hx hp
 obtain⟨_,_,_,_,_,_,_,rfl,_⟩:=hx.sa
 refine Spec.go [] Tryz.func164 rfl rfl (by kernel_rfl) fun C _=>?_
 try simp(disch:=omega) only[go_sem,ξ,ζ]
 refine caN (by exact kR) ?_;rintro v1 h1 s1 q1;obtain⟨_,_,_,_,_,_,_,_,rfl,w1⟩:=q1
 try simp(disch:=omega) only[go_sem,ξ,ζ]
 exact Nc.mk w1
theorem EC {h0 h:PH} [Le h0 h] {v:Value} {x:Rat} {p:Nat} (hx:Rv h0 v x) (hp:p≤256):Spec mach 165 #[v,.int .i64 p] h (fun r h'=>Nc h' r (gup x p)) NP:=by
 have kR:=fun {h} [Le h0 h]=>NumRnd (h:=h) (u:=true) hx hp
 obtain⟨_,_,_,_,_,_,_,rfl,_⟩:=hx.sa
 refine Spec.go [] Tryz.func165 rfl rfl (by kernel_rfl) fun C _=>?_
 try simp(disch:=omega) only[go_sem,ξ,ζ]
 refine caN (by exact kR) ?_;rintro v1 h1 s1 q1;obtain⟨_,_,_,_,_,_,_,_,rfl,w1⟩:=q1
 try simp(disch:=omega) only[go_sem,ξ,ζ]
 exact Nc.mk w1
theorem jZ {h0 h:PH} [Le h0 h] {v w:Value} {x y:Rat} {p:Nat} (hx:Cn h0 v x) (hy:Cn h0 w y) (hp:p≤256) (sx:sz x≤2048) (sy:sz y≤2048) (tx:sz (gdown x p)≤2048) (ty:sz (gup y p)≤2048):
  Spec mach 109 #[v,w,.int .i64 p] h (fun v h'=>Bk h' v (gdown x p) (gup y p)) NP:=by
 have kD:=fun {h} [Le h0 h]=>NumDn (h:=h) (Rv.of hx sx) hp
 have kU:=fun {h} [Le h0 h]=>EC (h:=h) (Rv.of hy sy) hp
 obtain⟨_,_,_,_,_,_,_,rfl,hx⟩:=hx.sa
 obtain⟨_,_,_,_,_,_,_,rfl,hy⟩:=hy.sa
 refine Spec.go [] Tryz.func109 rfl rfl (by kernel_rfl) fun C _=>?_
 try simp(disch:=omega) only[go_sem,ξ,ζ]
 refine caN (by exact kD) ?_;rintro v1 h1 s1 q1;obtain⟨_,_,_,_,_,_,_,rfl,r1⟩:=q1.ok tx
 try simp(disch:=omega) only[go_sem,ξ,ζ]
 refine caN (by exact kU) ?_;rintro v2 h2 s2 q2;obtain⟨_,_,_,_,_,_,_,rfl,r2⟩:=q2.ok ty
 try simp(disch:=omega) only[go_sem,ξ,ζ]
 exact⟨_,_,_,_,_,_,_,_,_,_,_,_,_,_,rfl,r1.to,r2⟩
theorem uZ {h0 h:PH} [Le h0 h] {va vb vc vd:Value} {a b c d w p:Nat} (ha:N32 h0 va a) (hb:N32 h0 vb b) (hc:N32 h0 vc c) (hd:N32 h0 vd d) (ba:bl a≤2048) (bb:bl b≤2048) (bc:bl c≤2048) (bd:bl d≤2048) (hw:w < 2048) (hp:p≤256)
  (sx:sz (sgn false b (2^w)+ -sgn false a (2^w))≤2048) (sy:sz (sgn false d (2^w)+ -sgn false c (2^w))≤2048)
  (tx:sz (gdown (sgn false b (2^w)+ -sgn false a (2^w)) p)≤2048) (ty:sz (gup (sgn false d (2^w)+ -sgn false c (2^w)) p)≤2048):
  Spec mach 107 #[va,vb,vc,vd,.int .i64 w,.int .i64 p] h (fun v h'=>Bk h' v (gdown (sgn false b (2^w)+ -sgn false a (2^w)) p) (gup (sgn false d (2^w)+ -sgn false c (2^w)) p)) NP:=by
 have ss:∀{a:Nat},bl a≤2048→sz (sgn false a (2^w))≤2048:=fun {a} h=>by
  have:=dg false a (am w)
  have:=bC w
  omega
 have sa:=Hid.mk (ss ba)
 have sb:=Hid.mk (ss bb)
 have sc:=Hid.mk (ss bc)
 have sd:=Hid.mk (ss bd)
 obtain⟨_,_,_,rfl,ha⟩:=ha.sl
 obtain⟨_,_,_,rfl,hb⟩:=hb.sl
 obtain⟨_,_,_,rfl,hc⟩:=hc.sl
 obtain⟨_,_,_,rfl,hd⟩:=hd.sl
 have ba:=Hid.mk ba
 have bb:=Hid.mk bb
 have bc:=Hid.mk bc
 have bd:=Hid.mk bd
 have sx:=Hid.mk sx
 have sy:=Hid.mk sy
 have tx:=Hid.mk tx
 have ty:=Hid.mk ty
 refine Spec.go [] Tryz.func107 rfl rfl (by kernel_rfl) fun C _=>?_
 try simp(disch:=omega) only[go_sem,ξ,ζ]
 refine caN (by exact aO (n:=w) hb bb.out hw) ?_;rintro v1 h1 s1 q1;obtain⟨_,_,_,_,_,_,_,rfl,q1⟩:=q1.sa
 try simp(disch:=omega) only[go_sem,ξ,ζ]
 refine caN (by exact aO (n:=w) (ha.to (h':=h1)) ba.out hw) ?_;rintro v2 h2 s2 q2;obtain⟨_,_,_,_,_,_,_,rfl,q2⟩:=q2.sa
 try simp(disch:=omega) only[go_sem,ξ,ζ]
 refine caN (by exact wX (Rv.of (q1.to (h':=h2)) sb.out) (Rv.of q2 sa.out)) ?_;rintro v3 h3 s3 q3;obtain⟨_,_,_,_,_,_,_,rfl,r3⟩:=q3.ok sx.out
 try simp(disch:=omega) only[go_sem,ξ,ζ]
 refine caN (by exact aO (n:=w) (hd.to (h':=h3)) bd.out hw) ?_;rintro v4 h4 s4 q4;obtain⟨_,_,_,_,_,_,_,rfl,q4⟩:=q4.sa
 try simp(disch:=omega) only[go_sem,ξ,ζ]
 refine caN (by exact aO (n:=w) (hc.to (h':=h4)) bc.out hw) ?_;rintro v5 h5 s5 q5;obtain⟨_,_,_,_,_,_,_,rfl,q5⟩:=q5.sa
 try simp(disch:=omega) only[go_sem,ξ,ζ]
 refine caN (by exact wX (Rv.of (q4.to (h':=h5)) sd.out) (Rv.of q5 sc.out)) ?_;rintro v6 h6 s6 q6;obtain⟨_,_,_,_,_,_,_,rfl,r6⟩:=q6.ok sy.out
 try simp(disch:=omega) only[go_sem,ξ,ζ]
 refine caN (by exact jZ (p:=p) (r3.to (h':=h6)) r6 hp sx.out sy.out tx.out ty.out) ?_;rintro v7 h7 s7 q7;obtain⟨_,_,_,_,_,_,_,_,_,_,_,_,_,_,rfl,q7⟩:=q7.sp
 try simp(disch:=omega) only[go_sem,ξ,ζ]
 exact q7
def lge0 (n d:Nat):Int:=(bl n:Int) - bl d
def lgn (n:Nat) (e:Int):Nat:=n*2^(max 0 (-e)).toNat
def lgd (d:Nat) (e:Int):Nat:=d*2^(max 0 e).toNat
def lge (n d:Nat):Int:=if lgn n (lge0 n d) < lgd d (lge0 n d) then lge0 n d - 1 else lge0 n d
theorem jy {n d:Nat} (hn:n≠0):lgd d (lge n d)≤lgn n (lge n d):=by
 unfold lge
 split
 ·obtain⟨n1,n2⟩:=xG hn
  have d2:d < 2^bl d:=bl_le.1 (η _)
  unfold lgn lgd lge0
  by_cases h:1≤(bl n:Int) - bl d
  ·obtain⟨k,hk⟩:∃k:Nat,bl n=bl d+1+k:=⟨bl n - bl d - 1,by omega⟩
   rw[show(max 0 (-((bl n:Int) - bl d - 1))).toNat=0 by omega,show(max 0 ((bl n:Int) - bl d - 1)).toNat=k by omega,Nat.pow_zero,qAz]
   rw[show bl n - 1=bl d+k by omega,qAs] at n2
   exact χ (ψ _ (Nat.le_of_lt d2)) n2
  ·obtain⟨k,hk⟩:∃k:Nat,bl d=bl n+k:=⟨bl d - bl n,by omega⟩
   rw[show(max 0 (-((bl n:Int) - bl d - 1))).toNat=k+1 by omega,show(max 0 ((bl n:Int) - bl d - 1)).toNat=0 by omega,Nat.pow_zero,qAz]
   have e:2^bl d=2^(bl n - 1)*2^(k+1):=by rw[←qAs];congr 1;omega
   rw[e] at d2
   exact χ (Nat.le_of_lt d2) (ψ _ n2)
 ·omega
theorem Bj {n d k:Nat} (hn:bl n≤k) (hd:bl d≤k): -((k:Int)+1)≤lge n d∧lge n d≤k∧ -(k:Int)≤lge0 n d∧lge0 n d≤k:=by
 unfold lge lge0
 split<;>omega
def lgT (n d w:Nat):Nat:=(lgn n (lge n d) - lgd d (lge n d))*2^w
def lgB (n d:Nat):Nat:=lgn n (lge n d)+lgd d (lge n d)
theorem lP {n d:Nat} (hn:n≠0):lgB n d≠0:=by
 have:lgn n (lge n d)≠0:=qBe hn (am _)
 unfold lgB
 omega
theorem lgT_le {n d w:Nat}:lgT n d w≤lgB n d*2^w:=ψ _ (by unfold lgB;omega)
def lgmL (n d w:Nat):Nat:=logL (lgT n d w / lgB n d) (cdiv (lgT n d w) (lgB n d)) w
def lgmH (n d w:Nat):Nat:=logH (lgT n d w / lgB n d) (cdiv (lgT n d w) (lgB n d)) w
def lg2L (w:Nat):Nat:=logL (2^w / 3) (cdiv (2^w) 3) w
def lg2H (w:Nat):Nat:=logH (2^w / 3) (cdiv (2^w) 3) w
theorem Bl {n d w:Nat} (hn:n≠0):lgT n d w / lgB n d≤2^w∧cdiv (lgT n d w) (lgB n d)≤2^w:=
 ⟨Nat.div_le_of_le_mul lgT_le,(az (lP hn)).2 lgT_le⟩
theorem Bi (w:Nat):2^w / 3≤2^w∧cdiv (2^w) 3≤2^w:=pV 3 (by decide)
def lnLo (n d p:Nat):Rat:=
 if 0≤lge n d then sgn false ((lg2L (p+32)*(lge n d).toNat+lgmL n d (p+32)) / 2^32) (2^p)
 else gdown (sgn false (lgmL n d (p+32)) (2^(p+32))+ -sgn false (lg2H (p+32)*(0 - lge n d).toNat) (2^(p+32))) p
def lnHi (n d p:Nat):Rat:=
 if 0≤lge n d then sgn false (cdiv (lg2H (p+32)*(lge n d).toNat+lgmH n d (p+32)) (2^32)) (2^p)
 else gup (sgn false (lgmH n d (p+32)) (2^(p+32))+ -sgn false (lg2L (p+32)*(0 - lge n d).toNat) (2^(p+32))) p
theorem ln_pos {n d p m:Nat} (h:lge n d=(m:Int)):lnLo n d p=sgn false ((lg2L (p+32)*m+lgmL n d (p+32)) / 2^32) (2^p)∧lnHi n d p=sgn false (cdiv (lg2H (p+32)*m+lgmH n d (p+32)) (2^32)) (2^p):=by
 unfold lnLo lnHi
 rw[if_pos (by omega),if_pos (by omega),h]
 exact⟨rfl,rfl⟩
theorem ln_neg {n d p m:Nat} (h:0 - lge n d=(m:Int)) (h':¬0≤lge n d):lnLo n d p=gdown (sgn false (lgmL n d (p+32)) (2^(p+32))+ -sgn false (lg2H (p+32)*m) (2^(p+32))) p∧lnHi n d p=gup (sgn false (lgmH n d (p+32)) (2^(p+32))+ -sgn false (lg2L (p+32)*m) (2^(p+32))) p:=by
 unfold lnLo lnHi
 rw[if_neg h',if_neg h',h]
 exact⟨rfl,rfl⟩
theorem lO {n w:Nat} (h:n≤112*2^w):bl n≤w+8:=pj (k:=w+7) (by rw[qAs];omega)
theorem qo {a b w k:Nat} (ha:bl a≤k) (hb:bl b≤k) (hk:w+1≤k):sz (sgn false a (2^w)+ -sgn false b (2^w))≤2*k+1:=by
 have h1:=dg false a (am w)
 have h2:=dg false b (am w)
 have h3:=bC w
 have h4:=dA (sgn false a (2^w)) (-sgn false b (2^w))
 rw[cz] at h4
 omega
theorem sz_gd (x:Rat) (p:Nat):sz (gdown x p)≤sz x+2*p+2:=by
 have h1:=su ((x*2^p).floor:Rat) p
 have h2:=oz (x*2^p)
 have h3:=yH x p
 unfold gdown
 omega
theorem zI (x:Rat) (p:Nat):gup x p= -gdown (-x) p:=by
 unfold gup gdown
 rw[Rat.ceil_eq_neg_floor_neg,Rat.neg_mul,Rat.intCast_neg,qAx,qAx,Rat.neg_mul]
theorem sz_gu (x:Rat) (p:Nat):sz (gup x p)≤sz x+2*p+2:=by
 rw[zI,cz]
 have:=sz_gd (-x) p
 rw[cz] at this
 exact this
theorem Iz {h0 h:PH} [Le h0 h] {v:Value} {x:Rat} {p:Nat} (hx:Cn h0 v x) (bx:sz x≤1024) (hp0:x.num.natAbs≠0) (hp:p≤128):Spec mach 32 #[v,.int .i64 p] h (fun r h'=>Be h' r (lnLo x.num.natAbs x.den p) (lnHi x.num.natAbs x.den p)) NP:=by
 have kW:=fun {h} [Le h0 h]=>jg (h:=h) hx
 have bn:=χ (bG x) bx
 have bd:=χ (bB x) bx
 obtain⟨na,nl,nc,da,dl,dc,rfl,hn,hd,e1,e2⟩:=hx.parts
 have kO:=fun {h} [Le h0 h]=>rH (h:=h) hn
 clear hn hd e1 e2 hx bx
 generalize x.num.natAbs=N at*
 generalize x.den=D at*
 generalize decide (x.num < 0)=b at*
 obtain⟨a1,a2,a3,a4⟩:=Bj bn bd
 have e0:(bl N:Int) - bl D=lge0 N D:=rfl
 obtain⟨c,hc⟩:∃c,decide (lgn N (lge0 N D) < lgd D (lge0 N D))=c:=⟨_,rfl⟩
 obtain⟨k1,hk1,f1⟩:∃k:Nat,(if 0 - lge0 N D > 0 then 0 - lge0 N D else 0)=(k:Int)∧(max 0 (-lge0 N D)).toNat=k:=⟨_,by split<;>omega,rfl⟩
 obtain⟨k2,hk2,f2⟩:∃k:Nat,(if lge0 N D > 0 then lge0 N D else 0)=(k:Int)∧(max 0 (lge0 N D)).toNat=k:=⟨_,by split<;>omega,rfl⟩
 obtain⟨k3,hk3,f3⟩:∃k:Nat,(if 0 - lge N D > 0 then 0 - lge N D else 0)=(k:Int)∧(max 0 (-lge N D)).toNat=k:=⟨_,by split<;>omega,rfl⟩
 obtain⟨k4,hk4,f4⟩:∃k:Nat,(if lge N D > 0 then lge N D else 0)=(k:Int)∧(max 0 (lge N D)).toNat=k:=⟨_,by split<;>omega,rfl⟩
 have bk1:k1≤1024:=by omega
 have bk2:k2≤1024:=by omega
 have bk3:k3≤1025:=by omega
 have bk4:k4≤1024:=by omega
 have g1:Hid (lgn N (lge0 N D)=N*2^k1):=⟨by unfold lgn;rw[f1]⟩
 have g2:Hid (lgd D (lge0 N D)=D*2^k2):=⟨by unfold lgd;rw[f2]⟩
 have g3:Hid (lgn N (lge N D)=N*2^k3):=⟨by unfold lgn;rw[f3]⟩
 have g4:Hid (lgd D (lge N D)=D*2^k4):=⟨by unfold lgd;rw[f4]⟩
 clear f1 f2 f3 f4
 have b1:=cu N k3
 have b2:=cu D k4
 have b3:=cY (N*2^k3) (D*2^k4)
 have b4:bl (N*2^k3 - D*2^k4)≤_:=aR (Nat.sub_le _ _)
 have b5:=cu (N*2^k3 - D*2^k4) (p+32)
 have b6:=cu N k1
 have b7:=cu D k2
 have hs:Hid (D*2^k4≤N*2^k3):=⟨by rw[←g3.out,←g4.out];exact jy hp0⟩
 have hB:Hid (N*2^k3+D*2^k4≠0):=⟨by have:=qBe hp0 (am k3);omega⟩
 have ec:Hid (decide (cmp3 (N*2^k1) (D*2^k2) < 0)=c):=⟨by rw[←hc,g1.out,g2.out];unfold cmp3;grind⟩
 have hc:=Hid.mk hc
 have F:=Hid.mk (And.intro b1 (And.intro b2 (And.intro b3 (And.intro b4 (And.intro b5 (And.intro b6 b7))))));clear b1 b2 b3 b4 b5 b6 b7
 refine Spec.go [(2,.o [0,1,3,2,4,5,6]),(12,.o [0,1,2,4,5,7,8,9,11,12,15,16,3,6,10,13,14,17,18,19]),(14,.o [0,1,2,4,5,6,7,8,10,11,12,13,3,9,14,15,16])] Tryz.func32 rfl rfl (by kernel_rfl) fun C _=>?_
 try simp(disch:=omega) only[go_sem,ξ,ζ]
 refine caN (by exact kO) ?_;rintro _ h1 _ q1;obtain⟨_,_,_,rfl,q1⟩:=q1.sl
 try simp(disch:=omega) only[go_sem,ξ,ζ]
 refine caN (by exact kW) ?_;rintro _ h2 _ q2;obtain⟨_,_,_,rfl,q2⟩:=q2.sl
 try simp(disch:=omega) only[go_sem,ξ,ζ]
 refine caN (by exact mG (q1.to (h':=h2))) ?_;rintro v3 h3 s3 rfl
 try simp(disch:=omega) only[go_sem,ξ,ζ]
 refine caN (by exact mG (q2.to (h':=h3))) ?_;rintro v4 h4 s4 rfl
 try simp(disch:=omega) only[go_sem,ξ,ζ,e0,hk1,hk2]
 refine caN (by exact aL (n:=k1) (q1.to (h':=h4)) (by have:=F.1;omega)) ?_;rintro _ h5 _ q5;obtain⟨v5,_,_,rfl,q5⟩:=q5.sl
 try simp(disch:=omega) only[go_sem,ξ,ζ,hk2]
 refine caN (by exact aL (n:=k2) (q2.to (h':=h5)) (by have:=F.1;omega)) ?_;rintro _ h6 _ q6;obtain⟨v6,_,_,rfl,q6⟩:=q6.sl
 try simp(disch:=omega) only[go_sem,ξ,ζ]
 refine caN (by exact fO (q5.to (h':=h6)) q6) ?_;rintro v7 h7 s7 rfl
 try simp(disch:=omega) only[go_sem,ξ,ζ,ec.out]
 have et:Hid (if c then lge0 N D - 1=lge N D else lge0 N D=lge N D):=⟨by
  have hc:=hc.out
  subst hc
  unfold lge
  by_cases hl:lgn N (lge0 N D) < lgd D (lge0 N D)
  ·simp[hl]
  ·simp[hl]⟩
 obtain⟨l1,l2⟩:=Bl (n:=N) (d:=D) (w:=p+32) hp0
 obtain⟨l3,l4⟩:=Bi (p+32)
 have l5:=Hid.mk (wh l1 l2)
 have l6:=Hid.mk (wh l3 l4)
 have l1:=Hid.mk l1
 have l2:=Hid.mk l2
 have l3:=Hid.mk l3
 have l4:=Hid.mk l4
 have gT:Hid (lgT N D (p+32)=(N*2^k3 - D*2^k4)*2^(p+32)):=⟨by unfold lgT;rw[g3.out,g4.out]⟩
 have gB:Hid (lgB N D=N*2^k3+D*2^k4):=⟨by unfold lgB;rw[g3.out,g4.out]⟩
 have u1:=bC (p+32)
 have u2:bl 3=2:=by decide
 have F:=Hid.mk (And.intro F.1 (And.intro u1 u2));clear u1 u2
 have et:=et.out
 cases c
 all_goals
  simp only[qAw,if_false,if_true] at et
  try simp(disch:=omega) only[go_sem,ξ,ζ,et,hk3]
  refine caN (by exact aL (n:=k3) (q1.to (h':=h7)) (by have:=F.1;omega)) ?_;rintro _ h8 _ q8;obtain⟨v8,_,_,rfl,q8⟩:=q8.sl
  try simp(disch:=omega) only[go_sem,ξ,ζ,et,hk4]
  refine caN (by exact aL (n:=k4) (q2.to (h':=h8)) (by have:=F.1;omega)) ?_;rintro _ h9 _ q9;obtain⟨v9,_,_,rfl,q9⟩:=q9.sl
  try simp(disch:=omega) only[go_sem,ξ,ζ]
  refine caN (by exact gE (q8.to (h':=h9)) q9 hs.out (by have:=F.1;omega)) ?_;rintro _ h10 _ q10;obtain⟨v10,_,_,rfl,q10⟩:=q10.sl
  try simp(disch:=omega) only[go_sem,ξ,ζ]
  refine caN (by exact aL (n:=p+32) q10 (show bl (N*2^k3 - D*2^k4)+(p+32)≤2^40 by have:=F.1;omega)) ?_;rintro _ h11 _ q11;obtain⟨v11,_,_,rfl,q11⟩:=q11.sl
  try simp(disch:=omega) only[go_sem,ξ,ζ]
  refine caN (by exact bR (q8.to (h':=h11)) (q9.to (h':=h11)) (by have:=F.1;omega) (by have:=F.1;omega)) ?_;rintro _ h12 _ q12;obtain⟨v12,_,_,rfl,q12⟩:=q12.sl
  try simp(disch:=omega) only[go_sem,ξ,ζ]
  refine caN (by exact bD (c:=false) (q11.to (h':=h12)) q12 hB.out (show bl ((N*2^k3 - D*2^k4)*2^(p+32))≤2^36 by have:=F.1;omega) (show bl (N*2^k3+D*2^k4)≤2^36 by have:=F.1;omega)) ?_;rintro _ h13 _ q13;obtain⟨v13,v13_l,v13_c,rfl,q13⟩:=q13.sl
  try simp(disch:=omega) only[go_sem,ξ,ζ]
  refine caN (by exact bD (c:=true) (q11.to (h':=h13)) (q12.to (h':=h13)) hB.out (show bl ((N*2^k3 - D*2^k4)*2^(p+32))≤2^36 by have:=F.1;omega) (show bl (N*2^k3+D*2^k4)≤2^36 by have:=F.1;omega)) ?_;rintro _ h14 _ q14;obtain⟨v14,v14_l,v14_c,rfl,q14⟩:=q14.sl
  try simp(disch:=omega) only[go_sem,ξ,ζ]
  have q13:N32 h13 (.slice v13 v13_l v13_c) (lgT N D (p+32) / lgB N D):=by rw[gT.out,gB.out];exact q13
  have q14:N32 h14 (.slice v14 v14_l v14_c) (cdiv (lgT N D (p+32)) (lgB N D)):=by rw[gT.out,gB.out];exact q14
  refine caN (by exact wO ⟨_,_,_,_,_,_,rfl,q13.to,q14⟩ l1.out l2.out (by have:=F.1;omega) (by have:=F.1;omega)) ?_;rintro v15 h15 s15 ⟨x1,m1,c1,y1,n1,d1,rfl,r1,r2⟩
  try simp(disch:=omega) only[go_sem,ξ,ζ]
  refine caN (by exact bu (w:=p+32) (by have:=F.1;omega)) ?_;rintro _ h16 _ q16;obtain⟨v16,_,_,rfl,q16⟩:=q16.sl
  try simp(disch:=omega) only[go_sem,ξ,ζ]
  refine caN (by exact aw (n:=3) (by decide)) ?_;rintro _ h17 _ q17;obtain⟨_,_,_,rfl,q17⟩:=q17.sl
  try simp(disch:=omega) only[go_sem,ξ,ζ]
  refine caN (by exact bD (c:=false) (q16.to (h':=h17)) q17 (by decide) (by have:=F.1;omega) (by have:=F.1;omega)) ?_;rintro _ h18 _ q18;obtain⟨v18,v18_l,v18_c,rfl,q18⟩:=q18.sl
  try simp(disch:=omega) only[go_sem,ξ,ζ]
  refine caN (by exact bu (w:=p+32) (by have:=F.1;omega)) ?_;rintro _ h19 _ q19;obtain⟨v19,_,_,rfl,q19⟩:=q19.sl
  try simp(disch:=omega) only[go_sem,ξ,ζ]
  refine caN (by exact aw (n:=3) (by decide)) ?_;rintro _ h20 _ q20;obtain⟨_,_,_,rfl,q20⟩:=q20.sl
  try simp(disch:=omega) only[go_sem,ξ,ζ]
  refine caN (by exact bD (c:=true) (q19.to (h':=h20)) q20 (by decide) (by have:=F.1;omega) (by have:=F.1;omega)) ?_;rintro _ h21 _ q21;obtain⟨v21,v21_l,v21_c,rfl,q21⟩:=q21.sl
  try simp(disch:=omega) only[go_sem,ξ,ζ]
  have q18:N32 h18 (.slice v18 v18_l v18_c) (2^(p+32) / 3):=q18
  have q21:N32 h21 (.slice v21 v21_l v21_c) (cdiv (2^(p+32)) 3):=q21
  refine caN (by exact wO ⟨_,_,_,_,_,_,rfl,q18.to,q21⟩ l3.out l4.out (by have:=F.1;omega) (by have:=F.1;omega)) ?_;rintro v22 h22 s22 ⟨x2,m2,c2,y2,n2,d2,rfl,r3,r4⟩
  try simp(disch:=omega) only[go_sem,ξ,ζ]
  have r1:N32 h15 (.slice x1 m1 c1) (lgmL N D (p+32)):=r1
  have r2:N32 h15 (.slice y1 n1 d1) (lgmH N D (p+32)):=r2
  have r3:N32 h22 (.slice x2 m2 c2) (lg2L (p+32)):=r3
  have r4:N32 h22 (.slice y2 n2 d2) (lg2H (p+32)):=r4
  by_cases he:0≤lge N D
  ·obtain⟨m,hm⟩:∃m:Nat,lge N D=(m:Int):=⟨_,(Int.toNat_of_nonneg he).symm⟩
   have bm:bl m≤11:=bl_le.2 (by have:=F.1;omega)
   have b10:=lO l5.out.1
   have b11:=lO l5.out.2
   have b12:=lO l6.out.1
   have b13:=lO l6.out.2
   have b14:=aG (lg2L (p+32)) m
   have b15:=aG (lg2H (p+32)) m
   have b16:=cY (lg2L (p+32)*m) (lgmL N D (p+32))
   have b17:=cY (lg2H (p+32)*m) (lgmH N D (p+32))
   have b18:=aZ (lg2L (p+32)*m+lgmL N D (p+32)) (2^32)
   have b19:=fy (lg2H (p+32)*m+lgmH N D (p+32)) (am 32)
   have b10:bl (lgmL N D (p+32))≤p+32+8:=b10
   have b11:bl (lgmH N D (p+32))≤p+32+8:=b11
   have b12:bl (lg2L (p+32))≤p+32+8:=b12
   have b13:bl (lg2H (p+32))≤p+32+8:=b13
   have b20:bl (lg2L (p+32)*m+lgmL N D (p+32))≤2048:=by have:=F.1;omega
   have b21:bl (lg2H (p+32)*m+lgmH N D (p+32))≤2047:=by have:=F.1;omega
   have ep:p+32 - p=32:=by have:=F.1;omega
   have b22:Hid (bl ((lg2L (p+32)*m+lgmL N D (p+32)) / 2^(p+32 - p))≤2048):=⟨by rw[ep];exact χ b18 b20⟩
   have b23:Hid (bl (cdiv (lg2H (p+32)*m+lgmH N D (p+32)) (2^(p+32 - p)))≤2048):=⟨by rw[ep];omega⟩
   have eL:=Hid.mk (ln_pos (p:=p) hm)
   have ep:=Hid.mk ep
   clear b18 b19
   have hm2:m < 2^32:=by have:=F.1;omega
   have F:=Hid.mk (And.intro F.1 (And.intro bm (And.intro b10 (And.intro b11 (And.intro b12 (And.intro b13 (And.intro b14 (And.intro b15 (And.intro b16 (And.intro b17 (And.intro b20 b21)))))))))));clear bm b10 b11 b12 b13 b14 b15 b16 b17 b20 b21
   try simp(disch:=omega) only[go_sem,ξ,ζ,et,hm]
   refine caN (by exact aw (n:=m) (by have:=F.1;omega)) ?_;rintro _ g1 _ t1;obtain⟨w1,_,_,rfl,t1⟩:=t1.sl
   try simp(disch:=omega) only[go_sem,ξ,ζ]
   refine caN (by exact aI (r3.to (h':=g1)) t1 (show bl (lg2L (p+32))≤2^40 by have:=F.1;omega) (by have:=F.1;omega)) ?_;rintro _ g2 _ t2;obtain⟨w2,_,_,rfl,t2⟩:=t2.sl
   try simp(disch:=omega) only[go_sem,ξ,ζ]
   refine caN (by exact bR t2 (r1.to (h':=g2)) (show bl (lg2L (p+32)*m)≤2^40 by have:=F.1;omega) (show bl (lgmL N D (p+32))≤2^40 by have:=F.1;omega)) ?_;rintro _ g3 _ t3;obtain⟨w3,_,_,rfl,t3⟩:=t3.sl
   try simp(disch:=omega) only[go_sem,ξ,ζ]
   refine caN (by exact aI (r4.to (h':=g3)) (t1.to (h':=g3)) (show bl (lg2H (p+32))≤2^40 by have:=F.1;omega) (by have:=F.1;omega)) ?_;rintro _ g4 _ t4;obtain⟨w4,_,_,rfl,t4⟩:=t4.sl
   try simp(disch:=omega) only[go_sem,ξ,ζ]
   refine caN (by exact bR t4 (r2.to (h':=g4)) (show bl (lg2H (p+32)*m)≤2^40 by have:=F.1;omega) (show bl (lgmH N D (p+32))≤2^40 by have:=F.1;omega)) ?_;rintro _ g5 _ t5;obtain⟨w5,_,_,rfl,t5⟩:=t5.sl
   try simp(disch:=omega) only[go_sem,ξ,ζ]
   refine caN (by exact fw (w:=p+32) (p:=p) (neg:=false) ⟨_,_,_,_,_,_,rfl,t3.to (h':=g5),t5⟩ (show bl (lg2L (p+32)*m+lgmL N D (p+32))≤2^30 by have:=F.1;omega) (show bl (lg2H (p+32)*m+lgmH N D (p+32))≤2^30 by have:=F.1;omega) (by have:=F.1;omega) (by have:=F.1;omega) (by have:=F.1;omega) b22.out b23.out) ?_;rintro w6 g6 z6 t6;obtain⟨_,_,_,_,_,_,_,_,_,_,_,_,_,_,rfl,t6,t7⟩:=t6
   try simp(disch:=omega) only[go_sem,ξ,ζ]
   rw[eL.out.1,eL.out.2]
   simp only[qAw,if_false,ep.out] at t6 t7
   exact⟨_,_,_,_,_,_,_,_,_,_,_,_,_,_,rfl,t6,t7⟩
  ·obtain⟨m,hm,hm'⟩:∃m:Nat,0 - lge N D=(m:Int)∧decide (0≤lge N D)=false:=⟨(0 - lge N D).toNat,by have:=F.1;omega,by simpa using he⟩
   have bm:bl m≤11:=bl_le.2 (by have:=F.1;omega)
   have b10:bl (lgmL N D (p+32))≤p+32+8:=lO l5.out.1
   have b11:bl (lgmH N D (p+32))≤p+32+8:=lO l5.out.2
   have b12:bl (lg2L (p+32))≤p+32+8:=lO l6.out.1
   have b13:bl (lg2H (p+32))≤p+32+8:=lO l6.out.2
   have b14:=aG (lg2L (p+32)) m
   have b15:=aG (lg2H (p+32)) m
   have y1':=qo (a:=lgmL N D (p+32)) (b:=lg2H (p+32)*m) (w:=p+32) (k:=p+52) (by have:=F.1;omega) (by have:=F.1;omega) (by have:=F.1;omega)
   have y2':=qo (a:=lgmH N D (p+32)) (b:=lg2L (p+32)*m) (w:=p+32) (k:=p+52) (by have:=F.1;omega) (by have:=F.1;omega) (by have:=F.1;omega)
   have y3':=sz_gd (sgn false (lgmL N D (p+32)) (2^(p+32))+ -sgn false (lg2H (p+32)*m) (2^(p+32))) p
   have y4':=sz_gu (sgn false (lgmH N D (p+32)) (2^(p+32))+ -sgn false (lg2L (p+32)*m) (2^(p+32))) p
   have y1:=Hid.mk (χ y1' (show 2*(p+52)+1≤2048 by have:=F.1;omega))
   have y2:=Hid.mk (χ y2' (show 2*(p+52)+1≤2048 by have:=F.1;omega))
   have y3:=Hid.mk (χ y3' (show _≤2048 by have:=F.1;omega))
   have y4:=Hid.mk (χ y4' (show _≤2048 by have:=F.1;omega))
   clear y1' y2' y3' y4'
   have eL:=Hid.mk (ln_neg (p:=p) hm he)
   have hm2:m < 2^32:=by have:=F.1;omega
   have F:=Hid.mk (And.intro F.1 (And.intro bm (And.intro b10 (And.intro b11 (And.intro b12 (And.intro b13 (And.intro b14 b15)))))));clear bm b10 b11 b12 b13 b14 b15
   try simp(disch:=omega) only[go_sem,ξ,ζ,et,hm',hm]
   refine caN (by exact aw (n:=m) (by have:=F.1;omega)) ?_;rintro _ g1 _ t1;obtain⟨w1,_,_,rfl,t1⟩:=t1.sl
   try simp(disch:=omega) only[go_sem,ξ,ζ]
   refine caN (by exact aI (r4.to (h':=g1)) t1 (show bl (lg2H (p+32))≤2^40 by have:=F.1;omega) (by have:=F.1;omega)) ?_;rintro _ g2 _ t2;obtain⟨w2,_,_,rfl,t2⟩:=t2.sl
   try simp(disch:=omega) only[go_sem,ξ,ζ]
   refine caN (by exact aI (r3.to (h':=g2)) (t1.to (h':=g2)) (show bl (lg2L (p+32))≤2^40 by have:=F.1;omega) (by have:=F.1;omega)) ?_;rintro _ g3 _ t3;obtain⟨w3,_,_,rfl,t3⟩:=t3.sl
   try simp(disch:=omega) only[go_sem,ξ,ζ]
   refine caN (by exact uZ (w:=p+32) (p:=p) (t2.to (h':=g3)) (r1.to (h':=g3)) t3 (r2.to (h':=g3)) (show bl (lg2H (p+32)*m)≤2048 by have:=F.1;omega) (show bl (lgmL N D (p+32))≤2048 by have:=F.1;omega) (show bl (lg2L (p+32)*m)≤2048 by have:=F.1;omega) (show bl (lgmH N D (p+32))≤2048 by have:=F.1;omega) (by have:=F.1;omega) (by have:=F.1;omega) y1.out y2.out y3.out y4.out) ?_;rintro w6 g6 z6 t6;obtain⟨_,_,_,_,_,_,_,_,_,_,_,_,_,_,rfl,t6,t7⟩:=t6
   try simp(disch:=omega) only[go_sem,ξ,ζ]
   rw[eL.out.1,eL.out.2]
   exact⟨_,_,_,_,_,_,_,_,_,_,_,_,_,_,rfl,t6,t7⟩
theorem tS {z:Int} (hz:z.natAbs < 2^62):sz (z:Rat)≤2048:=by
 unfold sz
 have e1:bl ((z:Rat).num.natAbs)≤64:=bl_le.2 (by simp;omega)
 have e2:bl ((z:Rat).den)≤64:=bl_le.2 (by simp)
 omega
theorem orI_0 {m:Nat} (h:m < 4294967296):orI .i64 0 (m:Int)=(m:Int):=by
 unfold orI
 rw[BitVec.toNat_or]
 rw[show IntKind.i64.bits=64 from rfl,fz 64 m (by omega)]
 have:(BitVec.ofInt 64 0).toNat=0:=by decide
 rw[this,Nat.zero_or,wi64 (by omega) (by omega)]
def qt (x y:Rat) (u:Bool):Int:=if u then (x*y⁻¹).ceil else (x*y⁻¹).floor
theorem W_1 {m:Nat} (h0:m≠0) (h:m < 4294967296):W 4294967296 m=[m]:=by
 rw[W_pos (by decide) h0,qBi h,Nat.div_eq_of_lt h,ff]
theorem N32.one {h:PH} {a:Option Addr} {l c m:Nat} (r:N32 h (.slice a l c) m) (h0:m≠0) (hm:m < 4294967296):∃ad,a=some ad∧l=1∧h.at (ad.add 0)=some (.int .u32 m):=by
 obtain⟨a',c',e,r⟩:=r
 cases e
 rw[W_1 h0 hm] at r ⊢
 obtain⟨ad,rfl,e⟩:=r.get (i:=0) (by simp)
 exact⟨ad,rfl,rfl,e⟩
theorem oP {h0 h:PH} [Le h0 h] {v w:Value} {x y:Rat} {u:Bool} (hx:Cn h0 v x) (hy:Cn h0 w y) (sx:sz x≤1024) (sy:sz y≤400) (y0:y≠0) (hb:(qt x y u).natAbs < 4294967296):
  Spec mach 185 #[v,w,.bool u] h (fun r _=>r=.int .i64 (qt x y u)) NP:=by
 have kD:=fun {h} [Le h0 h]=>o6 (h:=h) (Rv.of hx (by omega)) (Rv.of hy (by omega)) y0
 have sq:sz (x*y⁻¹)≤2048:=by have:=bV x y⁻¹;have:=iQ y;omega
 have kF:∀{h1 h:PH} {q:Value} [Le h1 h],Cn h1 q (x*y⁻¹)→(u=false→Spec mach 214 #[q] h (fun r h'=>∃b na nl nc da dl dc,r=.tuple #[.agg #[.bool b,.slice na nl nc,.slice da dl dc],.int .i64 0]∧Cn h' (.agg #[.bool b,.slice na nl nc,.slice da dl dc]) ((qt x y u:Int):Rat)) NP)∧(u=true→Spec mach 225 #[q] h (fun r h'=>∃b na nl nc da dl dc,r=.tuple #[.agg #[.bool b,.slice na nl nc,.slice da dl dc],.int .i64 0]∧Cn h' (.agg #[.bool b,.slice na nl nc,.slice da dl dc]) ((qt x y u:Int):Rat)) NP):=by
  intro h1 h q _ hq
  refine⟨?_,?_⟩<;>rintro rfl
  ·exact(CE (Rv.of hq sq)).mono (fun r h' _ k=>Nc.ok k (tS (z:=qt x y false) (by omega))) (fun _ _ _ k=>k)
  ·exact(NumCeil (Rv.of hq sq)).mono (fun r h' _ k=>Nc.ok k (tS (z:=qt x y true) (by omega))) (fun _ _ _ k=>k)
 generalize qt x y u=z at hb kF ⊢
 have en:((z:Rat)).num=z:=Rat.num_intCast z
 obtain⟨x1,x2,x3,x4,x5,x6,x7,rfl,_⟩:=hx.sa
 obtain⟨y1,y2,y3,y4,y5,y6,y7,rfl,_⟩:=hy.sa
 clear hx hy sx sy
 cases u
 all_goals
  refine Spec.go [] Tryz.func185 rfl rfl (by kernel_rfl) fun C _=>?_
  try simp(disch:=omega) only[go_sem,ξ,ζ]
  refine caN (by exact kD) ?_;rintro v1 h1 s1 q1;obtain⟨_,_,_,_,_,_,_,rfl,c1⟩:=q1.ok sq
  try simp(disch:=omega) only[go_sem,ξ,ζ]
  first
   |(refine caN (by exact(kF c1).1 rfl) ?_;rintro v2 h2 s2 ⟨_,na,nl,nc,da,dl,dc,rfl,c2⟩)
   |(refine caN (by exact(kF c1).2 rfl) ?_;rintro v2 h2 s2 ⟨_,na,nl,nc,da,dl,dc,rfl,c2⟩)
  obtain⟨_,_,_,_,_,_,e,hn,_,e1,_⟩:=c2.parts
  cases e
  rw[en] at hn ⊢
  clear kF kD c1 c2
  by_cases h0:z=0
  ·subst h0
   obtain rfl:nl=0:=e1.2 rfl
   rw[show decide ((0:Int) < 0)=false from rfl]
   try simp(disch:=omega) only[go_sem,ξ,ζ]
   refine lp [] (fun _:Nat=>⟨[(7,.p 2 0),(9,.v (.int .i64 0)),(10,.v (.int .i64 (-1)))],[[.bool x1,.slice x2 x3 x4,.slice x5 x6 x7],[.bool y1,.slice y2 y3 y4,.slice y5 y6 y7],[.bool false,.slice na 0 nc,.slice da dl dc]]⟩) (fun _ _=>True) id 0 ?_ trivial (by kernel_rfl) ?_
   ·try simp(disch:=omega) only[go_sem,ξ,ζ]
    all_goals rfl
   ·intro x' h3 _
    try simp(disch:=omega) only[go_sem,ξ,ζ]
  ·obtain⟨m,em⟩:∃m,z.natAbs=m:=⟨_,rfl⟩
   rw[em] at hn hb
   have m0:m≠0:=by omega
   obtain⟨ad,rfl,rfl,hat⟩:=hn.one m0 hb
   have ez:z=(if decide (z < 0)=true then -(m:Int) else (m:Int)):=by
    by_cases hz:z < 0
    ·rw[decide_eq_true hz,if_pos rfl];omega
    ·rw[decide_eq_false hz,if_neg (by decide)];omega
   generalize decide (z < 0)=s at ez ⊢
   rw[ez]
   clear ez en hn e1 em h0
   try simp(disch:=omega) only[go_sem,ξ,ζ]
   refine lp [] (fun k:Nat=>⟨[(7,.p 2 0),(9,.v (.int .i64 (if k=1 then 0 else (m:Int)))),(10,.v (.int .i64 ((k:Int) - 1)))],[[.bool x1,.slice x2 x3 x4,.slice x5 x6 x7],[.bool y1,.slice y2 y3 y4,.slice y5 y6 y7],[.bool s,.slice (some ad) 1 nc,.slice da dl dc]]⟩) (fun k h'=>Le h2 h'∧k≤1) id 1 ?_ ⟨inferInstance,η _⟩ (by kernel_rfl) ?_
   ·try simp(disch:=omega) only[go_sem,ξ,ζ]
    all_goals rfl
   ·rintro k h3 ⟨le3,hk⟩
    rcases(show k=0∨k=1 by omega) with rfl |rfl
    ·have ei:(if (0:Nat)=1 then (0:Int) else (m:Int))=(m:Int):=rfl
     cases s
     all_goals (try simp(disch:=omega) only[go_sem,ξ,ζ,ei,Int.zero_sub])
     all_goals rfl
    ·have hat3:=le3.sub.at hat
     rw[if_pos rfl]
     try simp(disch:=omega) only[go_sem,ξ,ζ]
     refine aE hat3 ?_
     try simp(disch:=omega) only[go_sem,ξ,ζ,Int.zero_mul,orI_0 hb]
     dsimp only[lpE];refine⟨0,?_,⟨le3,by decide⟩,by decide⟩
     try simp(disch:=omega) only[go_sem,ξ,ζ]
     all_goals (first |rfl |exact⟨rfl,rfl⟩)
theorem tm4 (x:Int):(x.tmod 4+4).tmod 4=x % 4∧ -4 < x.tmod 4∧x.tmod 4 < 4:=by
 have e:=Int.tmod_eq_emod (a:=x) (b:=4)
 have h1:=Int.emod_nonneg x (b:=4) (by decide)
 have h2:=Int.emod_lt_of_pos x (b:=4) (by decide)
 have h3:(4:Int).natAbs=4:=rfl
 rw[h3] at e
 have h4: -4 < x.tmod 4∧x.tmod 4 < 4:=by rw[e];split<;>omega
 refine⟨?_,h4⟩
 rw[Int.tmod_eq_emod_of_nonneg (by omega),e]
 split<;>omega
def mt (a b r:Int):Bool:=decide (a+(r - a) % 4≤b)
theorem wT {h:PH} {a b r:Int} (ha: -8589934592≤a∧a≤8589934592) (hr:0≤r∧r≤3):Spec mach 186 #[.int .i64 a,.int .i64 b,.int .i64 r] h (fun v _=>v=.bool (mt a b r)) NP:=by
 obtain⟨e1,l1,l2⟩:=tm4 (r - a)
 have m1:=Int.emod_nonneg (r - a) (b:=4) (by decide)
 have m2:=Int.emod_lt_of_pos (r - a) (b:=4) (by decide)
 unfold mt
 generalize(r - a) % 4=z at*
 generalize et:(r - a).tmod 4=t at*
 refine Spec.go [] Tryz.func186 rfl rfl (by kernel_rfl) fun C _=>?_
 try simp(disch:=omega) only[go_sem,ξ,ζ,et,e1]
def fP:Rat:=sgn false (piL 192) (2^193)
def gP:Rat:=sgn false (piH 192) (2^193)
theorem fP_ge:3 / 2≤fP:=by
 unfold fP sgn
 rw[qBb]
 have:=(pn (w:=192) (by decide) (by decide)).1
 decide+kernel
theorem gP_ge:3 / 2≤gP:=by decide+kernel
theorem fP_sz:sz fP≤400:=by decide+kernel
theorem gP_sz:sz gP≤400:=by decide+kernel
theorem iP {x:Rat} (h:¬x.den*4294967296 < x.num.natAbs): -4294967296≤x∧x≤4294967296:=by
 have e:x=mkRat x.num x.den:=(Rat.mkRat_self x).symm
 have hd:(0:Rat) < (x.den:Rat):=by exact_mod_cast x.den_pos
 have e2:x*(x.den:Rat)=(x.num:Rat):=by
  have key:∀(d n y:Rat),d≠0→y=n / d→y*d=n:=fun d n y hd hy=>by rw[hy];exact Rat.div_mul_cancel hd
  have:=qBb x.num x.den
  rw[←e] at this
  exact key _ _ _ (Rat.ne_of_gt hd) this
 have k1:(x.num:Rat)≤4294967296*(x.den:Rat):=by
  have h1:x.num≤4294967296*(x.den:Int):=by omega
  have h2:=qBa.2 h1
  rw[Rat.intCast_mul] at h2
  exact h2
 have k2: -(4294967296*(x.den:Rat))≤(x.num:Rat):=by
  have h1: -(4294967296*(x.den:Int))≤x.num:=by omega
  have h2:=qBa.2 h1
  rw[Rat.intCast_neg,Rat.intCast_mul] at h2
  exact h2
 rw[←e2] at k1 k2
 constructor
 ·refine Decidable.byContradiction fun hc=>?_
  have:=Rat.mul_lt_mul_of_pos_right (show x < -4294967296 by grind) hd
  grind
 ·refine Decidable.byContradiction fun hc=>?_
  have:=Rat.mul_lt_mul_of_pos_right (show 4294967296 < x by grind) hd
  grind
theorem FL {x y:Rat} (hx: -4294967296≤x∧x≤4294967296) (hy:3 / 2≤y): -2863311531≤x*y⁻¹∧x*y⁻¹≤2863311531:=by
 have y0:y≠0:=by grind
 have e:x*y⁻¹*y=x:=by rw[Rat.mul_assoc,Rat.inv_mul_cancel _ y0,Rat.mul_one]
 generalize x*y⁻¹=q at*
 have key:∀p:Rat,2863311531 < p→¬p*y≤4294967296:=by
  intro p hp hc
  have h1:p*(3 / 2)≤p*y:=mll hy (by grind)
  have h2:2863311531*(3 / 2)≤p*(3 / 2):=mlr (by grind) (by decide+kernel)
  grind
 constructor
 ·refine Decidable.byContradiction fun hc=>key (-q) (by grind) (by rw[Rat.neg_mul,e];grind)
 ·refine Decidable.byContradiction fun hc=>key q (by grind) (by rw[e];exact hx.2)
theorem sZ {q:Rat} {c:Int} (h: -(c:Rat)≤q∧q≤(c:Rat)): -c≤q.floor∧q.floor≤c:=by
 constructor
 ·rw[Rat.le_floor_iff]
  exact_mod_cast h.1
 ·have:=qAq (Rat.floor_le q) h.2
  exact_mod_cast this
theorem qt_bd {x y:Rat} {u:Bool} (hx:¬x.den*4294967296 < x.num.natAbs) (hy:3 / 2≤y): -2863311531≤qt x y u∧qt x y u≤2863311531:=by
 have h:=FL (iP hx) hy
 unfold qt
 cases u with
 |false=>exact sZ (c:=2863311531) h
 | true=>
  have:=sZ (q:=-(x*y⁻¹)) (c:=2863311531) (by have e:((2863311531:Int):Rat)=2863311531:=rfl;rw[e];grind)
  rw[if_pos rfl,Rat.ceil_eq_neg_floor_neg]
  omega
namespace NS
theorem has_i {a b:Option Rat} {q:Rat}:(NS.i a b).has q=true↔(∀x,a=some x→x≤q)∧(∀x,b=some x→q≤x):=by
 cases a<;>cases b<;>simp[has]<;>grind
theorem ne_has {a b:Option Rat} (h:ordO a b=true):∃q,(NS.i a b).has q=true:=by
 cases a with
 | none=>cases b with
  |none=>exact⟨0,by simp[has]⟩
  |some b=>exact⟨b,by simp[has]<;>grind⟩
 | some a=>cases b with
  |none=>exact⟨a,by simp[has]<;>grind⟩
  |some b=>exact⟨a,by simp[ordO] at h;simp[has];grind⟩
theorem low_has {b:Option Rat} (c:Rat):∃q,q < c∧(NS.i none b).has q=true:=by
 cases b with
 |none=>exact⟨c - 1,by grind,by simp[has]⟩
 |some b=>exact⟨min (c - 1) b,by grind,by simp[has]<;>grind⟩
theorem high_has {a:Option Rat} (c:Rat):∃q,c < q∧(NS.i a none).has q=true:=by
 cases a with
 |none=>exact⟨c+1,by grind,by simp[has]⟩
 |some a=>exact⟨max (c+1) a,by grind,by simp[has]<;>grind⟩
theorem lo_has {a:Rat} {b:Option Rat} (h:ordO (some a) b=true):(NS.i (some a) b).has a=true:=by
 cases b with
 |none=>simp[has]<;>grind
 |some b=>simp[ordO] at h;simp[has];grind
theorem hi_has {a:Option Rat} {b:Rat} (h:ordO a (some b)=true):(NS.i a (some b)).has b=true:=by
 cases a with
 |none=>simp[has]<;>grind
 |some a=>simp[ordO] at h;simp[has];grind
theorem within_iff {x y:NS} (hx:x.ok):x.within y=true↔∀q,x.has q=true→y.has q=true:=by
 cases x with
 |e=>simp[within,has]
 | i a b =>
  cases y with
  | e=>
   obtain⟨q,hq⟩:=ne_has hx
   simp only[within,has,qAw,false_iff]
   exact fun h=>h q hq
  | i c d =>
   constructor
   ·intro h q hq
    rw[has_i] at hq ⊢
    cases a<;>cases b<;>cases c<;>cases d<;>simp[within,lowIn,highIn] at h hq ⊢<;>grind
   ·intro h
    have h1:lowIn c a=true:=by
     cases c with
     |none=>rfl
     | some c=>cases a with
      | none=>
       obtain⟨q,hc,hq⟩:=low_has (b:=b) c
       have:=has_i.1 (h q hq)
       have:=this.1 c rfl
       grind
      | some a=>
       have:=has_i.1 (h a (lo_has hx))
       have:=this.1 c rfl
       simp[lowIn,highIn];grind
    have h2:highIn d b=true:=by
     cases d with
     |none=>rfl
     | some d=>cases b with
      | none=>
       obtain⟨q,hc,hq⟩:=high_has (a:=a) d
       have:=has_i.1 (h q hq)
       have:=this.2 d rfl
       grind
      | some b=>
       have:=has_i.1 (h b (hi_has hx))
       have:=this.2 d rfl
       simp[lowIn,highIn];grind
    simp only[within,h1,h2,Bool.and_self]
theorem anti {x y:NS} (hx:x.ok) (hy:y.ok) (h1:x.within y=true) (h2:y.within x=true):x=y:=by
 cases x with
 | e=>cases y with
  |e=>rfl
  |i c d=>cases h2
 | i a b=>cases y with
  |e=>cases h1
  | i c d=>
   cases a<;>cases b<;>cases c<;>cases d<;>simp[within,lowIn,highIn] at h1 h2 ⊢<;>grind
theorem ext {x y:NS} (hx:x.ok) (hy:y.ok) (h:∀q,x.has q=y.has q):x=y:=
 anti hx hy ((within_iff hx).2 fun q k=>by rw[←h];exact k) ((within_iff hy).2 fun q k=>by rw[h];exact k)
theorem ok_mk {a b:Option Rat}:(mk' a b).ok:=by
 unfold mk'
 cases h:ordO a b with
 |true=>exact h
 |false=>trivial
theorem has_mk {a b:Option Rat} {q:Rat}:(mk' a b).has q=(NS.i a b).has q:=by
 unfold mk'
 cases h:ordO a b with
 |true=>rfl
 | false=>
  cases a<;>cases b<;>simp[ordO] at h
  simp only[has,cond_false]
  symm
  simp[has];grind
theorem has_met {x y:NS} {q:Rat}:(met x y).has q=(x.has q && y.has q):=by
 cases x with
 |e=>cases y<;>simp[met,has]
 | i a b=>cases y with
  |e=>simp[met,has]
  | i c d=>
   simp only[met,has_mk]
   rw[Bool.eq_iff_iff,φ]
   cases a<;>cases b<;>cases c<;>cases d<;>simp[has,omax,omin]<;>grind
theorem ok_met {x y:NS}:(met x y).ok:=by
 cases x<;>cases y<;>first |trivial |exact ok_mk
end NS
theorem co (p:Nat):(0:Rat) < 2^p:=Rat.pow_pos (by decide)
theorem GK {a b c:Rat} (hb:0 < b):a / b≤c↔a≤c*b:=by
 have:=Rat.lt_div_iff (a:=c) (b:=a) hb
 grind
theorem dV (x:Rat) (p:Nat):gdown x p≤x:=by
 unfold gdown
 have h:=Rat.floor_le (x*2^p)
 rw[GK (co p)]
 exact h
theorem mW {x y:Rat} (p:Nat) (h:x≤y):gdown x p≤gdown y p:=by
 unfold gdown
 have h1:x*2^p≤y*2^p:=mlr h (llt (co p))
 have h2:(x*2^p).floor≤(y*2^p).floor:=Rat.le_floor_iff.2 (qAq (Rat.floor_le _) h1)
 rw[GK (co p),Rat.div_mul_cancel (by have:=co p;grind)]
 exact_mod_cast h2
theorem GY (x:Rat) (p:Nat):gup (-x) p= -gdown x p:=by
 unfold gup gdown
 rw[Rat.neg_mul,Rat.ceil_eq_neg_floor_neg,Rat.neg_neg,Rat.intCast_neg,qAx,Rat.neg_mul,←qAx]
theorem zG (x:Rat) (p:Nat):gdown (-x) p= -gup x p:=by
 have:=GY (-x) p
 rw[Rat.neg_neg] at this
 rw[this,Rat.neg_neg]
theorem uG (x:Rat) (p:Nat):gup x p= -gdown (-x) p:=by rw[zG,Rat.neg_neg]
theorem jc (x:Rat) (p:Nat):x≤gup x p:=by
 have:=dV (-x) p
 rw[uG];grind
namespace NS
end NS
def piFine (w:Nat):Bool:=Nat.ble (piH w*5) (16*2^w) && Nat.ble (piH w) (piL w+1024)
theorem FE:((List.range 129).all fun i=>piFine (i+64))=true:=by decide+kernel
theorem HF {w:Nat} (h1:64≤w) (h2:w≤192):piH w*5≤16*2^w∧piH w≤piL w+1024:=by
 have h:=qBd.1 FE (w - 64) (List.mem_range.2 (by omega))
 rw[show w - 64+64=w by omega] at h
 simpa[piFine] using h
def fW (w:Nat):Rat:=sgn false (piL w) (2^(w+1))
def gW (w:Nat):Rat:=sgn false (piH w) (2^(w+1))
theorem sgn_u (n w:Nat):sgn false n (2^w)*((2^w:Nat):Rat)=(n:Rat):=by
 have hd:((2^w:Nat):Rat)≠0:=by exact_mod_cast am w
 unfold sgn
 rw[qBb]
 show((n:Int):Rat) / ((2^w:Nat):Rat)*((2^w:Nat):Rat)=_
 rw[Rat.div_mul_cancel hd]
 rfl
theorem u_pos (w:Nat):(0:Rat) < ((2^w:Nat):Rat):=by exact_mod_cast qAo (by decide)
theorem fW_bd {w:Nat} (h1:64≤w) (h2:w≤192):3 / 2≤fW w∧fW w≤gW w∧gW w≤8 / 5∧(gW w - fW w)*18014398509481984≤1:=by
 obtain⟨a1,a2,a3⟩:=pn (w:=w) (by omega) h2
 obtain⟨a4,a5⟩:=HF h1 h2
 have e1:=sgn_u (piL w) (w+1)
 have e2:=sgn_u (piH w) (w+1)
 have hp:=u_pos (w+1)
 have eu:((2^(w+1):Nat):Rat)=((2^w:Nat):Rat)*2:=by rw[qAn];push_cast;rfl
 have b1:(3:Rat)*((2^w:Nat):Rat)≤(piL w:Rat):=by exact_mod_cast a1
 have b2:(piL w:Rat)≤(piH w:Rat):=by exact_mod_cast Nat.le_of_lt a2
 have b3:(piH w:Rat)*5≤16*((2^w:Nat):Rat):=by exact_mod_cast a4
 have b4:(piH w:Rat)≤(piL w:Rat)+1024:=by exact_mod_cast a5
 have b5:(18446744073709551616:Rat)≤((2^w:Nat):Rat):=by
  have:2^64≤2^w:=qAv (by decide) h1
  exact_mod_cast this
 unfold fW gW
 generalize sgn false (piL w) (2^(w+1))=f at*
 generalize sgn false (piH w) (2^(w+1))=g at*
 rw[←e1] at b1 b2 b4
 rw[←e2] at b2 b3 b4
 rw[eu] at e1 e2 b1 b2 b3 b4 hp
 generalize((2^w:Nat):Rat)=u at*
 clear e1 e2 eu a1 a2 a3 a4 a5
 have hu:(0:Rat) < u:=by grind
 refine⟨?_,?_,?_,?_⟩
 ·exact lmm (by grind) hu
 ·exact lmm (by grind) hp
 ·exact lmm (by grind) hp
 ·have:(g - f)*(u*2)≤1024:=by grind
  have h0:0≤g - f:=by
   have:f≤g:=lmm (by grind) hp
   grind
  have:=mll b5 h0
  grind
def rsK (x:Rat) (w:Nat):Int:=(x*(fW w)⁻¹+1 / 2).floor
def rsA (x:Rat) (w:Nat):Rat:=gdown (x+ -((rsK x w:Rat)*(if rsK x w < 0 then fW w else gW w))) w
def rsB (x:Rat) (w:Nat):Rat:=gup (x+ -((rsK x w:Rat)*(if rsK x w < 0 then gW w else fW w))) w
theorem BE {x:Rat} {w:Nat} (h1:64≤w) (h2:w≤192) (hx: -4294967296≤x∧x≤4294967296): -2863311532≤rsK x w∧rsK x w≤2863311532:=by
 obtain⟨a1,_,_,_⟩:=fW_bd h1 h2
 obtain⟨b1,b2⟩:=FL hx a1
 have e:((2863311532:Int):Rat)=2863311532:=rfl
 exact sZ (c:=2863311532) (by rw[e];constructor<;>grind)
theorem zF {x:Rat} {z:Int} {w:Nat} (h:(z:Rat)≤x):(z:Rat)≤gdown x w:=by
 have e:gdown (z:Rat) w=(z:Rat):=by
  unfold gdown
  have hp:=co w
  rw[show(z:Rat)*2^w=((z*2^w:Int):Rat) by push_cast;rfl,Rat.floor_intCast]
  push_cast
  rw[qAx,Rat.mul_assoc,qBf _ (by grind),Rat.mul_one]
 rw[←e]
 exact mW w h
theorem Jn {x:Rat} {z:Int} {w:Nat} (h:x≤(z:Rat)):gup x w≤(z:Rat):=by
 rw[uG]
 have:=zF (x:=-x) (z:=-z) (w:=w) (by push_cast;grind)
 push_cast at this
 grind
theorem rs_mid {x:Rat} {w:Nat} (h1:64≤w) (h2:w≤192) (hx: -4294967296≤x∧x≤4294967296):
  -1≤x+ -((rsK x w:Rat)*(if rsK x w < 0 then fW w else gW w))∧x+ -((rsK x w:Rat)*(if rsK x w < 0 then fW w else gW w))≤x+ -((rsK x w:Rat)*(if rsK x w < 0 then gW w else fW w))∧x+ -((rsK x w:Rat)*(if rsK x w < 0 then gW w else fW w))≤1:=by
 obtain⟨a1,a2,a3,a4⟩:=fW_bd h1 h2
 obtain⟨k1,k2⟩:=BE h1 h2 hx
 have l1:=Rat.floor_le (x*(fW w)⁻¹+1 / 2)
 have l2:=Rat.lt_floor_add_one (x*(fW w)⁻¹+1 / 2)
 have e:x*(fW w)⁻¹*fW w=x:=by rw[Rat.mul_assoc,Rat.inv_mul_cancel _ (by grind),Rat.mul_one]
 have k1':(-2863311532:Rat)≤(rsK x w:Rat):=qBa.2 k1
 have k2':(rsK x w:Rat)≤(2863311532:Rat):=qBa.2 k2
 have ks:rsK x w < 0↔(rsK x w:Rat) < 0:=by
  have:=@Rat.intCast_lt_intCast (rsK x w) 0
  simpa using this.symm
 unfold rsK at*
 generalize hk:(x*(fW w)⁻¹+1 / 2).floor=k at*
 clear hk
 generalize(fW w)⁻¹=i at*
 generalize fW w=f at*
 generalize gW w=g at*
 have m1:x≤((k:Rat)+1 / 2)*f:=by
  have:x*i≤(k:Rat)+1 / 2:=by grind
  have:=mlr this (show 0≤f by grind)
  grind
 have m2:((k:Rat) - 1 / 2)*f≤x:=by
  have:(k:Rat) - 1 / 2≤x*i:=by grind
  have:=mlr this (show 0≤f by grind)
  grind
 have d0:0≤g - f:=by grind
 clear e l1 l2
 by_cases hk:k < 0
 ·have hk':=ks.1 hk
  simp only[if_pos hk]
  have n1:=mlr k1' d0
  have n2:=mlr (llt hk') d0
  clear ks k1 k2
  refine⟨?_,?_,?_⟩<;>grind
 ·have hk':(0:Rat)≤(k:Rat):=Rat.not_lt.1 fun c=>hk (ks.2 c)
  simp only[if_neg hk]
  have n1:=mlr k2' d0
  have n2:=mlr hk' d0
  clear ks k1 k2
  refine⟨?_,?_,?_⟩<;>grind
theorem rs_bd {x:Rat} {w:Nat} (h1:64≤w) (h2:w≤192) (hx: -4294967296≤x∧x≤4294967296): -1≤rsA x w∧rsA x w≤rsB x w∧rsB x w≤1:=by
 obtain⟨a1,a2,a3⟩:=rs_mid h1 h2 hx
 unfold rsA rsB
 refine⟨?_,qAq (dV _ _) (qAq a2 (jc _ _)),?_⟩
 ·exact_mod_cast zF (z:=-1) (w:=w) (by exact_mod_cast a1)
 ·exact_mod_cast Jn (z:=1) (w:=w) (by exact_mod_cast a3)
theorem q_den (q:Rat):q*(q.den:Rat)=(q.num:Rat):=by
 have hd:(q.den:Rat)≠0:=by exact_mod_cast q.den_nz
 have e:=Rat.mkRat_self q
 rw[qBb] at e
 generalize(q.den:Rat)=d at*
 generalize(q.num:Rat)=n at*
 rw[←e,Rat.div_mul_cancel hd]
theorem sP {q:Rat} (h1: -1≤q) (h2:q≤1):¬q.den < q.num.natAbs:=by
 have hd:(0:Rat) < (q.den:Rat):=by exact_mod_cast q.den_pos
 have e:=q_den q
 have m1:=mlr h1 (llt hd)
 have m2:=mlr h2 (llt hd)
 rw[e] at m1 m2
 have n1: -(q.den:Int)≤q.num:=by
  have:((-(q.den:Int):Int):Rat)≤(q.num:Rat):=by push_cast;grind
  exact_mod_cast this
 have n2:q.num≤(q.den:Int):=by
  have:(q.num:Rat)≤((q.den:Int):Rat):=by push_cast;grind
  exact_mod_cast this
 omega
def rtw (q:Rat) (n p:Nat):Nat:=q.num.natAbs*2^(p*n) / q.den
def rtx (q:Rat) (n p:Nat):Bool:=decide (irt n (rtw q n p)^n=rtw q n p) && decide (q.num.natAbs*2^(p*n) % q.den=0)
def rtm (up:Bool) (q:Rat) (n p:Nat):Nat:=if (up != decide (q.num < 0))=true∧rtx q n p=false then irt n (rtw q n p)+1 else irt n (rtw q n p)
def rootg (up:Bool) (q:Rat) (n p:Nat):Rat:=sgn (decide (q.num < 0)) (rtm up q n p) (2^p)
theorem Bg {n a k:Nat} (hn:n≠0) (h:bl a≤n*k):bl (irt n a)≤k:=by
 have h1:a < 2^bl a:=bl_le.1 (η _)
 have h2:(2:Nat)^bl a≤2^(n*k):=qAv (by decide) h
 exact bl_le.2 (xZ hn (Nat.lt_of_lt_of_le h1 h2))
theorem BF {q:Rat} {n p:Nat} (hs:sz q≤2048) (hn:2≤n):bl (rtw q n p)≤n*(1024+p):=by
 have h1:=aZ (q.num.natAbs*2^(p*n)) q.den
 have h2:=cu q.num.natAbs (p*n)
 have h3:=bG q
 have h4:2*1024≤n*1024:=ψ _ hn
 have h5:n*(1024+p)=n*1024+p*n:=by rw[qAm,ρ n p]
 unfold rtw
 omega
theorem rtm_bl {up:Bool} {q:Rat} {n p:Nat} (hs:sz q≤2048) (hn:2≤n):bl (rtm up q n p)≤1025+p:=by
 have h1:=Bg (n:=n) (by omega) (BF (p:=p) hs hn)
 unfold rtm
 split
 ·have h2:=cY (irt n (rtw q n p)) 1
  rw[fI] at h2
  omega
 ·omega
theorem iY {up:Bool} {q:Rat} {n p:Nat} (hs:sz q≤2048) (hn:2≤n) (hp:p≤256):sz (rootg up q n p)≤2048:=by
 have h1:=dg (decide (q.num < 0)) (rtm up q n p) (d:=2^p) (Nat.ne_of_gt (qAo (by decide)))
 have h2:=rtm_bl (up:=up) (p:=p) hs hn
 have h3:=bC p
 unfold rootg
 omega
end Go.Q
