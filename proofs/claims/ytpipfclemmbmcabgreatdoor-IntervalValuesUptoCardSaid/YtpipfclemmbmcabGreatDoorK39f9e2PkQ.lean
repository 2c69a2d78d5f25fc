/-
  Brackets of two numbers in order, with two precisions, are in order, and what stands on it. Conditions: each theorem's own.
-/
import Derived.Test.YtpipfclemmbmcabGreatDoorK82eddfPkO
import Derived.Test.YtpipfclemmbmcabGreatDoorK66e2b1PkP
import Derived.Test.YtpipfclemmbmcabGreatDoorK3aad23PkF
import Derived.Test.YtpipfclemmbmcabGreatDoorK3f4f2bPkL
import Derived.Test.YtpipfclemmbmcabGreatDoorK1890eePkC
import Derived.Test.YtpipfclemmbmcabGreatDoorKe626caPkI
import Derived.Defers
import Derived.Recover
import Derived.Test.YtpipfclemmbmcabGreatDoorK943100PkJ
import Derived.Test.YtpipfclemmbmcabGreatDoorK3b89e4PkN
set_option linter.unusedVariables false
set_option linter.unusedSimpArgs false
open Nat renaming reduceBEq→ξ,reduceAdd→ζ,le_trans→χ,mul_le_mul_right→ψ,le_refl→η,mul_comm→ρ,pos_of_ne_zero→τ,mul_add→qAm,mul_one→qAz,zero_le→qBh
open Rat renaming natCast_mul→qAl,le_trans→qAq,div_def→qAx,mkRat_eq_div→qBb,mul_inv_cancel→qBf,le_refl→qBk
namespace Go.Q
set_option maxRecDepth 100000
set_option maxHeartbeats 8000000
theorem eQ_mono {y z:Rat} (hy:0≤y) (h:y≤z) (c:Bool):∀k,k≤40→1≤eQ y c k∧eQ y c k≤eQ z c k
 | 0,_=>by
  cases c
  ·exact⟨(qBk:(1:Rat)≤1),qBk⟩
  ·exact⟨show(1:Rat)≤2 by decide,qBk⟩
 | k+1,hk=>by
  obtain⟨h1,h2⟩:=eQ_mono hy h c k (by omega)
  have d0:(0:Rat) < ((256*(40 - k):Nat):Rat):=by exact_mod_cast (show 0 < 256*(40 - k) by omega)
  have i0:=llt (Rat.inv_pos.2 d0)
  rw[eQ_s,eQ_s]
  have m1:=mlr (mll h2 hy) i0
  have m3:=mlr (mlr h (show 0≤eQ z c k by grind)) i0
  have m2:=mnn (mnn hy (show 0≤eQ y c k by grind)) i0
  exact⟨by grind,by grind⟩
theorem nd_abs (x:Rat):(0≤x→(x.num.natAbs:Rat)*(x.den:Rat)⁻¹=x)∧(x≤0→(x.num.natAbs:Rat)*(x.den:Rat)⁻¹= -x):=by
 have d0:(0:Rat) < (x.den:Rat):=by exact_mod_cast x.den_pos
 have e:x=(x.num:Rat)*(x.den:Rat)⁻¹:=by rw[←qAx,←qBb,Rat.mkRat_self]
 have i0:=llt (Rat.inv_pos.2 d0)
 constructor
 ·intro h
  have h1:=Rat.num_nonneg.2 h
  have:(x.num.natAbs:Rat)=(x.num:Rat):=by
   have:((x.num.natAbs:Int):Rat)=(x.num:Rat):=by rw[Int.natAbs_of_nonneg h1]
   exact this
  rw[this];exact e.symm
 ·intro h
  have h1:x.num≤0:=by
   refine Int.not_lt.1 fun c=>?_
   have:0≤x:=Rat.num_nonneg.1 (by omega)
   have:x=0:=by grind
   rw[this] at c
   exact absurd c (by decide)
  have:(x.num.natAbs:Rat)= -(x.num:Rat):=by
   have:((x.num.natAbs:Int):Rat)= -(x.num:Rat):=by rw[Int.ofNat_natAbs_of_nonpos h1,Rat.intCast_neg]
   exact this
  rw[this,Rat.neg_mul,←e]
theorem exW_ord {x y:Rat} (h:x≤y):exW false x≤exW true y:=by
 have M:∀{u v:Rat},0≤(u.num.natAbs:Rat)*(u.den:Rat)⁻¹→(u.num.natAbs:Rat)*(u.den:Rat)⁻¹≤(v.num.natAbs:Rat)*(v.den:Rat)⁻¹→exV2 false u≤exV2 true v:=fun {u v} k0 k=>by
  obtain⟨a1,a2⟩:=eQ_le k0 40 (η _)
  obtain⟨b1,b2⟩:=eQ_mono k0 k true 40 (η _)
  exact(lK a1 (qAq a2 b2) 8).2
 have g1:=(GO x).1
 have g2:=(GO y).1
 have g3:=(GO x).2
 have g4:=(GO y).2
 unfold exW
 by_cases hx:x < 0
 ·rw[if_pos (num_lt0.2 hx)]
  have i1:(exV2 true x)⁻¹≤1:=by
   have:=fp (a:=1) (b:=exV2 true x) (by decide) (by grind)
   rwa[show(1:Rat)⁻¹=1 by decide+kernel] at this
  by_cases hy:y < 0
  ·rw[if_pos (num_lt0.2 hy)]
   have e1:=(nd_abs x).2 (by grind)
   have e2:=(nd_abs y).2 (by grind)
   have:=M (u:=y) (v:=x) (by rw[e2];grind) (by rw[e1,e2];grind)
   exact fp (by grind) this
  ·rw[if_neg (fun c=>hy (num_lt0.1 c))]
   exact qAq i1 (by grind)
 ·rw[if_neg (fun c=>hx (num_lt0.1 c)),if_neg (fun c=>by have:=num_lt0.1 c;grind)]
  have e1:=(nd_abs x).1 (by grind)
  have e2:=(nd_abs y).1 (by grind)
  exact M (by rw[e1];grind) (by rw[e1,e2];exact h)
theorem exp_both {x y:Rat} {p q:Nat} (h:x≤y):expLo x p≤expHi y q:=qAq (E9 x p).1 (qAq (exW_ord h) (E9 y q).2)
theorem lQ_mono {x y:Rat} (hx:0≤x) (h:x≤y) (c:Bool):∀j,0≤lQ x c j∧lQ x c j≤lQ y c j
 | 0 =>by
  have h1:(0:Rat)≤(111:Rat)⁻¹:=by decide+kernel
  have h2:(0:Rat)≤(100:Rat)⁻¹:=by decide+kernel
  have m1:=mlr h h2
  have m2:=mnn hx h2
  cases c
  ·exact⟨h1,qBk⟩
  ·show(0:Rat)≤(111:Rat)⁻¹+x*(100:Rat)⁻¹∧(111:Rat)⁻¹+x*(100:Rat)⁻¹≤(111:Rat)⁻¹+y*(100:Rat)⁻¹
   grind
 | j +1=>by
  obtain⟨h1,h2⟩:=lQ_mono hx h c j
  have i0:(0:Rat)≤((109 - 2*j:Nat):Rat)⁻¹:=by
   by_cases h:109 - 2*j=0
   ·rw[h];decide+kernel
   ·exact llt (Rat.inv_pos.2 (by exact_mod_cast τ h))
  rw[lQ_s,lQ_s]
  have m1:=mll h2 hx
  have m3:=mlr h (show 0≤lQ y c j by grind)
  have m2:=mnn hx h1
  exact⟨by grind,by grind⟩
theorem zlQ {x y:Rat} (hx:0≤x) (h:x≤y):0≤x*lQ (x*x) false 55∧x*lQ (x*x) false 55≤y*lQ (y*y) true 55:=by
 have k1:=cG x
 have k2:=mll h hx
 have k3:=mlr h (show 0≤y by grind)
 obtain⟨a1,a2⟩:=lQ_le k1 55
 obtain⟨b1,b2⟩:=lQ_mono k1 (show x*x≤y*y by grind) true 55
 have m1:=mll (qAq a2 b2) hx
 have m2:=mlr h (show 0≤lQ (y*y) true 55 by grind)
 exact⟨mnn hx a1,qAq m1 m2⟩
theorem inv_frac {a b c d:Nat} (hb:b≠0) (hd:d≠0) (h:a*d≤c*b):0≤(a:Rat)*(b:Rat)⁻¹∧(a:Rat)*(b:Rat)⁻¹≤(c:Rat)*(d:Rat)⁻¹:=by
 have b0:(0:Rat) < (b:Rat):=by exact_mod_cast τ hb
 have d0:(0:Rat) < (d:Rat):=by exact_mod_cast τ hd
 have a0:(0:Rat)≤(a:Rat):=by exact_mod_cast qBh a
 have e:(a:Rat)*(d:Rat)≤(c:Rat)*(b:Rat):=by rw[←qAl,←qAl];exact Rat.natCast_le_natCast.2 h
 refine⟨mnn a0 (llt (Rat.inv_pos.2 b0)),?_⟩
 have i1:(b:Rat)*(b:Rat)⁻¹=1:=qBf _ (by grind)
 have i2:(d:Rat)*(d:Rat)⁻¹=1:=qBf _ (by grind)
 refine lmm (c:=(b:Rat)*(d:Rat)) ?_ (Rat.mul_pos b0 d0)
 have e1:(a:Rat)*(b:Rat)⁻¹*((b:Rat)*(d:Rat))=(a:Rat)*(d:Rat):=by grind
 have e2:(c:Rat)*(d:Rat)⁻¹*((b:Rat)*(d:Rat))=(c:Rat)*(b:Rat):=by grind
 rw[e1,e2];exact e
theorem lM_two {n d:Nat} (hn:n≠0) (hd:d≠0):0≤lM false n d∧lM false n d≤l2 true:=by
 have k:=mX (n:=n) hd
 obtain⟨f1,f2⟩:=inv_frac (a:=lgT n d 0) (b:=lgB n d) (c:=1) (d:=3) (lP hn) (by decide) (by unfold lgT lgB;rw[Nat.pow_zero];omega)
 rw[show((1:Nat):Rat)=1 from rfl,show((3:Nat):Rat)=3 from rfl,Rat.one_mul] at f2
 obtain⟨g1,g2⟩:=zlQ f1 f2
 unfold lM l2
 grind
theorem lM_ord {n1 d1 n2 d2:Nat} (h1:n1≠0) (h2:n2≠0) (he:lge n1 d1=lge n2 d2) (h:n1*d2≤n2*d1):lM false n1 d1≤lM true n2 d2:=by
 have b1:=jy (d:=d1) h1
 have b2:=jy (d:=d2) h2
 obtain⟨f1,f2⟩:=inv_frac (a:=lgT n1 d1 0) (b:=lgB n1 d1) (c:=lgT n2 d2 0) (d:=lgB n2 d2) (lP h1) (lP h2) (by
  unfold lgT lgB
  have hc:lgn n1 (lge n1 d1)*lgd d2 (lge n2 d2)≤lgn n2 (lge n2 d2)*lgd d1 (lge n1 d1):=by
   rw[he]
   unfold lgn lgd
   rw[Nat.mul_mul_mul_comm,Nat.mul_mul_mul_comm n2]
   exact ψ _ h
  generalize lgn n1 (lge n1 d1)=a at*
  generalize lgd d1 (lge n1 d1)=b at*
  generalize lgn n2 (lge n2 d2)=c at*
  generalize lgd d2 (lge n2 d2)=d at*
  rw[Nat.pow_zero,qAz,qAz]
  obtain⟨i,rfl⟩:=Nat.exists_eq_add_of_le b1
  obtain⟨j,rfl⟩:=Nat.exists_eq_add_of_le b2
  rw[Nat.add_sub_cancel_left,Nat.add_sub_cancel_left]
  rw[Nat.add_mul,Nat.add_mul,ρ b d] at hc
  have e1:i*(d+j+d)=2*(i*d)+i*j:=by rw[qAm,qAm];omega
  have e2:j*(b+i+b)=2*(j*b)+i*j:=by rw[qAm,qAm,ρ j i];omega
  omega)
 obtain⟨g1,g2⟩:=zlQ f1 f2
 unfold lM
 grind
theorem lnV_ord {n1 d1 n2 d2:Nat} (h1:n1≠0) (g1:d1≠0) (h2:n2≠0) (g2:d2≠0) (h:n1*d2≤n2*d1):lnV false n1 d1≤lnV true n2 d2:=by
 have he:=lge_mono h1 g1 g2 h
 obtain⟨m1,m2⟩:=lM_two h1 g1
 obtain⟨m3,_⟩:=lM_two h2 g2
 have m4:=lM_le (d:=d2) h2
 have k2:=l2_le
 have k0:0≤l2 false:=by
  obtain⟨z1,_⟩:=zlQ (x:=(3:Rat)⁻¹) (y:=(3:Rat)⁻¹) (by decide+kernel) qBk
  unfold l2;grind
 have N:∀m:Nat,(0:Rat)≤(m:Rat):=fun m=>by exact_mod_cast qBh m
 have S:∀{a b:Nat},a+1≤b→(a:Rat)+1≤(b:Rat):=fun {a b} c=>by have:=Rat.natCast_le_natCast.2 c;rwa[Rat.natCast_add] at this
 unfold lnV
 by_cases c1:0≤lge n1 d1
 ·rw[if_pos c1,if_pos (by omega)]
  rcases Int.lt_or_eq_of_le he with c |c
  ·have t:=S (show(lge n1 d1).toNat+1≤(lge n2 d2).toNat by omega)
   have u1:=mlr k2 (N (lge n1 d1).toNat)
   have u2:=mll t (show 0≤l2 true by grind)
   grind
  ·have k3:=lM_ord h1 h2 c h
   rw[←c]
   have u1:=mlr k2 (N (lge n1 d1).toNat)
   grind
 ·rw[if_neg c1]
  by_cases c2:0≤lge n2 d2
  ·rw[if_pos c2]
   have t:=S (show 0+1≤(0 - lge n1 d1).toNat by omega)
   have u1:=mll t (show 0≤l2 true by grind)
   have u2:=mnn (show 0≤l2 true by grind) (N (lge n2 d2).toNat)
   simp only[Bool.not_false]
   grind
  ·rw[if_neg c2]
   simp only[Bool.not_false,Bool.not_true]
   rcases Int.lt_or_eq_of_le he with c |c
   ·have t:=S (show(0 - lge n2 d2).toNat+1≤(0 - lge n1 d1).toNat by omega)
    have u1:=mlr k2 (N (0 - lge n2 d2).toNat)
    have u2:=mll t (show 0≤l2 true by grind)
    grind
   ·have k3:=lM_ord h1 h2 c h
    rw[←c]
    have u1:=mlr k2 (N (0 - lge n1 d1).toNat)
    grind
theorem Hk {x y:Rat} {p q:Nat} (hx:0 < x) (h:x≤y):lnLo x.num.natAbs x.den p≤lnHi y.num.natAbs y.den q:=
 qAq (ln_in (bZ hx).2).1 (qAq (lnV_ord (bZ hx).2 x.den_nz (bZ (show 0 < y by grind)).2 y.den_nz (fv (llt hx) h)) (ln_in (bZ (show 0 < y by grind)).2).2)
def tiny:Rat:=(1:Rat) / 2^140
theorem one_cross {a w:Nat} (h:a≤2^w):Cr a w (2^160) 160:=by
 unfold Cr
 rw[ρ (2^160)]
 exact ψ _ h
theorem at_160:sgn false (anH (2^160) (2^160) 160*2^1) (2^161)*2≤sgn false (piL 160) (2^161)+tiny∧tiny*2^128 < 1∧0≤tiny:=by
 refine⟨?_,by decide+kernel,by decide+kernel⟩
 have k1:=an_top (w:=160) (by decide) (by decide)
 have k2:=an_wid (a:=2^160) (b:=2^160) (w:=160) (by decide) (by decide) (η _) (η _)
 have k3:=(HG (w:=160) (by decide) (by decide)).2
 generalize anH (2^160) (2^160) 160=H at*
 generalize anL (2^160) (2^160) 160=L at*
 generalize piL 160=P at*
 have k4:H*2^1+H*2^1≤P+2224:=by omega
 have k5:=fJ (p:=161) k4
 rw[pu,pu] at k5
 have k6:sgn false 2224 (2^161)≤tiny:=by decide+kernel
 grind
theorem at_posB {x y:Rat} {p q:Nat} (hp:p≤128) (hq:q≤128) (hx:0 < x) (h:x≤y):atLo x p≤atHi y q+tiny:=by
 have hy:0 < y:=by grind
 obtain⟨_,n2⟩:=bZ hx
 obtain⟨_,n4⟩:=bZ hy
 have c1:=fv (llt hx) h
 obtain⟨ox1,ox2⟩:=xF (p:=p) hx
 obtain⟨oy1,oy2⟩:=xF (p:=q) hy
 have Z:atHi y q≤atHi y q+tiny:=by
  have:=at_160.2.2
  grind
 have pc:=DA (w:=p+32) (z:=q+32) (by omega) (by omega)
 by_cases bx:x.den < x.num.natAbs
 ·have by_:=num_le (llt hx) h bx
  refine qAq ?_ Z
  refine qAq (ox1 bx).1 (qAq (z9 ?_) (oy1 by_).2)
  obtain⟨i1,i2⟩:=gC n2
  obtain⟨i3,i4⟩:=gC n4
  obtain⟨l1,l2⟩:=g_le (x:=invQ x) (w:=p+32) (by rw[i1,i2,Int.natAbs_natCast];omega)
  obtain⟨l3,l4⟩:=g_le (x:=invQ y) (w:=q+32) (by rw[i3,i4,Int.natAbs_natCast];omega)
  exact(pc.sub ((xz (w:=q+32) (z:=p+32) (by omega) (by omega) (dH (invQ y) _) (dH (invQ x) _) (AY (by rw[i1,i2,i3,i4,Int.natAbs_natCast,Int.natAbs_natCast,ρ y.den,ρ x.den];exact c1)) l4 l2).mul _)).up
 ·obtain⟨l1,l2⟩:=g_le (x:=x) (w:=p+32) bx
  refine qAq (ox2 bx).1 ?_
  by_cases by_:y.den < y.num.natAbs
  ·refine qAq ?_ (Rat.add_le_add_right.2 (oy1 by_).2)
   obtain⟨i3,i4⟩:=gC n4
   obtain⟨l3,l4⟩:=g_le (x:=invQ y) (w:=q+32) (by rw[i3,i4,Int.natAbs_natCast];omega)
   have X:=z9 (((xz (w:=p+32) (z:=160) (a2:=2^160) (b2:=2^160) (by omega) (by omega) (dH x _) (η _) (one_cross l1) l2 (η _)).mul (2^1)).up)
   have Y:=z9 (((xz (w:=q+32) (z:=160) (a2:=2^160) (b2:=2^160) (by omega) (by omega) (dH (invQ y) _) (η _) (one_cross l3) l4 (η _)).mul (2^1)).up)
   have P:=z9 (DA (w:=160) (z:=q+32) (by omega) (by omega)).up
   have t2:=sQ (w:=q+32) (by omega) (by omega) l3 (dN (dN (dH (invQ y) _))) (χ (dk _ _) (χ (dk _ _) l4))
   rw[sgn_subN (by unfold anL;omega)]
   have E1:=at_160.1
   clear ox1 ox2 oy1 oy2 pc t2 Z
   simp only[ζ] at X Y P
   generalize sgn false (anH (2^160) (2^160) 160*2^1) (2^161)=a at*
   generalize sgn false (piL 160) (2^161)=b at*
   generalize tiny=t at*
   generalize sgn false (piH (q+32)) (2^(q+32+1))=c at*
   generalize sgn false _ (2^(q+32+1))=d at*
   generalize sgn false _ (2^(p+32+1))=e at*
   clear l1 l2 l3 l4 i3 i4
   grind
  ·refine qAq ?_ Z
   exact qAq (z9 ((xz (by omega) (by omega) (dH x _) (dH y _) (AY c1) l2 (g_le (w:=q+32) by_).2).mul _).up) (oy2 by_).2
theorem Fin2.ints {p:Nat} {x y:Rat} (h:Fin2 p x y) (hp:p≤128):(∃z:Int,x*2^128=(z:Rat))∧∃z:Int,y*2^128=(z:Rat):=by
 obtain⟨a,b,h1,h2,_⟩:=h
 exact⟨dZ ⟨a,h1⟩ hp,dZ ⟨b,h2⟩ hp⟩
theorem at_both {x y:Rat} {p q:Nat} (hp:p≤128) (hq:q≤128) (hx:x≠0) (hy:y≠0) (h:x≤y):atLo x p≤atHi y q:=by
 have K:∀{x y:Rat} {p q:Nat},p≤128→q≤128→0 < x→x≤y→atLo x p≤atHi y q:=fun {x y p q} hp hq hx h=>
  iE ((at_fine hp).ints hp).1 ((at_fine hq).ints hq).2 (at_posB hp hq hx h) at_160.2.1
 by_cases x0:0 < x
 ·exact K hp hq x0 h
 ·have e1:=(xD (x:=-x) (p:=p) (by grind)).1
  rw[Rat.neg_neg] at e1
  by_cases y0:0 < y
  ·have:=(at_sign (x:=x) (p:=p)).2 (by grind)
   have:=(at_sign (x:=y) (p:=q)).1 y0
   grind
  ·have e2:=(xD (x:=-y) (p:=q) (by grind)).2
   rw[Rat.neg_neg] at e2
   have:=K (x:=-y) (y:=-x) hq hp (by grind) (by grind)
   grind
theorem asH_both {x y:Rat} {w z:Nat} (dx:x.num.natAbs≤x.den) (dy:y.num.natAbs≤y.den) (h:abQ x≤abQ y):asH true x w≤asH false y z:=by
 obtain⟨a0,a1⟩:=pR dx
 obtain⟨b0,b1⟩:=pR dy
 have g1:=(nS (u:=true) (w:=w) dx).1
 have g2:=(nS (u:=false) (w:=z) dy).1
 have hr:asR y≤asR x:=by
  unfold asR
  have m1:=mll h a0
  have m2:=mlr h b0
  grind
 have hg:asG false y z≤asG true x w:=by
  have k1:=qh (rP dy).1 (n:=2) (by decide) z
  have k2:=ot (rP dx).1 (n:=2) (by decide) w
  have sq:∀z:Rat,z^2=z*z:=fun z=>by rw[show(2:Nat)=1+1 from rfl,Rat.pow_succ,Rat.pow_one]
  rw[sq] at k1 k2
  exact sq_mono0 g1 (qAq k1 (qAq hr k2))
 have hi:=fp (a:=1+asG false y z) (b:=1+asG true x w) (by grind) (by grind)
 have i0:0≤(1+asG true x w)⁻¹:=llt (Rat.inv_pos.2 (by grind))
 unfold asH
 exact qAq (mlr h i0) (mll hi b0)
theorem as_both {x y:Rat} {w z:Nat} (hw:20≤w) (hz:20≤z) (dx:x.num.natAbs≤x.den) (dy:y.num.natAbs≤y.den) (h:abQ x≤abQ y):Cr (asL x w) w (asU y z) z:=by
 have g:∀{a b:Rat},0≤a→a≤b→∀{w},glo a w≤ghi b w:=fun {a b} ha h {w}=>iB (fv ha h)
 exact(xz hw hz (g (js dx).1 (nv (w:=w) dx dx qBk)) (g (js dy).1 (nv (w:=z) dy dy qBk)) (AY (w:=w) (z:=z) (fv (js dx).1 (asH_both dx dy h))) (mU dx).2 (mU dy).2).mul _
theorem asin_both {x y:Rat} {p q:Nat} (hx:x≠0) (hy:y≠0) (h:x≤y) (dx:x.num.natAbs≤x.den) (dy:y.num.natAbs≤y.den):fg x p≤dM y q:=by
 have K:∀{x y:Rat} {p q:Nat},x.num.natAbs≤x.den→y.num.natAbs≤y.den→0 < x→x≤y→fg x p≤dM y q:=fun {x y p q} dx dy hx h=>by
  unfold fg dM bkL bkH
  rw[decide_eq_false (bZ hx).1,decide_eq_false (bZ (show 0 < y by grind)).1,if_neg (by decide),if_neg (by decide)]
  have hh:=as_both (w:=p+32) (z:=q+32) (by omega) (by omega) dx dy (by rw[jr (llt hx),jr (show 0≤y by grind)];exact h)
  have:=sU (neg:=false) (k:=32) (a':=0) (b:=0) hh (show 0*_≤0*_ by rw[Nat.zero_mul,Nat.zero_mul];exact η _)
  unfold bkL bkH at this
  rw[if_neg (by decide),if_neg (by decide)] at this
  exact this
 by_cases x0:0 < x
 ·exact K dx dy x0 h
 ·have e1:=(ux (x:=-x) (p:=p) (by grind)).1
  rw[Rat.neg_neg] at e1
  by_cases y0:0 < y
  ·have:=(asin_sign (x:=x) (p:=p)).2 (by grind)
   have:=(asin_sign (x:=y) (p:=q)).1 y0
   grind
  ·have e2:=(ux (x:=-y) (p:=q) (by grind)).2
   rw[Rat.neg_neg] at e2
   have:=K (x:=-y) (y:=-x) (p:=q) (q:=p) (by rw[(aN y).2.1,(aN y).2.2];exact dy) (by rw[(aN x).2.1,(aN x).2.2];exact dx) (by grind) (by grind)
   grind
theorem ac_both {x y:Rat} {p q:Nat} (hp:p≤128) (hq:q≤128) (h:x≤y) (dx:x.num.natAbs≤x.den) (dy:y.num.natAbs≤y.den):acLo y p≤acHi x q:=by
 refine qAq (Au y p).1 (qAq ?_ (Au x q).2)
 have s0:=z9 (DA (w:=p+32) (z:=q+32) (by omega) (by omega)).up
 have n1:=cD (asL x (q+32)*2^1) (q+32+1)
 have n2:=cD (asU x (q+32)*2^1) (q+32+1)
 have n3:=cD (asL y (p+32)*2^1) (p+32+1)
 have n4:=cD (asU y (p+32)*2^1) (p+32+1)
 have O:∀{a b:Rat} {p q:Nat},a.num.natAbs≤a.den→b.num.natAbs≤b.den→abQ a≤abQ b→sgn false (asL a (p+32)*2^1) (2^(p+32+1))≤sgn false (asU b (q+32)*2^1) (2^(q+32+1)):=fun {a b p q} da db hab=>z9 ((as_both (by omega) (by omega) da db hab).mul _).up
 have nx:x.num < 0↔x < 0:=num_lt0
 have ny:y.num < 0↔y < 0:=num_lt0
 unfold acA acB
 rw[pu,pu]
 by_cases x0:x=0
 ·rw[if_pos x0]
  by_cases y0:y=0
  ·rw[if_pos y0];exact s0
  ·rw[if_neg y0,if_neg (by grind)];grind
 ·rw[if_neg x0]
  by_cases x1:x.num < 0
  ·rw[if_pos x1]
   by_cases y0:y=0
   ·rw[if_pos y0];grind
   ·rw[if_neg y0]
    by_cases y1:y.num < 0
    ·rw[if_pos y1]
     have hxn:=nx.1 x1
     have hyn:=ny.1 y1
     have:=O (p:=p) (q:=q) dy dx (by
      rw[←vP y,←vP x,jr (show 0≤ -y by grind),jr (show 0≤ -x by grind)]
      grind)
     grind
    ·rw[if_neg y1];grind
  ·have hx0:0 < x:=by
    have:¬x < 0:=fun c=>x1 (nx.2 c)
    grind
   rw[if_neg x1,if_neg (show y≠0 by grind),if_neg (show ¬y.num < 0 from fun c=>by have:=ny.1 c;grind)]
   have:=O (p:=q) (q:=p) dx dy (by rw[jr (llt hx0),jr (show 0≤y by grind)];exact h)
   grind
open Go.Proofs
set_option maxHeartbeats 16000000
def wideB (x:Rat):Prop:=1024 < sz x∨x.den*4294967296 < x.num.natAbs
instance (x:Rat):Decidable (wideB x):=inferInstanceAs (Decidable (_∨_))
def turnE (x y:Rat) (r:Int):Int:=if r < 0∨3 < r then 2 else if wideB x∨wideB y then 20 else 0
def tv1 (x y:Rat) (r:Int):Bool:=mt (if qt x gP true > 0 then qt x gP true else 0) (qt y fP false) r
def tv2 (x y:Rat) (r:Int):Bool:=mt (qt x fP true) (if qt y gP false < -1 then qt y gP false else -1) r
def turnB (x y:Rat) (r:Int):Bool:=if turnE x y r≠0∨y < x then false else tv1 x y r || tv2 x y r
theorem GD (x y:Rat):decide (cmpQ x y > 0)=decide (y < x):=by unfold cmpQ;grind
theorem BY {x y:Rat} {r:Int} (h:r < 0∨3 < r):turnE x y r=2∧turnB x y r=false:=by
 have e:turnE x y r=2:=by unfold turnE;rw[if_pos h]
 exact⟨e,by unfold turnB;rw[if_pos (.inl (by rw[e];decide))]⟩
theorem yI {x y:Rat} {r:Int} (h:¬(r < 0∨3 < r)) (hw:wideB x∨wideB y):turnE x y r=20∧turnB x y r=false:=by
 have e:turnE x y r=20:=by unfold turnE;rw[if_neg h,if_pos hw]
 exact⟨e,by unfold turnB;rw[if_pos (.inl (by rw[e];decide))]⟩
theorem BX {x y:Rat} {r:Int} (h:¬(r < 0∨3 < r)) (hw:¬(wideB x∨wideB y)):turnE x y r=0∧(y < x→turnB x y r=false)∧(¬y < x→turnB x y r=(tv1 x y r || tv2 x y r)):=by
 have e:turnE x y r=0:=by unfold turnE;rw[if_neg h,if_neg hw]
 refine⟨e,fun k=>?_,fun k=>?_⟩
 ·unfold turnB;rw[if_pos (.inr k)]
 ·unfold turnB;rw[if_neg (by rintro(c |c);exact c e;exact k c)]
theorem uj {h0 h:PH} [Le h0 h] {v w:Value} {x y:Rat} {r:Int} (hx:Rv h0 v x) (hy:Rv h0 w y):Spec mach 131 #[v,w,.int .i64 r] h (fun q _=>q=.tuple #[.bool (turnB x y r),.int .i64 (turnE x y r)]) NP:=by
 have kC:=fun {h} [Le h0 h]=>iW (h:=h) hx
 have kD:=fun {h} [Le h0 h]=>iW (h:=h) hy
 have bx:=Hid.mk hx.sz
 have by_:=Hid.mk hy.sz
 obtain⟨_,_,_,_,_,_,_,rfl,_⟩:=hx.sa
 obtain⟨_,_,_,_,_,_,_,rfl,_⟩:=hy.sa
 clear hx hy
 by_cases hr:r < 0∨3 < r
 ·obtain⟨eE,eB⟩:=BY (x:=x) (y:=y) hr
  rw[eE,eB]
  rcases hr with g |g
  all_goals
   refine Spec.go [(14,.t (.s [0,1,2,3,5,6,7,8] (.a 4 (.a 9 (.a 10 (.a 11 (.a 12 (.a 13 .d .n) .n) .n) (.a 11 (.a 10 (.a 12 (.a 13 .d .n) .n) .n) .n)) (.a 10 (.a 9 (.a 11 (.a 12 (.a 13 .d .n) .n) .n) (.a 11 (.a 9 (.a 12 (.a 13 .d .n) .n) .n) .n)) (.a 11 (.a 9 (.a 10 (.a 12 (.a 13 .d .n) .n) .n) (.a 10 (.a 9 (.a 12 (.a 13 .d .n) .n) .n) .n)) .n))) (.a 10 (.a 4 (.a 9 (.a 11 (.a 12 (.a 13 .d .n) .n) .n) (.a 11 (.a 9 (.a 12 (.a 13 .d .n) .n) .n) .n)) (.a 11 (.a 4 (.a 9 (.a 12 (.a 13 .d .n) .n) .n) .n) .n)) (.a 11 (.a 4 (.a 9 (.a 10 (.a 12 (.a 13 .d .n) .n) .n) (.a 10 (.a 9 (.a 12 (.a 13 .d .n) .n) .n) .n)) (.a 10 (.a 4 (.a 9 (.a 12 (.a 13 .d .n) .n) .n) .n) .n)) .n))))),(15,.o [0,1,4,5,2,3,6,7,8]),(18,.o [0,1,3,4,7,2,5,6,8,9,10])] Tryz.func131 rfl rfl (by kernel_rfl) fun C _=>?_
   try simp(maxSteps:=999999) (disch:=omega) only[go_sem,ξ,ζ]
   refine caN (by exact kC) ?_;rintro v1 h1 s1 ⟨_,_,_,_,_,_,_,rfl,c1⟩
   try simp(maxSteps:=999999) (disch:=omega) only[go_sem,ξ,ζ]
   refine caN (by exact kD) ?_;rintro v2 h2 s2 ⟨_,_,_,_,_,_,_,rfl,c2⟩
   try simp(maxSteps:=999999) (disch:=omega) only[go_sem,ξ,ζ]
 ·have T:wideB x∨wideB y→turnE x y r=20∧turnB x y r=false:=yI hr
  have Z:=BX (x:=x) (y:=y) hr
  have r1:0≤r:=by omega
  have r2:r≤3:=by omega
  clear hr
  obtain⟨bX,hX⟩:∃b,b=decide (x.den*4294967296 < x.num.natAbs):=⟨_,rfl⟩
  obtain⟨bY,hY⟩:∃b,b=decide (y.den*4294967296 < y.num.natAbs):=⟨_,rfl⟩
  have kX:∀{h1 h:PH} {v:Value} [Le h1 h],Cn h1 v x→Spec mach 115 #[v,.int .u64 (4294967296:Nat)] h (fun v _=>v=.bool bX) NP:=fun c=>by
   rw[hX]
   exact fY (n:=4294967296) c (χ bx.out (by decide)) (by decide)
  have kY:∀{h1 h:PH} {v:Value} [Le h1 h],Cn h1 v y→Spec mach 115 #[v,.int .u64 (4294967296:Nat)] h (fun v _=>v=.bool bY) NP:=fun c=>by
   rw[hY]
   exact fY (n:=4294967296) c (χ by_.out (by decide)) (by decide)
  have hX:=Hid.mk hX
  have hY:=Hid.mk hY
  refine Spec.go [(14,.t (.s [0,1,2,3,5,6,7,8] (.a 4 (.a 9 (.a 10 (.a 11 (.a 12 (.a 13 .d .n) .n) .n) (.a 11 (.a 10 (.a 12 (.a 13 .d .n) .n) .n) .n)) (.a 10 (.a 9 (.a 11 (.a 12 (.a 13 .d .n) .n) .n) (.a 11 (.a 9 (.a 12 (.a 13 .d .n) .n) .n) .n)) (.a 11 (.a 9 (.a 10 (.a 12 (.a 13 .d .n) .n) .n) (.a 10 (.a 9 (.a 12 (.a 13 .d .n) .n) .n) .n)) .n))) (.a 10 (.a 4 (.a 9 (.a 11 (.a 12 (.a 13 .d .n) .n) .n) (.a 11 (.a 9 (.a 12 (.a 13 .d .n) .n) .n) .n)) (.a 11 (.a 4 (.a 9 (.a 12 (.a 13 .d .n) .n) .n) .n) .n)) (.a 11 (.a 4 (.a 9 (.a 10 (.a 12 (.a 13 .d .n) .n) .n) (.a 10 (.a 9 (.a 12 (.a 13 .d .n) .n) .n) .n)) (.a 10 (.a 4 (.a 9 (.a 12 (.a 13 .d .n) .n) .n) .n) .n)) .n))))),(15,.o [0,1,4,5,2,3,6,7,8]),(18,.o [0,1,3,4,7,2,5,6,8,9,10])] Tryz.func131 rfl rfl (by kernel_rfl) fun C _=>?_
  try simp(maxSteps:=999999) (disch:=omega) only[go_sem,ξ,ζ]
  refine caN (by exact kC) ?_;rintro v1 h1 s1 ⟨_,_,_,_,_,_,_,rfl,c1⟩
  try simp(maxSteps:=999999) (disch:=omega) only[go_sem,ξ,ζ]
  refine caN (by exact kD) ?_;rintro v2 h2 s2 ⟨_,_,_,_,_,_,_,rfl,c2⟩
  try simp(maxSteps:=999999) (disch:=omega) only[go_sem,ξ,ζ]
  refine caN (by exact dX (c1.to (h':=h2))) ?_;rintro v3 h3 s3 rfl
  try simp(maxSteps:=999999) (disch:=omega) only[go_sem,ξ,ζ]
  by_cases A:1024 < sz x
  ·obtain⟨eE,eB⟩:=T (.inl (.inl A))
   rw[eE,eB]
   try simp(maxSteps:=999999) (disch:=omega) only[go_sem,ξ,ζ]
  try simp(maxSteps:=999999) (disch:=omega) only[go_sem,ξ,ζ]
  refine caN (by exact dX (c2.to (h':=h3))) ?_;rintro v4 h4 s4 rfl
  try simp(maxSteps:=999999) (disch:=omega) only[go_sem,ξ,ζ]
  by_cases B:1024 < sz y
  ·obtain⟨eE,eB⟩:=T (.inr (.inl B))
   rw[eE,eB]
   try simp(maxSteps:=999999) (disch:=omega) only[go_sem,ξ,ζ]
  try simp(maxSteps:=999999) (disch:=omega) only[go_sem,ξ,ζ]
  refine caN (by exact kX (c1.to (h':=h4))) ?_;rintro v5 h5 s5 rfl
  try simp(maxSteps:=999999) (disch:=omega) only[go_sem,ξ,ζ]
  cases bX with
  | true=>
   obtain⟨eE,eB⟩:=T (.inl (.inr (of_decide_eq_true hX.out.symm)))
   rw[eE,eB]
   clear hX hY T Z
   try simp(maxSteps:=999999) (disch:=omega) only[go_sem,ξ,ζ]
  |false=>
  have C':=Hid.mk (of_decide_eq_false hX.out.symm)
  clear hX
  try simp(maxSteps:=999999) (disch:=omega) only[go_sem,ξ,ζ]
  refine caN (by exact kY (c2.to (h':=h5))) ?_;rintro v6 h6 s6 rfl
  try simp(maxSteps:=999999) (disch:=omega) only[go_sem,ξ,ζ]
  cases bY with
  | true=>
   obtain⟨eE,eB⟩:=T (.inr (.inr (of_decide_eq_true hY.out.symm)))
   rw[eE,eB]
   clear hY T Z
   try simp(maxSteps:=999999) (disch:=omega) only[go_sem,ξ,ζ]
  |false=>
  have D:=Hid.mk (of_decide_eq_false hY.out.symm)
  clear hY kX kY
  try simp(maxSteps:=999999) (disch:=omega) only[go_sem,ξ,ζ]
  refine caN (by exact gY (Rv.of (c1.to (h':=h6)) bx.out) (Rv.of c2.to by_.out)) ?_;rintro v7 h7 s7 rfl
  try simp(maxSteps:=999999) (disch:=omega) only[go_sem,ξ,ζ]
  obtain⟨eE,z1,z2⟩:=Z (by have k1:=C'.out;have k2:=D.out;unfold wideB;omega)
  clear T Z kC kD
  have e3:=GD x y
  rw[eE]
  by_cases hc:y < x
  ·rw[z1 hc]
   rw[decide_eq_true hc] at e3
   try simp(maxSteps:=999999) (disch:=omega) only[go_sem,ξ,ζ,e3]
  rw[z2 hc]
  rw[decide_eq_false hc] at e3
  clear z1 z2
  obtain⟨l1,l2⟩:=qt_bd (u:=true) C'.out gP_ge
  obtain⟨l3,l4⟩:=qt_bd (u:=false) D.out fP_ge
  obtain⟨l5,l6⟩:=qt_bd (u:=true) C'.out fP_ge
  obtain⟨l7,l8⟩:=qt_bd (u:=false) D.out gP_ge
  have f0:fP≠0:=by have:=fP_ge;grind
  have g0:gP≠0:=by have:=gP_ge;grind
  have n1:(qt x gP true).natAbs < 4294967296:=by omega
  have n2:(qt y fP false).natAbs < 4294967296:=by omega
  have n3:(qt x fP true).natAbs < 4294967296:=by omega
  have n4:(qt y gP false).natAbs < 4294967296:=by omega
  have m1: -8589934592≤(if qt x gP true > 0 then qt x gP true else 0)∧(if qt x gP true > 0 then qt x gP true else 0)≤8589934592:=by split<;>omega
  have m2: -8589934592≤qt x fP true∧qt x fP true≤8589934592:=by omega
  have A:=Hid.mk (show sz x≤1024 by omega)
  have B:=Hid.mk (show sz y≤1024 by omega)
  have n1:=Hid.mk n1
  have n2:=Hid.mk n2
  have n3:=Hid.mk n3
  have n4:=Hid.mk n4
  have m1:=Hid.mk m1
  have m2:=Hid.mk m2
  obtain⟨u1,u2⟩:=bl_pi (w:=192)
  have u1:=Hid.mk (show bl (piL 192)≤2048 by omega)
  have u2:=Hid.mk (show bl (piH 192)≤2048 by omega)
  clear l1 l2 l3 l4 l5 l6 l7 l8 C' D hc
  have kM:∀{h:PH},Spec mach 186 #[.int .i64 (if qt x gP true > 0 then qt x gP true else 0),.int .i64 (qt y fP false),.int .i64 r] h (fun v _=>v=.bool (tv1 x y r)) NP:=wT m1.out ⟨r1,r2⟩
  have kN:∀{h:PH},Spec mach 186 #[.int .i64 (qt x fP true),.int .i64 (if qt y gP false < -1 then qt y gP false else -1),.int .i64 r] h (fun v _=>v=.bool (tv2 x y r)) NP:=wT m2.out ⟨r1,r2⟩
  have kQ1:=fun {h1 h:PH} {v w:Value} [Le h1 h] (hx:Cn h1 v x) (hg:Cn h1 w gP)=>oP (h:=h) (u:=true) hx hg A.out gP_sz g0 n1.out
  have kQ2:=fun {h1 h:PH} {v w:Value} [Le h1 h] (hy:Cn h1 v y) (hf:Cn h1 w fP)=>oP (h:=h) (u:=false) hy hf B.out fP_sz f0 n2.out
  have kQ3:=fun {h1 h:PH} {v w:Value} [Le h1 h] (hx:Cn h1 v x) (hf:Cn h1 w fP)=>oP (h:=h) (u:=true) hx hf A.out fP_sz f0 n3.out
  have kQ4:=fun {h1 h:PH} {v w:Value} [Le h1 h] (hy:Cn h1 v y) (hg:Cn h1 w gP)=>oP (h:=h) (u:=false) hy hg B.out gP_sz g0 n4.out
  have kR1:∀{h1 h:PH} {v:Value} [Le h1 h],N32 h1 v (piL 192)→Spec mach 100 #[v,.int .i64 (193:Nat),.bool false] h (fun v h'=>Cn h' v fP) NP:=fun hv=>aO (n:=193) hv u1.out (by decide)
  have kR2:∀{h1 h:PH} {v:Value} [Le h1 h],N32 h1 v (piH 192)→Spec mach 100 #[v,.int .i64 (193:Nat),.bool false] h (fun v h'=>Cn h' v gP) NP:=fun hv=>aO (n:=193) hv u2.out (by decide)
  generalize tv1 x y r=t1 at kM ⊢
  generalize tv2 x y r=t2 at kN ⊢
  generalize qt x gP true=a1 at*
  generalize qt y fP false=a2 at*
  generalize qt x fP true=a3 at*
  generalize qt y gP false=a4 at*
  clear A B n1 n2 n3 n4 m1 m2 u1 u2 f0 g0
  try simp(maxSteps:=999999) (disch:=omega) only[go_sem,ξ,ζ,e3]
  refine caN (by exact kt (w:=192) (by decide) (by decide)) ?_;rintro v8 h8 s8 ⟨_,_,_,_,_,_,rfl,p1,p2⟩
  try simp(maxSteps:=999999) (disch:=omega) only[go_sem,ξ,ζ]
  clear e3
  generalize piL 192=A1 at*
  generalize piH 192=A2 at*
  generalize fP=f at*
  generalize gP=g at*
  (repeat' refine And.intro ?_ ?_)
  all_goals
   refine caN (by exact kR1 p1) ?_;rintro v9 h9 s9 q9;obtain⟨_,_,_,_,_,_,_,rfl,q9⟩:=q9.sa
   try simp(maxSteps:=999999) (disch:=omega) only[go_sem,ξ,ζ]
   (repeat' refine And.intro ?_ ?_)
   all_goals
    refine caN (by exact kR2 (p2.to (h':=h9))) ?_;rintro v10 h10 s10 q10;obtain⟨_,_,_,_,_,_,_,rfl,q10⟩:=q10.sa
    try simp(maxSteps:=999999) (disch:=omega) only[go_sem,ξ,ζ]
    (repeat' refine And.intro ?_ ?_)
    all_goals
     try simp(maxSteps:=999999) (disch:=omega) only[go_sem,ξ,ζ]
     refine caN (by exact kQ1 (c1.to (h':=h10)) q10) ?_;rintro v11 h11 s11 rfl
     try simp(maxSteps:=999999) (disch:=omega) only[go_sem,ξ,ζ]
     refine caN (by exact kQ2 (c2.to (h':=h11)) (q9.to (h':=h11))) ?_;rintro v12 h12 s12 rfl
     try simp(maxSteps:=999999) (disch:=omega) only[go_sem,ξ,ζ]
     refine caN (by exact kM) ?_;rintro v13 h13 s13 rfl
     try simp(maxSteps:=999999) (disch:=omega) only[go_sem,ξ,ζ]
     cases t1
     ·try simp(maxSteps:=999999) (disch:=omega) only[go_sem,ξ,ζ]
      refine caN (by exact kQ3 (c1.to (h':=h13)) (q9.to (h':=h13))) ?_;rintro v14 h14 s14 rfl
      try simp(maxSteps:=999999) (disch:=omega) only[go_sem,ξ,ζ]
      refine caN (by exact kQ4 (c2.to (h':=h14)) (q10.to (h':=h14))) ?_;rintro v15 h15 s15 rfl
      try simp(maxSteps:=999999) (disch:=omega) only[go_sem,ξ,ζ]
      refine caN (by exact kN) ?_;rintro v16 h16 s16 rfl
      try simp(maxSteps:=999999) (disch:=omega) only[go_sem,ξ,ζ]
     ·try simp(maxSteps:=999999) (disch:=omega) only[go_sem,ξ,ζ]
      all_goals rfl
open Go.RowKit (Below)
theorem nh {M:Mach} {n:Nat} {C:Ctx} {c:Code} {Q:Exit→AS→PH→Prop} {E:List PanicEntry→PH→Prop} {S:AS} {h:PH} {β:Nat→Nat} {a:Act} {w:World} (g:G M C n S h β a w) (hk:AWP M n C c Q E S h):c.wp M.P (LQ M n C Q E) a w:=hk β a w g
theorem box_get {S:AS} {i:Nat} (h:2≤S.bx.length) (hi:i < 2:=by decide):S.bx[i]?=some (S.box i):=by
 have:i < S.bx.length:=by omega
 simp[AS.box,this]
theorem tL {C:Ctx} {h:PH} {w:World} {β:Nat→Nat} {x y:List Value} (h0:BoxAt C h w (β 0) x) (h1:BoxAt C h w (β 1) y) (hne:β 0≠β 1):Rows C h w β [x,y]:=by
 refine⟨fun i cs hi _=>?_,fun i j ci cj hi hj _ _ hij=>?_⟩
 ·match i,hi with
  |0,hi=>cases hi;exact h0
  |1,hi=>cases hi;exact h1
 ·match i,j,hi,hj with
  |0,0,_,_=>rfl
  |1,1,_,_=>rfl
  |0,1,_,_=>exact(hne hij).elim
  |1,0,_,_=>exact(hne hij.symm).elim
theorem idle_Iv (p q:Value) (w:World):CallsD mach.P 123 #[p,q] .returning w fun e u' w'=>e=.returned (.tuple #[])∧u'=.returning∧w'=w:=by
 refine callsD_of_wpS Tryz.func123 rfl fun c₀ cs hu=>?_
 apply wpS_seq
 apply wpS_region
 simp[wpOpsS,go_sem,recoverD,hu,Exit.thenS]
 have hnil:∀w:World,(binOp BinOp.eql 20 .nilIface .nilIface).run mach.P w=.ok (.bool true) w:=fun _=>by kernel_rfl
 refine wpS_of_wp (wp_block (wp_seq_k fun K hK=>?_))
 apply wp_region
 simp[wpOps,go_sem,hnil,Oper.upon,Exit.then]
 refine .inl (hK _ _ ?_)
 clear hK K
 refine wp_cond_true ?_ ?_
 ·simp[Act.eval]
 apply wp_region
 simp[wpOps,go_sem]
 cases c₀
 simp_all [bodyPostS,results,Tryz.results123,Exit.inBlock]
theorem I3 {C:Ctx} {h:PH} {β:Nat→Nat} {w:World} {rv re:List Value} {e:Int} (hf:Fine mach C h w) (hr:Rows C h w β [rv,re]) (h8:rv.length=8) (h1:re.length=1):
    CallsD mach.P 123 #[.pointer (some ⟨β 0,0,none⟩),.pointer (some ⟨β 1,0,none⟩)] (.panicking [{v:=.iface 159 (.agg #[.int .i64 e]),recovered:=false}]) w fun en u' w'=>
      en=.returned (.tuple #[])∧u'=.panicking [{v:=.iface 159 (.agg #[.int .i64 e]),recovered:=true}]∧
      Fine mach C h w'∧Rows C h w' β [[.bool false,.slice none 0 0,.slice none 0 0,.bool false,.slice none 0 0,.slice none 0 0,.bool false,.bool false],[.int .i64 e]]:=by
  have hnil:∀w:World,(binOp BinOp.eql 20 (.iface 159 (.agg #[.int .i64 e])) .nilIface).run mach.P w=.ok (.bool false) w:=fun _=>by kernel_rfl
  have has:∀w:World,(Instr.typeAssert (.iface 159 (.agg #[.int .i64 e])) 20 159 true).run mach.P w=.ok (.tuple #[.agg #[.int .i64 e],.bool true]) w:=fun _=>by kernel_rfl
  refine callsD_of_wpS Tryz.func123 rfl fun c₀ cs hu=>?_
  apply wpS_seq
  apply wpS_region
  simp[wpOpsS,go_sem,recoverD,hu,Exit.thenS]
  refine wpS_of_wp (wp_block (wp_seq_k fun K hK=>?_))
  apply wp_region
  simp[wpOps,go_sem,hnil,Oper.upon,Exit.then]
  refine .inl (hK _ _ ?_)
  clear hK K
  refine wp_cond_false ?_ ?_
  · simp[Act.eval]
  refine wp_seq_k fun K hK=>?_
  apply wp_region
  simp[wpOps,go_sem,has,Oper.upon,Exit.then]
  repeat refine Or.inl ?_
  refine hK _ _ ?_
  clear hK K
  refine wp_cond_true ?_ ?_
  · simp[Act.eval]
  match rv,re,h8,h1 with
  |[r0,r1,r2,r3,r4,r5,r6,r7],[q0],_,_=>
  refine wp_mono (nh (M:=mach) (n:=15) (C:=⟨C.w0,C.h0,[β 0,β 1],[]⟩) (S:=⟨[(0,.p 0 0),(1,.p 1 0),(11,.v (.agg #[.int .i64 e]))],[[r0,r1,r2,r3,r4,r5,r6,r7],[q0]]⟩) (h:=h) (β:=β) (E:=NP)
    (Q:=fun en S h'=>en=.normal∧h'=h∧2≤S.bx.length∧S.box 0=[.bool false,.slice none 0 0,.slice none 0 0,.bool false,.slice none 0 0,.slice none 0 0,.bool false,.bool false]∧S.box 1=[.int .i64 e]) ?_ ?_) ?_
  · refine⟨by simp,rfl,hf.re rfl rfl,fun i cs hi hc=>(hr.at_ i cs hi hc).re rfl,hr.inj,fun t=>?_,fun t i hi=>?_,by simp,fun i hi=>?_⟩
    · simp only[lk]
      by_cases h0:t=0
      · subst h0;exact .inr rfl
      · by_cases h1:t=1
        · subst h1;exact .inr rfl
        · by_cases h2:t=11
          · subst h2;exact .inr rfl
          · refine .inl ?_
            have e0:(0 == t)=false:=by simp;omega
            have e1:(1 == t)=false:=by simp;omega
            have e2:(11 == t)=false:=by simp;omega
            simp[e0,e1,e2]
    · simp only[lk] at hi
      by_cases h0:t=0
      · subst h0;simp[AV.ix] at hi;subst hi;simp
      · by_cases h1:t=1
        · subst h1;simp[AV.ix] at hi;subst hi;simp
        · have e0:(0 == t)=false:=by simp;omega
          have e1:(1 == t)=false:=by simp;omega
          rw[e0,e1] at hi
          cases hx:(11 == t)<;>rw[hx] at hi<;>cases hi
    · simp only[List.length_cons,List.length_nil] at hi
      match i,hi with
      |0,_=>rfl
      |1,_=>rfl
  · repeat (first |(refine rg rfl rfl (fun K hK=>?_);(repeat (first |(refine wo rfl (fun k hk=>?_);simp(disch:=omega) only[go_sem,ξ,ζ];apply hk;clear hk k) |refine wkt rfl ?_));(try refine wk0 ?_);apply hK;clear hK K;(try dsimp only[ag,qs,qb])) |((first |refine ae ?_ |refine ac ?_);simp(disch:=decide) only[qs,qb,if_true,if_false,reduceIte]) |refine ah rfl (fun K hK=>?_) |refine ct rfl ?_ |((first |refine hK _ _ ?_ |(clear hK;refine hK _ _ ?_) |(clear hK;clear hK;refine hK _ _ ?_));clear hK;(try clear K)))
    refine pD (.alt 0 (.alt 1 (.alt 2 (.alt 3 (.alt 4 .done .no) .no) (.alt 3 (.alt 2 (.alt 4 .done .no) .no) .no)) (.alt 3 (.alt 1 (.alt 2 (.alt 4 .done .no) .no) .no) .no)) (.alt 1 (.alt 0 (.alt 2 (.alt 3 (.alt 4 .done .no) .no) (.alt 3 (.alt 2 (.alt 4 .done .no) .no) .no)) (.alt 2 (.alt 0 (.alt 3 (.alt 4 .done .no) .no) .no) .no)) .no)) (by decide+kernel) rfl (fun K hK=>?_)
    have fin:∀S h',h'=h→S.box 0=[.bool false,.slice none 0 0,.slice none 0 0,.bool false,.slice none 0 0,.slice none 0 0,.bool false,.bool false]→S.box 1=[.int .i64 e]→2≤S.bx.length→K S h':=fun S h' e0 e1 e2 e3=>hK _ _ ⟨rfl,e0,e3,e1,e2⟩
    clear hK
    repeat' (first |exact wt_no |exact ak (fin _ _ rfl rfl rfl (by simp)) |refine aj ?_ ?_ |(refine wk (fun k hk=>?_);simp(disch:=omega) only[go_sem,ξ,ζ];apply hk;clear hk k;with_reducible refine wk0 ?_))
  · intro en a' w' hq
    cases en with
    | normal=>
      obtain⟨S',h',β',g',_,rfl,hl,hb0,hb1⟩:=hq
      have e0:β' 0=β 0:=g'.pin.2 0 (by simp)
      have e1:β' 1=β 1:=g'.pin.2 1 (by simp)
      have x0:=g'.boxes 0 _ (box_get hl) (by rw[hb0];simp)
      have x1:=g'.boxes 1 _ (box_get hl) (by rw[hb1];simp)
      have ne:=g'.inj 0 1 _ _ (box_get hl) (box_get hl) (by rw[hb0];simp) (by rw[hb1];simp)
      rw[e0,hb0] at x0
      rw[e1,hb1] at x1
      rw[e0,e1] at ne
      cases c₀
      simp only[Exit.inBlock,bodyPostS]
      refine⟨g'.defers,_,rfl,_,results_none rfl _ _ _,rfl,rfl,g'.fine.re rfl rfl,tL (x0.re rfl) (x1.re rfl) (fun e=>by simpa using ne e)⟩
    |panic ch=>obtain⟨_,_,_,hq⟩:=hq;exact(hq:False).elim
    |outgrown=>exact(hq:False).elim
    |_=>obtain⟨_,_,_,_,hq,_⟩:=hq;cases hq
theorem G.start {M:Mach} {n:Nat} {args:List Value} {h:PH} {w:World} (pin:List Nat) (hp:pin=[]) (ha:args.length≤n) (hw:Has w h) (hg:Sub M.gl h):
  G M ⟨w,h,pin,[]⟩ n ⟨argS 0 args,[]⟩ h (fun _=>0) {tmps:=args.toArray ++Array.replicate (n - args.toArray.size) undef,defers:=[]} w:=by
 subst hp
 refine⟨by simp;omega,rfl,⟨Below.refl _ _,hw,Sub.refl h,New.refl _ h,hg⟩,fun i cs hi=>by simp at hi,fun i j ci cj hi=>by simp at hi,fun t=>?_,fun t i hi=>?_,qBh _,fun i hi=>by cases hi⟩
 ·rw[qO]
  split
  ·rename_i hc
   refine .inr ?_
   simp only[Nat.sub_zero,List.length_cons] at hc ⊢
   have hlt:t < args.toArray.size:=by simpa using hc.2
   simp only[cv,Array.getD_eq_getD_getElem?,Array.getElem?_append_left hlt]
   simp[hc.2]
  ·exact .inl rfl
 ·rw[qO] at hi
  split at hi<;>cases hi
theorem G.re {M:Mach} {C C':Ctx} {n:Nat} {S:AS} {h:PH} {β:Nat→Nat} {a:Act} {w:World} (g:G M C n S h β a w) (h1:C'.w0=C.w0) (h2:C'.h0=C.h0) (ds:List Deferred) (hd:C'.df=ds) (hp:C'.pin.length≤S.bx.length∧∀i,i < C'.pin.length→β i=C'.pin.getD i 0):
  G M C' n S h β {a with defers:=ds} w:=
 ⟨g.size,hd.symm,g.fine.re h1 h2,fun i cs hi hc=>(g.boxes i cs hi hc).re h1,g.inj,g.slots,g.wf,hp⟩
section
variable {P:Program} {ops:Array Oper} {Q:Exit→Act→World→Prop}
theorem RWc_r {i:Nat} {o:Oper} {c:List Nat} {a:Act} {w:World} (v:Value) (ho:ops[i]?=some o) (hc:cls o.op=0) (hg:o.guard=none) (hr:∀w',Below w.heap.size w w'→(execOp a.eval o).run P w'=.ok (.value v) w') (hk:RWc P ops Q c (a.put o.dst v) w):RWc P ops Q (i :: c) a w:=
 (fE ho hc).2 ⟨v,.inl ⟨by simp[Region.wanted,hg],hr⟩,hk⟩
theorem RWc_i {i:Nat} {o:Oper} {c:List Nat} {a:Act} {w:World} (ho:ops[i]?=some o) (hc:cls o.op≠0) (hg:o.guard=none) (hk:o.wp P a w (fun a' w'=>(cls o.op=2∨Below w.heap.size w w')∧RWc P ops Q c a' w') Q):RWc P ops Q (i :: c) a w:=by
 rw[jP ho hc,if_pos (by simp[Region.wanted,hg])]
 exact hk
theorem B9 {o:Oper} {a:Act} {w:World} {next:Act→World→Prop} (d:Deferred) (h:(execOp a.eval o).run P w=.ok (.defer d) w) (hk:next ({a with defers:=d :: a.defers}.put o.dst undef) w):o.wp P a w next Q:=by
 unfold Oper.wp
 rw[h]
 exact hk
theorem tZ {o:Oper} {a:Act} {w:World} {next:Act→World→Prop} {f:FuncId} {args:Array Value} (h:(execOp a.eval o).run P w=.ok (.enter f args) w)
  (hk:Calls P f args w fun e w'=>match e with
   |.returned v=>next (a.put o.dst v) w'
   |.panicked ch=>Q (.panic ch) a w'
   |.outgrown=>False):o.wp P a w next Q:=by
 unfold Oper.wp
 rw[h]
 refine hk.mono fun e w' hp=>?_
 cases e with
 |returned v=>exact hp
 |panicked ch=>exact hp
 |outgrown=>exact hp.elim
end
def offIv (β:Nat→Nat):Deferred:={target:=.fn (.func 123) #[.pointer (some ⟨β 0,0,none⟩),.pointer (some ⟨β 1,0,none⟩)],args:=#[]}
theorem BH {M:Mach} {C:Ctx} {n:Nat} {S:AS} {h:PH} {β:Nat→Nat} {a:Act} {w:World} (g:G M C n S h β a w) {o:Oper} {t:Nat} {ts:Array TypeId} (ho:o.op=.call {callee:=.value (.tmp t),args:=#[],argTypes:=ts}) {f:FuncId} {cap:Array Value} (hf:S.ev (.tmp t)=.v (.func (.func f) #[] cap)) (hc:dS M.P f=true):
  (execOp a.eval o).run M.P w=.ok (.enter f cap) w:=by
 simp only[execOp,ho,resolve,Deferred.ofValue,g.ev_v hf,Sem.run_bind,Sem.run_pure,Result.andThen_ok,invoke]
 rw[iF hc]
 simp
theorem sM {P:Program} {ops:Array Oper} {x:Code} {Q:Exit→Act→World→Prop} {a a':Act} {w:World} (he:a=a') (h:x.wp P Q a' w):RWc P ops (Exit.then (x.wp P Q) Q) [] a w:=he▸h
theorem try_Iv {h : PH} {f:FuncId} {cap:Array Value} {w:World} (hw:Has w h) (hg:Sub mach.gl h) (hc:dS mach.P f=true) {Y:Ending→World→Prop}
  (hk :∀(w1:World),Has w1 h→Calls mach.P f cap w1 fun e w2=>∃h3,Below w1.heap.size w1 w2∧Has w2 h3∧Sub h h3∧New w1.heap.size h h3∧match e with
    |.returned v=>(∃r0 r1 r2 r3 r4 r5 r6 r7,v=.agg #[r0,r1,r2,r3,r4,r5,r6,r7]∧[r0,r1,r2,r3,r4,r5,r6,r7].all Value.oneCell'=true)∧∀w3,Fine mach ⟨w,h,[],[]⟩ h3 w3→Y (.returned (.tuple #[v,.int .i64 0])) w3
    |.panicked ch=>∃e,ch=[{v:=.iface 159 (.agg #[.int .i64 e]),recovered:=false}]∧∀w3,Fine mach ⟨w,h,[],[]⟩ h3 w3→Y (.returned (.tuple #[.agg #[.bool false,.slice none 0 0,.slice none 0 0,.bool false,.slice none 0 0,.slice none 0 0,.bool false,.bool false],.int .i64 e])) w3
    |.outgrown=>False):Calls mach.P 47 #[.func (.func f) #[] cap] w Y:=by
 refine calls_of_wp_defers Tryz.func47 rfl ?_
 refine wp_seq (wp_mono (nh (E:=NP) (Q:=fun e S h'=>e=.normal∧h'=h∧S=⟨[(3,.p 1 0),(2,.p 0 0),(0,.v (.func (.func f) #[] cap))],[[.bool false,.slice none 0 0,.slice none 0 0,.bool false,.slice none 0 0,.slice none 0 0,.bool false,.bool false],[.int .i64 0]]⟩) (G.start (M:=mach) (n:=7) (args:=[(.func (.func f) #[] cap)]) [] rfl (by simp) hw hg) ?_) ?_)
 ·refine AWP_s rfl ?_
  (repeat (first |(refine wo rfl (fun k hk=>?_);simp(disch:=omega) only[go_sem,ξ,ζ];apply hk;clear hk k) |refine wkt rfl ?_));(try refine wk0 ?_)
  exact⟨rfl,rfl,rfl⟩
 ·intro en a w1 hq
  cases en with
  | normal=>
   obtain⟨S',h',β,g,_,rfl,rfl⟩:=hq
   refine wp_seq (eK ?_)
   show RWc _ _ _ [0,1] _ _
   refine RWc_r (.func (.func 123) #[] #[.pointer (some ⟨β 0,0,none⟩),.pointer (some ⟨β 1,0,none⟩)]) rfl rfl rfl (fun w' hb=>?_) ?_
   ·simp[execOp,Instr.makeFunc,(g.below hb).ev_p (x:=.tmp 2) rfl,(g.below hb).ev_p (x:=.tmp 3) rfl]
   ·have g4 :=g.put (d:=some 4) (fun k hk=>by cases hk;decide) (x:=.top) (v:=(.func (.func 123) #[] #[.pointer (some ⟨β 0,0,none⟩),.pointer (some ⟨β 1,0,none⟩)])) (.inl rfl) (fun i hi=>by cases hi)
    have e4:(a.put (some 4) (.func (.func 123) #[] #[.pointer (some ⟨β 0,0,none⟩),.pointer (some ⟨β 1,0,none⟩)])).eval (.tmp 4)=(.func (.func 123) #[] #[.pointer (some ⟨β 0,0,none⟩),.pointer (some ⟨β 1,0,none⟩)]):=by
     have:=g.size
     simp[Act.eval,Act.put,this]
    refine RWc_i rfl (by decide) rfl (B9 (offIv β) ?_ ⟨.inr (Below.refl _ _),?_⟩)
    ·simp[execOp,offIv,resolve,Deferred.ofValue,e4]
    ·refine sM (a':={a.put (some 4) (.func (.func 123) #[] #[.pointer (some ⟨β 0,0,none⟩),.pointer (some ⟨β 1,0,none⟩)]) with defers:=[offIv β]}) ?_ ?_
     ·simp[Act.put,show a.defers=[] from g.defers]
     ·have g5 :=g4.re (C':=⟨w,h',[β 0,β 1],[offIv β]⟩) rfl rfl [offIv β] rfl ⟨by simp[AS.put],fun i hi=>by
       match i,hi with
       |0,_=>rfl
       |1,_=>rfl⟩
      generalize({a.put (some 4) (.func (.func 123) #[] #[.pointer (some ⟨β 0,0,none⟩),.pointer (some ⟨β 1,0,none⟩)]) with defers:=[offIv β]}:Act)=a5 at g5 ⊢
      clear e4 g4 g
      simp only[AS.put,st,ξ,cond_false] at g5
      refine wp_seq (eK ?_)
      show RWc _ _ _ [0,1,2,3] _ _
      refine RWc_r (.func (.func f) #[] cap) rfl rfl rfl (fun w' hb=>?_) ?_
      ·simp[execOp,(g5.below hb).ev_v (x:=.tmp 0) rfl]
      ·have g6:=g5.put (d:=some 5) (fun k hk=>by cases hk;decide) (x:=.v (.func (.func f) #[] cap)) (v:=(.func (.func f) #[] cap)) (.inr rfl) (fun i hi=>by cases hi)
       refine RWc_i rfl (by decide) rfl (tZ (f:=f) (args:=cap) ?_ ?_)
       ·exact BH g6 (t:=5) rfl rfl hc
       ·refine(hk w1 g6.fine.has).mono fun en w2 hp=>?_
        obtain⟨h3,hb,hh,hs,hn,hp⟩:=hp
        cases en with
        |outgrown=>exact hp
        | returned v=>
         obtain⟨⟨r0,r1,r2,r3,r4,r5,r6,r7,rfl,hone⟩,hY⟩:=hp
         refine⟨.inr hb,?_⟩
         have g7:=(g6.grow hb hh hs hn).put (d:=some 6) (fun k hk=>by cases hk;decide) (x:=.v (.agg #[r0,r1,r2,r3,r4,r5,r6,r7])) (v:=.agg #[r0,r1,r2,r3,r4,r5,r6,r7]) (.inr rfl) (fun i hi=>by cases hi)
         refine uo (Q:=LQ mach 7 ⟨w,h',[β 0,β 1],[offIv β]⟩ (fun e S h''=>e=.normal∧h''=h3∧2≤S.bx.length∧lk S.sl 2=.p 0 0∧lk S.sl 3=.p 1 0∧S.box 0=[r0,r1,r2,r3,r4,r5,r6,r7]∧S.box 1=[.int .i64 0]) NP) ?_ ?_ ?_ [2,3] _ _ (fx [.o 2,.o 3] _ _ _ _ _ _ rfl ?_ g7)
         ·rintro a8 w3 ⟨S8,h8,β8,g8,_,rfl,hl,l2,l3,b0,b1⟩
          refine wp_ret ?_
          show Leaves mach.P _ a8.tmps Y a8.defers .returning w3
          rw[show a8.defers=[offIv β] from g8.defers]
          refine leaves_cons (f:=123) (args:=#[.pointer (some ⟨β 0,0,none⟩),.pointer (some ⟨β 1,0,none⟩)]) (by simp) (by simp[go_sem];exact iF (by kernel_rfl) _ _) ?_
          refine(idle_Iv _ _ _).mono ?_
          rintro e u' w'' ⟨rfl,rfl,rfl⟩
          simp only[settle,Leaves]
          refine⟨_,i9 g8 (v:=.tuple #[.agg #[r0,r1,r2,r3,r4,r5,r6,r7],.int .i64 0]) ?_,hY _ (g8.fine.re rfl rfl)⟩
          show resA mach.P S8 [.cell 2 26,.cell 3 27]=_
          have b0':S8.bx.getD 0 []=_:=b0
          have b1':S8.bx.getD 1 []=_:=b1
          simp only[resA,resL,res1,l2,l3,ldb,b0',b1',go_sem]
          all_goals rfl
         ·rintro ch a w ⟨_,_,_,hq⟩;exact(hq:False).elim
         ·intro a w hq;exact(hq:False).elim
         ·simp only[AS.put,st,ξ,cond_false]
          refine wk (fun k hk=>?_)
          simp(disch:=omega) only[go_sem,ξ,ζ]
          refine⟨by simpa[Value.oneCell'] using hone,hk _ _ ?_⟩
          clear hk k
          (repeat (first |(refine wo rfl (fun k hk=>?_);simp(disch:=omega) only[go_sem,ξ,ζ];apply hk;clear hk k) |refine wkt rfl ?_));(try refine wk0 ?_)
          exact⟨trivial,rfl,by simp,rfl,rfl,rfl,rfl⟩
        | panicked ch=>
         obtain⟨e,rfl,hY⟩:=hp
         have g7:=g6.grow hb hh hs hn
         show Leaves mach.P _ (a5.put (some 5) (.func (.func f) #[] cap)).tmps Y (a5.put (some 5) (.func (.func f) #[] cap)).defers (.panicking _) w2
         rw[show(a5.put (some 5) (.func (.func f) #[] cap)).defers=[offIv β] from g7.defers]
         refine leaves_cons (f:=123) (args:=#[.pointer (some ⟨β 0,0,none⟩),.pointer (some ⟨β 1,0,none⟩)]) (by simp) (by simp[go_sem];exact iF (by kernel_rfl) _ _) ?_
         refine(I3 g7.fine ⟨g7.boxes,g7.inj⟩ rfl rfl).mono ?_
         rintro en u' w'' ⟨rfl,rfl,hf,hr⟩
         simp only[settle,Leaves,List.dropWhile_nil]
         have g9:G mach ⟨w,h',[β 0,β 1],[offIv β]⟩ 7 ⟨_,[[.bool false,.slice none 0 0,.slice none 0 0,.bool false,.slice none 0 0,.slice none 0 0,.bool false,.bool false],[.int .i64 e]]⟩ h3 β (a5.put (some 5) (.func (.func f) #[] cap)) w'':=⟨g7.size,g7.defers,hf,hr.at_,hr.inj,g7.slots,g7.wf,g7.pin⟩
         refine⟨_,i9 g9 (v:=.tuple #[.agg #[.bool false,.slice none 0 0,.slice none 0 0,.bool false,.slice none 0 0,.slice none 0 0,.bool false,.bool false],.int .i64 e]) ?_,hY _ (hf.re rfl rfl)⟩
         show resA mach.P _ [.cell 2 26,.cell 3 27]=_
         simp only[resA,resL,res1,ldb,go_sem]
         rfl
  |panic ch=>obtain⟨_,_,_,hq⟩:=hq;exact(hq:False).elim
  |outgrown=>exact(hq:False).elim
  |_=>obtain⟨_,_,_,_,hq,_⟩:=hq;cases hq
theorem tryIv_ok {h:PH} {f:FuncId} {cap:Array Value} {R R':Value→PH→Prop} (s:Spec mach f cap h R NP) (hR:∀v h',Sub h h'→R v h'→(∃r0 r1 r2 r3 r4 r5 r6 r7,v=.agg #[r0,r1,r2,r3,r4,r5,r6,r7]∧[r0,r1,r2,r3,r4,r5,r6,r7].all Value.oneCell'=true)∧R' (.tuple #[v,.int .i64 0]) h'):
  Spec mach 47 #[.func (.func f) #[] cap] h R' NP:=⟨by kernel_rfl,fun w hw hg=>try_Iv hw hg s.ok fun w1 hw1=>(s.run w1 hw1 hg).mono fun e w2 hp=>by
 cases e with
 |outgrown=>exact(hp:False).elim
 |panicked ch=>obtain⟨_,_,_,_,_,hp⟩:=hp;exact(hp:False).elim
 | returned v=>
  obtain⟨h3,hb,hh,hs,hn,hr⟩:=hp
  obtain⟨hv,hr⟩:=hR v h3 hs hr
  exact⟨h3,hb,hh,hs,hn,hv,fun w3 hf=>⟨h3,hf.below,hf.has,hf.sub,hf.new,hr⟩⟩⟩
theorem F4 {h:PH} {f:FuncId} {cap:Array Value} {e:Int} {R':Value→PH→Prop} (s:Spec mach f cap h NR (fail e)) (hR:∀h',Sub h h'→R' (.tuple #[.agg #[.bool false,.slice none 0 0,.slice none 0 0,.bool false,.slice none 0 0,.slice none 0 0,.bool false,.bool false],.int .i64 e]) h'):
  Spec mach 47 #[.func (.func f) #[] cap] h R' NP:=⟨by kernel_rfl,fun w hw hg=>try_Iv hw hg s.ok fun w1 hw1=>(s.run w1 hw1 hg).mono fun en w2 hp=>by
 cases en with
 |outgrown=>exact(hp:False).elim
 |returned v=>obtain⟨_,_,_,_,_,hp⟩:=hp;exact(hp:False).elim
 | panicked ch=>
  obtain⟨h3,hb,hh,hs,hn,hr⟩:=hp
  exact⟨h3,hb,hh,hs,hn,e,hr,fun w3 hf=>⟨h3,hf.below,hf.has,hf.sub,hf.new,hR h3 hs⟩⟩⟩
theorem jT {h0 h:PH} [Le h0 h] {v:Value} {a b:Option Rat} (hv:Sn h0 v (.i a b)):
  Spec mach 53 #[v] h (fun r _=>r=.tuple #[.int .i64 (NS.i a b).slo,.int .i64 (NS.i a b).shi]) NP:=by
 obtain⟨b1,a1,m1,c1,a2,m2,c2,b2,a3,m3,c3,a4,m4,c4,rfl,h1,h2⟩:=hv.ie
 cases a with
 | none=>
  cases b with
  | none=>
   dsimp only[Option.isNone]
   refine Spec.go [] Tryz.func53 rfl rfl (by kernel_rfl) fun C _=>?_
   try simp(maxSteps:=999999) (disch:=omega) only[go_sem,ξ,ζ]
   all_goals rfl
  | some b=>
   dsimp only[Option.isNone]
   refine Spec.go [] Tryz.func53 rfl rfl (by kernel_rfl) fun C _=>?_
   try simp(maxSteps:=999999) (disch:=omega) only[go_sem,ξ,ζ]
   refine caN (by exact dv h2.num) ?_;rintro v1 h1 s1 rfl
   try simp(maxSteps:=999999) (disch:=omega) only[go_sem,ξ,ζ]
   all_goals rfl
 | some a=>
  cases b with
  | none=>
   dsimp only[Option.isNone]
   refine Spec.go [] Tryz.func53 rfl rfl (by kernel_rfl) fun C _=>?_
   try simp(maxSteps:=999999) (disch:=omega) only[go_sem,ξ,ζ]
   refine caN (by exact dv h1.num) ?_;rintro v1 h1 s1 rfl
   try simp(maxSteps:=999999) (disch:=omega) only[go_sem,ξ,ζ]
   all_goals rfl
  | some b=>
   dsimp only[Option.isNone]
   refine Spec.go [] Tryz.func53 rfl rfl (by kernel_rfl) fun C _=>?_
   try simp(maxSteps:=999999) (disch:=omega) only[go_sem,ξ,ζ]
   refine caN (by exact dv h1.num) ?_;rintro v1 h1 s1 rfl
   try simp(maxSteps:=999999) (disch:=omega) only[go_sem,ξ,ζ]
   refine caN (by exact dv h2.num) ?_;rintro v2 h2 s2 rfl
   try simp(maxSteps:=999999) (disch:=omega) only[go_sem,ξ,ζ]
   all_goals rfl
theorem qU {h0 h:PH} [Le h0 h] {v:Value} {q:Rat} (hv:Fr h0 v q):Spec mach 62 #[v] h (fun v h'=>Sn h' v (.i (some q) (some q))) NP:=by
 obtain⟨_,_,_,_,_,_,_,rfl,hv⟩:=hv.sa
 refine Spec.go [] Tryz.func62 rfl rfl (by kernel_rfl) fun C _=>?_
 try simp(maxSteps:=999999) (disch:=omega) only[go_sem,ξ,ζ]
 exact⟨_,_,_,_,_,_,rfl,(En.of hv).to,(En.of hv).to⟩
theorem dP {h0 h:PH} [Le h0 h] {v w:Value} {x y:Rat} (hx:Fr h0 v x) (hy:Fr h0 w y) (bx:sz x≤2^36) (by_:sz y≤2^36):
  Spec mach 56 #[v,w] h (fun v h'=>Fr h' v (min x y)) NP:=by
 obtain⟨_,_,_,_,_,_,_,rfl,hx⟩:=hx.sa
 obtain⟨_,_,_,_,_,_,_,rfl,hy⟩:=hy.sa
 refine Spec.go [] Tryz.func56 rfl rfl (by kernel_rfl) fun C _=>?_
 try simp(maxSteps:=999999) (disch:=omega) only[go_sem,ξ,ζ]
 refine caN (by exact dq hy hx by_ bx) ?_;rintro v1 h1 s1 rfl
 try simp(maxSteps:=999999) (disch:=omega) only[go_sem,ξ,ζ]
 by_cases hc:y < x
 ·have e1:cmpQ y x < 0:=by simp[cmpQ,hc]
  try simp(maxSteps:=999999) (disch:=omega) only[go_sem,ξ,ζ]
  have:min x y=y:=by grind
  rw[this];exact hy.to
 ·have e1:¬cmpQ y x < 0:=by unfold cmpQ;rw[if_neg hc];split<;>decide
  try simp(maxSteps:=999999) (disch:=omega) only[go_sem,ξ,ζ]
  have:min x y=x:=by grind
  rw[this];exact hx.to
theorem cE {h0 h:PH} [Le h0 h] {v w:Value} {x y:Rat} (hx:Fr h0 v x) (hy:Fr h0 w y) (bx:sz x≤2^36) (by_:sz y≤2^36):
  Spec mach 57 #[v,w] h (fun v h'=>Fr h' v (max x y)) NP:=by
 obtain⟨_,_,_,_,_,_,_,rfl,hx⟩:=hx.sa
 obtain⟨_,_,_,_,_,_,_,rfl,hy⟩:=hy.sa
 refine Spec.go [] Tryz.func57 rfl rfl (by kernel_rfl) fun C _=>?_
 try simp(maxSteps:=999999) (disch:=omega) only[go_sem,ξ,ζ]
 refine caN (by exact dq hy hx by_ bx) ?_;rintro v1 h1 s1 rfl
 try simp(maxSteps:=999999) (disch:=omega) only[go_sem,ξ,ζ]
 by_cases hc:x < y
 ·have e1:0 < cmpQ y x:=by unfold cmpQ;grind
  try simp(maxSteps:=999999) (disch:=omega) only[go_sem,ξ,ζ]
  have:max x y=y:=by grind
  rw[this];exact hy.to
 ·have e1:¬0 < cmpQ y x:=by unfold cmpQ;grind
  try simp(maxSteps:=999999) (disch:=omega) only[go_sem,ξ,ζ]
  have:max x y=x:=by grind
  rw[this];exact hx.to
theorem px {x y:Rat} {k:Nat} (hx:sz x≤k) (hy:sz y≤k):sz (max x y)≤k:=by
 by_cases h:x < y
 ·rw[show max x y=y by grind];exact hy
 ·rw[show max x y=x by grind];exact hx
theorem py {x y:Rat} {k:Nat} (hx:sz x≤k) (hy:sz y≤k):sz (min x y)≤k:=by
 by_cases h:y < x
 ·rw[show min x y=y by grind];exact hy
 ·rw[show min x y=x by grind];exact hx
theorem up36 {n:Nat} (h:n≤2^30):n≤2^36:=by omega
def Sd (h:PH) (v:Value):NS→Prop
 |.e=>∃b1 x1 y1 b2 x2 y2 p q,v=.agg #[.bool b1,x1,y1,.bool b2,x2,y2,.bool false,.bool false,.bool true]∧En h b1 x1 y1 (some p)∧En h b2 x2 y2 (some q)∧sz p≤2^30∧sz q≤2^30
 |.i a b=>Sn h v (.i a b)
theorem Sd.sn {h:PH} {v:Value} {x:NS} (r:Sd h v x):Sn h v x:=by
 cases x with
 |i a b=>exact r
 |e=>obtain⟨b1,x1,y1,b2,x2,y2,p,q,rfl,h1,h2,_⟩:=r;exact⟨_,_,_,_,_,_,_,_,rfl,h1.junk,h2.junk⟩
theorem Sd.to {h h':PH} {v:Value} {x:NS} (r:Sd h v x) [Le h h']:Sd h' v x:=by
 cases x with
 |i a b=>exact Sn.to (x:=.i a b) r
 |e=>obtain⟨b1,x1,y1,b2,x2,y2,p,q,hv,h1,h2,k⟩:=r;exact⟨b1,x1,y1,b2,x2,y2,p,q,hv,h1.to,h2.to,k⟩
theorem Sd.ee {h:PH} {v:Value} (r:Sd h v .e):∃b1 a1 m1 c1 a2 m2 c2 b2 a3 m3 c3 a4 m4 c4 p q,v=.agg #[.bool b1,.slice a1 m1 c1,.slice a2 m2 c2,.bool b2,.slice a3 m3 c3,.slice a4 m4 c4,.bool false,.bool false,.bool true]∧
  En h b1 (.slice a1 m1 c1) (.slice a2 m2 c2) (some p)∧En h b2 (.slice a3 m3 c3) (.slice a4 m4 c4) (some q)∧sz p≤2^30∧sz q≤2^30:=by
 obtain⟨b1,x1,y1,b2,x2,y2,p,q,rfl,h1,h2,k⟩:=r
 obtain⟨_,_,_,_,_,_,rfl,rfl⟩:=h1.sl
 obtain⟨_,_,_,_,_,_,rfl,rfl⟩:=h2.sl
 exact⟨_,_,_,_,_,_,_,_,_,_,_,_,_,_,_,_,rfl,h1,h2,k⟩
theorem dK {h0 h:PH} [Le h0 h] {v:Value} {x:RI} (hv:Iv h0 v x) (g:x.big=false):Spec mach 46 #[v] h (fun v h'=>Sd h' v x.set) NP:=by
 obtain⟨g1,g2⟩:=RI.small g
 refine(wy hv g1 g2).mono (fun v h' _ r=>?_) (fun _ _ _ e=>e)
 rw[←RI.set_eq]
 have z1:sz (qof x.n1 x.a1 x.d1)≤2^30:=by unfold Go.Q.lg at g1;omega
 have z2:sz (qof x.n2 x.a2 x.d2)≤2^30:=by unfold Go.Q.lg at g2;omega
 obtain⟨b1,x1,y1,b2,x2,y2,rfl,h1,h2⟩:=r
 unfold rdS PS.n at*
 dsimp only at*
 cases hl:x.l with
 | true=>exact⟨b1,x1,y1,b2,x2,y2,by cases x.u<;>rfl,(En.of h1).junk,by cases x.u with
  |true=>exact(En.of h2).junk
  |false=>exact En.of h2⟩
 | false=>
  cases hu:x.u with
  |true=>exact⟨b1,x1,y1,b2,x2,y2,rfl,En.of h1,(En.of h2).junk⟩
  | false=>
   by_cases hc:qof x.n2 x.a2 x.d2 < qof x.n1 x.a1 x.d1
   ·simp only[hc,decide_true,Bool.not_false,Bool.and_true,cond_true]
    exact⟨b1,x1,y1,b2,x2,y2,_,_,rfl,En.of h1,En.of h2,z1,z2⟩
   ·simp only[hc,decide_false,Bool.and_false,cond_false]
    exact⟨b1,x1,y1,b2,x2,y2,rfl,En.of h1,En.of h2⟩
theorem sum_set {h0 h:PH} [Le h0 h] {v w:Value} {a b c d:Option Rat} (hs:Sn h0 v (.i a b)) (ht:Sn h0 w (.i c d)) (ls:(NS.i a b).le (2^30)) (lt:(NS.i c d).le (2^30)):
  Spec mach 88 #[v,w] h (fun v h'=>Sn h' v (NS.sum (.i a b) (.i c d))) NP:=by
 obtain⟨b1,a1,m1,c1,a2,m2,c2,b2,a3,m3,c3,a4,m4,c4,rfl,h1,h2⟩:=hs.ie
 obtain⟨b1',a1',m1',c1',a2',m2',c2',b2',a3',m3',c3',a4',m4',c4',rfl,h3,h4⟩:=ht.ie
 rw[NS.le_i] at ls lt
 cases a<;>cases c<;>cases b<;>cases d<;>
 ·dsimp only[Option.isNone]
  refine Spec.go [] Tryz.func88 rfl rfl (by kernel_rfl) fun C _=>?_
  try simp(maxSteps:=999999) (disch:=omega) only[go_sem,ξ,ζ]
  try (refine caN (by exact iV h1.num h3.num (up36 (ls.1 _ rfl)) (up36 (lt.1 _ rfl))) ?_;rintro _ g1 _ f1;obtain⟨_,_,_,_,_,_,_,rfl,f1⟩:=f1.sa;(try simp(maxSteps:=999999) (disch:=omega) only[go_sem,ξ,ζ]))
  try (refine caN (by exact iV h2.num h4.num (up36 (ls.2 _ rfl)) (up36 (lt.2 _ rfl))) ?_;rintro _ g2 _ f2;obtain⟨_,_,_,_,_,_,_,rfl,f2⟩:=f2.sa;(try simp(maxSteps:=999999) (disch:=omega) only[go_sem,ξ,ζ]))
  try simp(maxSteps:=999999) (disch:=omega) only[go_sem,ξ,ζ]
  exact⟨_,_,_,_,_,_,rfl,by first |exact(En.of f1).to |exact En.nil _,by first |exact(En.of f2).to |exact En.nil _⟩
theorem Le.tr {a b c:PH} (x:Le a b) (y:Le b c):Le a c:=⟨x.sub.trans y.sub⟩
theorem fG {h:PH} {b:Nat} {cs:List Value} (hb:h b=some cs.toArray) (j:Nat) (v:Value) (hj:cs[j]?=some v):h.at ⟨b,j,none⟩=some v:=by
 simp[PH.at,hb,hj]
theorem dG {h:PH} {b:Nat} {cs:List Value} (hb:h b=some cs.toArray) (j:Nat) (v:Value) (hj:cs[j]?=some v):h.at ((⟨b,0,none⟩:Addr).add j)=some v:=by
 cases j<;>simp[PH.at,Addr.add,hb,hj]
theorem aK {h:PH} {b:Nat} {v:Value} (hb:h b=some #[v]):h.at ⟨b,0,none⟩=some v:=by
 simp[PH.at,hb]
def zIv:Value:=.agg #[.bool false,.slice none 0 0,.slice none 0 0,.bool false,.slice none 0 0,.slice none 0 0,.bool false,.bool false]
theorem Cv.sa {h:PH} {v:Value} {x:NS} (r:Cv h v x):∃b1 a1 m1 c1 a2 m2 c2 b2 a3 m3 c3 a4 m4 c4 l u,v=.agg #[.bool b1,.slice a1 m1 c1,.slice a2 m2 c2,.bool b2,.slice a3 m3 c3,.slice a4 m4 c4,.bool l,.bool u]∧
  Cv h (.agg #[.bool b1,.slice a1 m1 c1,.slice a2 m2 c2,.bool b2,.slice a3 m3 c3,.slice a4 m4 c4,.bool l,.bool u]) x:=by
 have r0:=r
 obtain⟨b1,x1,y1,b2,x2,y2,rfl,h1,h2⟩:=r
 obtain⟨_,_,_,_,_,_,_,e1,_⟩:=h1.sa
 obtain⟨_,_,_,_,_,_,_,e2,_⟩:=h2.sa
 simp only[Value.agg.injEq,Array.mk.injEq,List.cons.injEq,and_true] at e1 e2
 obtain⟨_,rfl,rfl⟩:=e1
 obtain⟨_,rfl,rfl⟩:=e2
 exact⟨_,_,_,_,_,_,_,_,_,_,_,_,_,_,_,_,rfl,r0⟩
theorem Cv.eight {h:PH} {v:Value} {x:NS} (r:Cv h v x):∃r0 r1 r2 r3 r4 r5 r6 r7,v=.agg #[r0,r1,r2,r3,r4,r5,r6,r7]∧[r0,r1,r2,r3,r4,r5,r6,r7].all Value.oneCell'=true:=by
 obtain⟨_,_,_,_,_,_,_,_,_,_,_,_,_,_,_,_,rfl,_⟩:=r.sa
 exact⟨_,_,_,_,_,_,_,_,rfl,rfl⟩
def Ir (h:PH) (r:Value):Out→Prop
 |.error e=>r=.tuple #[zIv,.int .i64 e]
 |.ok x=>∃u,r=.tuple #[u,.int .i64 0]∧Cv h u x
theorem Ir.to {h h':PH} {r:Value} {o:Out} (k:Ir h r o) [Le h h']:Ir h' r o:=by
 cases o with
 |error e=>exact k
 |ok x=>obtain⟨u,e,c⟩:=k;exact⟨u,e,c.to⟩
theorem Ir.sa {h:PH} {r:Value} {o:Out} (k:Ir h r o):∃b1 a1 m1 c1 a2 m2 c2 b2 a3 m3 c3 a4 m4 c4 l u e,r=.tuple #[.agg #[.bool b1,.slice a1 m1 c1,.slice a2 m2 c2,.bool b2,.slice a3 m3 c3,.slice a4 m4 c4,.bool l,.bool u],.int .i64 e]∧
  Ir h (.tuple #[.agg #[.bool b1,.slice a1 m1 c1,.slice a2 m2 c2,.bool b2,.slice a3 m3 c3,.slice a4 m4 c4,.bool l,.bool u],.int .i64 e]) o:=by
 cases o with
 |error e=>cases(k:r=_);exact⟨_,_,_,_,_,_,_,_,_,_,_,_,_,_,_,_,_,rfl,rfl⟩
 | ok x=>
  obtain⟨u,rfl,c⟩:=k
  obtain⟨_,_,_,_,_,_,_,_,_,_,_,_,_,_,_,_,rfl,c⟩:=c.sa
  exact⟨_,_,_,_,_,_,_,_,_,_,_,_,_,_,_,_,_,rfl,_,rfl,c⟩
theorem Sd.sa {h:PH} {v:Value} {x:NS} (r:Sd h v x):∃b1 a1 m1 c1 a2 m2 c2 b2 a3 m3 c3 a4 m4 c4 l u,v=.agg #[.bool b1,.slice a1 m1 c1,.slice a2 m2 c2,.bool b2,.slice a3 m3 c3,.slice a4 m4 c4,.bool l,.bool u,.bool x.void]∧
  Sd h (.agg #[.bool b1,.slice a1 m1 c1,.slice a2 m2 c2,.bool b2,.slice a3 m3 c3,.slice a4 m4 c4,.bool l,.bool u,.bool x.void]) x:=by
 cases x with
 |e=>obtain⟨_,_,_,_,_,_,_,_,_,_,_,_,_,_,p,q,rfl,h1,h2,k⟩:=r.ee;exact⟨_,_,_,_,_,_,_,_,_,_,_,_,_,_,_,_,rfl,_,_,_,_,_,_,p,q,rfl,h1,h2,k⟩
 |i a b=>obtain⟨_,_,_,_,_,_,_,_,_,_,_,_,_,_,rfl,h1,h2⟩:=Sn.ie r;exact⟨_,_,_,_,_,_,_,_,_,_,_,_,_,_,_,_,rfl,_,_,_,_,_,_,rfl,h1,h2⟩
def Does (f:FuncId) (args:Array Value) (h:PH):Out→Prop
 |.ok x=>Spec mach f args h (fun v h'=>Sn h' v x) NP
 |.error e=>Spec mach f args h NR (fail e)
def Gives (f:FuncId) (args:Array Value) (h:PH):Out→Prop
 |.ok x=>Spec mach f args h (fun v h'=>Cv h' v x) NP
 |.error e=>Spec mach f args h NR (fail e)
theorem Does.ok {f:FuncId} {args:Array Value} {h:PH} {x:NS} (d:Does f args h (.ok x)):Spec mach f args h (fun v h'=>Sn h' v x) NP:=d
theorem Does.err {f:FuncId} {args:Array Value} {h:PH} {e:Int} (d:Does f args h (.error e)):Spec mach f args h NR (fail e):=d
def RI.fin (x:RI) (o:Out):Out:=bif x.big then .error 1 else o.fin
def RI.fin2 (x y:RI) (o:Out):Out:=bif x.big || y.big then .error 1 else o.fin
theorem HZ {h:PH} {f:FuncId} {cap:Array Value} {o:Out} (g:Gives f cap h o):Spec mach 47 #[.func (.func f) #[] cap] h (fun r h'=>Ir h' r o) NP:=by
 cases o with
 |ok x=>exact tryIv_ok g (fun v h' _ r=>⟨r.eight,v,rfl,r⟩)
 |error e=>exact F4 g (fun _ _=>rfl)
theorem Ea {h0 h:PH} [Le h0 h] {v:Value} {x:RI} {f:FuncId} {cap:Array Value} {b1 b2:Nat} {cs:List Value} {o:Out} (hv:Iv h0 v x) (hb1:h b1=some #[.func (.func f) #[] cap]) (hc:v=.agg cs.toArray) (hl:cs.length=8) (hb2:h b2=some cs.toArray)
  (hd:x.big=false→∀(h':PH) [Le h h'] (s:Value),Sd h' s x.set→Does f (s :: cap.toList).toArray h' o):
  Gives 48 #[.pointer (some ⟨b1,0,none⟩),.pointer (some ⟨b2,0,none⟩)] h (x.fin o):=by
 subst hc
 unfold RI.fin
 cases g:x.big with
 | true=>
  refine Spec.go [] Tryz.func48 rfl rfl (by kernel_rfl) fun C _=>?_
  try simp(maxSteps:=999999) (disch:=omega) only[go_sem,ξ,ζ]
  refine aE (aK hb1) ?_
  try simp(maxSteps:=999999) (disch:=omega) only[go_sem,ξ,ζ]
  refine dL cs hl (dG hb2) ?_
  try simp(maxSteps:=999999) (disch:=omega) only[go_sem,ξ,ζ]
  exact caF (by exact fF hv g) (fun _ _ h=>h)
 | false=>
  have hd:=hd g
  dsimp only[cond_false]
  cases o with
  | error e=>
   refine Spec.go [] Tryz.func48 rfl rfl (by kernel_rfl) fun C _=>?_
   try simp(maxSteps:=999999) (disch:=omega) only[go_sem,ξ,ζ]
   refine aE (aK hb1) ?_
   try simp(maxSteps:=999999) (disch:=omega) only[go_sem,ξ,ζ]
   refine dL cs hl (dG hb2) ?_
   try simp(maxSteps:=999999) (disch:=omega) only[go_sem,ξ,ζ]
   refine caN (by exact dK hv g) ?_;rintro s1 h1 st1 hs1
   try simp(maxSteps:=999999) (disch:=omega) only[go_sem,ξ,ζ]
   exact caF (by exact(hd _ s1 hs1).err) (fun _ _ h=>h)
  | ok y=>
   dsimp only[Out.fin]
   by_cases hy:y.le 2048
   ·rw[decide_eq_true hy,cond_true]
    refine Spec.go [] Tryz.func48 rfl rfl (by kernel_rfl) fun C _=>?_
    try simp(maxSteps:=999999) (disch:=omega) only[go_sem,ξ,ζ]
    refine aE (aK hb1) ?_
    try simp(maxSteps:=999999) (disch:=omega) only[go_sem,ξ,ζ]
    refine dL cs hl (dG hb2) ?_
    try simp(maxSteps:=999999) (disch:=omega) only[go_sem,ξ,ζ]
    refine caN (by exact dK hv g) ?_;rintro s1 h1 st1 hs1
    try simp(maxSteps:=999999) (disch:=omega) only[go_sem,ξ,ζ]
    refine caN (by exact(hd _ s1 hs1).ok) ?_;rintro s2 h2 st2 hs2
    try simp(maxSteps:=999999) (disch:=omega) only[go_sem,ξ,ζ]
    refine caN (by exact Ck hs2 hy) ?_;rintro v3 h3 st3 hv3;obtain⟨_,_,_,_,_,_,_,_,_,_,_,_,_,_,_,_,rfl,hv3⟩:=hv3.sa
    try simp(maxSteps:=999999) (disch:=omega) only[go_sem,ξ,ζ]
    exact hv3
   ·rw[decide_eq_false hy,cond_false]
    refine Spec.go [] Tryz.func48 rfl rfl (by kernel_rfl) fun C _=>?_
    try simp(maxSteps:=999999) (disch:=omega) only[go_sem,ξ,ζ]
    refine aE (aK hb1) ?_
    try simp(maxSteps:=999999) (disch:=omega) only[go_sem,ξ,ζ]
    refine dL cs hl (dG hb2) ?_
    try simp(maxSteps:=999999) (disch:=omega) only[go_sem,ξ,ζ]
    refine caN (by exact dK hv g) ?_;rintro s1 h1 st1 hs1
    try simp(maxSteps:=999999) (disch:=omega) only[go_sem,ξ,ζ]
    refine caN (by exact(hd _ s1 hs1).ok) ?_;rintro s2 h2 st2 hs2
    try simp(maxSteps:=999999) (disch:=omega) only[go_sem,ξ,ζ]
    exact caF (by exact ze hs2 hy) (fun _ _ h=>h)
theorem jX {h0 h:PH} [Le h0 h] {v:Value} {x:RI} {f:FuncId} {cap:Array Value} {o:Out} (hv:Iv h0 v x)
  (hd:x.big=false→∀(h':PH) [Le h h'] (s:Value),Sd h' s x.set→Does f (s :: cap.toList).toArray h' o):
  Spec mach 14 #[v,.func (.func f) #[] cap] h (fun r h'=>Ir h' r (x.fin o)) NP:=by
 have hv0:=hv
 obtain⟨a1,m1,c1,a2,m2,c2,a3,m3,c3,a4,m4,c4,rfl,_,_⟩:=hv.sa
 refine Spec.go [(1,.t (.p 0 (.p 1 (.s [0,1,2,3,4,5] .d))))] Tryz.func14 rfl rfl (by kernel_rfl) fun C _=>?_
 try simp(maxSteps:=999999) (disch:=omega) only[go_sem,ξ,ζ]
 intro b2 h2 st2 hb2
 try simp(maxSteps:=999999) (disch:=omega) only[go_sem,ξ,ζ]
 intro b1 h1 st1 hb1
 try simp(maxSteps:=999999) (disch:=omega) only[go_sem,ξ,ζ]
 have hb1:=hb1 (by simp)
 have hb2:=st1.sub _ _ (hb2 (by simp))
 refine caN (by exact HZ (Ea (hv0.to (h':=h1)) hb1 rfl rfl hb2 (fun g h' i s hs=>@hd g h' (Le.tr inferInstance i) s hs))) ?_;rintro r3 h3 st3 hr3;obtain⟨_,_,_,_,_,_,_,_,_,_,_,_,_,_,_,_,_,rfl,hr3⟩:=hr3.sa
 try simp(maxSteps:=999999) (disch:=omega) only[go_sem,ξ,ζ]
 exact hr3
theorem Db {h0 h:PH} [Le h0 h] {v w:Value} {x y:RI} {f:FuncId} {cap:Array Value} {b1 b2 b3:Nat} {cs ds:List Value} {o:Out} (hv:Iv h0 v x) (hw:Iv h0 w y) (hc:v=.agg cs.toArray) (hl:cs.length=8) (hb1:h b1=some cs.toArray) (hb2:h b2=some #[.func (.func f) #[] cap]) (hc':w=.agg ds.toArray) (hl':ds.length=8) (hb3:h b3=some ds.toArray)
  (hd:x.big=false→y.big=false→∀(h':PH) [Le h h'] (s t:Value),Sd h' s x.set→Sd h' t y.set→Does f (s :: t :: cap.toList).toArray h' o):
  Gives 121 #[.pointer (some ⟨b1,0,none⟩),.pointer (some ⟨b2,0,none⟩),.pointer (some ⟨b3,0,none⟩)] h (x.fin2 y o):=by
 subst hc
 subst hc'
 unfold RI.fin2
 cases g:x.big with
 | true=>
  refine Spec.go [] Tryz.func121 rfl rfl (by kernel_rfl) fun C _=>?_
  try simp(maxSteps:=999999) (disch:=omega) only[go_sem,ξ,ζ]
  refine dL cs hl (dG hb1) ?_
  try simp(maxSteps:=999999) (disch:=omega) only[go_sem,ξ,ζ]
  exact caF (by exact fF hv g) (fun _ _ h=>h)
 | false =>
  cases g':y.big with
  | true=>
   refine Spec.go [] Tryz.func121 rfl rfl (by kernel_rfl) fun C _=>?_
   try simp(maxSteps:=999999) (disch:=omega) only[go_sem,ξ,ζ]
   refine dL cs hl (dG hb1) ?_
   try simp(maxSteps:=999999) (disch:=omega) only[go_sem,ξ,ζ]
   refine caN (by exact dK hv g) ?_;rintro s1 h1 st1 hs1;obtain⟨_,_,_,_,_,_,_,_,_,_,_,_,_,_,_,_,rfl,hs1⟩:=hs1.sa
   try simp(maxSteps:=999999) (disch:=omega) only[go_sem,ξ,ζ]
   refine aE (aK (st1.sub _ _ hb2)) ?_
   try simp(maxSteps:=999999) (disch:=omega) only[go_sem,ξ,ζ]
   refine dL ds hl' (dG (st1.sub _ _ hb3)) ?_
   try simp(maxSteps:=999999) (disch:=omega) only[go_sem,ξ,ζ]
   exact caF (by exact fF hw g') (fun _ _ h=>h)
  | false=>
   have hd:=hd g g'
   show Gives _ _ _ o.fin
   cases o with
   | error e=>
    refine Spec.go [] Tryz.func121 rfl rfl (by kernel_rfl) fun C _=>?_
    try simp(maxSteps:=999999) (disch:=omega) only[go_sem,ξ,ζ]
    refine dL cs hl (dG hb1) ?_
    try simp(maxSteps:=999999) (disch:=omega) only[go_sem,ξ,ζ]
    refine caN (by exact dK hv g) ?_;rintro s1 h1 st1 hs1;obtain⟨_,_,_,_,_,_,_,_,_,_,_,_,_,_,_,_,rfl,hs1⟩:=hs1.sa
    try simp(maxSteps:=999999) (disch:=omega) only[go_sem,ξ,ζ]
    refine aE (aK (st1.sub _ _ hb2)) ?_
    try simp(maxSteps:=999999) (disch:=omega) only[go_sem,ξ,ζ]
    refine dL ds hl' (dG (st1.sub _ _ hb3)) ?_
    try simp(maxSteps:=999999) (disch:=omega) only[go_sem,ξ,ζ]
    refine caN (by exact dK hw g') ?_;rintro s2 h2 st2 hs2
    try simp(maxSteps:=999999) (disch:=omega) only[go_sem,ξ,ζ]
    exact caF (by exact(hd _ _ s2 hs1.to hs2).err) (fun _ _ h=>h)
   | ok z=>
    dsimp only[Out.fin]
    by_cases hy:z.le 2048
    ·rw[decide_eq_true hy,cond_true]
     refine Spec.go [] Tryz.func121 rfl rfl (by kernel_rfl) fun C _=>?_
     try simp(maxSteps:=999999) (disch:=omega) only[go_sem,ξ,ζ]
     refine dL cs hl (dG hb1) ?_
     try simp(maxSteps:=999999) (disch:=omega) only[go_sem,ξ,ζ]
     refine caN (by exact dK hv g) ?_;rintro s1 h1 st1 hs1;obtain⟨_,_,_,_,_,_,_,_,_,_,_,_,_,_,_,_,rfl,hs1⟩:=hs1.sa
     try simp(maxSteps:=999999) (disch:=omega) only[go_sem,ξ,ζ]
     refine aE (aK (st1.sub _ _ hb2)) ?_
     try simp(maxSteps:=999999) (disch:=omega) only[go_sem,ξ,ζ]
     refine dL ds hl' (dG (st1.sub _ _ hb3)) ?_
     try simp(maxSteps:=999999) (disch:=omega) only[go_sem,ξ,ζ]
     refine caN (by exact dK hw g') ?_;rintro s2 h2 st2 hs2
     try simp(maxSteps:=999999) (disch:=omega) only[go_sem,ξ,ζ]
     refine caN (by exact(hd _ _ s2 hs1.to hs2).ok) ?_;rintro s3 h3 st3 hs3
     try simp(maxSteps:=999999) (disch:=omega) only[go_sem,ξ,ζ]
     refine caN (by exact Ck hs3 hy) ?_;rintro v4 h4 st4 hv4;obtain⟨_,_,_,_,_,_,_,_,_,_,_,_,_,_,_,_,rfl,hv4⟩:=hv4.sa
     try simp(maxSteps:=999999) (disch:=omega) only[go_sem,ξ,ζ]
     exact hv4
    ·rw[decide_eq_false hy,cond_false]
     refine Spec.go [] Tryz.func121 rfl rfl (by kernel_rfl) fun C _=>?_
     try simp(maxSteps:=999999) (disch:=omega) only[go_sem,ξ,ζ]
     refine dL cs hl (dG hb1) ?_
     try simp(maxSteps:=999999) (disch:=omega) only[go_sem,ξ,ζ]
     refine caN (by exact dK hv g) ?_;rintro s1 h1 st1 hs1;obtain⟨_,_,_,_,_,_,_,_,_,_,_,_,_,_,_,_,rfl,hs1⟩:=hs1.sa
     try simp(maxSteps:=999999) (disch:=omega) only[go_sem,ξ,ζ]
     refine aE (aK (st1.sub _ _ hb2)) ?_
     try simp(maxSteps:=999999) (disch:=omega) only[go_sem,ξ,ζ]
     refine dL ds hl' (dG (st1.sub _ _ hb3)) ?_
     try simp(maxSteps:=999999) (disch:=omega) only[go_sem,ξ,ζ]
     refine caN (by exact dK hw g') ?_;rintro s2 h2 st2 hs2
     try simp(maxSteps:=999999) (disch:=omega) only[go_sem,ξ,ζ]
     refine caN (by exact(hd _ _ s2 hs1.to hs2).ok) ?_;rintro s3 h3 st3 hs3
     try simp(maxSteps:=999999) (disch:=omega) only[go_sem,ξ,ζ]
     exact caF (by exact ze hs3 hy) (fun _ _ h=>h)
theorem mV {h0 h:PH} [Le h0 h] {v w:Value} {x y:RI} {f:FuncId} {cap:Array Value} {o:Out} (hv:Iv h0 v x) (hw:Iv h0 w y)
  (hd:x.big=false→y.big=false→∀(h':PH) [Le h h'] (s t:Value),Sd h' s x.set→Sd h' t y.set→Does f (s :: t :: cap.toList).toArray h' o):
  Spec mach 42 #[v,w,.func (.func f) #[] cap] h (fun r h'=>Ir h' r (x.fin2 y o)) NP:=by
 have hv0:=hv
 have hw0:=hw
 obtain⟨a1,m1,c1,a2,m2,c2,a3,m3,c3,a4,m4,c4,rfl,_,_⟩:=hv.sa
 obtain⟨a1',m1',c1',a2',m2',c2',a3',m3',c3',a4',m4',c4',rfl,_,_⟩:=hw.sa
 refine Spec.go [(1,.t (.p 0 (.p 1 (.p 2 (.s [0,1,2,3,4,5] .d)))))] Tryz.func42 rfl rfl (by kernel_rfl) fun C _=>?_
 try simp(maxSteps:=999999) (disch:=omega) only[go_sem,ξ,ζ]
 intro b1 h1 st1 hb1
 try simp(maxSteps:=999999) (disch:=omega) only[go_sem,ξ,ζ]
 intro b3 h2 st2 hb3
 try simp(maxSteps:=999999) (disch:=omega) only[go_sem,ξ,ζ]
 intro b2 h3 st3 hb2
 try simp(maxSteps:=999999) (disch:=omega) only[go_sem,ξ,ζ]
 have hb2:=hb2 (by simp)
 have hb3:=st3.sub _ _ (hb3 (by simp))
 have hb1:=st3.sub _ _ (st2.sub _ _ (hb1 (by simp)))
 refine caN (by exact HZ (Db (hv0.to (h':=h3)) (hw0.to (h':=h3)) rfl rfl hb1 hb2 rfl rfl hb3 (fun g g' h' i s t hs ht=>@hd g g' h' (Le.tr inferInstance i) s t hs ht))) ?_;rintro r4 h4 st4 hr4;obtain⟨_,_,_,_,_,_,_,_,_,_,_,_,_,_,_,_,_,rfl,hr4⟩:=hr4.sa
 try simp(maxSteps:=999999) (disch:=omega) only[go_sem,ξ,ζ]
 exact hr4
def bad (p:Int):Bool:=decide (p < 0) || decide (128 < p)
theorem jt {p:Int} (h:bad p=false):0≤p∧p≤128:=by
 unfold bad at h
 simp only[Bool.or_eq_false_iff,decide_eq_false_iff_not] at h
 omega
theorem i7 {p:Int} (h:bad p=true):p < 0∨128 < p:=by
 unfold bad at h
 simpa using h
def Out.prec (p:Int) (o:Out):Out:=bif bad p then .error 2 else o
theorem NS.le30 {x:NS} (h:x.le 2048):x.le (2^30):=h.up (by decide)
theorem RI.le30 {x:RI} (h:x.big=false):x.set.le (2^30):=NS.le30 (RI.le h)
theorem Ah {h0 h:PH} [Le h0 h] {v:Value} {x:NS} {p:Int} (hv:Sn h0 v x) (hf:x.le (2^30)) (hp:0≤p∧p≤128):
  Spec mach 63 #[v,.int .i64 p] h (fun v h'=>Sn h' v (x.hull p.toNat)) NP:=by
 have:=Hull_set (h:=h) (p:=p.toNat) hv hf (by omega)
 rwa[show((p.toNat:Nat):Int)=p by omega] at this
theorem Does.mk {f:FuncId} {args:Array Value} {h:PH} {x:NS} (s:Spec mach f args h (fun v h'=>Sn h' v x) NP):Does f args h (.ok x):=s
theorem Canon1 {h0 h:PH} [Le h0 h] {s:Value} {x:NS} (hs:Sd h0 s x):Does 120 #[s] h (.ok x):=by
 obtain⟨_,_,_,_,_,_,_,_,_,_,_,_,_,_,_,_,rfl,hs⟩:=hs.sa
 refine Spec.go [] Tryz.func120 rfl rfl (by kernel_rfl) fun C _=>?_
 try simp(maxSteps:=999999) (disch:=omega) only[go_sem,ξ,ζ]
 exact hs.sn.to
theorem wN {h0 h:PH} [Le h0 h] {v:Value} {x:RI} (hv:Iv h0 v x):Spec mach 41 #[v] h (fun r h'=>Ir h' r (x.fin (.ok x.set))) NP:=by
 have hv0:=hv
 obtain⟨a1,m1,c1,a2,m2,c2,a3,m3,c3,a4,m4,c4,rfl,_,_⟩:=hv.sa
 refine Spec.go [] Tryz.func41 rfl rfl (by kernel_rfl) fun C _=>?_
 try simp(maxSteps:=999999) (disch:=omega) only[go_sem,ξ,ζ]
 refine caN (by exact jX hv0 (fun _ h' _ s hs=>Canon1 hs)) ?_;rintro r3 h3 st3 hr3;obtain⟨_,_,_,_,_,_,_,_,_,_,_,_,_,_,_,_,_,rfl,hr3⟩:=hr3.sa
 try simp(maxSteps:=999999) (disch:=omega) only[go_sem,ξ,ζ]
 exact hr3
theorem Iv.mk {h:PH} {b b':Bool} {x y x' y':Value} {n1 n2:Bool} {a1 d1 a2 d2:Nat} (hv:Rw h (.agg #[.bool b,x,y]) n1 a1 d1) (hw:Rw h (.agg #[.bool b',x',y']) n2 a2 d2) (l u:Bool):Iv h (.agg #[.bool b,x,y,.bool b',x',y',.bool l,.bool u]) ⟨n1,a1,d1,n2,a2,d2,l,u⟩:=by
 have e1:=hv
 have e2:=hw
 obtain⟨_,_,_,_,_,_,e1,_⟩:=e1
 obtain⟨_,_,_,_,_,_,e2,_⟩:=e2
 simp only[Value.agg.injEq,Array.mk.injEq,List.cons.injEq,and_true,Value.bool.injEq] at e1 e2
 obtain⟨rfl,_,_⟩:=e1
 obtain⟨rfl,_,_⟩:=e2
 exact⟨_,_,_,_,rfl,hv,hw⟩
theorem oK {h0 h:PH} [Le h0 h] {v w:Value} {n1 n2:Bool} {a1 d1 a2 d2:Nat} (hv:Rw h0 v n1 a1 d1) (hw:Rw h0 w n2 a2 d2):
  Spec mach 11 #[v,w] h (fun r h'=>Ir h' r (RI.fin ⟨n1,a1,d1,n2,a2,d2,false,false⟩ (.ok (RI.set ⟨n1,a1,d1,n2,a2,d2,false,false⟩)))) NP:=by
 obtain⟨_,_,_,_,_,_,_,rfl,hv⟩:=hv.sa
 obtain⟨_,_,_,_,_,_,_,rfl,hw⟩:=hw.sa
 refine Spec.go [] Tryz.func11 rfl rfl (by kernel_rfl) fun C _=>?_
 try simp(maxSteps:=999999) (disch:=omega) only[go_sem,ξ,ζ]
 refine caN (by exact wN (Iv.mk hv hw false false)) ?_;rintro _ h3 _ hr3;obtain⟨_,_,_,_,_,_,_,_,_,_,_,_,_,_,_,_,_,rfl,hr3⟩:=hr3.sa
 try simp(maxSteps:=999999) (disch:=omega) only[go_sem,ξ,ζ]
 exact hr3
theorem NS.le.minus {x:NS} {k:Nat} (h:x.le k):x.minus.le k:=by
 cases x with
 |e=>exact h
 | i a b=>
  rw[NS.le_i] at h
  show NS.le k (.i (b.map (-·)) (a.map (-·)))
  rw[NS.le_i]
  refine⟨fun q e=>?_,fun q e=>?_⟩
  ·cases b with
   |none=>cases e
   |some b=>cases e;rw[cz];exact h.2 _ rfl
  ·cases a with
   |none=>cases e
   |some a=>cases e;rw[cz];exact h.1 _ rfl
def rnd (p:Int) (x y:NS) (o:Out):Out:=Out.prec p (bif x.void || y.void then .ok .e else match o with |.error e=>.error e |.ok z=>.ok (z.hull p.toNat))
theorem yW {h0 h:PH} [Le h0 h] {s t:Value} {x y:NS} {p:Int} {f:FuncId} {cap:Array Value} {b1 b2:Nat} {o:Out} (hs:Sd h0 s x) (ht:Sd h0 t y) (hb1:h b1=some #[.int .i64 p]) (hb2:h b2=some #[.func (.func f) #[] cap])
  (hd:x.void=false→y.void=false→∀(h':PH) [Le h h'] (s t:Value),Sd h' s x→Sd h' t y→Does f (s :: t :: cap.toList).toArray h' o) (hl:∀z,o=.ok z→z.le (2^30)):
  Does 153 #[s,t,.pointer (some ⟨b1,0,none⟩),.pointer (some ⟨b2,0,none⟩)] h (rnd p x y o):=by
 obtain⟨_,_,_,_,_,_,_,_,_,_,_,_,_,_,_,_,rfl,hs⟩:=hs.sa
 obtain⟨_,_,_,_,_,_,_,_,_,_,_,_,_,_,_,_,rfl,ht⟩:=ht.sa
 unfold rnd Out.prec
 cases g:bad p with
 | true=>
  show Spec _ _ _ _ NR (fail 2)
  refine Spec.go [(4,.o [0,1,2,4,3,5,6])] Tryz.func153 rfl rfl (by kernel_rfl) fun C _=>?_
  try simp(maxSteps:=999999) (disch:=omega) only[go_sem,ξ,ζ]
  refine aE (aK hb1) ?_
  try simp(maxSteps:=999999) (disch:=omega) only[go_sem,ξ,ζ]
  exact caF (by exact iN (i7 g)) (fun _ _ h=>h)
 | false =>
  have hp:=jt g
  dsimp only[cond_false]
  cases gx:x.void with
  | true=>
   rw[gx] at hs
   show Spec _ _ _ _ _ NP
   refine Spec.go [(4,.o [0,1,2,4,3,5,6])] Tryz.func153 rfl rfl (by kernel_rfl) fun C _=>?_
   try simp(maxSteps:=999999) (disch:=omega) only[go_sem,ξ,ζ]
   refine aE (aK hb1) ?_
   try simp(maxSteps:=999999) (disch:=omega) only[go_sem,ξ,ζ]
   refine caN (by exact aU hp.1 hp.2) ?_;rintro v1 h1 st1 _
   try simp(maxSteps:=999999) (disch:=omega) only[go_sem,ξ,ζ]
   exact⟨_,_,_,_,_,_,_,_,rfl,En.nil _,En.nil _⟩
  | false=>
   rw[gx] at hs
   cases gy:y.void with
   | true=>
    rw[gy] at ht
    show Spec _ _ _ _ _ NP
    refine Spec.go [(4,.o [0,1,2,4,3,5,6])] Tryz.func153 rfl rfl (by kernel_rfl) fun C _=>?_
    try simp(maxSteps:=999999) (disch:=omega) only[go_sem,ξ,ζ]
    refine aE (aK hb1) ?_
    try simp(maxSteps:=999999) (disch:=omega) only[go_sem,ξ,ζ]
    refine caN (by exact aU hp.1 hp.2) ?_;rintro v1 h1 st1 _
    try simp(maxSteps:=999999) (disch:=omega) only[go_sem,ξ,ζ]
    exact⟨_,_,_,_,_,_,_,_,rfl,En.nil _,En.nil _⟩
   | false=>
    rw[gy] at ht
    have hd:=hd gx gy
    cases o with
    | error e=>
     show Spec _ _ _ _ NR (fail e)
     refine Spec.go [(4,.o [0,1,2,4,3,5,6])] Tryz.func153 rfl rfl (by kernel_rfl) fun C _=>?_
     try simp(maxSteps:=999999) (disch:=omega) only[go_sem,ξ,ζ]
     refine aE (aK hb1) ?_
     try simp(maxSteps:=999999) (disch:=omega) only[go_sem,ξ,ζ]
     refine caN (by exact aU hp.1 hp.2) ?_;rintro v1 h1 st1 _
     try simp(maxSteps:=999999) (disch:=omega) only[go_sem,ξ,ζ]
     refine aE (aK (st1.sub _ _ hb2)) ?_
     try simp(maxSteps:=999999) (disch:=omega) only[go_sem,ξ,ζ]
     refine aE (aK (st1.sub _ _ hb1)) ?_
     try simp(maxSteps:=999999) (disch:=omega) only[go_sem,ξ,ζ]
     exact caF (by exact(hd _ _ _ hs.to ht.to).err) (fun _ _ h=>h)
    | ok z=>
     show Spec _ _ _ _ _ NP
     refine Spec.go [(4,.o [0,1,2,4,3,5,6])] Tryz.func153 rfl rfl (by kernel_rfl) fun C _=>?_
     try simp(maxSteps:=999999) (disch:=omega) only[go_sem,ξ,ζ]
     refine aE (aK hb1) ?_
     try simp(maxSteps:=999999) (disch:=omega) only[go_sem,ξ,ζ]
     refine caN (by exact aU hp.1 hp.2) ?_;rintro v1 h1 st1 _
     try simp(maxSteps:=999999) (disch:=omega) only[go_sem,ξ,ζ]
     refine aE (aK (st1.sub _ _ hb2)) ?_
     try simp(maxSteps:=999999) (disch:=omega) only[go_sem,ξ,ζ]
     refine aE (aK (st1.sub _ _ hb1)) ?_
     try simp(maxSteps:=999999) (disch:=omega) only[go_sem,ξ,ζ]
     refine caN (by exact(hd _ _ _ hs.to ht.to).ok) ?_;rintro v2 h2 st2 hv2
     try simp(maxSteps:=999999) (disch:=omega) only[go_sem,ξ,ζ]
     refine caN (by exact Ah hv2 (hl _ rfl) hp) ?_;rintro _ h3 _ hv3;obtain⟨_,_,_,_,_,_,_,_,_,_,_,_,_,_,_,_,rfl,hv3⟩:=hv3.sa
     try simp(maxSteps:=999999) (disch:=omega) only[go_sem,ξ,ζ]
     exact hv3
theorem mC {h0 h:PH} [Le h0 h] {v w:Value} {x y:RI} {p:Int} {f:FuncId} {cap:Array Value} {o:Out} (hv:Iv h0 v x) (hw:Iv h0 w y)
  (hd:x.big=false→y.big=false→x.set.void=false→y.set.void=false→∀(h':PH) [Le h h'] (s t:Value),Sd h' s x.set→Sd h' t y.set→Does f (s :: t :: cap.toList).toArray h' o) (hl:x.big=false→y.big=false→∀z,o=.ok z→z.le (2^30)):
  Spec mach 87 #[v,w,.int .i64 p,.func (.func f) #[] cap] h (fun r h'=>Ir h' r (x.fin2 y (rnd p x.set y.set o))) NP:=by
 have hv0:=hv
 have hw0:=hw
 obtain⟨a1,m1,c1,a2,m2,c2,a3,m3,c3,a4,m4,c4,rfl,_,_⟩:=hv.sa
 obtain⟨a1',m1',c1',a2',m2',c2',a3',m3',c3',a4',m4',c4',rfl,_,_⟩:=hw.sa
 refine Spec.go [(1,.t (.p 2 (.p 3 (.s [0,1,2,3,4,5,6,7] .d))))] Tryz.func87 rfl rfl (by kernel_rfl) fun C _=>?_
 try simp(maxSteps:=999999) (disch:=omega) only[go_sem,ξ,ζ]
 intro b1 h1 st1 hb1
 try simp(maxSteps:=999999) (disch:=omega) only[go_sem,ξ,ζ]
 intro b2 h2 st2 hb2
 try simp(maxSteps:=999999) (disch:=omega) only[go_sem,ξ,ζ]
 have hb2:=hb2 (by simp)
 have hb1:=st2.sub _ _ (hb1 (by simp))
 refine caN (by exact mV (hv0.to (h':=h2)) (hw0.to (h':=h2)) (fun g g' h' i s t hs ht=>yW hs ht (i.sub _ _ hb1) (i.sub _ _ hb2) (fun k k' h'' i' s t hs ht=>@hd g g' k k' h'' (Le.tr (Le.tr inferInstance i) i') s t hs ht) (hl g g'))) ?_;rintro _ h4 _ hr4;obtain⟨_,_,_,_,_,_,_,_,_,_,_,_,_,_,_,_,_,rfl,hr4⟩:=hr4.sa
 try simp(maxSteps:=999999) (disch:=omega) only[go_sem,ξ,ζ]
 exact hr4
def outB (fn:Int) (a b:Option Rat):Bool:=if fn=2 then decide ((NS.i a b).slo≤0) else if fn=6∨fn=7 then (match a,b with |some x,some y=>decide (x < ((-1:Int):Rat)) || decide (((1:Int):Rat) < y) |_,_=>true) else if fn=5 then a.isNone || b.isNone else false
def vErr (fn p:Int):Option Rat→Int
 |none=>0
 |some x=>elE fn x p
def vLow (fn p:Int) (o:Option Rat):Option Rat:=o.map fun x=>elL fn x p
def vHig (fn p:Int) (o:Option Rat):Option Rat:=o.map fun x=>elH fn x p
def ozer (o:Option Rat):Rat:=o.getD 0
def wvTr (a b:Option Rat) (r:Int):Bool:=match a,b with
 |some x,some y=>turnB x y r
 |_,_=>false
def hf (p:Int):Rat:=gup (piHi p.toNat / 2) p.toNat
def waveS (fn p:Int) (a b:Option Rat) (r s:Int):NS:=.i (some (if wvTr a b r then ((-1:Int):Rat) else min (ozer (vLow fn p a)) (ozer (vLow fn p b)))) (some (if wvTr a b s then ((1:Int):Rat) else max (ozer (vHig fn p a)) (ozer (vHig fn p b))))
def monoS (fn p:Int) (a b:Option Rat):NS:=
 if fn=7 then .i (some (ozer (vLow fn p b))) (some (ozer (vHig fn p a)))
 else if fn=8 then .i (some (if a.isNone then -hf p else ozer (vLow fn p a))) (some (if b.isNone then hf p else ozer (vHig fn p b)))
 else .i (some (ozer (vLow fn p a))) (vHig fn p b)
def callV (fn p:Int) (a b:Option Rat):Out:=
 if fn=3 then .ok (waveS fn p a b 3 1) else if fn=4 then .ok (waveS fn p a b 2 0)
 else if fn=5 then (if wvTr a b 1=true∨wvTr a b 3=true then .error 5 else .ok (.i (some (ozer (vLow fn p a))) (some (ozer (vHig fn p b)))))
 else .ok (monoS fn p a b)
def valE (fn p:Int) (a b:Option Rat):Int:=if vErr fn p a≠0 then vErr fn p a else vErr fn p b
def callS (fn p:Int):NS→Out
 |.e=>.ok .e
 |.i a b=>if outB fn a b=true then .error 5 else if (fn=3∨fn=4)∧(a.isNone || b.isNone)=true then .ok (.i (some ((-1:Int):Rat)) (some ((1:Int):Rat))) else if valE fn p a b≠0 then .error (valE fn p a b) else callV fn p a b
def badf (fn:Int):Bool:=decide (fn < 1) || decide (8 < fn)
theorem badf_no {n:Int} (h:badf n=false):1≤n∧n≤8:=by
 unfold badf at h
 simp only[Bool.or_eq_false_iff,decide_eq_false_iff_not] at h
 omega
def callO (fn p:Int) (x:NS):Out:=bif badf fn then .error 2 else Out.prec p (callS fn p x)
theorem turn_el {fn p:Int} {x y:Rat} {r:Int} (hf:fn=3∨fn=4∨fn=5) (hx:elE fn x p=0) (hy:elE fn y p=0) (hr:0≤r∧r≤3):turnE x y r=0:=by
 have k:∀{z:Rat},elE fn z p=0→¬wideB z:=fun {z} h=>by
  have h0:eErr fn z p=0:=by
   unfold elE at h
   by_cases e:eErr fn z p=0
   ·exact e
   ·rw[if_pos e] at h;exact h
  obtain⟨_,_,_,_,k1,_,k2⟩:=dw h0
  have k2:=k2 hf
  unfold wideB
  omega
 unfold turnE
 rw[if_neg (by omega),if_neg (fun c=>c.elim (k hx) (k hy))]
theorem pubO {h h':PH} [l:Le h h'] {b:Nat} {cs:Array Value} (hb:h b=some cs):h' b=some cs:=l.sub _ _ hb
theorem at_cell {h:PH} {b i:Nat} {cs:List Value} {v:Value} (hb:h b=some cs.toArray) (hi:cs[i]?=some v):h.at ⟨b,i,none⟩=some v:=by
 simp[PH.at,hb,hi]
theorem at_part {h:PH} {b off m:Nat} {cs:List Value} (hb:h b=some cs.toArray) (j:Nat) (v:Value) (hj:((cs.drop off).take m)[j]?=some v):h.at ((⟨b,off,none⟩:Addr).add j)=some v:=by
 rw[List.getElem?_take] at hj
 split at hj
 ·rw[List.getElem?_drop] at hj
  rw[gF]
  exact at_cell hb hj
 ·cases hj
def Vs (h:PH) (v:Value) (o o':Option Rat):Prop:=∃b1 a1 m1 c1 a2 m2 c2 b2 a3 m3 c3 a4 m4 c4,v=.agg #[.bool b1,.slice a1 m1 c1,.slice a2 m2 c2,.bool b2,.slice a3 m3 c3,.slice a4 m4 c4,.bool false,.bool false,.bool false]∧
 En h b1 (.slice a1 m1 c1) (.slice a2 m2 c2) o∧En h b2 (.slice a3 m3 c3) (.slice a4 m4 c4) o'
theorem Vs.to {h h':PH} {v:Value} {o o':Option Rat} (r:Vs h v o o') [Le h h']:Vs h' v o o':=by
 obtain⟨_,_,_,_,_,_,_,_,_,_,_,_,_,_,e,h1,h2⟩:=r
 exact⟨_,_,_,_,_,_,_,_,_,_,_,_,_,_,e,h1.to,h2.to⟩
theorem Vs.sa {h:PH} {v:Value} {o o':Option Rat} (r:Vs h v o o'):∃b1 a1 m1 c1 a2 m2 c2 b2 a3 m3 c3 a4 m4 c4,v=.agg #[.bool b1,.slice a1 m1 c1,.slice a2 m2 c2,.bool b2,.slice a3 m3 c3,.slice a4 m4 c4,.bool false,.bool false,.bool false]∧
  En h b1 (.slice a1 m1 c1) (.slice a2 m2 c2) o∧En h b2 (.slice a3 m3 c3) (.slice a4 m4 c4) o':=r
def cells (fn p:Int) (s:List Value):List Value:=.int .i64 fn :: .int .i64 p :: s
end Go.Q
