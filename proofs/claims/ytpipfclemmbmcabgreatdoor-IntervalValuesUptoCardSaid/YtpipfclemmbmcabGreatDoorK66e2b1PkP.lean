/-
  Sums of 361 terms of the exponential's parts, and what stands on it. Conditions: each theorem's own.
-/
import Derived.Test.YtpipfclemmbmcabGreatDoorK82eddfPkO
set_option linter.unusedVariables false
set_option linter.unusedSimpArgs false
open Nat renaming reduceAdd→ζ,le_trans→χ,mul_le_mul_right→ψ,le_refl→η,pos_of_ne_zero→τ,mul_le_mul_left→ω,mul_assoc→σ,mul_le_mul→qAk,mul_add→qAm,pow_succ→qAn,pow_add→qAs,mul_one→qAz,mul_ne_zero→qBe,zero_le→qBh,one_mul→qBm
open Bool renaming and_eq_true→φ
open Rat renaming natCast_mul→qAl,le_trans→qAq,div_def→qAx,intCast_le_intCast→qBa,mul_inv_cancel→qBf,le_refl→qBk
open List renaming all_eq_true→qBd
namespace Go.Q
set_option maxRecDepth 100000
set_option maxHeartbeats 4000000
def Ab (x a:Rat):Prop:=-a≤x∧x≤a
theorem Ab.mul {x y a b:Rat} (h:Ab x a) (k:Ab y b):Ab (x*y) (a*b):=by
 obtain⟨h1,h2⟩:=h
 obtain⟨k1,k2⟩:=k
 have p1:0≤(a - x)*(b - y):=mnn (by grind) (by grind)
 have p2:0≤(a+x)*(b+y):=mnn (by grind) (by grind)
 have p3:0≤(a - x)*(b+y):=mnn (by grind) (by grind)
 have p4:0≤(a+x)*(b - y):=mnn (by grind) (by grind)
 exact⟨by grind,by grind⟩
theorem Ab.add {x y a b:Rat} (h:Ab x a) (k:Ab y b):Ab (x+y) (a+b):=by
 obtain⟨h1,h2⟩:=h
 obtain⟨k1,k2⟩:=k
 exact⟨by grind,by grind⟩
theorem Ab.neg {x a:Rat} (h:Ab x a):Ab (-x) a:=by
 obtain⟨h1,h2⟩:=h
 exact⟨by grind,by grind⟩
theorem Ab.pos {x a:Rat} (h:Ab x a):0≤a:=by
 obtain⟨h1,h2⟩:=h
 grind
theorem Ab.le {x a b:Rat} (h:Ab x a) (k:a≤b):Ab x b:=by
 obtain⟨h1,h2⟩:=h
 exact⟨by grind,by grind⟩
theorem Ab.zero {a:Rat} (h:0≤a):Ab 0 a:=⟨by grind,h⟩
theorem Ab.self {a:Rat} (h:0≤a):Ab a a:=⟨by grind,qBk⟩
theorem k_inv (k:Nat):0 < ((k+1:Nat):Rat)⁻¹∧((k+1:Nat):Rat)*((k+1:Nat):Rat)⁻¹=1∧((k+1:Nat):Rat)⁻¹≤1∧((k+1:Nat):Rat)=(k:Rat)+1∧(0:Rat)≤(k:Rat):=by
 have h:(0:Rat) < ((k+1:Nat):Rat):=by exact_mod_cast Nat.succ_pos k
 have e:((k+1:Nat):Rat)=(k:Rat)+1:=by push_cast;rfl
 have n:(0:Rat)≤(k:Rat):=by exact_mod_cast qBh k
 have i:=qBf ((k+1:Nat):Rat) (by grind)
 have p:=Rat.inv_pos.2 h
 refine⟨p,i,?_,e,n⟩
 have:=mlr (show(1:Rat)≤((k+1:Nat):Rat) by grind) (llt p)
 rw[i,Rat.one_mul] at this
 exact this
def trm (t:Rat):Nat→Rat
 |0=>1
 |k+1=>trm t k*t*((k+1:Nat):Rat)⁻¹
theorem trm_s (t:Rat) (k:Nat):trm t (k+1)=trm t k*t*((k+1:Nat):Rat)⁻¹:=rfl
theorem trm_m (t:Rat) (k:Nat):trm t k*t=((k:Rat)+1)*trm t (k+1):=by
 obtain⟨_,i,_,e,_⟩:=k_inv k
 rw[trm_s]
 generalize((k+1:Nat):Rat)⁻¹=z at*
 rw[e] at i
 grind
theorem uR {t M:Rat} (h:Ab t M):∀k,Ab (trm t k) (trm M k)
 |0=>⟨by show(-1:Rat)≤1;decide,qBk⟩
 | k+1=>by
  rw[trm_s,trm_s]
  exact((uR h k).mul h).mul (Ab.self (llt (k_inv k).1))
def sTp (t h:Rat) (k:Nat):Rat:=trm (t+h) (k+1) - trm t (k+1) - h*trm t k
theorem sTp_s (t h:Rat) (k:Nat):sTp t h (k+1)=(h*h*trm t k+sTp t h k*(t+h))*((k+1+1:Nat):Rat)⁻¹:=by
 obtain⟨_,i,_,e,_⟩:=k_inv (k+1)
 have e1:((k+1:Nat):Rat)=(k:Rat)+1:=by push_cast;rfl
 have m:=trm_m t k
 unfold sTp
 rw[trm_s (t+h) (k+1),trm_s t (k+1)]
 rw[e1] at e
 generalize((k+1+1:Nat):Rat)=c at*
 generalize c⁻¹=z at*
 generalize trm (t+h) (k+1)=A at*
 generalize trm t (k+1)=B at*
 generalize trm t k=D at*
 generalize(k:Rat)=n at*
 subst e
 grind
theorem sTp_0 (t h:Rat):sTp t h 0=0:=by
 have e:∀z,trm z 1=z:=fun z=>by rw[trm_s];show 1*z*(1:Rat)⁻¹=z;rw[show(1:Rat)⁻¹=1 by decide+kernel];grind
 unfold sTp
 rw[e,e,show trm t 0=1 from rfl]
 grind
def dB (M:Rat):Nat→Rat
 |0=>0
 |k+1=>trm M k
theorem BW {M:Rat} (h:0≤M) (k:Nat):0≤trm M k:=(uR (Ab.self h) k).pos
theorem cG (h:Rat):0≤h*h:=by
 by_cases k:0≤h
 ·exact mnn k k
 ·have:=mnn (show 0≤ -h by grind) (show 0≤ -h by grind)
  grind
theorem sTp_ab {t h M:Rat} (h1:Ab t M) (h2:Ab (t+h) M):∀k,Ab (sTp t h k) (h*h*dB M k)
 |0=>by rw[sTp_0];exact Ab.zero (by rw[show dB M 0=0 from rfl];grind)
 | k + 1=>by
  have ih:=sTp_ab h1 h2 k
  have M0:=h1.pos
  have hh:=cG h
  obtain⟨p,i,l,e,n⟩:=k_inv (k+1)
  have k1:=((Ab.self hh).mul (uR h1 k)).add (ih.mul h2)
  have k2:=k1.mul (Ab.self (llt p))
  rw[sTp_s]
  refine k2.le ?_
  show(h*h*trm M k+h*h*dB M k*M)*((k+1+1:Nat):Rat)⁻¹≤h*h*trm M k
  have q:dB M k*M≤(k:Rat)*trm M k:=by
   cases k with
   |zero=>show 0*M≤((0:Nat):Rat)*trm M 0;rw[show((0:Nat):Rat)=0 from rfl];grind
   | succ k=>
    show trm M k*M≤_
    rw[trm_m,(k_inv k).2.2.2.1]
    exact qBk
  have e1:((k+1:Nat):Rat)=(k:Rat)+1:=by push_cast;rfl
  rw[e1] at e
  have T0:=BW M0 k
  generalize((k+1+1:Nat):Rat)=c at*
  generalize c⁻¹=z at*
  generalize trm M k=T at*
  generalize dB M k=D at*
  have n0:(0:Rat)≤(k:Rat):=by exact_mod_cast qBh k
  generalize(k:Rat)=m at*
  have q1:=mll q hh
  clear k1 k2 ih h1 h2
  have q2:h*h*T+h*h*D*M≤h*h*T*c:=by
   have:=mnn hh T0
   rw[e]
   have e2:h*h*T*(m+1+1)=h*h*(m*T)+2*(h*h*T):=by grind
   rw[e2,Rat.mul_assoc (h*h) D M]
   grind
  have q3:=mlr q2 (llt p)
  rw[Rat.mul_assoc (h*h*T),i,Rat.mul_one] at q3
  exact q3
def icq (q:Rat):Nat→Rat×Rat
 |0=>(1,0)
 |k+1=>(q*(icq q k).2,(icq q k).1)
theorem Bc {q:Rat} (hq:Ab q 1):∀k,Ab (icq q k).1 1∧Ab (icq q k).2 1
 |0=>⟨Ab.self (show(0:Rat)≤1 by decide),Ab.zero (show(0:Rat)≤1 by decide)⟩
 | k+1=>by
  obtain⟨h1,h2⟩:=Bc hq k
  refine⟨?_,h1⟩
  have:=hq.mul h2
  rw[Rat.one_mul] at this
  exact this
def cS (q:Rat):Nat→Rat→Rat
 |0,_=>0
 |k+1,t=>cS q k t+(icq q k).1*trm t k
def sS (q:Rat):Nat→Rat→Rat
 |0,_=>0
 |k+1,t=>sS q k t+(icq q k).2*trm t k
def eB (M:Rat):Nat→Rat
 |0=>0
 |k+1=>eB M k+dB M k
def eS (M:Rat):Nat→Rat
 |0=>0
 |k+1=>eS M k+trm M k
theorem cS_ab {q t M:Rat} (hq:Ab q 1) (h:Ab t M):∀n,Ab (cS q n t) (eS M n)∧Ab (sS q n t) (eS M n)
 |0=>⟨Ab.zero qBk,Ab.zero qBk⟩
 | n+1=>by
  obtain⟨h1,h2⟩:=cS_ab hq h n
  obtain⟨i1,i2⟩:=Bc hq n
  have k1:=h1.add (i1.mul (uR h n))
  have k2:=h2.add (i2.mul (uR h n))
  rw[Rat.one_mul] at k1 k2
  exact⟨k1,k2⟩
theorem cS_loc {q t h M:Rat} (hq:Ab q 1) (h1:Ab t M) (h2:Ab (t+h) M):∀n,Ab (cS q (n+1) (t+h) - cS q (n+1) t - h*(q*sS q n t)) (h*h*eB M n)∧Ab (sS q (n+1) (t+h) - sS q (n+1) t - h*cS q n t) (h*h*eB M n)
 | 0=>by
  show Ab (0+1*1 - (0+1*1) - h*(q*0)) (h*h*0)∧Ab (0+0*1 - (0+0*1) - h*0) (h*h*0)
  have e:(0:Rat)+1*1 - (0+1*1) - h*(q*0)=0:=by grind
  have e2:(0:Rat)+0*1 - (0+0*1) - h*0=0:=by grind
  rw[e,e2]
  exact⟨Ab.zero (by grind),Ab.zero (by grind)⟩
 | n +1=>by
  obtain⟨a1,a2⟩:=cS_loc hq h1 h2 n
  obtain⟨i1,i2⟩:=Bc hq (n+1)
  have d:=sTp_ab h1 h2 n
  have k1:=a1.add (i1.mul d)
  have k2:=a2.add (i2.mul d)
  rw[Rat.one_mul] at k1 k2
  have eb:h*h*eB M (n+1)=h*h*eB M n+h*h*dB M n:=by show h*h*(eB M n+dB M n)=_;grind
  have c1:∀z,cS q (n+1+1) z=cS q (n+1) z+(icq q (n+1)).1*trm z (n+1):=fun z=>rfl
  have s1:∀z,sS q (n+1+1) z=sS q (n+1) z+(icq q (n+1)).2*trm z (n+1):=fun z=>rfl
  have c2:cS q (n+1) t=cS q n t+(icq q n).1*trm t n:=rfl
  have s2:sS q (n+1) t=sS q n t+(icq q n).2*trm t n:=rfl
  have j1:(icq q (n+1)).1=q*(icq q n).2:=rfl
  have j2:(icq q (n+1)).2=(icq q n).1:=rfl
  rw[eb,c1,c1,s1,s1]
  unfold sTp at k1 k2
  generalize cS q (n+1) (t+h)=A at*
  generalize sS q (n+1) (t+h)=B at*
  generalize trm (t+h) (n+1)=T1 at*
  generalize trm t (n+1)=T2 at*
  generalize trm t n=T3 at*
  rw[j1] at k1 ⊢
  rw[j2] at k2 ⊢
  generalize(icq q n).1=I at*
  generalize(icq q n).2=J at*
  generalize cS q n t=C at*
  generalize sS q n t=S at*
  rw[c2] at k1 ⊢
  rw[s2] at k2 ⊢
  constructor
  ·have:A+q*J*T1 - (C+I*T3+q*J*T2) - h*(q*(S+J*T3))=A - (C+I*T3) - h*(q*S)+q*J*(T1 - T2 - h*T3):=by grind
   rw[this];exact k1
  ·have:B+I*T1 - (S+J*T3+I*T2) - h*(C+I*T3)=B - (S+J*T3) - h*C+I*(T1 - T2 - h*T3):=by grind
   rw[this];exact k2
theorem rot_step {q S C s c S1 C1 s1 c1 h L e:Rat} (hq:Ab q 1) (hS:Ab S L) (hC:Ab C L) (hs:Ab s L) (hc:Ab c L) (bs:Ab s1 L) (bc:Ab c1 L) (hh:Ab h 2)
  (a1:Ab (S1 - S - h*C) e) (a2:Ab (C1 - C - h*(q*S)) e) (a3:Ab (c1 - c+h*(q*s)) e) (a4:Ab (s1 - s+h*c) e):
  Ab (S1*c1+C1*s1 - (S*c+C*s)) (2*(L*L)*(h*h)+8*(L*e))∧Ab (C1*c1+q*(S1*s1) - (C*c+q*(S*s))) (2*(L*L)*(h*h)+8*(L*e)):=by
 have L0:=hS.pos
 have h2:=cG h
 have q1:∀{x a:Rat},Ab x a→Ab (q*x) a:=fun k=>by have:=hq.mul k;rwa[Rat.one_mul] at this
 have u1:Ab (S+h*C) (L+2*L):=hS.add (hh.mul hC)
 have u2:Ab (C+h*(q*S)) (L+2*L):=hC.add (hh.mul (q1 hS))
 constructor
 ·have m:=((((Ab.self h2).mul (q1 ((hC.mul hs).add (hS.mul hc)))).neg.add (a1.mul bc)).add (u1.mul a3)).add ((a2.mul bs).add (u2.mul a4))
  have i: -(h*h*(q*(C*s+S*c)))+(S1 - S - h*C)*c1+(S+h*C)*(c1 - c+h*(q*s))+((C1 - C - h*(q*S))*s1+(C+h*(q*S))*(s1 - s+h*c))=S1*c1+C1*s1 - (S*c+C*s):=by grind
  rw[i] at m
  exact m.le (by grind)
 ·have m:=((((Ab.self h2).mul (q1 ((q1 (hS.mul hs)).add (hC.mul hc)))).neg.add (a2.mul bc)).add (u2.mul a3)).add ((q1 (a1.mul bs)).add (q1 (u1.mul a4)))
  have i: -(h*h*(q*(q*(S*s)+C*c)))+(C1 - C - h*(q*S))*c1+(C+h*(q*S))*(c1 - c+h*(q*s))+(q*((S1 - S - h*C)*s1)+q*((S+h*C)*(s1 - s+h*c)))=C1*c1+q*(S1*s1) - (C*c+q*(S*s)):=by grind
  rw[i] at m
  exact m.le (by grind)
theorem pZ {x y z:Rat} (h:∀m:Nat,x≤y*((m+1:Nat):Rat)⁻¹+z):x≤z:=by
 refine Rat.not_lt.1 fun hd=>?_
 have d0:0 < x - z:=by grind
 have l:=Rat.lt_floor_add_one (y*(x - z)⁻¹)
 obtain⟨m,hm⟩:∃m:Nat,(y*(x - z)⁻¹).floor.natAbs=m:=⟨_,rfl⟩
 have k:=h m
 obtain⟨p,i,_,e,_⟩:=k_inv m
 have f:((y*(x - z)⁻¹).floor:Rat)≤(m:Rat):=by
  have:(y*(x - z)⁻¹).floor≤(m:Int):=by omega
  exact qBa.2 this
 have j:(x - z)*(x - z)⁻¹=1:=qBf _ (by grind)
 have l2:y*(x - z)⁻¹ < (m:Rat)+1:=by grind
 have l3:=Rat.mul_lt_mul_of_pos_right l2 d0
 have e3:y*(x - z)⁻¹*(x - z)=y:=by grind
 rw[e3,←e] at l3
 have l4:=mlr (show x - z≤y*((m+1:Nat):Rat)⁻¹ by grind) (llt (show(0:Rat) < ((m+1:Nat):Rat) by exact_mod_cast Nat.succ_pos m))
 have e4:y*((m+1:Nat):Rat)⁻¹*((m+1:Nat):Rat)=y:=by grind
 rw[e4] at l4
 grind
theorem tele {G:Rat→Rat} {h d:Rat} {m:Nat} (st:∀i,i < m→Ab (G (h*(i:Rat)+h) - G (h*(i:Rat))) d):∀i:Nat,i≤m→Ab (G (h*(i:Rat)) - G 0) ((i:Rat)*d)
 | 0,_=>by
  rw[show((0:Nat):Rat)=0 from rfl,Rat.mul_zero,Rat.zero_mul]
  have:G 0 - G 0=0:=by grind
  rw[this]
  exact Ab.zero qBk
 | i+1,hi=>by
  have ih:=(tele st i (by omega)).add (st i (by omega))
  have e:((i+1:Nat):Rat)=(i:Rat)+1:=by push_cast;rfl
  have e2:h*((i:Rat)+1)=h*(i:Rat)+h:=by grind
  rw[e,e2]
  have e3:G (h*(i:Rat)) - G 0+(G (h*(i:Rat)+h) - G (h*(i:Rat)))=G (h*(i:Rat)+h) - G 0:=by grind
  have e4:((i:Rat)+1)*d=(i:Rat)*d+d:=by grind
  rw[e3] at ih
  rw[e4]
  exact ih
def cNN (q t:Rat):Rat:=cS q 361 t
def sNN (q t:Rat):Rat:=sS q 361 t
def eps:Rat:=((2^1800:Nat):Rat)⁻¹
theorem c_num:eS 4 361≤60∧eB 4 360≤60∧960*trm 4 360≤eps:=by decide+kernel
theorem N_ab {q t:Rat} (hq:Ab q 1) (h:Ab t 4):Ab (cNN q t) 60∧Ab (sNN q t) 60:=by
 obtain⟨h1,h2⟩:=cS_ab hq h 361
 exact⟨h1.le c_num.1,h2.le c_num.1⟩
theorem N_loc {q t h H:Rat} (hq:Ab q 1) (h1:Ab t 4) (h2:Ab (t+h) 4) (hH:Ab h H):Ab (cNN q (t+h) - cNN q t - h*(q*sNN q t)) (h*h*60+H*trm 4 360)∧Ab (sNN q (t+h) - sNN q t - h*cNN q t) (h*h*60+H*trm 4 360):=by
 obtain⟨a1,a2⟩:=cS_loc hq h1 h2 360
 have k:=mll c_num.2.1 (cG h)
 have a1:=a1.le k
 have a2:=a2.le k
 obtain⟨i1,i2⟩:=Bc hq 360
 have t1:=uR h1 360
 have T0:=BW (show(0:Rat)≤4 by decide) 360
 have b1:=hH.mul (i1.mul t1)
 have b2:=hH.mul (hq.mul (i2.mul t1))
 rw[Rat.one_mul] at b1
 rw[Rat.one_mul,Rat.one_mul] at b2
 have c1:=a1.add b2.neg
 have c2:=a2.add b1.neg
 have e1:cNN q t=cS q 360 t+(icq q 360).1*trm t 360:=rfl
 have e2:sNN q t=sS q 360 t+(icq q 360).2*trm t 360:=rfl
 unfold cNN sNN at*
 generalize trm 4 360=T at*
 generalize cS q 361 (t+h)=A at*
 generalize sS q 361 (t+h)=B at*
 constructor
 ·have:A - cS q 361 t - h*(q*sS q 361 t)=A - cS q 361 t - h*(q*sS q 360 t)+ -(h*(q*((icq q 360).2*trm t 360))):=by rw[e2];grind
  rw[this]
  exact c1
 ·have:B - sS q 361 t - h*cS q 361 t=B - sS q 361 t - h*cS q 360 t+ -(h*((icq q 360).1*trm t 360)):=by rw[e1];grind
  rw[this]
  exact c2
theorem rG (q:Rat):cNN q 0=1∧sNN q 0=0:=by
 have z:∀k,trm 0 (k+1)=0:=fun k=>by rw[trm_s];grind
 have s:∀n,cS q (n+1) 0=1∧sS q (n+1) 0=0:=by
  intro n
  induction n with
  |zero=>exact⟨by show(0:Rat)+1*1=1;grind,by show(0:Rat)+0*1=0;grind⟩
  | succ n ih=>
   obtain⟨i1,i2⟩:=ih
   constructor
   ·show cS q (n+1) 0+(icq q (n+1)).1*trm 0 (n+1)=1
    rw[i1,z];grind
   ·show sS q (n+1) 0+(icq q (n+1)).2*trm 0 (n+1)=0
    rw[i2,z];grind
 exact s 360
theorem N_add {q a b:Rat} (hq:Ab q 1) (ha:Ab a 2) (hb:Ab b 2):Ab (sNN q a*cNN q b+cNN q a*sNN q b - sNN q (a+b)) eps∧Ab (cNN q a*cNN q b+q*(sNN q a*sNN q b) - cNN q (a+b)) eps:=by
 obtain⟨z1,z2⟩:=rG q
 have T0:=BW (show(0:Rat)≤4 by decide) 360
 have ce:=c_num.2.2
 have main:∀m:Nat,Ab (sNN q a*cNN q b+cNN q a*sNN q b - sNN q (a+b)) (144000*((m+1:Nat):Rat)⁻¹+960*trm 4 360)∧Ab (cNN q a*cNN q b+q*(sNN q a*sNN q b) - cNN q (a+b)) (144000*((m+1:Nat):Rat)⁻¹+960*trm 4 360):=by
  intro m
  obtain⟨c0,ci,cl,_,_⟩:=k_inv m
  have m0:(0:Rat)≤((m+1:Nat):Rat):=by exact_mod_cast qBh _
  have st:∀i,i < m+1→
    Ab ((fun t=>sNN q t*cNN q (a+b - t)+cNN q t*sNN q (a+b - t)) (a*((m+1:Nat):Rat)⁻¹*(i:Rat)+a*((m+1:Nat):Rat)⁻¹) - (fun t=>sNN q t*cNN q (a+b - t)+cNN q t*sNN q (a+b - t)) (a*((m+1:Nat):Rat)⁻¹*(i:Rat))) (144000*(((m+1:Nat):Rat)⁻¹*((m+1:Nat):Rat)⁻¹)+960*trm 4 360*((m+1:Nat):Rat)⁻¹)∧
    Ab ((fun t=>cNN q t*cNN q (a+b - t)+q*(sNN q t*sNN q (a+b - t))) (a*((m+1:Nat):Rat)⁻¹*(i:Rat)+a*((m+1:Nat):Rat)⁻¹) - (fun t=>cNN q t*cNN q (a+b - t)+q*(sNN q t*sNN q (a+b - t))) (a*((m+1:Nat):Rat)⁻¹*(i:Rat))) (144000*(((m+1:Nat):Rat)⁻¹*((m+1:Nat):Rat)⁻¹)+960*trm 4 360*((m+1:Nat):Rat)⁻¹):=by
   intro i hi
   have j0:0≤((m+1:Nat):Rat)⁻¹*(i:Rat):=mnn (llt c0) (by exact_mod_cast qBh i)
   have j1:((m+1:Nat):Rat)⁻¹*(i:Rat)+((m+1:Nat):Rat)⁻¹≤1:=by
    have:(i:Rat)+1≤((m+1:Nat):Rat):=by exact_mod_cast hi
    have:=mll this (llt c0)
    grind
   generalize hcc:((m+1:Nat):Rat)⁻¹=c at*
   generalize(i:Rat)=x at*
   have p1:Ab (a*c*x) 2:=by
    have:=ha.mul (⟨by grind,by grind⟩:Ab (c*x) 1)
    rw[Rat.mul_one,←Rat.mul_assoc] at this
    exact this
   have p2:Ab (a*c*x+a*c) 2:=by
    have:=ha.mul (⟨by grind,by grind⟩:Ab (c*x+c) 1)
    rw[Rat.mul_one] at this
    have e:a*(c*x+c)=a*c*x+a*c:=by grind
    rwa[e] at this
   have p3:Ab (a - a*c*x) 2:=by
    have:=ha.mul (⟨by grind,by grind⟩:Ab (1 - c*x) 1)
    rw[Rat.mul_one] at this
    have e:a*(1 - c*x)=a - a*c*x:=by grind
    rwa[e] at this
   have p4:Ab (a - (a*c*x+a*c)) 2:=by
    have:=ha.mul (⟨by grind,by grind⟩:Ab (1 - (c*x+c)) 1)
    rw[Rat.mul_one] at this
    have e:a*(1 - (c*x+c))=a - (a*c*x+a*c):=by grind
    rwa[e] at this
   have hH:Ab (a*c) (2*c):=ha.mul (Ab.self (llt c0))
   have hh:Ab (a*c) 2:=hH.le (by grind)
   have f4:(4:Rat)=2+2:=by decide+kernel
   have t1:Ab (a*c*x) 4:=p1.le (by decide)
   have t2:Ab (a*c*x+a*c) 4:=p2.le (by decide)
   have t3:Ab (a+b - a*c*x) 4:=by
    have:=p3.add hb
    have e:a - a*c*x+b=a+b - a*c*x:=by grind
    rw[←f4,e] at this
    exact this
   have t4:Ab (a+b - (a*c*x+a*c)) 4:=by
    have:=p4.add hb
    have e:a - (a*c*x+a*c)+b=a+b - (a*c*x+a*c):=by grind
    rw[←f4,e] at this
    exact this
   obtain⟨l1,l2⟩:=N_loc hq t1 t2 hH
   have e5:a+b - (a*c*x+a*c)=a+b - a*c*x+ -(a*c):=by grind
   obtain⟨l3,l4⟩:=N_loc (h:=-(a*c)) hq t3 (by rw[←e5];exact t4) hH.neg
   obtain⟨b1,b2⟩:=N_ab hq t1
   obtain⟨b3,b4⟩:=N_ab hq t3
   obtain⟨b5,b6⟩:=N_ab hq t4
   rw[←e5] at l3 l4
   have nn: -(a*c)* -(a*c)=a*c*(a*c):=by grind
   rw[nn] at l3 l4
   have e6:∀z w y:Rat,z - w - -(a*c)*y=z - w+a*c*y:=fun z w y=>by grind
   rw[e6] at l3 l4
   have r:=rot_step hq b2 b1 b4 b3 b6 b5 hh l2 l1 l3 l4
   have aa:a*a≤4:=by have:=(ha.mul ha).2;grind
   have cc:=cG c
   have acc:a*c*(a*c)≤4*(c*c):=by
    have:=mlr aa cc
    grind
   exact⟨r.1.le (by grind),r.2.le (by grind)⟩
  have s1:=tele (G:=fun t=>sNN q t*cNN q (a+b - t)+cNN q t*sNN q (a+b - t)) (h:=a*((m+1:Nat):Rat)⁻¹) (fun i hi=>(st i hi).1) (m+1) (η _)
  have s2:=tele (G:=fun t=>cNN q t*cNN q (a+b - t)+q*(sNN q t*sNN q (a+b - t))) (h:=a*((m+1:Nat):Rat)⁻¹) (fun i hi=>(st i hi).2) (m+1) (η _)
  have ea:a*((m+1:Nat):Rat)⁻¹*((m+1:Nat):Rat)=a:=by grind
  rw[ea] at s1 s2
  have e1:a+b - a=b:=by grind
  have e2:a+b - 0=a+b:=by grind
  simp only[e1,e2,z1,z2] at s1 s2
  have ed:((m+1:Nat):Rat)*(144000*(((m+1:Nat):Rat)⁻¹*((m+1:Nat):Rat)⁻¹)+960*trm 4 360*((m+1:Nat):Rat)⁻¹)=144000*((m+1:Nat):Rat)⁻¹+960*trm 4 360:=by
   generalize((m+1:Nat):Rat)⁻¹=c at*
   grind
  rw[ed] at s1 s2
  constructor
  ·have:sNN q a*cNN q b+cNN q a*sNN q b - (0*cNN q (a+b)+1*sNN q (a+b))=sNN q a*cNN q b+cNN q a*sNN q b - sNN q (a+b):=by grind
   rwa[this] at s1
  ·have:cNN q a*cNN q b+q*(sNN q a*sNN q b) - (1*cNN q (a+b)+q*(0*sNN q (a+b)))=cNN q a*cNN q b+q*(sNN q a*sNN q b) - cNN q (a+b):=by grind
   rwa[this] at s2
 have fin:∀{x:Rat},(∀m:Nat,Ab x (144000*((m+1:Nat):Rat)⁻¹+960*trm 4 360))→Ab x eps:=fun {x} h=>by
  have h1:x≤960*trm 4 360:=pZ (y:=144000) fun m=>(h m).2
  have h2: -x≤960*trm 4 360:=pZ (y:=144000) fun m=>by have:=(h m).1;grind
  exact⟨by grind,by grind⟩
 exact⟨fin fun m=>(main m).1,fin fun m=>(main m).2⟩
def al (f:Nat) (x:Rat):Nat→Nat→Rat
 |_,0=>0
 |i,n+1=>1 - x*al f x (i+1) n*((wav f i:Nat):Rat)⁻¹
theorem al_01 {f:Nat} {x:Rat} (hf:1≤f) (hx:0≤x) (h1:x≤1):∀n i,0≤al f x i n∧al f x i n≤1
 |0,i=>by show(0:Rat)≤0∧(0:Rat)≤1;exact⟨qBk,by decide⟩
 | n +1,i=>by
  obtain⟨a1,a2⟩:=al_01 hf hx h1 n (i+1)
  obtain⟨e0,ei⟩:=tW hf i
  have e1:((wav f i:Nat):Rat)⁻¹≤1:=by
   have h:(1:Rat)≤((wav f i:Nat):Rat):=by exact_mod_cast τ (nJ hf)
   have:=mlr h e0
   rw[ei,Rat.one_mul] at this
   exact this
  show 0≤1 - x*al f x (i+1) n*((wav f i:Nat):Rat)⁻¹∧1 - x*al f x (i+1) n*((wav f i:Nat):Rat)⁻¹≤1
  generalize((wav f i:Nat):Rat)⁻¹=e at*
  generalize al f x (i+1) n=a at*
  have m1:x*a≤1*a:=mlr h1 a1
  have m0:0≤x*a:=mnn hx a1
  have m2:x*a*e≤1*e:=mlr (by grind) e0
  have m3:=mnn m0 e0
  exact⟨by grind,by grind⟩
theorem al_wa {f:Nat} {x:Rat} (hf:1≤f) (hx:0≤x) (h1:x≤1) (m:Nat):∀j,j≤24→waQ f x false j≤al f x (24 - j) (j+m)∧al f x (24 - j) (j+m)≤waQ f x true j
 |0,_=>by rw[Nat.zero_add];exact al_01 hf hx h1 m 24
 | j+1,hj=>by
  obtain⟨a1,a2⟩:=al_wa hf hx h1 m j (by omega)
  obtain⟨e0,_⟩:=tW hf (23 - j)
  rw[waQ_s,waQ_s,show 24 - (j+1)=23 - j by omega,show j+1+m=(j+m)+1 by omega]
  show _≤1 - x*al f x (23 - j+1) (j+m)*((wav f (23 - j):Nat):Rat)⁻¹∧1 - x*al f x (23 - j+1) (j+m)*((wav f (23 - j):Nat):Rat)⁻¹≤_
  rw[show 23 - j+1=24 - j by omega]
  have m1:=mlr (mll a1 hx) e0
  have m2:=mlr (mll a2 hx) e0
  simp only[Bool.not_false,Bool.not_true]
  exact⟨by grind,by grind⟩
def uT (f:Nat) (x:Rat):Nat→Rat
 |0=>1
 |m+1=>-(uT f x m*x*((wav f m:Nat):Rat)⁻¹)
def uS (f:Nat) (x:Rat):Nat→Rat
 |0=>0
 |m+1=>uS f x m+uT f x m
theorem al_sum (f:Nat) (x:Rat):∀n k,al f x 0 (n+k)=uS f x n+uT f x n*al f x n k
 |0,k=>by rw[Nat.zero_add];show _=0+1*_;grind
 | n+1,k=>by
  have h:=al_sum f x n (k+1)
  rw[show n+1+k=n+(k+1) by omega,h]
  show uS f x n+uT f x n*(1 - x*al f x (n+1) k*((wav f n:Nat):Rat)⁻¹)=uS f x n+uT f x n+ -(uT f x n*x*((wav f n:Nat):Rat)⁻¹)*al f x (n+1) k
  grind
theorem al_end (f:Nat) (x:Rat) (n:Nat):al f x 0 n=uS f x n:=by
 have h:=al_sum f x n 0
 rw[Nat.add_zero,show al f x n 0=0 from rfl,Rat.mul_zero,Rat.add_zero] at h
 exact h
theorem icq_p (m:Nat):(icq (-1) (2*m)).2=0∧(icq (-1) (2*(m+1))).1= -(icq (-1) (2*m)).1∧(icq (-1) (2*m+1)).1=0∧(icq (-1) (2*m+1)).2=(icq (-1) (2*m)).1:=by
 have z:∀m:Nat,(icq (-1) (2*m)).2=0:=by
  intro m
  induction m with
  |zero=>rfl
  | succ m ih=>
   show(-1:Rat)*(icq (-1) (2*m)).2=0
   rw[ih];decide+kernel
 refine⟨z m,?_,?_,rfl⟩
 ·show(-1:Rat)*(icq (-1) (2*m)).1=_;grind
 ·show(-1:Rat)*(icq (-1) (2*m)).2=0
  rw[z m];decide+kernel
theorem trm2 (t:Rat) (k:Nat):trm t (k+2)=trm t k*(t*t)*(((k+1)*(k+2):Nat):Rat)⁻¹:=by
 rw[trm_s,trm_s]
 have h1:(0:Rat) < ((k+1:Nat):Rat):=by exact_mod_cast Nat.succ_pos _
 have h2:(0:Rat) < ((k+1+1:Nat):Rat):=by exact_mod_cast Nat.succ_pos _
 have e:((((k+1)*(k+2):Nat):Rat))⁻¹=((k+1:Nat):Rat)⁻¹*((k+1+1:Nat):Rat)⁻¹:=by
  rw[qAl,Rat.inv_mul_rev,Rat.mul_comm]
 rw[e]
 grind
theorem cos_t (t:Rat) (m:Nat):(icq (-1) (2*m)).1*trm t (2*m)=uT 1 (t*t) m:=by
 induction m with
 |zero=>show(1:Rat)*1=1;grind
 | succ m ih=>
  rw[(icq_p m).2.1,show 2*(m+1)=2*m+2 by omega,trm2]
  show _= -(uT 1 (t*t) m*(t*t)*((((2*m+1)*(2*m+1+1)):Nat):Rat)⁻¹)
  rw[←ih,show 2*m+1+1=2*m+2 by omega]
  grind
theorem sin_t (t:Rat) (m:Nat):(icq (-1) (2*m)).1*trm t (2*m+1)=t*uT 2 (t*t) m:=by
 induction m with
 | zero=>
  show(1:Rat)*(1*t*(1:Rat)⁻¹)=t*1
  rw[show(1:Rat)⁻¹=1 by decide+kernel];grind
 | succ m ih=>
  rw[(icq_p m).2.1,show 2*(m+1)+1=(2*m+1)+2 by omega,trm2]
  show _=t* -(uT 2 (t*t) m*(t*t)*((((2*m+2)*(2*m+2+1)):Nat):Rat)⁻¹)
  rw[show 2*m+1+1=2*m+2 by omega,show 2*m+1+2=2*m+2+1 by omega]
  generalize((((2*m+2)*(2*m+2+1)):Nat):Rat)⁻¹=z at*
  have:t* -(uT 2 (t*t) m*(t*t)*z)= -((t*uT 2 (t*t) m)*(t*t)*z):=by grind
  rw[this,←ih]
  grind
theorem cs_sum (t:Rat) (n:Nat):cS (-1) (2*n+1) t=uS 1 (t*t) (n+1)∧sS (-1) (2*n+1) t=t*uS 2 (t*t) n:=by
 induction n with
 | zero=>
  constructor
  ·show(0:Rat)+1*1=0+1;grind
  ·show(0:Rat)+0*1=t*0;grind
 | succ n ih=>
  obtain⟨i1,i2⟩:=ih
  obtain⟨p1,p2,p3,p4⟩:=icq_p n
  constructor
  ·show cS (-1) (2*n+1) t+(icq (-1) (2*n+1)).1*trm t (2*n+1)+(icq (-1) (2*(n+1))).1*trm t (2*(n+1))=uS 1 (t*t) (n+1)+uT 1 (t*t) (n+1)
   rw[i1,p3,cos_t]
   grind
  ·show sS (-1) (2*n+1) t+(icq (-1) (2*n+1)).2*trm t (2*n+1)+(icq (-1) (2*(n+1))).2*trm t (2*(n+1))=t*(uS 2 (t*t) n+uT 2 (t*t) n)
   rw[i2,p4,sin_t,(icq_p (n+1)).1]
   grind
theorem N_al (t:Rat):cNN (-1) t=al 1 (t*t) 0 181∧sNN (-1) t=t*al 2 (t*t) 0 180:=by
 obtain⟨h1,h2⟩:=cs_sum t 180
 rw[al_end,al_end]
 exact⟨h1,h2⟩
theorem sqE (z:Rat):z^2=z*z:=by rw[show(2:Nat)=1+1 from rfl,Rat.pow_succ,Rat.pow_one]
theorem mZ {t:Rat} (h:Ab t 1):t*t≤1:=by have:=(h.mul h).2;grind
theorem cNN_bd {t:Rat} (h:Ab t 1):waQ 1 (t^2) false 24≤cNN (-1) t∧cNN (-1) t≤waQ 1 (t^2) true 24:=by
 rw[(N_al t).1,sqE]
 exact al_wa (η 1) (cG t) (mZ h) 157 24 (η _)
theorem sNN_bd {t:Rat} (h:Ab t 1):snX t true≤sNN (-1) t∧sNN (-1) t≤snX t false:=by
 rw[(N_al t).2]
 unfold snX
 rw[sqE]
 obtain⟨a1,a2⟩:=al_wa (f:=2) (x:=t*t) (by decide) (cG t) (mZ h) 156 24 (η _)
 have a1:waQ 2 (t*t) false 24≤al 2 (t*t) 0 180:=a1
 have a2:al 2 (t*t) 0 180≤waQ 2 (t*t) true 24:=a2
 by_cases hn:t < 0
 ·rw[decide_eq_true hn,show(true == true)=true from rfl,show(false == true)=false from rfl]
  have m1:=mll a1 (show 0≤ -t by grind)
  have m2:=mll a2 (show 0≤ -t by grind)
  exact⟨by grind,by grind⟩
 ·rw[decide_eq_false hn,show(true == false)=false from rfl,show(false == false)=true from rfl]
  exact⟨mll a1 (by grind),mll a2 (by grind)⟩
theorem D0 {a b:Rat} (c:Bool) (h:a≤b) (ha: -1≤a) (hb:b≤1):snX a c≤snX b c:=by
 have n0:∀{z:Rat} (c:Bool),0≤z→z≤1→0≤z*waQ 2 (z^2) c 24:=fun {z} c hz h1=>mnn hz (by have:=(uX hz qBk h1 c).1;grind)
 have sq:∀z:Rat,(-z)^2=z^2:=fun z=>by rw[sqE,sqE];grind
 unfold snX
 by_cases h1:a < 0
 ·have a1:=n0 (z:=-a) (c == true) (by grind) (by grind)
  rw[sq] at a1
  by_cases h2:b < 0
  ·rw[decide_eq_true h1,decide_eq_true h2]
   have k1:=(uX (x:=-b) (y:=-a) (by grind) (by grind) (by grind) (c == true)).2.1
   rw[sq,sq] at k1
   grind
  ·have b1:=n0 (z:=b) (c == false) (by grind) hb
   rw[decide_eq_true h1,decide_eq_false h2]
   grind
 ·have h2:¬b < 0:=by grind
  rw[decide_eq_false h1,decide_eq_false h2]
  exact(uX (x:=a) (y:=b) (by grind) h hb (c == false)).2.1
def qtN:Nat:=142269445420731002167837959682962767534031968293893942145122951615434103679205244294818057631980951391069351548585109957683712106664585724044693033412448933310577357707728447193640880691499616716565608284721994076070360571483354081731670711405894755783798455588754835056200521396296764534954051725241832250299686418061567607445322486471042877347451675054529266127600177914360061684754652280974425041547531406463461077562434083397925894736184469316172886534127795876933991246971216622081902469201856479233913123076985359497509401457260640217140433685824352004726054779048277
def qtD:Nat:=2^1900
def qtR:Rat:=(qtN:Rat)*(qtD:Rat)⁻¹
def qtOk (w:Nat):Bool:=Nat.ble (piL w*qtD) (qtN*2^(w+1)) && Nat.ble (qtN*2^(w+1)) (piH w*qtD)
theorem qtOk_all:((List.range 129).all fun i=>qtOk (i+64))=true:=by decide+kernel
theorem qt_num:Ab (al 1 (qtR*qtR) 0 181) eps∧Ab (qtR*al 2 (qtR*qtR) 0 180 - 1) eps∧3 / 2≤qtR∧qtR≤8 / 5:=by
 unfold Ab
 decide+kernel
theorem qt_cs:Ab (cNN (-1) qtR) eps∧Ab (sNN (-1) qtR - 1) eps:=by
 rw[(N_al qtR).1,(N_al qtR).2]
 exact⟨qt_num.1,qt_num.2.1⟩
theorem qtR_bd {w:Nat} (h1:64≤w) (h2:w≤192):fW w≤qtR∧qtR≤gW w:=by
 have h:=qBd.1 qtOk_all (w - 64) (List.mem_range.2 (by omega))
 rw[show w - 64+64=w by omega] at h
 unfold qtOk at h
 simp only[φ,Nat.ble_eq] at h
 obtain⟨a1,a2⟩:=h
 have e1:=sgn_u (piL w) (w+1)
 have e2:=sgn_u (piH w) (w+1)
 have u0:=u_pos (w+1)
 have v0:(0:Rat) < (qtD:Rat):=Rat.natCast_lt_natCast.2 (show 0 < qtD by decide+kernel)
 have b1:(piL w:Rat)*(qtD:Rat)≤(qtN:Rat)*((2^(w+1):Nat):Rat):=by rw[←qAl,←qAl];exact Rat.natCast_le_natCast.2 a1
 have b2:(qtN:Rat)*((2^(w+1):Nat):Rat)≤(piH w:Rat)*(qtD:Rat):=by rw[←qAl,←qAl];exact Rat.natCast_le_natCast.2 a2
 unfold fW gW qtR
 rw[←e1] at b1
 rw[←e2] at b2
 generalize sgn false (piL w) (2^(w+1))=f at*
 generalize sgn false (piH w) (2^(w+1))=g at*
 generalize((2^(w+1):Nat):Rat)=u at*
 generalize(qtD:Rat)=v at*
 generalize(qtN:Rat)=n at*
 have i:v*v⁻¹=1:=qBf _ (by grind)
 constructor
 ·refine lmm (c:=u*v) ?_ (Rat.mul_pos u0 v0)
  have:n*v⁻¹*(u*v)=n*u:=by grind
  rw[this];grind
 ·refine lmm (c:=u*v) ?_ (Rat.mul_pos u0 v0)
  have:n*v⁻¹*(u*v)=n*u:=by grind
  rw[this];grind
theorem uM {r:Rat} (h:Ab r 2):Ab (sNN (-1) (r+qtR) - cNN (-1) r) (121*eps)∧Ab (cNN (-1) (r+qtR)+sNN (-1) r) (121*eps):=by
 have hq:Ab (-1) 1:=⟨qBk,by decide⟩
 obtain⟨p1,p2⟩:=qt_cs
 obtain⟨_,_,b1,b2⟩:=qt_num
 obtain⟨a1,a2⟩:=N_add hq h (⟨by grind,by grind⟩:Ab qtR 2)
 obtain⟨n1,n2⟩:=N_ab hq (h.le (by decide))
 have m1:=n2.mul p1
 have m2:=n1.mul p2
 have m3:=n1.mul p1
 have m4:=n2.mul p2
 have r1:=(a1.neg.add m1).add m2
 have r2:=(a2.neg.add m3).add m4.neg
 generalize sNN (-1) r=s at*
 generalize cNN (-1) r=c at*
 generalize sNN (-1) qtR=S at*
 generalize cNN (-1) qtR=C at*
 generalize eps=e at*
 have e1: -(s*C+c*S - sNN (-1) (r+qtR))+s*C+c*(S - 1)=sNN (-1) (r+qtR) - c:=by grind
 have e2: -(c*C+ -1*(s*S) - cNN (-1) (r+qtR))+c*C+ -(s*(S - 1))=cNN (-1) (r+qtR)+s:=by grind
 rw[e1] at r1
 rw[e2] at r2
 exact⟨r1.le (by grind),r2.le (by grind)⟩
def vS (k:Int) (r:Rat):Rat:=if k % 4=1 then cNN (-1) r else if k % 4=2 then -sNN (-1) r else if k % 4=3 then -cNN (-1) r else sNN (-1) r
def vC (k:Int) (r:Rat):Rat:=if k % 4=1 then -sNN (-1) r else if k % 4=2 then -cNN (-1) r else if k % 4=3 then sNN (-1) r else cNN (-1) r
theorem v_ab {k:Int} {r:Rat} (h:Ab r 4):Ab (vS k r) 60∧Ab (vC k r) 60:=by
 obtain⟨n1,n2⟩:=N_ab (q:=-1) ⟨qBk,by decide⟩ h
 unfold vS vC
 split
 ·exact⟨n1,n2.neg⟩
 split
 ·exact⟨n2.neg,n1.neg⟩
 split
 ·exact⟨n1.neg,n2⟩
 ·exact⟨n2,n1⟩
theorem v_one {k:Int} {r:Rat} (h:Ab r 2):Ab (vS k r - vS (k - 1) (r+qtR)) (121*eps)∧Ab (vC k r - vC (k - 1) (r+qtR)) (121*eps):=by
 obtain⟨a1,a2⟩:=uM h
 have b1:=a1.neg
 have b2:=a2.neg
 have f:∀{x y d:Rat},Ab x d→x=y→Ab y d:=fun h e=>e▸h
 unfold vS vC
 have k4:k % 4=0∨k % 4=1∨k % 4=2∨k % 4=3:=by omega
 rcases k4 with h0 |h0 |h0 |h0
 ·have h1:(k - 1) % 4=3:=by omega
  rw[h0,h1]
  simp only[show ¬(0:Int)=1 by decide,show ¬(0:Int)=2 by decide,show ¬(0:Int)=3 by decide,show ¬(3:Int)=1 by decide,show ¬(3:Int)=2 by decide,if_false,if_true]
  exact⟨f a2 (by grind),f b1 (by grind)⟩
 ·have h1:(k - 1) % 4=0:=by omega
  rw[h0,h1]
  simp only[show ¬(0:Int)=1 by decide,show ¬(0:Int)=2 by decide,show ¬(0:Int)=3 by decide,if_false,if_true]
  exact⟨f b1 (by grind),f b2 (by grind)⟩
 ·have h1:(k - 1) % 4=1:=by omega
  rw[h0,h1]
  simp only[show ¬(2:Int)=1 by decide,if_false,if_true]
  exact⟨f b2 (by grind),f a1 (by grind)⟩
 ·have h1:(k - 1) % 4=2:=by omega
  rw[h0,h1]
  simp only[show ¬(2:Int)=1 by decide,show ¬(3:Int)=1 by decide,show ¬(3:Int)=2 by decide,if_false,if_true]
  exact⟨f a1 (by grind),f a2 (by grind)⟩
def rsR (x:Rat) (w:Nat):Rat:=x - (rsK x w:Rat)*qtR
theorem pr {x:Rat} {w:Nat} (h1:64≤w) (h2:w≤192) (hx: -4294967296≤x∧x≤4294967296):rsA x w≤rsR x w∧rsR x w≤rsB x w∧Ab (rsR x w) 1:=by
 obtain⟨q1,q2⟩:=qtR_bd h1 h2
 obtain⟨r1,r2,r3⟩:=rs_bd h1 h2 hx
 have g1:=dV (x+ -((rsK x w:Rat)*(if rsK x w < 0 then fW w else gW w))) w
 have g2:=jc (x+ -((rsK x w:Rat)*(if rsK x w < 0 then gW w else fW w))) w
 have ks:rsK x w < 0↔(rsK x w:Rat) < 0:=by
  have:=@Rat.intCast_lt_intCast (rsK x w) 0
  simpa using this.symm
 have m:rsA x w≤rsR x w∧rsR x w≤rsB x w:=by
  unfold rsA rsB rsR at*
  by_cases hk:rsK x w < 0
  ·have hk':=ks.1 hk
   rw[if_pos hk] at g1 g2 ⊢
   rw[if_pos hk]
   have m1:=mll q1 (show 0≤ -(rsK x w:Rat) by grind)
   have m2:=mll q2 (show 0≤ -(rsK x w:Rat) by grind)
   exact⟨by grind,by grind⟩
  ·have hk':(0:Rat)≤(rsK x w:Rat):=Rat.not_lt.1 fun c=>hk (ks.2 c)
   rw[if_neg hk] at g1 g2 ⊢
   rw[if_neg hk]
   have m1:=mll q1 hk'
   have m2:=mll q2 hk'
   exact⟨by grind,by grind⟩
 exact⟨m.1,m.2,by grind,by grind⟩
theorem sO {q:Rat} {w:Nat} (hq:∃z:Int,q=(z:Rat) / 2^w):((glo q w:Nat):Rat) / ((2^w:Nat):Rat)=if q < 0 then -q else q:=by
 obtain⟨g1,g2⟩:=Dd hq
 by_cases h:q < 0
 ·rw[if_pos h];exact g2 h
 ·rw[if_neg h];exact g1 (by grind)
theorem sc_val {x:Rat} {w:Nat} (h1:64≤w) (h2:w≤192) (hb:¬x.den*4294967296 < x.num.natAbs):
  (snl x w≤sNN (-1) (rsR x w)∧sNN (-1) (rsR x w)≤snh x w)∧csl x w≤cNN (-1) (rsR x w)∧cNN (-1) (rsR x w)≤csh x w:=by
 obtain⟨r1,r2,r3⟩:=pr h1 h2 (iP hb)
 obtain⟨l1,l2⟩:=uP h1 h2 hb
 obtain⟨t1,t2,t3⟩:=rs_bd h1 h2 (iP hb)
 have gA:∃z:Int,rsA x w=(z:Rat) / 2^w:=⟨_,rfl⟩
 have gB:∃z:Int,rsB x w=(z:Rat) / 2^w:=⟨_,rfl⟩
 obtain⟨s1,s2⟩:=sNN_bd r3
 obtain⟨c1,c2⟩:=cNN_bd r3
 obtain⟨r4,r5⟩:=r3
 refine⟨⟨?_,?_⟩,?_,?_⟩
 ·exact qAq (BO gA l1).1 (qAq (D0 true r1 t1 r5) s1)
 ·exact qAq s2 (qAq (D0 false r2 r4 t3) (BO gB l2).2)
 ·have aA:=sO gA
  have aB:=sO gB
  have l3:csX (rsA x w) (rsB x w) w≤2^w:=by unfold csX;omega
  refine qAq (cs_Q l3).1 (qAq ?_ c1)
  obtain⟨m0,m1⟩:=nw l3
  have mA:=fT (w:=w) (show glo (rsA x w) w≤csX (rsA x w) (rsB x w) w by unfold csX;omega)
  have mB:=fT (w:=w) (show glo (rsB x w) w≤csX (rsA x w) (rsB x w) w by unfold csX;omega)
  rw[aA] at mA
  rw[aB] at mB
  generalize((csX (rsA x w) (rsB x w) w:Nat):Rat) / ((2^w:Nat):Rat)=m at*
  have hr:rsR x w^2≤m^2:=by
   rw[sqE,sqE]
   have:=(Ab.mul (⟨by grind,by grind⟩:Ab (rsR x w) m) (⟨by grind,by grind⟩:Ab (rsR x w) m)).2
   exact this
  exact(waQ_c (by rw[sqE];exact cG _) hr (by rw[sqE];exact mZ ⟨by grind,m1⟩) false).2.1
 ·have aA:=sO gA
  have aB:=sO gB
  have l3:csN (rsA x w) (rsB x w) w≤2^w:=by unfold csN;split<;>omega
  refine qAq c2 (qAq ?_ (cs_Q l3).2)
  obtain⟨m0,m1⟩:=nw l3
  have hm:((csN (rsA x w) (rsB x w) w:Nat):Rat) / ((2^w:Nat):Rat)≤(if rsR x w < 0 then -rsR x w else rsR x w):=by
   by_cases hz:((rsA x w).num < 0∧¬(rsB x w).num < 0)∨rsA x w=0∨rsB x w=0
   ·have:csN (rsA x w) (rsB x w) w=0:=by unfold csN;rw[if_pos hz]
    rw[this,show((0:Nat):Rat)=0 from rfl,qAx,Rat.zero_mul]
    split<;>grind
   ·have mA:=fT (w:=w) (show csN (rsA x w) (rsB x w) w≤glo (rsA x w) w by unfold csN;rw[if_neg hz];omega)
    have mB:=fT (w:=w) (show csN (rsA x w) (rsB x w) w≤glo (rsB x w) w by unfold csN;rw[if_neg hz];omega)
    rw[aA] at mA
    rw[aB] at mB
    rw[num_lt0,num_lt0] at hz
    grind
  generalize((csN (rsA x w) (rsB x w) w:Nat):Rat) / ((2^w:Nat):Rat)=m at*
  have hr:m^2≤rsR x w^2:=by
   rw[sqE,sqE]
   by_cases hn:rsR x w < 0
   ·rw[if_pos hn] at hm
    have:=(Ab.mul (⟨by grind,hm⟩:Ab m (-rsR x w)) (⟨by grind,hm⟩:Ab m (-rsR x w))).2
    grind
   ·rw[if_neg hn] at hm
    exact(Ab.mul (⟨by grind,hm⟩:Ab m (rsR x w)) (⟨by grind,hm⟩:Ab m (rsR x w))).2
  exact(waQ_c (by rw[sqE];exact cG _) hr (by rw[sqE];exact mZ ⟨r4,r5⟩) true).2.1
theorem yF {x:Rat} {w:Nat} (h1:64≤w) (h2:w≤192) (hb:¬x.den*4294967296 < x.num.natAbs):
  (siL x w≤vS (rsK x w) (rsR x w)∧vS (rsK x w) (rsR x w)≤siH x w)∧coL x w≤vC (rsK x w) (rsR x w)∧vC (rsK x w) (rsR x w)≤coH x w:=by
 obtain⟨⟨a1,a2⟩,a3,a4⟩:=sc_val h1 h2 hb
 unfold siL siH coL coH vS vC
 by_cases k1:rsK x w % 4=1
 ·simp only[if_pos k1];exact⟨⟨a3,a4⟩,by grind,by grind⟩
 simp only[if_neg k1]
 by_cases k2:rsK x w % 4=2
 ·simp only[if_pos k2];exact⟨⟨by grind,by grind⟩,by grind,by grind⟩
 simp only[if_neg k2]
 by_cases k3:rsK x w % 4=3
 ·simp only[if_pos k3];exact⟨⟨by grind,by grind⟩,a1,a2⟩
 simp only[if_neg k3]
 exact⟨⟨a1,a2⟩,a3,a4⟩
theorem v_two {x:Rat} {w z:Nat} (h1:64≤w) (h2:w≤192) (h3:64≤z) (h4:z≤192) (hx: -4294967296≤x∧x≤4294967296):
  Ab (vS (rsK x w) (rsR x w) - vS (rsK x z) (rsR x z)) (121*eps)∧Ab (vC (rsK x w) (rsR x w) - vC (rsK x z) (rsR x z)) (121*eps):=by
 obtain⟨_,_,a⟩:=pr h1 h2 hx
 obtain⟨_,_,b⟩:=pr h3 h4 hx
 obtain⟨_,_,q1,q2⟩:=qt_num
 have e0:(0:Rat)≤121*eps:=by decide+kernel
 have e:rsR x w - rsR x z=((rsK x z - rsK x w:Int):Rat)*qtR:=by unfold rsR;rw[Rat.intCast_sub];grind
 have hk: -1≤rsK x z - rsK x w∧rsK x z - rsK x w≤1:=by
  obtain⟨a1,a2⟩:=a
  obtain⟨b1,b2⟩:=b
  generalize rsK x z - rsK x w=k at*
  constructor
  ·refine Decidable.byContradiction fun c=>?_
   have:(k:Rat)≤((-2:Int):Rat):=qBa.2 (by omega)
   have:=mlr this (show 0≤qtR by grind)
   rw[show((-2:Int):Rat)= -2 from rfl] at this
   grind
  ·refine Decidable.byContradiction fun c=>?_
   have:((2:Int):Rat)≤(k:Rat):=qBa.2 (by omega)
   have:=mlr this (show 0≤qtR by grind)
   rw[show((2:Int):Rat)=2 from rfl] at this
   grind
 have hk3:rsK x z - rsK x w=0∨rsK x z - rsK x w=1∨rsK x z - rsK x w= -1:=by omega
 rcases hk3 with k |k |k
 ·rw[k,show((0:Int):Rat)=0 from rfl] at e
  rw[show rsK x w=rsK x z by omega,show rsR x w=rsR x z by grind]
  have n:∀v:Rat,v - v=0:=fun v=>by grind
  rw[n,n]
  exact⟨Ab.zero e0,Ab.zero e0⟩
 ·rw[k,show((1:Int):Rat)=1 from rfl] at e
  obtain⟨c1,c2⟩:=v_one (k:=rsK x z) (b.le (by decide))
  rw[show rsR x z+qtR=rsR x w by grind,show rsK x z - 1=rsK x w by omega] at c1 c2
  have n:∀u v:Rat,-(u - v)=v - u:=fun u v=>by grind
  have d1:=c1.neg
  have d2:=c2.neg
  rw[n] at d1 d2
  exact⟨d1,d2⟩
 ·rw[k,show((-1:Int):Rat)= -1 from rfl] at e
  obtain⟨c1,c2⟩:=v_one (k:=rsK x w) (a.le (by decide))
  rw[show rsR x w+qtR=rsR x z by grind,show rsK x w - 1=rsK x z by omega] at c1 c2
  exact⟨c1,c2⟩
theorem yp (p k:Nat):(2:Rat)^(p+k)=2^p*2^k:=by
 have h:((2^(p+k):Nat):Rat)=((2^p:Nat):Rat)*((2^k:Nat):Rat):=by rw[qAs,qAl]
 rw[Rat.natCast_pow,Rat.natCast_pow,Rat.natCast_pow] at h
 exact h
theorem iE {a b e:Rat} {n:Nat} (ha:∃z:Int,a*2^n=(z:Rat)) (hb:∃z:Int,b*2^n=(z:Rat)) (h:a≤b+e) (he:e*2^n < 1):a≤b:=by
 obtain⟨y,hy⟩:=ha
 obtain⟨z,hz⟩:=hb
 have hp:=co n
 have k:=mlr h (llt hp)
 have l:(y:Rat) < ((z+1:Int):Rat):=by push_cast;grind
 have l2:y < z+1:=Rat.intCast_lt_intCast.1 l
 have l3:(y:Rat)≤(z:Rat):=qBa.2 (by omega)
 rw[←hy,←hz] at l3
 exact lmm l3 hp
theorem int_up {a:Rat} {n k:Nat} (h:∃z:Int,a*2^n=(z:Rat)):∃z:Int,a*2^(n+k)=(z:Rat):=by
 obtain⟨z,hz⟩:=h
 refine⟨z*2^k,?_⟩
 rw[yp,←Rat.mul_assoc,hz]
 push_cast
 rfl
theorem dZ {a:Rat} {n m:Nat} (h:∃z:Int,a*2^n=(z:Rat)) (hm:n≤m):∃z:Int,a*2^m=(z:Rat):=by
 obtain⟨k,rfl⟩:=Nat.exists_eq_add_of_le hm
 exact int_up h
theorem gR {a:Rat} {n:Nat} (h:∃z:Int,a*2^n=(z:Rat)):∃z:Int,-a*2^n=(z:Rat):=by
 obtain⟨z,hz⟩:=h
 exact⟨-z,by rw[Rat.neg_mul,hz];push_cast;rfl⟩
theorem sn_ints (x:Rat) (w:Nat):(∃z:Int,snl x w*2^w=(z:Rat))∧(∃z:Int,snh x w*2^w=(z:Rat))∧(∃z:Int,csl x w*2^w=(z:Rat))∧∃z:Int,csh x w*2^w=(z:Rat):=by
 refine⟨?_,?_,⟨_,eG _ _ _⟩,⟨_,eG _ _ _⟩⟩
 ·unfold snl snAt;split<;>exact⟨_,eG _ _ _⟩
 ·unfold snh snAt;split<;>exact⟨_,eG _ _ _⟩
theorem BM (x:Rat) (w:Nat):(∃z:Int,siL x w*2^w=(z:Rat))∧(∃z:Int,siH x w*2^w=(z:Rat))∧(∃z:Int,coL x w*2^w=(z:Rat))∧∃z:Int,coH x w*2^w=(z:Rat):=by
 obtain⟨a,b,c,d⟩:=sn_ints x w
 unfold siL siH coL coH
 by_cases k1:rsK x w % 4=1
 ·simp only[if_pos k1];exact⟨c,d,gR b,gR a⟩
 simp only[if_neg k1]
 by_cases k2:rsK x w % 4=2
 ·simp only[if_pos k2];exact⟨gR b,gR a,gR d,gR c⟩
 simp only[if_neg k2]
 by_cases k3:rsK x w % 4=3
 ·simp only[if_pos k3];exact⟨gR d,gR c,a,b⟩
 simp only[if_neg k3]
 exact⟨a,b,c,d⟩
theorem GN:121*eps*2^192 < 1:=by decide+kernel
theorem si_two {x:Rat} {w z:Nat} (h1:64≤w) (h2:w≤192) (h3:64≤z) (h4:z≤192) (hb:¬x.den*4294967296 < x.num.natAbs):siL x w≤siH x z∧coL x w≤coH x z:=by
 obtain⟨⟨a1,_⟩,a3,_⟩:=yF h1 h2 hb
 obtain⟨⟨_,b2⟩,_,b4⟩:=yF h3 h4 hb
 obtain⟨⟨v1,v2⟩,v3,v4⟩:=v_two h1 h2 h3 h4 (iP hb)
 obtain⟨i1,_,i3,_⟩:=BM x w
 obtain⟨_,j2,_,j4⟩:=BM x z
 exact⟨iE (dZ i1 h2) (dZ j2 h4) (by grind) GN,iE (dZ i3 h2) (dZ j4 h4) (by grind) GN⟩
theorem EU {a b u v s i m:Rat} (h1:a≤s) (h2:s≤b) (h3:u≤i) (h4:i≤v) (m1:m≤a*u) (m2:m≤a*v) (m3:m≤b*u) (m4:m≤b*v):m≤s*i:=by
 have ca:m≤a*i:=by
  by_cases k:0≤a
  ·have:=mll h3 k;grind
  ·have:=mll h4 (show 0≤ -a by grind);grind
 have cb:m≤b*i:=by
  by_cases k:0≤b
  ·have:=mll h3 k;grind
  ·have:=mll h4 (show 0≤ -b by grind);grind
 by_cases k:0≤i
 ·have:=mlr h1 k;grind
 ·have:=mlr h2 (show 0≤ -i by grind);grind
theorem bil_le {a b u v s i m:Rat} (h1:a≤s) (h2:s≤b) (h3:u≤i) (h4:i≤v) (m1:a*u≤m) (m2:a*v≤m) (m3:b*u≤m) (m4:b*v≤m):s*i≤m:=by
 have:=EU (m:=-m) (a:=-b) (b:=-a) (u:=u) (v:=v) (s:=-s) (i:=i) (by grind) (by grind) h3 h4 (by grind) (by grind) (by grind) (by grind)
 grind
theorem tq_all (x:Rat) (w:Nat):tqL x w 3≤tq x w 0∧tqL x w 3≤tq x w 1∧tqL x w 3≤tq x w 2∧tqL x w 3≤tq x w 3∧tq x w 0≤tqH x w 3∧tq x w 1≤tqH x w 3∧tq x w 2≤tqH x w 3∧tq x w 3≤tqH x w 3:=by
 have l:∀n,tqL x w (n+1)≤tqL x w n∧tqL x w (n+1)≤tq x w (n+1):=fun n=>by
  show(if tq x w (n+1) < tqL x w n then tq x w (n+1) else tqL x w n)≤tqL x w n∧(if tq x w (n+1) < tqL x w n then tq x w (n+1) else tqL x w n)≤tq x w (n+1)
  split<;>grind
 have u:∀n,tqH x w n≤tqH x w (n+1)∧tq x w (n+1)≤tqH x w (n+1):=fun n=>by
  show tqH x w n≤(if tqH x w n < tq x w (n+1) then tq x w (n+1) else tqH x w n)∧tq x w (n+1)≤(if tqH x w n < tq x w (n+1) then tq x w (n+1) else tqH x w n)
  split<;>grind
 obtain⟨a1,a2⟩:=l 0
 obtain⟨a3,a4⟩:=l 1
 obtain⟨a5,a6⟩:=l 2
 obtain⟨b1,b2⟩:=u 0
 obtain⟨b3,b4⟩:=u 1
 obtain⟨b5,b6⟩:=u 2
 have c0:tqL x w 0=tq x w 0:=rfl
 have d0:tqH x w 0=tq x w 0:=rfl
 simp only[Nat.zero_add,ζ] at*
 refine⟨?_,?_,?_,?_,?_,?_,?_,?_⟩<;>grind
theorem inv_in {l h c:Rat} (h1:l≤c) (h2:c≤h) (hn:¬(l≤0∧0≤h)):h⁻¹≤c⁻¹∧c⁻¹≤l⁻¹:=by
 have n:∀z:Rat,(-z)⁻¹= -z⁻¹:=fun z=>by grind
 by_cases hl:0 < l
 ·exact⟨fp (by grind) h2,fp hl h1⟩
 ·have hh:h < 0:=by grind
  have k1:=fp (a:=-h) (b:=-c) (by grind) (by grind)
  have k2:=fp (a:=-c) (b:=-l) (by grind) (by grind)
  rw[n,n] at k1 k2
  exact⟨by grind,by grind⟩
theorem BT {x:Rat} {w:Nat} (h1:64≤w) (h2:w≤192) (hb:¬x.den*4294967296 < x.num.natAbs) (hn:¬(coL x w≤0∧0≤coH x w)):
  tqL x w 3≤vS (rsK x w) (rsR x w)*(vC (rsK x w) (rsR x w))⁻¹∧vS (rsK x w) (rsR x w)*(vC (rsK x w) (rsR x w))⁻¹≤tqH x w 3:=by
 obtain⟨⟨a1,a2⟩,a3,a4⟩:=yF h1 h2 hb
 obtain⟨q0,q1,q2,q3,r0,r1,r2,r3⟩:=tq_all x w
 obtain⟨i1,i2⟩:=inv_in a3 a4 hn
 exact⟨EU a1 a2 i1 i2 q1 q0 q3 q2,bil_le a1 a2 i1 i2 r1 r0 r3 r2⟩
theorem E0 {x:Rat} {w:Nat} (h1:64≤w) (h2:w≤192) (hb:¬x.den*4294967296 < x.num.natAbs) (hn:¬(coL x w≤0∧0≤coH x w)):Ab (vC (rsK x w) (rsR x w))⁻¹ (2^192)∧vC (rsK x w) (rsR x w)*(vC (rsK x w) (rsR x w))⁻¹=1:=by
 obtain⟨_,a3,a4⟩:=yF h1 h2 hb
 obtain⟨_,_,i3,i4⟩:=BM x w
 obtain⟨y,hy⟩:=dZ i3 h2
 obtain⟨z,hz⟩:=dZ i4 h2
 have hp:=co 192
 obtain⟨j1,j2⟩:=inv_in a3 a4 hn
 generalize vC (rsK x w) (rsR x w)=c at*
 generalize coL x w=l at*
 generalize coH x w=h at*
 have ne:c≠0:=by grind
 refine⟨?_,qBf _ ne⟩
 have n:∀z:Rat,(-z)⁻¹= -z⁻¹:=fun z=>by grind
 have key:∀{t:Rat} {y:Int},0 < t→t*2^192=(y:Rat)→t⁻¹≤2^192:=fun {t y} ht hy=>by
  have y0:(0:Rat) < (y:Rat):=by rw[←hy];exact Rat.mul_pos ht hp
  have y1:0 < y:=by exact_mod_cast y0
  have y2:((1:Int):Rat)≤(y:Rat):=qBa.2 y1
  rw[←hy,show((1:Int):Rat)=1 from rfl] at y2
  have ti:=Rat.inv_pos.2 ht
  have m:=mll y2 (llt ti)
  have e:t⁻¹*t=1:=Rat.inv_mul_cancel _ (by grind)
  rw[Rat.mul_one,←Rat.mul_assoc,e,Rat.one_mul] at m
  exact m
 by_cases hl:0 < l
 ·have:=key hl hy
  have h0:0 < h⁻¹:=Rat.inv_pos.2 (by grind)
  exact⟨by grind,by grind⟩
 ·have hh:h < 0:=by grind
  have:=key (t:=-h) (y:=-z) (by grind) (by rw[Rat.neg_mul,hz];push_cast;rfl)
  rw[n] at this
  have l0:0 < (-l)⁻¹:=Rat.inv_pos.2 (by grind)
  rw[n] at l0
  exact⟨by grind,by grind⟩
theorem eps_tan:14520*eps*(2^192*2^192)*2^128 < 1:=by decide+kernel
theorem tan_two {x:Rat} {p q:Nat} (hp:p≤128) (hq:q≤128) (hb:¬x.den*4294967296 < x.num.natAbs) (n1:¬pole x p) (n2:¬pole x q):tanLo x p≤tanHi x q:=by
 obtain⟨a,_⟩:=BT (w:=p+64) (by omega) (by omega) hb n1
 obtain⟨_,b⟩:=BT (w:=q+64) (by omega) (by omega) hb n2
 obtain⟨c1,c2⟩:=E0 (w:=p+64) (by omega) (by omega) hb n1
 obtain⟨d1,d2⟩:=E0 (w:=q+64) (by omega) (by omega) hb n2
 obtain⟨v1,v2⟩:=v_two (w:=p+64) (z:=q+64) (by omega) (by omega) (by omega) (by omega) (iP hb)
 obtain⟨e1,e2⟩:=v_ab (k:=rsK x (q+64)) ((pr (w:=q+64) (by omega) (by omega) (iP hb)).2.2.le (show(1:Rat)≤4 by decide))
 have g1:=dV (tqL x (p+64) 3) p
 have g2:=jc (tqH x (q+64) 3) q
 have gi:∀(y:Rat) (r:Nat),(∃z:Int,gdown y r*2^r=(z:Rat))∧∃z:Int,gup y r*2^r=(z:Rat):=fun y r=>by
  have hp:=co r
  have e:∀z:Rat,z / 2^r*2^r=z:=fun z=>Rat.div_mul_cancel (by grind)
  exact⟨⟨_,e _⟩,⟨_,e _⟩⟩
 unfold tanLo tanHi
 refine iE (n:=128) (e:=14520*eps*(2^192*2^192)) (dZ (gi _ p).1 hp) (dZ (gi _ q).2 hq) ?_ eps_tan
 generalize vS (rsK x (p+64)) (rsR x (p+64))=S at*
 generalize vC (rsK x (p+64)) (rsR x (p+64))=C at*
 generalize vS (rsK x (q+64)) (rsR x (q+64))=s at*
 generalize vC (rsK x (q+64)) (rsR x (q+64))=c at*
 have m:=(((v1.mul e2).add (e1.mul v2.neg)).mul (c1.mul d1)).2
 generalize(2:Rat)^192*2^192=B at*
 generalize C⁻¹=I at*
 generalize c⁻¹=i at*
 have e:((S - s)*c+s* -(C - c))*(I*i)=S*I*(c*i) - s*i*(C*I):=by grind
 rw[e,c2,d2] at m
 generalize eps=ep at*
 grind
def Cr (a w b z:Nat):Prop:=a*2^z≤b*2^w
theorem Cr.rat {a w b z:Nat} (h:Cr a w b z):(a:Rat) / ((2^w:Nat):Rat)≤(b:Rat) / ((2^z:Nat):Rat):=by
 have u:=u_pos w
 have v:=u_pos z
 have h':(a:Rat)*((2^z:Nat):Rat)≤(b:Rat)*((2^w:Nat):Rat):=by rw[←qAl,←qAl];exact Rat.natCast_le_natCast.2 h
 generalize((2^w:Nat):Rat)=U at*
 generalize((2^z:Nat):Rat)=V at*
 rw[qAx,qAx]
 have i1:U*U⁻¹=1:=qBf _ (by grind)
 have i2:V*V⁻¹=1:=qBf _ (by grind)
 refine lmm (c:=U*V) ?_ (Rat.mul_pos u v)
 have e1:(a:Rat)*U⁻¹*(U*V)=(a:Rat)*V:=by grind
 have e2:(b:Rat)*V⁻¹*(U*V)=(b:Rat)*U:=by grind
 rw[e1,e2]
 exact h'
theorem Cr.mul {a w b z:Nat} (h:Cr a w b z) (k:Nat):Cr (a*k) w (b*k) z:=by
 unfold Cr at*
 rw[Nat.mul_right_comm,Nat.mul_right_comm b]
 exact ψ k h
theorem Cr.add {a w b z c d:Nat} (h:Cr a w b z) (h':Cr c w d z):Cr (a+c) w (b+d) z:=by
 unfold Cr at*
 rw[Nat.add_mul,Nat.add_mul]
 omega
theorem Cr.sub {a w b z c d:Nat} (h:Cr a w b z) (h':Cr d z c w):Cr (a - c) w (b - d) z:=by
 unfold Cr at*
 rw[Nat.sub_mul,Nat.sub_mul]
 omega
theorem Cr.up {a w b z:Nat} (h:Cr a w b z):Cr a (w+1) b (z+1):=by
 unfold Cr at*
 rw[qAn,qAn,←σ,←σ]
 exact ψ 2 h
theorem Cr.of {a w b z:Nat} {x y:Rat} (h1:(a:Rat)≤x*((2^w:Nat):Rat)) (h2:y*((2^z:Nat):Rat)≤(b:Rat)) (h:x≤y):Cr a w b z:=by
 have u:=u_pos w
 have v:=u_pos z
 have k1:=mlr h1 (llt v)
 have k2:=mlr h2 (llt u)
 have k3:=mlr h (llt (Rat.mul_pos u v))
 have k:(a:Rat)*((2^z:Nat):Rat)≤(b:Rat)*((2^w:Nat):Rat):=by grind
 rw[←qAl,←qAl] at k
 exact Rat.natCast_le_natCast.1 k
theorem zw {a1 b1 a2 b2 w z:Nat} (hw:20≤w) (hz:20≤z) (h1:a1≤b1) (h2:a2≤b2) (h:Cr a1 w b2 z) (l1:b1≤2^w) (l2:b2≤2^z):Cr (arcL a1 b1 w) w (arcH a2 b2 z) z:=by
 have k1:=(nQ hw (η a1) h1 l1).1
 have k2:=(nQ hz h2 (η b2) l2).2
 exact Cr.of k1 k2 (ut (nw (χ h1 l1)).1 h.rat (nw l2).2)
theorem sq_le_sq {a b:Nat} (h:a*a≤b*b):a≤b:=Nat.le_of_not_lt fun c=>by
 have:=Nat.mul_lt_mul'' c c
 omega
theorem Di {a b w z:Nat} (h:Cr a w b z):Cr (hvL a w) w (hvH b z) z:=by
 have r1:=wC (2^(2*w)+a*a)
 have r2:=jS (n:=2) (a:=2^(2*z)+b*b) (by decide)
 have u:=τ (am w)
 have v:=τ (am z)
 unfold Cr hvL hvH at*
 rw[Nat.pow_two] at r2
 have e1:2^(2*w)=2^w*2^w:=by rw[Nat.two_mul,qAs]
 have e2:2^(2*z)=2^z*2^z:=by rw[Nat.two_mul,qAs]
 generalize rtUp (2^(2*w)+a*a)=R at*
 generalize irt 2 (2^(2*z)+b*b)=r at*
 rw[e1] at r1
 rw[e2] at r2
 have c1:=Nat.div_mul_le_self (a*2^w) (2^w+R)
 have c2:b*2^z≤(2^z+r)*cdiv (b*2^z) (2^z+r):=(az (by omega)).1 (η _)
 generalize a*2^w / (2^w+R)=m at*
 generalize cdiv (b*2^z) (2^z+r)=n at*
 generalize 2^w=U at*
 generalize 2^z=V at*
 have k1:a*r≤b*R:=by
  refine sq_le_sq ?_
  have s1:=qAk h h
  have s2:=ω (a*a) r2
  have s3:=ω (b*b) r1
  grind
 have k2:a*(V+r)≤b*(U+R):=by rw[qAm,qAm];omega
 have k3:=ψ (V*(V+r)) c1
 have k4:=ψ (U*V) k2
 have k5:=ψ (U*(U+R)) c2
 refine Nat.le_of_mul_le_mul_right (c:=(U+R)*(V+r)) ?_ (Nat.mul_pos (by omega) (by omega))
 calc m*V*((U+R)*(V+r))=m*(U+R)*(V*(V+r)):=by grind
  _≤a*U*(V*(V+r)):=k3
  _=a*(V+r)*(U*V):=by grind
  _≤b*(U+R)*(U*V):=k4
  _=b*V*(U*(U+R)):=by grind
  _≤(V+r)*n*(U*(U+R)):=k5
  _=n*U*((U+R)*(V+r)):=by grind
theorem xz {a1 b1 a2 b2 w z:Nat} (hw:20≤w) (hz:20≤z) (h1:a1≤b1) (h2:a2≤b2) (h:Cr a1 w b2 z) (l1:b1≤2^w) (l2:b2≤2^z):Cr (anL a1 b1 w) w (anH a2 b2 z) z:=by
 have k:=zw hw hz (dN (dN h1)) (dN (dN h2)) (Di (Di h)) (χ (dk _ w) (χ (dk _ w) l1)) (χ (dk _ z) (χ (dk _ z) l2))
 exact k.mul _
theorem zD (n:Nat) {w z:Nat} (hn:n≠0) (hw:20≤w) (hz:20≤z):Cr (fifL n w) w (fifH n z) z:=by
 refine zw hw hz (i8 _ hn) (i8 _ hn) ?_ (pV n hn).2 (pV n hn).2
 unfold Cr
 have c1:=Nat.div_mul_le_self (2^w) n
 have c2:2^z≤n*cdiv (2^z) n:=(az hn).1 (η _)
 generalize 2^w / n=a at*
 generalize cdiv (2^z) n=b at*
 generalize 2^w=U at*
 generalize 2^z=V at*
 have k1:=ψ V c1
 have k2:=ω U c2
 exact Nat.le_of_mul_le_mul_right (c:=n) (by grind) (τ hn)
theorem DA {w z:Nat} (hw:20≤w) (hz:20≤z):Cr (piL w) w (piH z) z:=by
 exact((zD 5 (by decide) hw hz).mul _).sub ((zD 239 (by decide) hz hw).mul _)
theorem AY {x y:Rat} {w z:Nat} (h:x.num.natAbs*y.den≤y.num.natAbs*x.den):Cr (glo x w) w (ghi y z) z:=by
 have c1:=Nat.div_mul_le_self (x.num.natAbs*2^w) x.den
 have c2:y.num.natAbs*2^z≤y.den*ghi y z:=(az y.den_nz).1 (η _)
 have d1:=x.den_pos
 have d2:=y.den_pos
 unfold Cr glo
 generalize x.num.natAbs*2^w / x.den=a at*
 generalize ghi y z=b at*
 generalize x.num.natAbs=n at*
 generalize y.num.natAbs=m at*
 generalize x.den=d at*
 generalize y.den=e at*
 generalize 2^w=U at*
 generalize 2^z=V at*
 have k1:=ψ (V*e) c1
 have k2:=ψ (U*V) h
 have k3:=ψ (U*d) c2
 exact Nat.le_of_mul_le_mul_right (c:=d*e) (by grind) (Nat.mul_pos d1 d2)
theorem sU {neg:Bool} {a b a' b' k p q:Nat} (h:Cr a (p+32) b' (q+32)) (h':Cr a' (q+32) b (p+32)):bkL neg a b k p≤bkH neg a' b' k q:=by
 have key:∀{a b p q:Nat},Cr a (p+32) b (q+32)→sgn false (a / 2^k) (2^p)≤sgn false (cdiv b (2^k)) (2^q):=fun {a b p q} h=>by
  have c1:=Nat.div_mul_le_self a (2^k)
  have c2:b≤2^k*cdiv b (2^k):=(az (am k)).1 (η _)
  have e1:=sgn_u (a / 2^k) p
  have e2:=sgn_u (cdiv b (2^k)) q
  have u:=u_pos p
  have v:=u_pos q
  have n:(a / 2^k)*2^q≤cdiv b (2^k)*2^p:=by
   unfold Cr at h
   rw[qAs,qAs] at h
   have k0:=τ (am k)
   have b0:=τ (am 32)
   generalize a / 2^k=A at*
   generalize cdiv b (2^k)=B at*
   generalize 2^k=K at*
   generalize 2^32=D at*
   generalize 2^p=P at*
   generalize 2^q=Q at*
   have k1:=ψ (Q*D) c1
   have k2:=ψ (P*D) c2
   exact Nat.le_of_mul_le_mul_right (c:=K*D) (by grind) (Nat.mul_pos k0 b0)
  have r:((a / 2^k:Nat):Rat)*((2^q:Nat):Rat)≤((cdiv b (2^k):Nat):Rat)*((2^p:Nat):Rat):=by rw[←qAl,←qAl];exact Rat.natCast_le_natCast.2 n
  rw[←e1,←e2] at r
  refine lmm (c:=((2^p:Nat):Rat)*((2^q:Nat):Rat)) ?_ (Rat.mul_pos u v)
  grind
 unfold bkL bkH
 cases neg
 ·exact key h
 ·have:=key h'
  simp only[if_true]
  rw[qk,qk]
  grind
theorem at_cross {x:Rat} {p q:Nat}:atLo x p≤atHi x q:=by
 have key:∀p q:Nat,Cr (atA x (p+32)) (p+32) (atB x (q+32)) (q+32):=fun p q=>by
  unfold atA atB
  by_cases hb:x.den < x.num.natAbs
  ·rw[if_pos hb,if_pos hb]
   obtain⟨i1,i2⟩:=gC (x:=x) (by omega)
   have l:=fun w=>g_le (x:=invQ x) (w:=w) (by rw[i1,i2];simp only[Int.natAbs_natCast];omega)
   have k1:=DA (w:=p+32) (z:=q+32) (by omega) (by omega)
   have k2:=xz (w:=q+32) (z:=p+32) (by omega) (by omega) (dH (invQ x) _) (dH (invQ x) _) (AY (η _)) (l _).2 (l _).2
   exact k1.sub (k2.mul _)
  ·rw[if_neg hb,if_neg hb]
   have l:=fun w=>g_le (w:=w) hb
   exact xz (by omega) (by omega) (dH x _) (dH x _) (AY (η _)) (l _).2 (l _).2
 exact sU (key p q) (key q p)
theorem sq_mono0 {a b:Rat} (hb:0≤b) (h:a*a≤b*b):a≤b:=by
 refine Rat.not_lt.1 fun c=>?_
 have k1:=mll (llt c) hb
 have k2:=Rat.mul_lt_mul_of_pos_right c (show 0 < a by grind)
 grind
theorem IR {x:Rat} {w z:Nat} (dx:x.num.natAbs≤x.den):asH true x w≤asH false x z:=by
 have g1:=(nS (u:=true) (w:=w) dx).1
 have g2:=(nS (u:=false) (w:=z) dx).1
 have r:asG false x z≤asG true x w:=by
  have k1:=qh (rP dx).1 (n:=2) (by decide) z
  have k2:=ot (rP dx).1 (n:=2) (by decide) w
  have sq:∀z:Rat,z^2=z*z:=fun z=>by rw[show(2:Nat)=1+1 from rfl,Rat.pow_succ,Rat.pow_one]
  rw[sq] at k1 k2
  exact sq_mono0 g1 (qAq k1 k2)
 have hi:=fp (a:=1+asG false x z) (b:=1+asG true x w) (by grind) (by grind)
 unfold asH
 exact mll hi (pR dx).1
theorem xB {x:Rat} {w z:Nat} (hw:20≤w) (hz:20≤z) (dx:x.num.natAbs≤x.den):Cr (asL x w) w (asU x z) z:=by
 have g:∀{a b:Rat},0≤a→a≤b→∀{w},glo a w≤ghi b w:=fun {a b} ha h {w}=>iB (fv ha h)
 have k:=xz hw hz (g (js dx).1 (nv (w:=w) dx dx qBk)) (g (js dx).1 (nv (w:=z) dx dx qBk)) (AY (w:=w) (z:=z) (fv (js dx).1 (IR dx))) (mU dx).2 (mU dx).2
 exact k.mul _
theorem ET {x:Rat} {p q:Nat} (dx:x.num.natAbs≤x.den):fg x p≤dM x q:=
 sU (xB (by omega) (by omega) dx) (xB (by omega) (by omega) dx)
theorem z9 {a b w z:Nat} (h:Cr a w b z):sgn false a (2^w)≤sgn false b (2^z):=by
 have e1:=sgn_u a w
 have e2:=sgn_u b z
 have u:=u_pos w
 have v:=u_pos z
 have r:(a:Rat)*((2^z:Nat):Rat)≤(b:Rat)*((2^w:Nat):Rat):=by rw[←qAl,←qAl];exact Rat.natCast_le_natCast.2 h
 rw[←e1,←e2] at r
 refine lmm (c:=((2^w:Nat):Rat)*((2^z:Nat):Rat)) ?_ (Rat.mul_pos u v)
 grind
theorem ac_cross {x:Rat} {p q:Nat} (dx:x.num.natAbs≤x.den):acLo x p≤acHi x q:=by
 have a1:∀p q:Nat,Cr (asL x (p+32)) (p+32) (asU x (q+32)) (q+32):=fun p q=>xB (by omega) (by omega) dx
 have p1:∀p q:Nat,Cr (piL (p+32)) (p+32) (piH (q+32)) (q+32):=fun p q=>DA (by omega) (by omega)
 unfold acLo acHi
 by_cases h0:x=0
 ·rw[if_pos h0,if_pos h0]
  exact sU (p1 p q) (p1 q p)
 rw[if_neg h0,if_neg h0]
 by_cases hn:x.num < 0
 ·rw[if_pos hn,if_pos hn]
  have s:∀p q:Nat,Cr (piL (p+32)+asL x (p+32)*2^1) (p+32) (piH (q+32)+asU x (q+32)*2^1) (q+32):=fun p q=>(p1 p q).add ((a1 p q).mul _)
  exact sU (s p q) (s q p)
 ·rw[if_neg hn,if_neg hn]
  have k1:=z9 (p1 p q).up
  have k2:=z9 ((a1 q p).mul (2^1)).up
  refine qAq (dV _ _) (qAq ?_ (jc _ _))
  grind
theorem g_in (x:Rat) (w:Nat):((glo x w:Nat):Rat)≤(x.num.natAbs:Rat)*(x.den:Rat)⁻¹*((2^w:Nat):Rat)∧(x.num.natAbs:Rat)*(x.den:Rat)⁻¹*((2^w:Nat):Rat)≤((ghi x w:Nat):Rat):=by
 have d0:(0:Rat) < (x.den:Rat):=by exact_mod_cast x.den_pos
 have h1:=dY (a:=x.num.natAbs*2^w) x.den_nz
 have h2:=cZ (a:=x.num.natAbs*2^w) x.den_nz
 rw[qAl] at h1 h2
 unfold glo ghi
 generalize((x.num.natAbs*2^w / x.den:Nat):Rat)=A at*
 generalize((cdiv (x.num.natAbs*2^w) x.den:Nat):Rat)=B at*
 generalize(x.num.natAbs:Rat)=n at*
 generalize(x.den:Rat)=d at*
 generalize((2^w:Nat):Rat)=u at*
 have i:d*d⁻¹=1:=qBf _ (by grind)
 constructor
 ·refine lmm (c:=d) ?_ d0
  have:n*d⁻¹*u*d=n*u:=by grind
  rw[this];exact h1
 ·refine lmm (c:=d) ?_ d0
  have:n*d⁻¹*u*d=n*u:=by grind
  rw[this];exact h2
def eQ (y:Rat):Bool→Nat→Rat
 |false,0=>1
 |true,0=>2
 |c,k+1=>1+y*eQ y c k*((256*(40 - k):Nat):Rat)⁻¹
theorem eQ_s (y:Rat) (c:Bool) (k:Nat):eQ y c (k+1)=1+y*eQ y c k*((256*(40 - k):Nat):Rat)⁻¹:=by cases c<;>rfl
theorem eQ_le {y:Rat} (hy:0≤y):∀k,k≤40→1≤eQ y false k∧eQ y false k≤eQ y true k
 |0,_=>by show(1:Rat)≤1∧(1:Rat)≤2;exact⟨qBk,by decide⟩
 | k+1,hk=>by
  obtain⟨h1,h2⟩:=eQ_le hy k (by omega)
  have d0:(0:Rat) < ((256*(40 - k):Nat):Rat):=by exact_mod_cast (show 0 < 256*(40 - k) by omega)
  have i0:=llt (Rat.inv_pos.2 d0)
  rw[eQ_s,eQ_s]
  have m1:=mlr (mll h2 hy) i0
  have m2:=mnn (mnn hy (show 0≤eQ y false k by grind)) i0
  exact⟨by grind,by grind⟩
theorem eV_Q {w a b:Nat} {y:Rat} (hy:0≤y) (ha:(a:Rat)≤y*((2^w:Nat):Rat)) (hb:y*((2^w:Nat):Rat)≤(b:Rat)):∀k,k≤40→((eLo w a k:Nat):Rat)≤((2^w:Nat):Rat)*eQ y false k∧((2^w:Nat):Rat)*eQ y true k≤((eHi w b k:Nat):Rat)
 | 0,_=>by
  rw[eLo_0,eHi_0,show eQ y false 0=1 from rfl,show eQ y true 0=2 from rfl,Rat.mul_one,qAl]
  exact⟨qBk,qBk⟩
 | k + 1,hk=>by
  obtain⟨h1,h2⟩:=eV_Q hy ha hb k (by omega)
  have u0:=u_pos w
  have hi:40 - k≠0:=by omega
  have k0:(0:Rat) < ((40 - k:Nat):Rat):=by exact_mod_cast τ hi
  have v1:(0:Rat)≤((eLo w a k:Nat):Rat):=by exact_mod_cast qBh _
  have v2:(0:Rat)≤((eHi w b k:Nat):Rat):=by exact_mod_cast qBh _
  have yu:=mnn hy (llt u0)
  have m1:=qAq (mlr ha v1) (mll h1 yu)
  have m2:=qAq (mll h2 yu) (mlr hb v2)
  have c1:=dY (a:=a*eLo w a k) (d:=2^(w+8)) (am _)
  have c2:=dY (a:=a*eLo w a k / 2^(w+8)) (d:=40 - k) hi
  have c3:=cZ (a:=b*eHi w b k) (d:=2^(w+8)) (am _)
  have c4:=cZ (a:=cdiv (b*eHi w b k) (2^(w+8))) (d:=40 - k) hi
  have eu:((2^(w+8):Nat):Rat)=((2^w:Nat):Rat)*256:=by rw[qAs,qAl];rfl
  have ed:((256*(40 - k):Nat):Rat)=256*((40 - k:Nat):Rat):=by rw[qAl];rfl
  rw[eLo_s,eHi_s,eQ_s,eQ_s,Rat.natCast_add,Rat.natCast_add,ed]
  rw[qAl,eu] at c1 c3
  generalize((a*eLo w a k / 2^(w+8) / (40 - k):Nat):Rat)=A at*
  generalize((a*eLo w a k / 2^(w+8):Nat):Rat)=A' at*
  generalize((cdiv (cdiv (b*eHi w b k) (2^(w+8))) (40 - k):Nat):Rat)=B at*
  generalize((cdiv (b*eHi w b k) (2^(w+8)):Nat):Rat)=B' at*
  generalize((eLo w a k:Nat):Rat)=L at*
  generalize((eHi w b k:Nat):Rat)=H at*
  generalize eQ y false k=Q at*
  generalize eQ y true k=R at*
  generalize((40 - k:Nat):Rat)=i at*
  generalize((2^w:Nat):Rat)=u at*
  have ii:256*i*(256*i)⁻¹=1:=qBf _ (by grind)
  have ku:0 < u*256*i:=Rat.mul_pos (Rat.mul_pos u0 (by decide)) k0
  have n1:=mlr c2 (show 0≤u*256 by grind)
  have n2:=mlr c4 (show 0≤u*256 by grind)
  generalize(256*i)⁻¹=j at*
  constructor
  ·have:A≤u*(y*Q*j):=by
    refine lmm (c:=u*256*i) ?_ ku
    have e:u*(y*Q*j)*(u*256*i)=y*u*(u*Q)*(256*i*j):=by grind
    rw[e,ii];grind
   grind
  ·have:u*(y*R*j)≤B:=by
    refine lmm (c:=u*256*i) ?_ ku
    have e:u*(y*R*j)*(u*256*i)=y*u*(u*R)*(256*i*j):=by grind
    rw[e,ii];grind
   grind
def sqk (z:Rat):Nat→Rat
 |0=>z
 |k+1=>sqk z k*sqk z k
theorem lK {a b:Rat} (ha:1≤a) (h:a≤b):∀k,1≤sqk a k∧sqk a k≤sqk b k
 |0=>⟨ha,h⟩
 | k+1=>by
  obtain⟨h1,h2⟩:=lK ha h k
  show 1≤sqk a k*sqk a k∧sqk a k*sqk a k≤sqk b k*sqk b k
  have m1:=mll h1 (show 0≤sqk a k by grind)
  have m2:=mll h2 (show 0≤sqk a k by grind)
  have m3:=mlr h2 (show 0≤sqk b k by grind)
  exact⟨by grind,by grind⟩
theorem q_Q {w a b:Nat} {x y:Rat} (hy:1≤y) (ha:(a:Rat)≤((2^w:Nat):Rat)*x) (hb:((2^w:Nat):Rat)*y≤(b:Rat)):∀k,((qLo w a k:Nat):Rat)≤((2^w:Nat):Rat)*sqk x k∧((2^w:Nat):Rat)*sqk y k≤((qHi w b k:Nat):Rat)
 |0=>by rw[qLo_0,qHi_0];exact⟨ha,hb⟩
 | k +1=>by
  obtain⟨h1,h2⟩:=q_Q hy ha hb k
  have u0:=u_pos w
  have v1:(0:Rat)≤((qLo w a k:Nat):Rat):=by exact_mod_cast qBh _
  have y0:=(lK hy qBk k).1
  have w0:0≤((2^w:Nat):Rat)*sqk y k:=mnn (llt u0) (by grind)
  have m1:=qAq (mll h1 v1) (mlr h1 (qAq v1 h1))
  have m2:=qAq (mll h2 w0) (mlr h2 (qAq w0 h2))
  have c1:=dY (a:=qLo w a k*qLo w a k) (d:=2^w) (am _)
  have c2:=cZ (a:=qHi w b k*qHi w b k) (d:=2^w) (am _)
  rw[qLo_s,qHi_s]
  rw[qAl] at c1 c2
  show _≤_*(sqk x k*sqk x k)∧_*(sqk y k*sqk y k)≤_
  constructor
  ·refine lmm (c:=((2^w:Nat):Rat)) ?_ u0
   grind
  ·refine lmm (c:=((2^w:Nat):Rat)) ?_ u0
   grind
def exV2 (c:Bool) (x:Rat):Rat:=sqk (eQ ((x.num.natAbs:Rat)*(x.den:Rat)⁻¹) c 40) 8
theorem GO (x:Rat):1≤exV2 false x∧exV2 false x≤exV2 true x:=by
 have y0:0≤(x.num.natAbs:Rat)*(x.den:Rat)⁻¹:=mnn (by exact_mod_cast qBh _) (llt (Rat.inv_pos.2 (by exact_mod_cast x.den_pos)))
 obtain⟨h1,h2⟩:=eQ_le y0 40 (η _)
 exact lK h1 h2 8
theorem exV2_bd (x:Rat) (p:Nat):((expL x p:Nat):Rat)≤((2^(p+112):Nat):Rat)*exV2 false x∧((2^(p+112):Nat):Rat)*exV2 true x≤((expH x p:Nat):Rat):=by
 have y0:0≤(x.num.natAbs:Rat)*(x.den:Rat)⁻¹:=mnn (by exact_mod_cast qBh _) (llt (Rat.inv_pos.2 (by exact_mod_cast x.den_pos)))
 obtain⟨g1,g2⟩:=g_in x (p+112)
 obtain⟨h1,h2⟩:=eV_Q y0 g1 g2 40 (η _)
 obtain⟨h3,h4⟩:=eQ_le y0 40 (η _)
 exact q_Q (qAq h3 h4) h1 h2 8
def exW (c:Bool) (x:Rat):Rat:=if x.num < 0 then (exV2 (!c) x)⁻¹ else exV2 c x
theorem E8 (x:Rat):exW false x≤exW true x:=by
 obtain⟨h1,h2⟩:=GO x
 unfold exW
 split
 ·exact fp (by grind) h2
 ·exact h2
theorem E9 (x:Rat) (p:Nat):expLo x p≤exW false x∧exW true x≤expHi x p:=by
 obtain⟨h1,h2⟩:=exV2_bd x p
 obtain⟨f1,f2⟩:=xO x p
 obtain⟨v1,v2⟩:=GO x
 have u:=u_pos p
 have nz:=am (p+112)
 have nL:expL x p≠0:=Nat.ne_of_gt (Nat.lt_of_lt_of_le (τ nz) f1)
 have nH:expH x p≠0:=Nat.ne_of_gt (Nat.lt_of_lt_of_le (τ nz) f2)
 have e2:((2^(p+112):Nat):Rat)=((2^p:Nat):Rat)*((2^112:Nat):Rat):=by rw[qAs,qAl]
 have d:=u_pos 112
 unfold expLo expHi exW
 by_cases hn:x.num < 0
 ·rw[if_pos hn,if_pos hn,if_pos hn,if_pos hn]
  have c1:=dY (a:=2^(p+112+p)) (d:=expH x p) nH
  have c2:=cZ (a:=2^(p+112+p)) (d:=expL x p) nL
  have e3:((2^(p+112+p):Nat):Rat)=((2^(p+112):Nat):Rat)*((2^p:Nat):Rat):=by rw[qAs,qAl]
  have s1:=sgn_u (2^(p+112+p) / expH x p) p
  have s2:=sgn_u (cdiv (2^(p+112+p)) (expL x p)) p
  have U:=u_pos (p+112)
  rw[←s1,e3] at c1
  rw[←s2,e3] at c2
  have l0:0≤sgn false (2^(p+112+p) / expH x p) (2^p):=cD _ _
  have r0:0≤sgn false (cdiv (2^(p+112+p)) (expL x p)) (2^p):=cD _ _
  simp only[Bool.not_false,Bool.not_true]
  generalize sgn false (2^(p+112+p) / expH x p) (2^p)=A at*
  generalize sgn false (cdiv (2^(p+112+p)) (expL x p)) (2^p)=B at*
  generalize((2^(p+112):Nat):Rat)=W at*
  generalize((2^p:Nat):Rat)=P at*
  generalize((expL x p:Nat):Rat)=L at*
  generalize((expH x p:Nat):Rat)=H at*
  generalize exV2 false x=S at*
  generalize exV2 true x=T at*
  have iS:S*S⁻¹=1:=qBf _ (by grind)
  have iT:T*T⁻¹=1:=qBf _ (by grind)
  have t0:0 < T:=by grind
  have s0:0 < S:=by grind
  have WP:=Rat.mul_pos U u
  have m1:=mll h2 (mnn l0 (llt u))
  have m2:=mll h1 (mnn r0 (llt u))
  constructor
  ·have:A*T≤1:=lmm (c:=W*P) (by grind) WP
   have:=mlr this (llt (Rat.inv_pos.2 t0))
   rw[Rat.mul_assoc,iT,Rat.mul_one,Rat.one_mul] at this
   exact this
  ·have:1≤B*S:=lmm (c:=W*P) (by grind) WP
   have:=mlr this (llt (Rat.inv_pos.2 s0))
   rw[Rat.mul_assoc,iS,Rat.mul_one,Rat.one_mul] at this
   exact this
 ·rw[if_neg hn,if_neg hn,if_neg hn,if_neg hn]
  have c1:=dY (a:=expL x p) (d:=2^112) (am _)
  have c2:=cZ (a:=expH x p) (d:=2^112) (am _)
  have s1:=sgn_u (expL x p / 2^112) p
  have s2:=sgn_u (cdiv (expH x p) (2^112)) p
  rw[←s1] at c1
  rw[←s2] at c2
  rw[e2] at h1 h2
  generalize sgn false (expL x p / 2^112) (2^p)=A at*
  generalize sgn false (cdiv (expH x p) (2^112)) (2^p)=B at*
  generalize((2^112:Nat):Rat)=D at*
  generalize((2^p:Nat):Rat)=P at*
  have PD:=Rat.mul_pos u d
  constructor
  ·exact lmm (c:=P*D) (by grind) PD
  ·exact lmm (c:=P*D) (by grind) PD
theorem Ja (x:Rat) (p q:Nat):expLo x p≤expHi x q:=qAq (E9 x p).1 (qAq (E8 x) (E9 x q).2)
def lQ (x:Rat):Bool→Nat→Rat
 |false,0=>(111:Rat)⁻¹
 |true,0=>(111:Rat)⁻¹+x*(100:Rat)⁻¹
 |c,j+1=>((109 - 2*j:Nat):Rat)⁻¹+x*lQ x c j
theorem lQ_s (x:Rat) (c:Bool) (j:Nat):lQ x c (j+1)=((109 - 2*j:Nat):Rat)⁻¹+x*lQ x c j:=by cases c<;>rfl
theorem lQ_le {x:Rat} (hx:0≤x):∀j,0≤lQ x false j∧lQ x false j≤lQ x true j
 | 0=>by
  have:0≤x*(100:Rat)⁻¹:=mnn hx (by decide+kernel)
  have h:(0:Rat)≤(111:Rat)⁻¹:=by decide+kernel
  show(0:Rat)≤(111:Rat)⁻¹∧(111:Rat)⁻¹≤(111:Rat)⁻¹+x*(100:Rat)⁻¹
  exact⟨h,by grind⟩
 | j +1=>by
  obtain⟨h1,h2⟩:=lQ_le hx j
  have i0:(0:Rat)≤((109 - 2*j:Nat):Rat)⁻¹:=by
   by_cases h:109 - 2*j=0
   ·rw[h];decide+kernel
   ·exact llt (Rat.inv_pos.2 (by exact_mod_cast τ h))
  rw[lQ_s,lQ_s]
  have m1:=mll h2 hx
  have m2:=mnn hx h1
  exact⟨by grind,by grind⟩
theorem logV_Q {w s t:Nat} {x:Rat} (hx:0≤x) (hs:(s:Rat)≤x*((2^w:Nat):Rat)) (ht:x*((2^w:Nat):Rat)≤(t:Rat)):
  ∀j,j≤55→((logV w s t false j:Nat):Rat)≤((2^w:Nat):Rat)*lQ x false j∧((2^w:Nat):Rat)*lQ x true j≤((logV w s t true j:Nat):Rat)
 | 0,_=>by
  have u0:=u_pos w
  rw[yf,tD]
  constructor
  ·have h1:=dY (a:=2^w) (d:=111) (by decide)
   show _≤((2^w:Nat):Rat)*(111:Rat)⁻¹
   have c1:((111:Nat):Rat)=111:=rfl
   rw[c1] at h1
   have i1:(111:Rat)*(111:Rat)⁻¹=1:=by decide+kernel
   have i0:(0:Rat)≤(111:Rat)⁻¹:=by decide+kernel
   have:=mlr h1 i0
   rw[Rat.mul_assoc,i1,Rat.mul_one] at this
   exact this
  ·have h1:=cZ (a:=2^w*100+t*111) (d:=11100) (by decide)
   rw[Rat.natCast_add,qAl,qAl,show((11100:Nat):Rat)=11100 from rfl,show((100:Nat):Rat)=100 from rfl,show((111:Nat):Rat)=111 from rfl] at h1
   show((2^w:Nat):Rat)*((111:Rat)⁻¹+x*(100:Rat)⁻¹)≤_
   have i1:(111:Rat)⁻¹=100 / 11100:=by decide+kernel
   have i2:(100:Rat)⁻¹=111 / 11100:=by decide+kernel
   rw[i1,i2]
   generalize((cdiv (2^w*100+t*111) 11100:Nat):Rat)=V at*
   generalize((2^w:Nat):Rat)=u at*
   grind
 | j +1,hj=>by
  obtain⟨h1,h2⟩:=logV_Q hx hs ht j (by omega)
  have u0:=u_pos w
  have hk:(109 - 2*j)*2^w≠0:=qBe (by omega) (am w)
  have k0:(0:Rat) < ((109 - 2*j:Nat):Rat):=by exact_mod_cast (show 0 < 109 - 2*j by omega)
  have i1:((109 - 2*j:Nat):Rat)*((109 - 2*j:Nat):Rat)⁻¹=1:=qBf _ (by grind)
  have v1:(0:Rat)≤((logV w s t true j:Nat):Rat):=by exact_mod_cast qBh _
  have v2:(0:Rat)≤((logV w s t false j:Nat):Rat):=by exact_mod_cast qBh _
  have xu:0≤x*((2^w:Nat):Rat):=mnn hx (llt u0)
  have m1:=qAq (mll h2 xu) (mlr ht v1)
  have m3:=qAq (mlr hs v2) (mll h1 xu)
  rw[uI,qQ,lQ_s,lQ_s]
  have c1:=dY (a:=2^w*2^w+s*logV w s t false j*(109 - 2*j)) hk
  have c2:=cZ (a:=2^w*2^w+t*logV w s t true j*(109 - 2*j)) hk
  rw[Rat.natCast_add,qAl (2^w),qAl (s*logV w s t false j),qAl s,qAl (109 - 2*j)] at c1
  rw[Rat.natCast_add,qAl (2^w),qAl (t*logV w s t true j),qAl t,qAl (109 - 2*j)] at c2
  clear hk
  generalize(((2^w*2^w+s*logV w s t false j*(109 - 2*j)) / ((109 - 2*j)*2^w):Nat):Rat)=Z1 at*
  generalize((cdiv (2^w*2^w+t*logV w s t true j*(109 - 2*j)) ((109 - 2*j)*2^w):Nat):Rat)=Z2 at*
  generalize((logV w s t true j:Nat):Rat)=V at*
  generalize((logV w s t false j:Nat):Rat)=W at*
  generalize((109 - 2*j:Nat):Rat)=K at*
  generalize((2^w:Nat):Rat)=u at*
  generalize lQ x true j=Q at*
  generalize lQ x false j=R at*
  have ku:0 < K*u:=Rat.mul_pos k0 u0
  have n1:=mlr m1 (llt k0)
  have n3:=mlr m3 (llt k0)
  constructor
  ·refine lmm (c:=K*u) ?_ ku
   have:u*(K⁻¹+x*R)*(K*u)=u*u*(K*K⁻¹)+x*u*(u*R)*K:=by grind
   rw[this,i1]
   grind
  ·refine lmm (c:=K*u) ?_ ku
   have:u*(K⁻¹+x*Q)*(K*u)=u*u*(K*K⁻¹)+x*u*(u*Q)*K:=by grind
   rw[this,i1]
   grind
theorem log_Q {a b w:Nat} {z:Rat} (hz:0≤z) (ha:(a:Rat)≤z*((2^w:Nat):Rat)) (hb:z*((2^w:Nat):Rat)≤(b:Rat)):((logL a b w:Nat):Rat)≤2*(z*lQ (z*z) false 55)*((2^w:Nat):Rat)∧2*(z*lQ (z*z) true 55)*((2^w:Nat):Rat)≤((logH a b w:Nat):Rat):=by
 have u0:=u_pos w
 have zu:=mnn hz (llt u0)
 have a0:(0:Rat)≤(a:Rat):=by exact_mod_cast qBh a
 have s1:((sqL a w:Nat):Rat)≤z*z*((2^w:Nat):Rat):=by
  have d:=dY (a:=a*a) (d:=2^w) (am w)
  rw[qAl] at d
  have m:=qAq (mll ha a0) (mlr ha zu)
  exact lmm (c:=((2^w:Nat):Rat)) (by unfold sqL;grind) u0
 have s2:z*z*((2^w:Nat):Rat)≤((sqH b w:Nat):Rat):=by
  have d:=cZ (a:=b*b) (d:=2^w) (am w)
  rw[qAl] at d
  have m:=qAq (mll hb zu) (mlr hb (qAq zu hb))
  exact lmm (c:=((2^w:Nat):Rat)) (by unfold sqH;grind) u0
 obtain⟨h1,h2⟩:=logV_Q (cG z) s1 s2 55 (η _)
 have d1:=dY (a:=a*logV w (sqL a w) (sqH b w) false 55*2^1) (d:=2^w) (am w)
 have d2:=cZ (a:=b*logV w (sqL a w) (sqH b w) true 55*2^1) (d:=2^w) (am w)
 rw[qAl (a*_),qAl a,show((2^1:Nat):Rat)=2 from rfl] at d1
 rw[qAl (b*_),qAl b,show((2^1:Nat):Rat)=2 from rfl] at d2
 have v2:(0:Rat)≤((logV w (sqL a w) (sqH b w) false 55:Nat):Rat):=by exact_mod_cast qBh _
 have q0:=(lQ_le (cG z) 55)
 unfold logL logH
 generalize((logV w (sqL a w) (sqH b w) false 55:Nat):Rat)=F at*
 generalize((logV w (sqL a w) (sqH b w) true 55:Nat):Rat)=T at*
 generalize((a*logV w (sqL a w) (sqH b w) false 55*2^1 / 2^w:Nat):Rat)=A at*
 generalize((cdiv (b*logV w (sqL a w) (sqH b w) true 55*2^1) (2^w):Nat):Rat)=B at*
 generalize lQ (z*z) false 55=Q at*
 generalize lQ (z*z) true 55=R at*
 generalize((2^w:Nat):Rat)=u at*
 have m1:=qAq (mlr ha v2) (mll h1 zu)
 have m2:=qAq (mll h2 zu) (mlr hb (qAq (mnn (llt u0) (by grind)) h2))
 constructor
 ·exact lmm (c:=u) (by grind) u0
 ·exact lmm (c:=u) (by grind) u0
def lM (c:Bool) (n d:Nat):Rat:=2*(((lgT n d 0:Nat):Rat)*((lgB n d:Nat):Rat)⁻¹*lQ (((lgT n d 0:Nat):Rat)*((lgB n d:Nat):Rat)⁻¹*(((lgT n d 0:Nat):Rat)*((lgB n d:Nat):Rat)⁻¹)) c 55)
def l2 (c:Bool):Rat:=2*((3:Rat)⁻¹*lQ ((3:Rat)⁻¹*(3:Rat)⁻¹) c 55)
theorem q_in {t b w:Nat} (hb:b≠0):((t*2^w / b:Nat):Rat)≤(t:Rat)*(b:Rat)⁻¹*((2^w:Nat):Rat)∧(t:Rat)*(b:Rat)⁻¹*((2^w:Nat):Rat)≤((cdiv (t*2^w) b:Nat):Rat):=by
 have d0:(0:Rat) < (b:Rat):=by exact_mod_cast τ hb
 have h1:=dY (a:=t*2^w) hb
 have h2:=cZ (a:=t*2^w) hb
 rw[qAl] at h1 h2
 generalize((t*2^w / b:Nat):Rat)=A at*
 generalize((cdiv (t*2^w) b:Nat):Rat)=B at*
 generalize(t:Rat)=n at*
 generalize(b:Rat)=d at*
 generalize((2^w:Nat):Rat)=u at*
 have i:d*d⁻¹=1:=qBf _ (by grind)
 have e:n*d⁻¹*u*d=n*u:=by grind
 constructor
 ·refine lmm (c:=d) ?_ d0
  rw[e];exact h1
 ·refine lmm (c:=d) ?_ d0
  rw[e];exact h2
theorem lM_bd {n d w:Nat} (hn:n≠0):((lgmL n d w:Nat):Rat)≤lM false n d*((2^w:Nat):Rat)∧lM true n d*((2^w:Nat):Rat)≤((lgmH n d w:Nat):Rat):=by
 have hb:=lP (d:=d) hn
 have z0:0≤((lgT n d 0:Nat):Rat)*((lgB n d:Nat):Rat)⁻¹:=mnn (by exact_mod_cast qBh _) (llt (Rat.inv_pos.2 (by exact_mod_cast τ hb)))
 obtain⟨g1,g2⟩:=q_in (t:=lgT n d 0) (w:=w) hb
 have e:lgT n d 0*2^w=lgT n d w:=by unfold lgT;rw[Nat.pow_zero,qAz]
 rw[e] at g1 g2
 exact log_Q z0 g1 g2
theorem l2_bd (w:Nat):((lg2L w:Nat):Rat)≤l2 false*((2^w:Nat):Rat)∧l2 true*((2^w:Nat):Rat)≤((lg2H w:Nat):Rat):=by
 obtain⟨g1,g2⟩:=q_in (t:=1) (b:=3) (w:=w) (by decide)
 rw[qBm,show((1:Nat):Rat)=1 from rfl,show((3:Nat):Rat)=3 from rfl,Rat.one_mul] at g1 g2
 exact log_Q (by decide+kernel) g1 g2
theorem lM_le {n d:Nat} (hn:n≠0):lM false n d≤lM true n d:=by
 have hb:=lP (d:=d) hn
 have z0:0≤((lgT n d 0:Nat):Rat)*((lgB n d:Nat):Rat)⁻¹:=mnn (by exact_mod_cast qBh _) (llt (Rat.inv_pos.2 (by exact_mod_cast τ hb)))
 unfold lM
 have:=mll (lQ_le (cG (((lgT n d 0:Nat):Rat)*((lgB n d:Nat):Rat)⁻¹)) 55).2 z0
 grind
theorem l2_le:l2 false≤l2 true:=by
 have:=mll (lQ_le (cG (3:Rat)⁻¹) 55).2 (show(0:Rat)≤(3:Rat)⁻¹ by decide+kernel)
 unfold l2
 grind
def lnV (c:Bool) (n d:Nat):Rat:=if 0≤lge n d then l2 c*((lge n d).toNat:Rat)+lM c n d else lM c n d - l2 (!c)*((0 - lge n d).toNat:Rat)
theorem lnV_le {n d:Nat} (hn:n≠0):lnV false n d≤lnV true n d:=by
 have h1:=lM_le (d:=d) hn
 unfold lnV
 split
 ·have:=mlr l2_le (show(0:Rat)≤((lge n d).toNat:Rat) by exact_mod_cast qBh _)
  grind
 ·have:=mlr l2_le (show(0:Rat)≤((0 - lge n d).toNat:Rat) by exact_mod_cast qBh _)
  simp only[Bool.not_false,Bool.not_true]
  grind
theorem ln_in {n d p:Nat} (hn:n≠0):lnLo n d p≤lnV false n d∧lnV true n d≤lnHi n d p:=by
 obtain⟨o1,o2⟩:=ye n d p
 obtain⟨m1,m2⟩:=lM_bd (d:=d) (w:=p+32) hn
 obtain⟨t1,t2⟩:=l2_bd (p+32)
 have u:=u_pos (p+32)
 suffices h:lnA n d (p+32)≤lnV false n d∧lnV true n d≤lnB n d (p+32) from⟨qAq o1 h.1,qAq h.2 o2⟩
 unfold lnA lnB lnV
 by_cases he:0≤lge n d
 ·rw[if_pos he,if_pos he,if_pos he,if_pos he]
  generalize(lge n d).toNat=m at*
  have m0:(0:Rat)≤(m:Rat):=by exact_mod_cast qBh m
  have e1:=sgn_u (lg2L (p+32)*m+lgmL n d (p+32)) (p+32)
  have e2:=sgn_u (lg2H (p+32)*m+lgmH n d (p+32)) (p+32)
  rw[Rat.natCast_add,qAl] at e1 e2
  have k1:=mlr t1 m0
  have k2:=mlr t2 m0
  constructor
  ·exact lmm (c:=((2^(p+32):Nat):Rat)) (by rw[e1];grind) u
  ·exact lmm (c:=((2^(p+32):Nat):Rat)) (by rw[e2];grind) u
 ·rw[if_neg he,if_neg he,if_neg he,if_neg he]
  generalize(0 - lge n d).toNat=m at*
  have m0:(0:Rat)≤(m:Rat):=by exact_mod_cast qBh m
  have e1:=sgn_u (lgmL n d (p+32)) (p+32)
  have e2:=sgn_u (lg2H (p+32)*m) (p+32)
  have e3:=sgn_u (lgmH n d (p+32)) (p+32)
  have e4:=sgn_u (lg2L (p+32)*m) (p+32)
  rw[qAl] at e2 e4
  have k1:=mlr t1 m0
  have k2:=mlr t2 m0
  simp only[Bool.not_false,Bool.not_true]
  rw[←e1] at m1
  rw[←e3] at m2
  rw[←e2] at k2
  rw[←e4] at k1
  generalize sgn false (lgmL n d (p+32)) (2^(p+32))=A at*
  generalize sgn false (lgmH n d (p+32)) (2^(p+32))=B at*
  generalize sgn false (lg2H (p+32)*m) (2^(p+32))=C at*
  generalize sgn false (lg2L (p+32)*m) (2^(p+32))=D at*
  generalize((2^(p+32):Nat):Rat)=U at*
  constructor
  ·exact lmm (c:=U) (by grind) u
  ·exact lmm (c:=U) (by grind) u
theorem ln_cross {n d p q:Nat} (hn:n≠0):lnLo n d p≤lnHi n d q:=qAq (ln_in hn).1 (qAq (lnV_le hn) (ln_in hn).2)
end Go.Q
