/-
  The angle of the arctangent's bounds: no program. Conditions: the numbers are from 0 to 1/4.
  The angle of four times the arctangent's bounds, halved twice: no program. Conditions: the numbers are from 0 to 1.
  The sine keeps the order of angles; twice an angle: no program. Conditions: the numbers are from 0 to 3/2.
  Sixteen times the upper arctangent of a sixteenth of a turn at least pi's lower bound (by computation): no program. Conditions: the working precision is from 32 to 160.
  Arcsine and arccosine, and the arctangents of a number and of its inverse, have the sum of a quarter turn, as far as brackets show it: no program. Conditions: the functions' domains; precisions up to 128.
  The arcsine leads back from a sine's bound: no program. Conditions: the number's absolute value is at most 3/2.
  The arctangent leads back from a tangent's bound: no program. Conditions: the number's absolute value is at most 3/2.
  The inverse functions lead back from the brackets: no program. Conditions: the number has a bracket.
  The statement ElemBack. Conditions: the argument is a number as it comes in (Rw).
-/
import Derived.Test.YtebhjmnnjoijcaaGreatDoorKa2004fPkR
import Derived.Test.YtebhjmnnjoijcaaGreatDoorK0cb377PkP
import Derived.Test.YtebhjmnnjoijcaaGreatDoorK01b216PkF
set_option linter.unusedVariables false
set_option linter.unusedSimpArgs false
open Nat (reduceAdd)
namespace Go.Q
set_option maxRecDepth 100000
set_option maxHeartbeats 4000000
theorem nq1:Ab (-1) 1:=⟨Rat.le_refl,by decide⟩
theorem sc_bd {t:Rat} (h0:0≤t) (h1:t≤1):5 / 6*t≤sNN (-1) t∧sNN (-1) t≤t∧1 / 2≤cNN (-1) t∧cNN (-1) t≤1:=by
  have tt:=mZ (t:=t) ⟨by grind,h1⟩
  have t0:=cG t
  rw[(N_al t).1,(N_al t).2]
  obtain⟨a1,a2⟩:=al_01 (f:=1) (by decide) t0 tt 180 1
  obtain⟨b1,b2⟩:=al_01 (f:=2) (by decide) t0 tt 179 1
  have e1:al 1 (t*t) 0 181=1 - t*t*al 1 (t*t) 1 180*(1 / 2):=by
    show 1 - t*t*al 1 (t*t) 1 180*((wav 1 0:Nat):Rat)⁻¹=_
    rw[show((wav 1 0:Nat):Rat)⁻¹=1 / 2 by decide+kernel]
  have e2:al 2 (t*t) 0 180=1 - t*t*al 2 (t*t) 1 179*(1 / 6):=by
    show 1 - t*t*al 2 (t*t) 1 179*((wav 2 0:Nat):Rat)⁻¹=_
    rw[show((wav 2 0:Nat):Rat)⁻¹=1 / 6 by decide+kernel]
  rw[e1,e2]
  generalize al 1 (t*t) 1 180=A at*
  generalize al 2 (t*t) 1 179=B at*
  have m1:=mnn t0 a1
  have m2:=mlr tt a1
  have m3:=mnn t0 b1
  have m4:=mlr tt b1
  have q:5 / 6≤1 - t*t*B*(1 / 6):=by grind
  have q2:1 - t*t*B*(1 / 6)≤1:=by grind
  have n1:=mll q h0
  have n2:=mll q2 h0
  exact⟨by grind,by grind,by grind,by grind⟩
theorem ft (t:Rat):sNN (-1) (-t)= -sNN (-1) t∧cNN (-1) (-t)=cNN (-1) t:=by
  have e: -t* -t=t*t:=by grind
  rw[(N_al t).1,(N_al t).2,(N_al (-t)).1,(N_al (-t)).2,e]
  exact⟨by grind,rfl⟩
theorem ep_num:0 < eps∧eps≤1 / 1000000∧eps*2^1700≤1∧157 / 100≤qtR∧qtR≤158 / 100:=by decide+kernel
def gA (c:Bool) (v:Rat):Rat:=uAt (-1) v (bif c then 41 else 40)
theorem Gv (t:Rat):∀j,j≤39→arcQ t (decide (j % 2=0)) j=lg0 (-t) (39 - j) (j+1)∧arcQ t (!decide (j % 2=0)) j=lg0 (-t) (39 - j) (j+2)
  | 0,_=>by
    show(79:Rat)⁻¹=(79:Rat)⁻¹+ -t*0∧(79:Rat)⁻¹ - t*(81:Rat)⁻¹=(79:Rat)⁻¹+ -t*((81:Rat)⁻¹+ -t*0)
    exact⟨by grind,by grind⟩
  | j +1,hj=>by
    obtain⟨a1,a2⟩:=Gv t j (by omega)
    have e:decide ((j+1) % 2=0)=!decide (j % 2=0):=by
      by_cases h:j % 2=0
      · rw[decide_eq_true h,decide_eq_false (by omega)];rfl
      · rw[decide_eq_false h,decide_eq_true (by omega)];rfl
    rw[e,pg,pg,Bool.not_not,a1,a2,show 39 - (j+1)=38 - j by omega]
    show _=((2*(38 - j)+1:Nat):Rat)⁻¹+ -t*lg0 (-t) (38 - j+1) (j+1)∧_=((2*(38 - j)+1:Nat):Rat)⁻¹+ -t*lg0 (-t) (38 - j+1) (j+2)
    rw[show 38 - j+1=39 - j by omega,show 2*(38 - j)+1=77 - 2*j by omega]
    exact⟨by grind,by grind⟩
theorem gA_eq (v:Rat) (c:Bool):v*arcQ (v^2) c 39=gA c v:=by
  obtain⟨a1,a2⟩:=Gv (v^2) 39 (Nat.le_refl _)
  rw[sqE] at*
  have e: -(v*v)= -1*(v*v):=by grind
  cases c with
  | false=>
    have a1:arcQ (v*v) false 39=lg0 (-(v*v)) 0 40:=a1
    rw[a1,e,B5];rfl
  | true=>
    have a2:arcQ (v*v) true 39=lg0 (-(v*v)) 0 41:=a2
    rw[a2,e,B5];rfl
theorem cP_4:cP (1 / 4) 40≤10∧cP (1 / 4) 41≤10∧0≤cP (1 / 4) 40∧0≤cP (1 / 4) 41:=by decide+kernel
theorem gA_step {v k:Rat} (c:Bool) (v0:0≤v) (k0:0≤k) (h:v+k≤1 / 4):∃D Q,Ab (gA c (v+k) - gA c v - k*D) (10*(k*k))∧(1+v*v)*D=1 - Q∧Ab Q 1∧(c=false→0≤Q)∧(c=true→Q≤0):=by
  have hv:Ab v (1 / 4):=⟨by grind,by grind⟩
  have hk:Ab (v+k) (1 / 4):=⟨by grind,h⟩
  have one:∀n,(-1:Rat)^(2*n)=1:=fun n=>by
    induction n with
    |zero=>rw[Nat.mul_zero,Rat.pow_zero]
    |succ n ih=>rw[show 2*(n+1)=2*n+1+1 by omega,Rat.pow_succ,Rat.pow_succ,ih];decide+kernel
  obtain⟨c1,c2,c3,c4⟩:=cP_4
  have kk:=cG k
  have e:∀D:Rat,(1 - -1*(v*v))*D=(1+v*v)*D:=fun D=>by grind
  cases c with
  | false=>
    have g:=wJ (-1) v 40
    rw[e,show(40:Nat)=2*20 from rfl,one,Rat.one_mul] at g
    refine⟨_,_,(wI nq1 hv hk 40).le ?_,g,?_,fun _=>Rat.pow_nonneg v0,fun h=>nomatch h⟩
    · have:=mll c1 kk;grind
    · exact(qd hv _).le (by decide+kernel)
  | true=>
    have g:=wJ (-1) v 41
    rw[e,show(41:Nat)=2*20+1 from rfl,Rat.pow_succ,one,Rat.one_mul] at g
    have p0:=Rat.pow_nonneg (n:=2*(2*20+1)) v0
    have pa:=(qd hv (2*(2*20+1))).le (show(1 / 4:Rat)^(2*(2*20+1))≤1 by decide+kernel)
    refine⟨_,_,(wI nq1 hv hk 41).le ?_,g,?_,(fun h=>nomatch h),fun _=>by grind⟩
    · have:=mll c2 kk;grind
    · exact⟨by have:=pa.2;grind,by grind⟩
theorem Gu {t:Rat} (h0:0≤t) (h1:t≤1):∀j c,j≤39→0≤arcQ t c j∧arcQ t c j≤((79 - 2*j:Nat):Rat)⁻¹
  | 0,c,_=>by
    cases c with
    |true=>show(0:Rat)≤(79:Rat)⁻¹∧(79:Rat)⁻¹≤(79:Rat)⁻¹;decide+kernel
    | false=>
      show(0:Rat)≤(79:Rat)⁻¹ - t*(81:Rat)⁻¹∧(79:Rat)⁻¹ - t*(81:Rat)⁻¹≤(79:Rat)⁻¹
      have i:(0:Rat)≤(81:Rat)⁻¹∧(81:Rat)⁻¹≤(79:Rat)⁻¹:=by decide+kernel
      have m:=mlr h1 i.1
      have m0:=mnn h0 i.1
      exact⟨by grind,by grind⟩
  | j+1,c,hj=>by
    obtain⟨a1,a2⟩:=Gu h0 h1 j (!c) (by omega)
    have l:((79 - 2*j:Nat):Rat)⁻¹≤((77 - 2*j:Nat):Rat)⁻¹:=fp (by exact_mod_cast (show 0 < 77 - 2*j by omega)) (by exact_mod_cast (show 77 - 2*j≤79 - 2*j by omega))
    rw[pg,show 79 - 2*(j+1)=77 - 2*j by omega]
    have m:=mlr h1 a1
    have m0:=mnn h0 a1
    exact⟨by grind,by grind⟩
theorem gA_bd {v:Rat} (c:Bool) (v0:0≤v) (v1:v≤1 / 4):0≤gA c v∧gA c v≤v:=by
  have vv:=cG v
  have v2:v*v≤1:=mZ ⟨by grind,by grind⟩
  obtain⟨a1,a2⟩:=Gu vv v2 39 c (Nat.le_refl _)
  rw[show((79 - 2*39:Nat):Rat)⁻¹=1 by decide+kernel] at a2
  rw[←gA_eq,sqE]
  have m0:=mnn v0 a1
  have m1:=mll a2 v0
  exact⟨m0,by grind⟩
theorem CO {v k m:Rat} (c:Bool) (v0:0≤v) (k0:0≤k) (h:v+k≤1 / 4) (m0:0≤m):
    (c=false→sNN (-1) (gA c v) - v*cNN (-1) (gA c v)≤m→sNN (-1) (gA c (v+k)) - (v+k)*cNN (-1) (gA c (v+k))≤m+k*v*m+(4000*(k*k)+20*(k*trm 4 360)))∧
    (c=true→v*cNN (-1) (gA c v) - sNN (-1) (gA c v)≤m→(v+k)*cNN (-1) (gA c (v+k)) - sNN (-1) (gA c (v+k))≤m+k*v*m+(4000*(k*k)+20*(k*trm 4 360))):=by
  obtain⟨D,Q,gd,gq,aQ,q1,q2⟩:=gA_step c v0 k0 h
  obtain⟨a1,a2⟩:=gA_bd c v0 (by grind)
  obtain⟨b1,b2⟩:=gA_bd c (v:=v+k) (by grind) h
  obtain⟨s1,s2,c1,c2⟩:=sc_bd a1 (by grind)
  have w0:0 < (1+v*v)⁻¹:=Rat.inv_pos.2 (by have:=cG v;grind)
  have w1:(1+v*v)*(1+v*v)⁻¹=1:=Rat.mul_inv_cancel _ (by have:=cG v;grind)
  have vv:=cG v
  have T0:=T_num.1
  obtain⟨δ,hδ⟩:∃δ,gA c (v+k)=gA c v+δ:=⟨gA c (v+k) - gA c v,by grind⟩
  rw[hδ] at gd b1 b2 ⊢
  generalize(1+v*v)⁻¹=w at*
  have wl:w≤1:=by
    have:=mnn vv (llt w0)
    grind
  have eD:D=w*(1 - Q):=by
    have:D=w*((1+v*v)*D):=by rw[←Rat.mul_assoc,Rat.mul_comm w,w1,Rat.one_mul]
    rw[this,gq]
  have aD:Ab D 2:=by
    rw[eD]
    exact(Ab.mul (⟨by grind,wl⟩:Ab w 1) (⟨by have:=aQ.2;grind,by have:=aQ.1;grind⟩:Ab (1 - Q) 2)).le (by grind)
  have kk:=cG k
  have kq:k*k≤1 / 4*k:=mlr (by grind) k0
  have aδ:Ab δ (5*k):=by
    have t:=gd.add ((Ab.self k0).mul aD)
    exact(cf t (by grind)).le (by grind)
  obtain⟨l2,l1⟩:=N_loc (q:=-1) (t:=gA c v) (h:=δ) (H:=5*k) nq1 ⟨by grind,by grind⟩ ⟨by grind,by grind⟩ aδ
  have δδ:=(aδ.mul aδ).2
  have l1:=l1.le (show _≤1500*(k*k)+5*(k*trm 4 360) by grind)
  have l2:=l2.le (show _≤1500*(k*k)+5*(k*trm 4 360) by grind)
  have kT:=mnn k0 (llt T0)
  have e2:=l2.mul (⟨by grind,by grind⟩:Ab (v+k) 1)
  generalize hS:sNN (-1) (gA c v+δ)=S' at*
  generalize hC:cNN (-1) (gA c v+δ)=C' at*
  generalize sNN (-1) (gA c v)=s at*
  generalize cNN (-1) (gA c v)=cc at*
  generalize trm 4 360=T at*
  have vs0:0≤v*s:=mnn v0 (by grind)
  have vs1:v*s≤1 / 4*s:=mlr (by grind) (by grind)
  have aP:Ab (cc+v*s) 2:=⟨by grind,by grind⟩
  have e3:=gd.mul aP
  have e4:=((Ab.self k0).mul aδ).mul (⟨by grind,by grind⟩:Ab s 1)
  have id:S' - (v+k)*C'=(s - v*cc)+k*(D*(cc+v*s) - cc)+(gA c v+δ - gA c v - k*D)*(cc+v*s)+k*δ*s+(S' - s - δ*cc)+ -((C' - cc - δ*(-1*s))*(v+k)):=by grind
  have id2:D*(cc+v*s) - cc=w*(v*(s - v*cc)) - w*(Q*(cc+v*s)):=by
    have:w*(v*(s - v*cc)) - w*(Q*(cc+v*s))=w*(1 - Q)*(cc+v*s) - cc*((1+v*v)*w):=by grind
    rw[this,w1,eD];grind
  rw[id2] at id
  obtain⟨x1,x2⟩:=e2
  obtain⟨y1,y2⟩:=e3
  obtain⟨z1,z2⟩:=e4
  obtain⟨u1,u2⟩:=l1
  have kv:=mnn k0 v0
  have kvw:=mnn kv (llt w0)
  have kw:=mnn k0 (llt w0)
  have kvm:=mnn kv m0
  have kvmw:k*v*m*w≤k*v*m*1:=mll wl kvm
  constructor
  · intro hc hm
    have q0:=q1 hc
    have n1:=mnn kw (mnn q0 (show 0≤cc+v*s by grind))
    have n2:=mll hm kvw
    rw[id]
    grind
  · intro hc hm
    have q0:=q2 hc
    have n1:=mnn kw (mnn (show 0≤ -Q by grind) (show 0≤cc+v*s by grind))
    have n2:=mll hm kvw
    have id3:(v+k)*C' - S'= -(S' - (v+k)*C'):=by grind
    rw[id3,id]
    grind
theorem gron {K:Rat→Rat} {h d:Rat} {m:Nat} (h0:0≤h) (d0:0≤d) (z:K 0≤0) (hm:h*(m:Rat)≤1 / 4)
    (st:∀i:Nat,i < m→∀b,0≤b→K (h*(i:Rat))≤b→K (h*(i:Rat)+h)≤b+h*(h*(i:Rat))*b+d):∀i:Nat,i≤m→K (h*(i:Rat))≤2*((i:Rat)*d)
  | 0,_=>by
    rw[show((0:Nat):Rat)=0 from rfl,Rat.mul_zero,Rat.zero_mul,Rat.mul_zero]
    exact z
  | i+1,hi=>by
    have ih:=gron h0 d0 z hm st i (by omega)
    have e:((i+1:Nat):Rat)=(i:Rat)+1:=by push_cast;rfl
    have i0:(0:Rat)≤(i:Rat):=by exact_mod_cast Nat.zero_le i
    have il:(i:Rat)≤(m:Rat):=by exact_mod_cast (show i≤m by omega)
    have s:=st i (by omega) (2*((i:Rat)*d)) (by have:=mnn i0 d0;grind) ih
    have e2:h*((i:Rat)+1)=h*(i:Rat)+h:=by grind
    rw[e,e2]
    have hi0:=mnn h0 i0
    have hil:=mll il h0
    have q:=(Ab.mul (⟨by grind,by grind⟩:Ab (h*(i:Rat)) (1 / 4)) (⟨by grind,by grind⟩:Ab (h*(i:Rat)) (1 / 4))).2
    have q2:=mlr q d0
    have e3:h*(h*(i:Rat))*(2*((i:Rat)*d))=2*(h*(i:Rat)*(h*(i:Rat))*d):=by grind
    rw[e3] at s
    grind
theorem Gw {V:Rat} (V0:0≤V) (V1:V≤1 / 4):sNN (-1) (gA false V) - V*cNN (-1) (gA false V)≤eps∧V*cNN (-1) (gA true V) - sNN (-1) (gA true V)≤eps:=by
  have T0:=T_num.1
  have Te:=T_num.2.1
  have g0:∀c,gA c 0=0:=fun c=>by rw[←gA_eq,Rat.zero_mul]
  have main:∀N:Nat,sNN (-1) (gA false V) - V*cNN (-1) (gA false V)≤2000*((N+1:Nat):Rat)⁻¹+10*trm 4 360∧V*cNN (-1) (gA true V) - sNN (-1) (gA true V)≤2000*((N+1:Nat):Rat)⁻¹+10*trm 4 360:=by
    intro N
    obtain⟨c0,ci,cl,_,_⟩:=k_inv N
    have h0:0≤V*((N+1:Nat):Rat)⁻¹:=mnn V0 (llt c0)
    have ea:V*((N+1:Nat):Rat)⁻¹*((N+1:Nat):Rat)=V:=by grind
    have d0:0≤4000*(V*((N+1:Nat):Rat)⁻¹*(V*((N+1:Nat):Rat)⁻¹))+20*(V*((N+1:Nat):Rat)⁻¹*trm 4 360):=by
      have a:=cG (V*((N+1:Nat):Rat)⁻¹)
      have b:=mnn h0 (llt T0)
      grind
    have rng:∀i,i < N+1→0≤V*((N+1:Nat):Rat)⁻¹*(i:Rat)∧V*((N+1:Nat):Rat)⁻¹*(i:Rat)+V*((N+1:Nat):Rat)⁻¹≤1 / 4:=fun i hi=>by
      have i0:(0:Rat)≤(i:Rat):=by exact_mod_cast Nat.zero_le i
      have il:(i:Rat)+1≤((N+1:Nat):Rat):=by exact_mod_cast hi
      have m:=mll il h0
      rw[ea] at m
      exact⟨mnn h0 i0,by grind⟩
    have k1:=gron (K:=fun t=>sNN (-1) (gA false t) - t*cNN (-1) (gA false t)) h0 d0 (by show sNN (-1) (gA false 0) - 0*_≤0;rw[g0,(rG _).2];grind) (by rw[ea];exact V1) (fun i hi b b0 hb=>by
      obtain⟨r0,r1⟩:=rng i hi
      exact(CO false r0 h0 r1 b0).1 rfl hb) (N+1) (Nat.le_refl _)
    have k2:=gron (K:=fun t=>t*cNN (-1) (gA true t) - sNN (-1) (gA true t)) h0 d0 (by show 0*_ - sNN (-1) (gA true 0)≤0;rw[g0,(rG _).2];grind) (by rw[ea];exact V1) (fun i hi b b0 hb=>by
      obtain⟨r0,r1⟩:=rng i hi
      exact(CO true r0 h0 r1 b0).2 rfl hb) (N+1) (Nat.le_refl _)
    rw[ea] at k1 k2
    have ed:2*(((N+1:Nat):Rat)*(4000*(V*((N+1:Nat):Rat)⁻¹*(V*((N+1:Nat):Rat)⁻¹))+20*(V*((N+1:Nat):Rat)⁻¹*trm 4 360)))≤2000*((N+1:Nat):Rat)⁻¹+10*trm 4 360:=by
      have vv:=(Ab.mul (⟨by grind,V1⟩:Ab V (1 / 4)) (⟨by grind,V1⟩:Ab V (1 / 4))).2
      have q:=mlr vv (llt c0)
      have q2:=mlr V1 (llt T0)
      generalize((N+1:Nat):Rat)⁻¹=c at*
      generalize((N+1:Nat):Rat)=n at*
      have:2*(n*(4000*(V*c*(V*c))+20*(V*c*trm 4 360)))=8000*(V*V*c*(n*c))+40*(V*trm 4 360*(n*c)):=by grind
      rw[this,ci]
      grind
    exact⟨Rat.le_trans k1 ed,Rat.le_trans k2 ed⟩
  have h1:=pZ (y:=2000) fun N=>(main N).1
  have h2:=pZ (y:=2000) fun N=>(main N).2
  exact⟨by grind,by grind⟩
end Go.Q
namespace Go.Q
set_option maxRecDepth 100000
set_option maxHeartbeats 4000000
theorem dbl_t {a v t d:Rat} (a0:0≤a) (a1:a≤1) (v0:0≤v) (v1:v≤1) (t0:0≤t) (t1:t≤1) (d0:0≤d) (d1:d≤1):
    (2*v≤t*(1 - v*v)→sNN (-1) a - v*cNN (-1) a≤d→sNN (-1) (a+a) - t*cNN (-1) (a+a)≤8*d+4*eps)∧
    (t*(1 - v*v)≤2*v→v*cNN (-1) a - sNN (-1) a≤d→t*cNN (-1) (a+a) - sNN (-1) (a+a)≤8*d+4*eps):=by
  obtain⟨s1,s2,c1,c2⟩:=sc_bd a0 a1
  have ha:Ab a 2:=⟨by grind,by grind⟩
  obtain⟨n1,n2⟩:=N_add nq1 ha ha
  obtain⟨e0,e1,_⟩:=ep_num
  have n3:=n2.mul (⟨by grind,t1⟩:Ab t 1)
  generalize sNN (-1) (a+a)=S2 at*
  generalize cNN (-1) (a+a)=C2 at*
  generalize sNN (-1) a=S at*
  generalize cNN (-1) a=C at*
  generalize eps=e at*
  have id:S2 - t*C2=2*(S*C) - t*(C*C)+t*(S*S) - (S*C+C*S - S2)+(C*C+ -1*(S*S) - C2)*t:=by grind
  have id2:t*C2 - S2= -(S2 - t*C2):=by grind
  obtain⟨n1,n1'⟩:=n1
  obtain⟨n3,n3'⟩:=n3
  have CC:=cG C
  have CC1:C*C≤1:=mZ ⟨by grind,c2⟩
  have vC:0≤v*C:=mnn v0 (by grind)
  have vC1:v*C≤1*C:=mlr v1 (by grind)
  have S0:0≤S:=by grind
  have C0:0≤C:=by grind
  constructor
  · intro h k
    have m1:=mlr (show S≤v*C+d by grind) C0
    have m2:=mll (show S≤v*C+d by grind) S0
    have m3:=mlr (show S≤v*C+d by grind) (show 0≤v*C+d by grind)
    have m4:=mll (Rat.le_trans m2 (by rw[Rat.mul_comm];exact Rat.le_trans (mll (show S≤v*C+d by grind) (show 0≤v*C+d by grind)) Rat.le_refl)) t0
    have m5:=mlr h CC
    have dC:=mll c2 d0
    have dvC:=mll (show v*C≤1 by grind) d0
    have dd:=mll d1 d0
    have q:t*((v*C+d)*(v*C+d))≤t*(v*v*(C*C))+3*d:=by
      have e:t*((v*C+d)*(v*C+d))=t*(v*v*(C*C))+t*(2*(d*(v*C))+d*d):=by grind
      have:=mlr t1 (show 0≤2*(d*(v*C))+d*d by have:=mnn d0 vC;have:=cG d;grind)
      grind
    rw[id]
    grind
  · intro h k
    have m1:=mlr (show v*C - d≤S by grind) C0
    have m5:=mlr h CC
    have dC:=mll c2 d0
    have dvC:=mll (show v*C≤1 by grind) d0
    have q:v*v*(C*C) - 2*d≤S*S:=by
      by_cases hS:v*C≤S
      · have:=(mll hS vC)
        have:=(mlr hS S0)
        have:=mnn d0 vC
        grind
      · have p:=mnn (show 0≤v*C - S by grind) (show 0≤v*C+S by grind)
        have p2:=mlr (show v*C - S≤d by grind) (show 0≤v*C+S by grind)
        have p3:=mll (show v*C+S≤2 by grind) d0
        grind
    have q2:=mll q t0
    have q3:=mll t1 d0
    rw[id2,id]
    grind
theorem hv_alg {v t r:Rat} (v0:0≤v) (t0:0≤t) (r0:0≤r):(v*(1+r)≤t→1+t*t≤r*r→2*v≤t*(1 - v*v))∧(t≤v*(1+r)→r*r≤1+t*t→t*(1 - v*v)≤2*v):=by
  have p:0 < (1+r)*(1+r):=Rat.mul_pos (by grind) (by grind)
  have x0:=mnn v0 (show 0≤1+r by grind)
  constructor
  · intro h k
    refine lmm (c:=(1+r)*(1+r)) ?_ p
    have e1:2*v*((1+r)*(1+r))=2*(v*(1+r))*(1+r):=by grind
    have e2:t*(1 - v*v)*((1+r)*(1+r))=t*((1+r)*(1+r)) - t*(v*(1+r)*(v*(1+r))):=by grind
    rw[e1,e2]
    generalize v*(1+r)=x at*
    have m1:=mlr h (show 0≤1+r by grind)
    have m2:=mlr h x0
    have m3:=mll h t0
    have m4:=mll (Rat.le_trans m2 m3) t0
    have m5:=mll k t0
    grind
  · intro h k
    refine lmm (c:=(1+r)*(1+r)) ?_ p
    have e1:2*v*((1+r)*(1+r))=2*(v*(1+r))*(1+r):=by grind
    have e2:t*(1 - v*v)*((1+r)*(1+r))=t*((1+r)*(1+r)) - t*(v*(1+r)*(v*(1+r))):=by grind
    rw[e1,e2]
    generalize v*(1+r)=x at*
    have m1:=mlr h (show 0≤1+r by grind)
    have m2:=mll h t0
    have m3:=mlr h x0
    have m4:=mll (Rat.le_trans m2 m3) t0
    have m5:=mll k t0
    grind
theorem as_alg {v s r:Rat} (v0:0≤v) (s0:0≤s) (s1:s≤1) (r0:0≤r):(v*(1+r)≤s→1 - s*s≤r*r→2*v≤s*(1+v*v))∧(s≤v*(1+r)→v≤1→r*r≤1 - s*s→s*(1+v*v)≤2*v):=by
  have p:0 < (1+r)*(1+r):=Rat.mul_pos (by grind) (by grind)
  have x0:=mnn v0 (show 0≤1+r by grind)
  have ss:s*s≤1:=mZ ⟨by grind,s1⟩
  constructor
  · intro h k
    refine lmm (c:=(1+r)*(1+r)) ?_ p
    have e1:2*v*((1+r)*(1+r))=2*(v*(1+r))*(1+r):=by grind
    have e2:s*(1+v*v)*((1+r)*(1+r))=s*((1+r)*(1+r))+s*(v*(1+r)*(v*(1+r))):=by grind
    rw[e1,e2]
    generalize v*(1+r)=x at*
    have sx:=mll h s0
    have m1:=mnn (show 0≤s - x by grind) (show 0≤2*(1+r) - (s*s+s*x) by grind)
    have m5:=mll k s0
    grind
  · intro h v1 k
    refine lmm (c:=(1+r)*(1+r)) ?_ p
    have e1:2*v*((1+r)*(1+r))=2*(v*(1+r))*(1+r):=by grind
    have e2:s*(1+v*v)*((1+r)*(1+r))=s*((1+r)*(1+r))+s*(v*(1+r)*(v*(1+r))):=by grind
    have xl:=mlr v1 (show 0≤1+r by grind)
    rw[e1,e2]
    generalize v*(1+r)=x at*
    have sx:=mlr s1 x0
    have m1:=mnn (show 0≤x - s by grind) (show 0≤2*(1+r) - (s*s+s*x) by grind)
    have m5:=mll k s0
    grind
theorem hvL_q (a w:Nat):2*((hvL a w:Rat) / ((2^w:Nat):Rat))≤(a:Rat) / ((2^w:Nat):Rat)*(1 - (hvL a w:Rat) / ((2^w:Nat):Rat)*((hvL a w:Rat) / ((2^w:Nat):Rat))):=by
  have r1:=wC (2^(2*w)+a*a)
  have U0:=u_pos w
  have c1:=Nat.div_mul_le_self (a*2^w) (2^w+rtUp (2^(2*w)+a*a))
  have ev:hvL a w=a*2^w / (2^w+rtUp (2^(2*w)+a*a)):=rfl
  rw[←ev] at c1
  have e1:2^(2*w)=2^w*2^w:=by rw[Nat.two_mul,Nat.pow_add]
  generalize rtUp (2^(2*w)+a*a)=R at*
  generalize hvL a w=m at*
  rw[e1] at r1
  have c1:(m:Rat)*(((2^w:Nat):Rat)+(R:Rat))≤(a:Rat)*((2^w:Nat):Rat):=by rw[←Rat.natCast_add,←Rat.natCast_mul,←Rat.natCast_mul];exact Rat.natCast_le_natCast.2 c1
  have r1:((2^w:Nat):Rat)*((2^w:Nat):Rat)+(a:Rat)*(a:Rat)≤(R:Rat)*(R:Rat):=by rw[←Rat.natCast_mul,←Rat.natCast_mul,←Rat.natCast_mul,←Rat.natCast_add];exact Rat.natCast_le_natCast.2 r1
  have n0:∀n:Nat,(0:Rat)≤(n:Rat):=fun n=>by exact_mod_cast Nat.zero_le n
  have m0:=n0 m
  have a0:=n0 a
  have R0:=n0 R
  generalize((2^w:Nat):Rat)=U at*
  have i:=Rat.mul_inv_cancel U (by grind)
  have I0:=Rat.inv_pos.2 U0
  rw[Rat.div_def,Rat.div_def]
  generalize U⁻¹=I at*
  have II:=mnn (llt I0) (llt I0)
  refine(hv_alg (r:=(R:Rat)*I) (mnn m0 (llt I0)) (mnn a0 (llt I0)) (mnn R0 (llt I0))).1 ?_ ?_
  · have e:(m:Rat)*I*(1+(R:Rat)*I)=(m:Rat)*(U+(R:Rat))*(I*I)+(m:Rat)*I*(1 - U*I):=by grind
    have e2:(a:Rat)*I=(a:Rat)*U*(I*I)+(a:Rat)*I*(1 - U*I):=by grind
    rw[e,e2,i]
    have:=mlr c1 II
    grind
  · have e:1+(a:Rat)*I*((a:Rat)*I)=(U*U+(a:Rat)*(a:Rat))*(I*I)+(1 - (U*I)*(U*I)):=by grind
    have e2:(R:Rat)*I*((R:Rat)*I)=(R:Rat)*(R:Rat)*(I*I):=by grind
    rw[e,e2,i]
    have:=mlr r1 II
    grind
theorem hvH_q (a w:Nat):(a:Rat) / ((2^w:Nat):Rat)*(1 - (hvH a w:Rat) / ((2^w:Nat):Rat)*((hvH a w:Rat) / ((2^w:Nat):Rat)))≤2*((hvH a w:Rat) / ((2^w:Nat):Rat)):=by
  have r1:=jS (n:=2) (a:=2^(2*w)+a*a) (by decide)
  have U0:=u_pos w
  have un:=Nat.pos_of_ne_zero (am w)
  have c1:a*2^w≤(2^w+irt 2 (2^(2*w)+a*a))*cdiv (a*2^w) (2^w+irt 2 (2^(2*w)+a*a)):=(az (by omega)).1 (Nat.le_refl _)
  have ev:hvH a w=cdiv (a*2^w) (2^w+irt 2 (2^(2*w)+a*a)):=rfl
  rw[←ev] at c1
  have e1:2^(2*w)=2^w*2^w:=by rw[Nat.two_mul,Nat.pow_add]
  rw[Nat.pow_two] at r1
  generalize irt 2 (2^(2*w)+a*a)=R at*
  generalize hvH a w=m at*
  rw[e1] at r1
  have c1:(a:Rat)*((2^w:Nat):Rat)≤(((2^w:Nat):Rat)+(R:Rat))*(m:Rat):=by rw[←Rat.natCast_add,←Rat.natCast_mul,←Rat.natCast_mul];exact Rat.natCast_le_natCast.2 c1
  have r1:(R:Rat)*(R:Rat)≤((2^w:Nat):Rat)*((2^w:Nat):Rat)+(a:Rat)*(a:Rat):=by rw[←Rat.natCast_mul,←Rat.natCast_mul,←Rat.natCast_mul,←Rat.natCast_add];exact Rat.natCast_le_natCast.2 r1
  have n0:∀n:Nat,(0:Rat)≤(n:Rat):=fun n=>by exact_mod_cast Nat.zero_le n
  have m0:=n0 m
  have a0:=n0 a
  have R0:=n0 R
  generalize((2^w:Nat):Rat)=U at*
  have i:=Rat.mul_inv_cancel U (by grind)
  have I0:=Rat.inv_pos.2 U0
  rw[Rat.div_def,Rat.div_def]
  generalize U⁻¹=I at*
  have II:=mnn (llt I0) (llt I0)
  refine(hv_alg (r:=(R:Rat)*I) (mnn m0 (llt I0)) (mnn a0 (llt I0)) (mnn R0 (llt I0))).2 ?_ ?_
  · have e:(m:Rat)*I*(1+(R:Rat)*I)=(U+(R:Rat))*(m:Rat)*(I*I)+(m:Rat)*I*(1 - U*I):=by grind
    have e2:(a:Rat)*I=(a:Rat)*U*(I*I)+(a:Rat)*I*(1 - U*I):=by grind
    rw[e,e2,i]
    have:=mlr c1 II
    grind
  · have e:1+(a:Rat)*I*((a:Rat)*I)=(U*U+(a:Rat)*(a:Rat))*(I*I)+(1 - (U*I)*(U*I)):=by grind
    have e2:(R:Rat)*I*((R:Rat)*I)=(R:Rat)*(R:Rat)*(I*I):=by grind
    rw[e,e2,i]
    have:=mlr r1 II
    grind
theorem gr_bd {a b w:Nat} (h:a*b≤2^w):0≤(a:Rat) / ((2^w:Nat):Rat)∧(a:Rat) / ((2^w:Nat):Rat)*(b:Rat)≤1:=by
  have U0:=u_pos w
  have h:(a:Rat)*(b:Rat)≤((2^w:Nat):Rat):=by rw[←Rat.natCast_mul];exact Rat.natCast_le_natCast.2 h
  have a0:(0:Rat)≤(a:Rat):=by exact_mod_cast Nat.zero_le a
  rw[Rat.div_def]
  generalize((2^w:Nat):Rat)=U at*
  have i:=Rat.mul_inv_cancel U (by grind)
  have I0:=Rat.inv_pos.2 U0
  have:=mlr h (llt I0)
  rw[i] at this
  exact⟨mnn a0 (llt I0),by grind⟩
theorem an_lo {a b w:Nat} (hw:20≤w) (h:a≤b) (hb:b≤2^w):∃y,0≤y∧y≤1 / 5∧((anL a b w:Nat):Rat)≤4*y*((2^w:Nat):Rat)∧sNN (-1) (4*y) - (a:Rat) / ((2^w:Nat):Rat)*cNN (-1) (4*y)≤100*eps:=by
  have o:=dN (w:=w) (dN (w:=w) h)
  have ob:hvH (hvH b w) w≤2^w:=Nat.le_trans (dk _ w) (Nat.le_trans (dk _ w) hb)
  have k:=(nQ hw (Nat.le_refl (hvL (hvL a w) w)) o ob).1
  rw[gA_eq] at k
  have q1:=hvL_q a w
  have q2:=hvL_q (hvL a w) w
  obtain⟨t0,t1⟩:=gr_bd (a:=a) (b:=1) (w:=w) (by omega)
  obtain⟨v0,v1⟩:=gr_bd (a:=hvL a w) (b:=1) (w:=w) (by have:=rX a w;omega)
  obtain⟨u0,u1⟩:=gr_bd (a:=hvL (hvL a w) w) (b:=1) (w:=w) (by have:=rX a w;have:=rX (hvL a w) w;omega)
  rw[show((1:Nat):Rat)=1 from rfl,Rat.mul_one] at t1 v1 u1
  have ea:((anL a b w:Nat):Rat)=((arcL (hvL (hvL a w) w) (hvH (hvH b w) w) w:Nat):Rat)*4:=by unfold anL;rw[Rat.natCast_mul];rfl
  rw[ea]
  generalize((arcL (hvL (hvL a w) w) (hvH (hvH b w) w) w:Nat):Rat)=L at*
  generalize(hvL (hvL a w) w:Rat) / ((2^w:Nat):Rat)=u at*
  generalize(hvL a w:Rat) / ((2^w:Nat):Rat)=v at*
  generalize(a:Rat) / ((2^w:Nat):Rat)=t at*
  have vb:v≤5 / 12:=by
    refine Rat.not_lt.1 fun c=>?_
    have vv:=mll (llt c) v0
    have:=mlr t1 (show 0≤1 - v*v by have:=mZ (t:=v) ⟨by grind,v1⟩;grind)
    grind
  have ub:u≤1 / 5:=by
    refine Rat.not_lt.1 fun c=>?_
    have vv:=mll (llt c) u0
    have:=mlr vb (show 0≤1 - u*u by have:=mZ (t:=u) ⟨by grind,u1⟩;grind)
    grind
  obtain⟨g0,g1⟩:=gA_bd false u0 (show u≤1 / 4 by grind)
  have A:=(Gw u0 (show u≤1 / 4 by grind)).1
  generalize gA false u=y at*
  obtain⟨e0,e1,_⟩:=ep_num
  have B:=(dbl_t g0 (by grind) u0 u1 v0 v1 (llt e0) (by grind)).1 q2 A
  have D:=(dbl_t (a:=y+y) (by grind) (by grind) v0 v1 t0 t1 (show 0≤8*eps+4*eps by grind) (by grind)).1 q1 B
  have e4:y+y+(y+y)=4*y:=by grind
  rw[e4] at D
  exact⟨y,g0,by grind,by grind,by grind⟩
theorem an_up {a b w:Nat} (hw:20≤w) (h:a≤b) (hb:b≤2^w):∃y,0≤y∧y≤1 / 4∧4*y*((2^w:Nat):Rat)≤((anH a b w:Nat):Rat)∧(b:Rat) / ((2^w:Nat):Rat)*cNN (-1) (4*y) - sNN (-1) (4*y)≤100*eps:=by
  have o:=dN (w:=w) (dN (w:=w) h)
  have ob:hvH (hvH b w) w≤2^w:=Nat.le_trans (dk _ w) (Nat.le_trans (dk _ w) hb)
  have k:=(nQ hw o (Nat.le_refl (hvH (hvH b w) w)) ob).2
  rw[gA_eq] at k
  have q1:=hvH_q b w
  have q2:=hvH_q (hvH b w) w
  have p2:2^w=2*(2*2^(w - 2)):=by
    have:w=w - 2+1+1:=by omega
    rw[this,Nat.pow_succ,Nat.pow_succ,show w - 2+1+1 - 2=w - 2 by omega];omega
  have x1:hvH b w≤2*2^(w - 2):=tg (by omega)
  have x2:hvH (hvH b w) w≤2^(w - 2):=tg x1
  obtain⟨t0,t1⟩:=gr_bd (a:=b) (b:=1) (w:=w) (by omega)
  obtain⟨v0,v1⟩:=gr_bd (a:=hvH b w) (b:=2) (w:=w) (by omega)
  obtain⟨u0,u1⟩:=gr_bd (a:=hvH (hvH b w) w) (b:=4) (w:=w) (by omega)
  rw[show((1:Nat):Rat)=1 from rfl,Rat.mul_one] at t1
  rw[show((2:Nat):Rat)=2 from rfl] at v1
  rw[show((4:Nat):Rat)=4 from rfl] at u1
  have ea:((anH a b w:Nat):Rat)=((arcH (hvL (hvL a w) w) (hvH (hvH b w) w) w:Nat):Rat)*4:=by unfold anH;rw[Rat.natCast_mul];rfl
  rw[ea]
  generalize((arcH (hvL (hvL a w) w) (hvH (hvH b w) w) w:Nat):Rat)=L at*
  generalize(hvH (hvH b w) w:Rat) / ((2^w:Nat):Rat)=u at*
  generalize(hvH b w:Rat) / ((2^w:Nat):Rat)=v at*
  generalize(b:Rat) / ((2^w:Nat):Rat)=t at*
  obtain⟨g0,g1⟩:=gA_bd true u0 (show u≤1 / 4 by grind)
  have A:=(Gw u0 (show u≤1 / 4 by grind)).2
  generalize gA true u=y at*
  obtain⟨e0,e1,_⟩:=ep_num
  have B:=(dbl_t g0 (by grind) u0 (by grind) v0 (by grind) (llt e0) (by grind)).2 q2 A
  have D:=(dbl_t (a:=y+y) (by grind) (by grind) v0 (by grind) t0 t1 (show 0≤8*eps+4*eps by grind) (by grind)).2 q1 B
  have e4:y+y+(y+y)=4*y:=by grind
  rw[e4] at D
  exact⟨y,g0,by grind,by grind,by grind⟩
end Go.Q
namespace Go.Q
set_option maxRecDepth 100000
set_option maxHeartbeats 4000000
theorem qm {t:Rat} (h0:0≤t) (h2:t≤2):5 / 12*t - eps≤sNN (-1) t:=by
  obtain⟨s1,s2,c1,c2⟩:=sc_bd (t:=t*(1 / 2)) (by grind) (by grind)
  have ha:Ab (t*(1 / 2)) 2:=⟨by grind,by grind⟩
  obtain⟨n1,_⟩:=N_add nq1 ha ha
  rw[show t*(1 / 2)+t*(1 / 2)=t by grind] at n1
  generalize sNN (-1) (t*(1 / 2))=S at*
  generalize cNN (-1) (t*(1 / 2))=C at*
  have m1:=mll c1 (show 0≤S by grind)
  have:=n1.2
  grind
theorem uC {x:Rat} (h0:0≤x) (h2:x≤155 / 100):1 / 200≤cNN (-1) x:=by
  obtain⟨e0,e1,_,q1,q2⟩:=ep_num
  have k:=qm (t:=qtR - x) (by grind) (by grind)
  have r:=(uM (r:=x - qtR) ⟨by grind,by grind⟩).2
  rw[show x - qtR+qtR=x by grind,show x - qtR= -(qtR - x) by grind,(ft _).1] at r
  have:=r.1
  grind
theorem sn_cmp {y x d:Rat} (x0:0≤x) (x1:x≤3 / 2) (y1:y≤8 / 5) (h:sNN (-1) y≤sNN (-1) x+d) (d0:0≤d):y≤x+240*(d+2*eps):=by
  obtain⟨e0,e1,_⟩:=ep_num
  by_cases hy:y≤x
  · grind
  have hM:=uC (x:=(y+x)*(1 / 2)) (by grind) (by grind)
  obtain⟨s1,s2,_,_⟩:=sc_bd (t:=(y - x)*(1 / 2)) (by grind) (by grind)
  have n1:=(N_add nq1 (a:=(y+x)*(1 / 2)) (b:=(y - x)*(1 / 2)) ⟨by grind,by grind⟩ ⟨by grind,by grind⟩).1
  have n2:=(N_add nq1 (a:=(y+x)*(1 / 2)) (b:=-((y - x)*(1 / 2))) ⟨by grind,by grind⟩ ⟨by grind,by grind⟩).1
  rw[show(y+x)*(1 / 2)+(y - x)*(1 / 2)=y by grind] at n1
  rw[show(y+x)*(1 / 2)+ -((y - x)*(1 / 2))=x by grind,(ft _).1,(ft _).2] at n2
  generalize cNN (-1) ((y+x)*(1 / 2))=C at*
  generalize sNN (-1) ((y+x)*(1 / 2))=S at*
  generalize cNN (-1) ((y - x)*(1 / 2))=c at*
  generalize sNN (-1) ((y - x)*(1 / 2))=s at*
  have m:=mlr hM (show 0≤s by grind)
  obtain⟨a1,a2⟩:=n1
  obtain⟨b1,b2⟩:=n2
  grind
theorem dbl_s {a v s d:Rat} (a0:0≤a) (a1:a≤1) (v0:0≤v) (v1:v≤1) (d0:0≤d) (d1:d≤1):
    (2*v≤s*(1+v*v)→sNN (-1) a - v*cNN (-1) a≤d→sNN (-1) (a+a)≤s+8*d+8*eps)∧
    (s*(1+v*v)≤2*v→v*cNN (-1) a - sNN (-1) a≤d→sNN (-1) a≤cNN (-1) a→s≤sNN (-1) (a+a)+8*d+8*eps):=by
  obtain⟨s1,s2,c1,c2⟩:=sc_bd a0 a1
  have ha:Ab a 2:=⟨by grind,by grind⟩
  have n1:=(N_add nq1 ha ha).1
  have n2:=CB ha
  obtain⟨e0,e1,_⟩:=ep_num
  generalize sNN (-1) (a+a)=S2 at*
  generalize sNN (-1) a=S at*
  generalize cNN (-1) a=C at*
  generalize eps=e at*
  have vv0:=cG v
  have vv1:v*v≤1:=mZ ⟨by grind,v1⟩
  have p:0 < 1+v*v:=by grind
  have id:2*(S*C)*(1+v*v)=2*(v*(S*S+C*C))+2*((S - v*C)*(C - v*S)):=by grind
  obtain⟨n1,n1'⟩:=n1
  obtain⟨n2,n2'⟩:=n2
  have vc0:0≤v*C:=mnn v0 (by grind)
  have vc1:v*C≤1*C:=mlr v1 (by grind)
  have vs0:0≤v*S:=mnn v0 (by grind)
  have vs1:v*S≤1*S:=mlr v1 (by grind)
  have k1:=mll (show S*S+C*C≤1+e by grind) v0
  have k2:=mll (show 1 - e≤S*S+C*C by grind) v0
  have ve:=mlr v1 (llt e0)
  have w1:=mnn vv0 (llt e0)
  have w2:=mnn vv0 d0
  constructor
  · intro h k
    have key:(S - v*C)*(C - v*S)≤2*d:=by
      by_cases hc:0≤C - v*S
      · have m1:=mlr k hc
        have m2:=mll (show C - v*S≤1 by grind) d0
        grind
      · have m1:=mlr (show v*C - S≤1 by grind) (show 0≤v*S - C by grind)
        grind
    refine lmm (c:=1+v*v) ?_ p
    have q:=mlr (show S2≤2*(S*C)+e by grind) (llt p)
    grind
  · intro h k hsc
    have key: -(2*d)≤(S - v*C)*(C - v*S):=by
      have hc:0≤C - v*S:=by grind
      have m1:=mlr k hc
      have m2:=mll (show C - v*S≤1 by grind) d0
      grind
    refine lmm (c:=1+v*v) ?_ p
    have q:=mlr (show 2*(S*C) - e≤S2 by grind) (llt p)
    grind
theorem v_N {x:Rat} {k:Int} (h:Ab x (3 / 2)) (hr:Ab (x - (k:Rat)*qtR) 1):Ab (vS k (x - (k:Rat)*qtR) - sNN (-1) x) (121*eps)∧Ab (vC k (x - (k:Rat)*qtR) - cNN (-1) x) (121*eps):=by
  obtain⟨e0,e1,_,q1,q2⟩:=ep_num
  have hx:=h
  obtain⟨h0,h1⟩:=h
  have k1:k=0∨k=1∨k= -1:=by
    obtain⟨a,b⟩:=hr
    have: -2 < k:=by
      refine Decidable.byContradiction fun c=>?_
      have:(k:Rat)≤((-2:Int):Rat):=Rat.intCast_le_intCast.2 (by omega)
      have:=mlr this (show 0≤qtR by grind)
      rw[show((-2:Int):Rat)= -2 from rfl] at this
      grind
    have:k < 2:=by
      refine Decidable.byContradiction fun c=>?_
      have:((2:Int):Rat)≤(k:Rat):=Rat.intCast_le_intCast.2 (by omega)
      have:=mlr this (show 0≤qtR by grind)
      rw[show((2:Int):Rat)=2 from rfl] at this
      grind
    omega
  rcases k1 with rfl |rfl |rfl
  · have e:x - ((0:Int):Rat)*qtR=x:=by rw[show((0:Int):Rat)=0 from rfl];grind
    rw[e]
    have z:∀u:Rat,u - u=0:=fun u=>by grind
    show Ab (sNN (-1) x - sNN (-1) x) _∧Ab (cNN (-1) x - cNN (-1) x) _
    rw[z,z]
    exact⟨Ab.zero (by grind),Ab.zero (by grind)⟩
  · have e:x - ((1:Int):Rat)*qtR=x - qtR:=by rw[show((1:Int):Rat)=1 from rfl];grind
    rw[e] at hr ⊢
    obtain⟨a,b⟩:=uM (hr.le (show(1:Rat)≤2 by decide))
    rw[show x - qtR+qtR=x by grind] at a b
    show Ab (cNN (-1) (x - qtR) - sNN (-1) x) _∧Ab (-sNN (-1) (x - qtR) - cNN (-1) x) _
    exact⟨cf a.neg (by grind),cf b.neg (by grind)⟩
  · have e:x - ((-1:Int):Rat)*qtR=x+qtR:=by rw[show((-1:Int):Rat)= -1 from rfl];grind
    rw[e] at hr ⊢
    obtain⟨a,b⟩:=uM (hx.le (show(3 / 2:Rat)≤2 by decide+kernel))
    show Ab (-cNN (-1) (x+qtR) - sNN (-1) x) _∧Ab (sNN (-1) (x+qtR) - cNN (-1) x) _
    exact⟨cf b.neg (by grind),a⟩
end Go.Q
namespace Go.Q
set_option maxRecDepth 100000
set_option maxHeartbeats 4000000
end Go.Q
namespace Go.Q
set_option maxRecDepth 100000
set_option maxHeartbeats 4000000
theorem pt (n w:Nat):sgn false (n*2^1) (2^(w+1))=sgn false n (2^w)∧sgn false n (2^(w+1))*2=sgn false n (2^w):=by
  have e1:=sgn_u (n*2^1) (w+1)
  have e2:=sgn_u n w
  have e3:=sgn_u n (w+1)
  have u0:=u_pos w
  have eu:((2^(w+1):Nat):Rat)=((2^w:Nat):Rat)*2:=by rw[Nat.pow_succ,Rat.natCast_mul];rfl
  have en:((n*2^1:Nat):Rat)=(n:Rat)*2:=by rw[Rat.natCast_mul];rfl
  rw[eu] at e1 e3
  rw[en,←e2] at e1
  rw[←e2] at e3
  generalize sgn false (n*2^1) (2^(w+1))=a at*
  generalize sgn false n (2^(w+1))=b at*
  generalize sgn false n (2^w)=c at*
  generalize((2^w:Nat):Rat)=u at*
  have k1:(a - c)*u=0:=by grind
  have k2:(b*2 - c)*u=0:=by grind
  constructor
  · rcases Rat.mul_eq_zero.1 k1 with h |h<;>grind
  · rcases Rat.mul_eq_zero.1 k2 with h |h<;>grind
theorem AA {x:Rat} {p:Nat} (h:0 < x):fg x p≤sgn false (asL x (p+32)*2^1) (2^(p+32+1))∧sgn false (asU x (p+32)*2^1) (2^(p+32+1))≤dM x p:=by
  rw[(pt _ _).1,(pt _ _).1]
  unfold fg dM bkL bkH
  rw[decide_eq_false (bZ h).1,if_neg (by decide),if_neg (by decide)]
  exact⟨(p8 _ p).1,(p8 _ p).2⟩
theorem oh {x:Rat} (h:0 < x):(x⁻¹).num.natAbs=x.den∧(x⁻¹).den=x.num.natAbs∧0 < x⁻¹∧invQ x=x⁻¹∧invQ x⁻¹=x:=by
  have n0:=(bZ h).2
  have hn:x.num≠0:=by omega
  have e2:(x⁻¹).num.natAbs=x.den:=by rw[Rat.num_inv,Int.natAbs_mul,Int.natAbs_sign_of_ne_zero hn,Nat.one_mul,Int.natAbs_natCast]
  have e3:(x⁻¹).den=x.num.natAbs:=by rw[Rat.den_inv,if_neg hn]
  have hp:0 < x⁻¹:=Rat.inv_pos.2 h
  have hpn:=Rat.num_nonneg.2 (llt hp)
  have hxn:=Rat.num_nonneg.2 (llt h)
  refine⟨e2,e3,hp,?_,?_⟩
  · obtain⟨i1,i2⟩:=gC n0
    refine Rat.ext ?_ (by rw[i2,e3])
    rw[i1,←e2,Int.natAbs_of_nonneg hpn]
  · obtain⟨i1,i2⟩:=gC (x:=x⁻¹) (by rw[e2];exact x.den_nz)
    refine Rat.ext ?_ (by rw[i2,e2])
    rw[i1,e3,Int.natAbs_of_nonneg hxn]
theorem xF {x:Rat} {p:Nat} (h:0 < x):(x.den < x.num.natAbs→atLo x p≤sgn false (piL (p+32) - anH (glo (invQ x) (p+32)) (ghi (invQ x) (p+32)) (p+32)*2^1) (2^(p+32+1))∧sgn false (piH (p+32) - anL (glo (invQ x) (p+32)) (ghi (invQ x) (p+32)) (p+32)*2^1) (2^(p+32+1))≤atHi x p)∧(¬x.den < x.num.natAbs→atLo x p≤sgn false (anL (glo x (p+32)) (ghi x (p+32)) (p+32)*2^1) (2^(p+32+1))∧sgn false (anH (glo x (p+32)) (ghi x (p+32)) (p+32)*2^1) (2^(p+32+1))≤atHi x p):=by
  unfold atLo atHi bkL bkH
  rw[decide_eq_false (bZ h).1,if_neg (by decide),if_neg (by decide)]
  constructor
  · intro c
    unfold atA atB atK
    rw[if_pos c,if_pos c,if_pos c]
    exact⟨(mK _ p).1,(mK _ p).2⟩
  · intro c
    unfold atA atB atK
    rw[if_neg c,if_neg c,if_neg c,(pt _ _).1,(pt _ _).1]
    exact⟨(p8 _ p).1,(p8 _ p).2⟩
end Go.Q
namespace Go.Q
set_option maxRecDepth 100000
set_option maxHeartbeats 4000000
theorem gr_le {n w:Nat} {x:Rat}:((n:Rat)≤x*((2^w:Nat):Rat)→(n:Rat) / ((2^w:Nat):Rat)≤x)∧(x*((2^w:Nat):Rat)≤(n:Rat)→x≤(n:Rat) / ((2^w:Nat):Rat)):=by
  have U0:=u_pos w
  rw[Rat.div_def]
  generalize((2^w:Nat):Rat)=U at*
  have i:=Rat.mul_inv_cancel U (by grind)
  have I0:=llt (Rat.inv_pos.2 U0)
  generalize U⁻¹=I at*
  constructor
  · intro h
    have:=mlr h I0
    rw[Rat.mul_assoc,i,Rat.mul_one] at this
    exact this
  · intro h
    have:=mlr h I0
    rw[Rat.mul_assoc,i,Rat.mul_one] at this
    exact this
theorem g_in0 {x:Rat} (h:0≤x) (w:Nat):((glo x w:Nat):Rat) / ((2^w:Nat):Rat)≤x∧x≤((ghi x w:Nat):Rat) / ((2^w:Nat):Rat):=by
  obtain⟨g1,g2⟩:=g_in x w
  by_cases x0:x=0
  · subst x0
    have e:((0:Rat).num.natAbs:Rat)*((0:Rat).den:Rat)⁻¹=0:=by decide+kernel
    rw[e] at g1 g2
    exact⟨gr_le.1 g1,gr_le.2 g2⟩
  · rw[Fz (by grind)] at g1 g2
    exact⟨gr_le.1 g1,gr_le.2 g2⟩
theorem sgn_4 {n w:Nat} {y:Rat}:((n:Rat)≤4*y*((2^w:Nat):Rat)→sgn false (n*2^1) (2^(w+1))≤4*y)∧(4*y*((2^w:Nat):Rat)≤(n:Rat)→4*y≤sgn false (n*2^1) (2^(w+1))):=by
  have e:=sgn_u (n*2^1) (w+1)
  have U0:=u_pos w
  have e2:((2^(w+1):Nat):Rat)=((2^w:Nat):Rat)*2:=by rw[Nat.pow_succ,Rat.natCast_mul];rfl
  rw[e2,Rat.natCast_mul,show((2^1:Nat):Rat)=2 from rfl] at e
  generalize sgn false (n*2^1) (2^(w+1))=r at*
  generalize((2^w:Nat):Rat)=U at*
  constructor
  · intro h;exact lmm (c:=U) (by grind) U0
  · intro h;exact lmm (c:=U) (by grind) U0
theorem sgn_8 {n w:Nat} {y:Rat}:((n:Rat)≤4*y*((2^w:Nat):Rat)→sgn false (n*2^1*2^1) (2^(w+1))≤8*y)∧(4*y*((2^w:Nat):Rat)≤(n:Rat)→8*y≤sgn false (n*2^1*2^1) (2^(w+1))):=by
  have e:=sgn_u (n*2^1*2^1) (w+1)
  have U0:=u_pos w
  have e2:((2^(w+1):Nat):Rat)=((2^w:Nat):Rat)*2:=by rw[Nat.pow_succ,Rat.natCast_mul];rfl
  rw[e2,Rat.natCast_mul,Rat.natCast_mul,show((2^1:Nat):Rat)=2 from rfl] at e
  generalize sgn false (n*2^1*2^1) (2^(w+1))=r at*
  generalize((2^w:Nat):Rat)=U at*
  constructor
  · intro h;exact lmm (c:=U) (by grind) U0
  · intro h;exact lmm (c:=U) (by grind) U0
theorem as_first {l:Rat} {w:Nat} (l0:0 < l) (dl:l.num.natAbs≤l.den):
    2*((glo (asH true l w) w:Rat) / ((2^w:Nat):Rat))≤l*(1+(glo (asH true l w) w:Rat) / ((2^w:Nat):Rat)*((glo (asH true l w) w:Rat) / ((2^w:Nat):Rat)))∧
    l*(1+(ghi (asH false l w) w:Rat) / ((2^w:Nat):Rat)*((ghi (asH false l w) w:Rat) / ((2^w:Nat):Rat)))≤2*((ghi (asH false l w) w:Rat) / ((2^w:Nat):Rat))∧
    glo (asH true l w) w≤ghi (asH false l w) w:=by
  obtain⟨h1,h2⟩:=mU (w:=w) dl
  obtain⟨a0,a1⟩:=js (u:=true) (w:=w) dl
  obtain⟨b0,b1⟩:=js (u:=false) (w:=w) dl
  have o:=nv (w:=w) dl dl Rat.le_refl
  obtain⟨q0,q1⟩:=rP dl
  have r1:=ot q0 (n:=2) (by decide) w
  have r2:=qh q0 (n:=2) (by decide) w
  have p1:=cQ q0 true 2 w
  have p2:=cQ q0 false 2 w
  obtain⟨l1,l2⟩:=pR dl
  have eA:=jr (llt l0)
  rw[eA] at l2
  have eR:asR l=1 - l*l:=by unfold asR;rw[eA];grind
  rw[sqE,eR] at r1 r2
  have g1:=g_in0 a0 w
  have g2:=g_in0 b0 w
  obtain⟨x0,x1⟩:=gr_bd (a:=glo (asH true l w) w) (b:=1) (w:=w) (by omega)
  obtain⟨y0,y1⟩:=gr_bd (a:=ghi (asH false l w) w) (b:=1) (w:=w) (by omega)
  rw[show((1:Nat):Rat)=1 from rfl,Rat.mul_one] at y1
  have f1:asH true l w*(1+rootg true (asR l) 2 w)=l:=by
    unfold asH asG
    rw[eA,Rat.mul_assoc,Rat.inv_mul_cancel _ (by grind),Rat.mul_one]
  have f2:asH false l w*(1+rootg false (asR l) 2 w)=l:=by
    unfold asH asG
    rw[eA,Rat.mul_assoc,Rat.inv_mul_cancel _ (by grind),Rat.mul_one]
  rw[eR] at f1 f2 p1 p2
  refine⟨?_,?_,?_⟩
  · refine(as_alg x0 (llt l0) l2 p1).1 ?_ r1
    have:=mlr g1.1 (show 0≤1+rootg true (1 - l*l) 2 w by grind)
    rw[f1] at this;exact this
  · refine(as_alg y0 (llt l0) l2 p2).2 ?_ y1 r2
    have:=mlr g2.2 (show 0≤1+rootg false (1 - l*l) 2 w by grind)
    rw[f2] at this;exact this
  · have k:=Rat.le_trans g1.1 (Rat.le_trans o g2.2)
    have U0:=u_pos w
    rw[Rat.div_def,Rat.div_def] at k
    have k:=lmm k (Rat.inv_pos.2 U0)
    exact Rat.natCast_le_natCast.1 k
theorem CR {l:Rat} {q:Nat} (l0:0 < l) (dl:l.num.natAbs≤l.den):
    (∃y,fg l q≤y∧0≤y∧y≤8 / 5∧sNN (-1) y≤l+1000*eps)∧∃y,y≤dM l q∧0≤y∧(y≤3 / 2→l≤sNN (-1) y+1000*eps):=by
  obtain⟨o1,o2⟩:=AA (p:=q) l0
  obtain⟨f1,f2,f3⟩:=as_first (w:=q+32) l0 dl
  obtain⟨h1,h2⟩:=mU (w:=q+32) dl
  obtain⟨x0,x1⟩:=gr_bd (a:=glo (asH true l (q+32)) (q+32)) (b:=1) (w:=q+32) (by omega)
  obtain⟨y0,y1⟩:=gr_bd (a:=ghi (asH false l (q+32)) (q+32)) (b:=1) (w:=q+32) (by omega)
  rw[show((1:Nat):Rat)=1 from rfl,Rat.mul_one] at x1 y1
  obtain⟨e0,e1,_⟩:=ep_num
  obtain⟨y,ya,yb,yc,yd⟩:=an_lo (w:=q+32) (by omega) f3 h2
  obtain⟨z,za,zb,zc,zd⟩:=an_up (w:=q+32) (by omega) f3 h2
  unfold asL at o1
  unfold asU at o2
  generalize anL (glo (asH true l (q+32)) (q+32)) (ghi (asH false l (q+32)) (q+32)) (q+32)=A at*
  generalize anH (glo (asH true l (q+32)) (q+32)) (ghi (asH false l (q+32)) (q+32)) (q+32)=B at*
  generalize(glo (asH true l (q+32)) (q+32):Rat) / ((2^(q+32):Nat):Rat)=v at*
  generalize(ghi (asH false l (q+32)) (q+32):Rat) / ((2^(q+32):Nat):Rat)=u at*
  constructor
  · refine⟨8*y,Rat.le_trans o1 (sgn_8.1 yc),by grind,by grind,?_⟩
    have d:=(dbl_s (a:=4*y) (v:=v) (s:=l) (d:=100*eps) (by grind) (by grind) x0 x1 (by grind) (by grind)).1 f1 yd
    rw[show 4*y+4*y=8*y by grind] at d
    grind
  · refine⟨8*z,Rat.le_trans (sgn_8.2 zc) o2,by grind,fun hz=>?_⟩
    have k:=uC (x:=8*z) (by grind) (by grind)
    obtain⟨s1,s2,c1,c2⟩:=sc_bd (t:=4*z) (by grind) (by grind)
    have ha:Ab (4*z) 2:=⟨by grind,by grind⟩
    have n:=(N_add nq1 ha ha).2
    rw[show 4*z+4*z=8*z by grind] at n
    have sc:sNN (-1) (4*z)≤cNN (-1) (4*z):=by
      refine Rat.not_lt.1 fun c=>?_
      have:=n.1
      have:=mnn (show 0≤sNN (-1) (4*z) - cNN (-1) (4*z) by grind) (show 0≤sNN (-1) (4*z)+cNN (-1) (4*z) by grind)
      grind
    have d:=(dbl_s (a:=4*z) (v:=u) (s:=l) (d:=100*eps) (by grind) (by grind) y0 y1 (by grind) (by grind)).2 f2 zd sc
    rw[show 4*z+4*z=8*z by grind] at d
    grind
theorem G7 {l:Rat} {p:Nat} (l0:0 < l) (g:∃z:Int,l*2^p=(z:Rat)) (hp:p≤128):1≤l*2^128:=by
  obtain⟨z,hz⟩:=dZ g hp
  have:=Rat.mul_pos l0 (co 128)
  rw[hz] at this ⊢
  have z0:0 < z:=Rat.intCast_lt_intCast.1 this
  exact_mod_cast (show(1:Int)≤z by omega)
theorem GM:1000000*eps*2^(128+1024) < 1∧1000000*eps*2^128 < 1:=by decide+kernel
theorem bk_int (b:Bool) (m n k q:Nat):∃z:Int,bkL b m n k q*2^q=(z:Rat):=by
  unfold bkL
  split
  · exact⟨_,eG _ _ _⟩
  · exact⟨_,eG _ _ _⟩
theorem DZ {x l:Rat} {p q:Nat} (hx:Ab x (3 / 2)) (hs:sz x≤1024) (hl:l≤sNN (-1) x+121*eps) (gl:∃z:Int,l*2^p=(z:Rat)) (hp:p≤128) (hq:q≤128) (dl:l.num.natAbs≤l.den):(if l=0 then 0 else fg l q)≤x:=by
  obtain⟨e0,e1,_⟩:=ep_num
  obtain⟨f0,f1⟩:=GM
  obtain⟨x1,x2⟩:=hx
  have fin:∀{a:Rat},(∃z:Int,a*2^q=(z:Rat))→a≤x+1000000*eps→a≤x:=fun ha h=>wb ha hq hs h f0 (by grind)
  obtain⟨za,ha⟩:=bk_int (decide (l.num < 0)) (asL l (q+32)) (asU l (q+32)) 32 q
  by_cases l0:l=0
  · rw[if_pos l0]
    subst l0
    refine fin ⟨0,by rw[Rat.zero_mul];rfl⟩ ?_
    by_cases x0:0≤x
    · grind
    have k:=qm (t:=-x) (by grind) (by grind)
    rw[(ft x).1] at k
    grind
  rw[if_neg l0]
  refine fin ⟨za,ha⟩ ?_
  by_cases lp:0 < l
  · by_cases x0:0≤x
    · obtain⟨⟨y,y1,y2,y3,y4⟩,_⟩:=CR (q:=q) lp dl
      have c:=sn_cmp (d:=1121*eps) x0 x2 y3 (by grind) (by grind)
      grind
    · have k:=qm (t:=-x) (by grind) (by grind)
      rw[(ft x).1] at k
      have i:=G7 lp gl hp
      have:=mlr (show l≤1000000*eps by grind) (llt (co 128))
      grind
  · by_cases x0:0≤x
    · have:=(asin_sign (x:=l) (p:=q)).2 (by grind)
      grind
    · obtain⟨o1,o2⟩:=ux (x:=-l) (p:=q) (by grind)
      rw[Rat.neg_neg] at o1
      obtain⟨_,_,n3⟩:=aN l
      obtain⟨_,y,y1,y2,y3⟩:=CR (l:=-l) (q:=q) (by grind) (by rw[n3,(aN l).2.1];exact dl)
      rw[o1]
      by_cases yb:y≤3 / 2
      · have k:=y3 yb
        have c:=sn_cmp (y:=-x) (x:=y) (d:=1121*eps) y2 yb (by grind) (by rw[(ft x).1];grind) (by grind)
        grind
      · grind
end Go.Q
namespace Go.Q
set_option maxRecDepth 100000
set_option maxHeartbeats 4000000
theorem qtOk_32:((List.range 129).all fun i=>qtOk (i+32))=true:=by decide+kernel
theorem qtR_bd2 {w:Nat} (h1:32≤w) (h2:w≤160):fW w≤qtR∧qtR≤gW w:=by
  have h:=List.all_eq_true.1 qtOk_32 (w - 32) (List.mem_range.2 (by omega))
  rw[show w - 32+32=w by omega] at h
  unfold qtOk at h
  simp only[Bool.and_eq_true,Nat.ble_eq] at h
  obtain⟨a1,a2⟩:=h
  have e1:=sgn_u (piL w) (w+1)
  have e2:=sgn_u (piH w) (w+1)
  have u0:=u_pos (w+1)
  have v0:(0:Rat) < (qtD:Rat):=Rat.natCast_lt_natCast.2 (show 0 < qtD by decide+kernel)
  have b1:(piL w:Rat)*(qtD:Rat)≤(qtN:Rat)*((2^(w+1):Nat):Rat):=by rw[←Rat.natCast_mul,←Rat.natCast_mul];exact Rat.natCast_le_natCast.2 a1
  have b2:(qtN:Rat)*((2^(w+1):Nat):Rat)≤(piH w:Rat)*(qtD:Rat):=by rw[←Rat.natCast_mul,←Rat.natCast_mul];exact Rat.natCast_le_natCast.2 a2
  unfold fW gW qtR
  rw[←e1] at b1
  rw[←e2] at b2
  generalize sgn false (piL w) (2^(w+1))=f at*
  generalize sgn false (piH w) (2^(w+1))=g at*
  generalize((2^(w+1):Nat):Rat)=u at*
  generalize(qtD:Rat)=v at*
  generalize(qtN:Rat)=n at*
  have i:v*v⁻¹=1:=Rat.mul_inv_cancel _ (by grind)
  constructor
  · refine lmm (c:=u*v) ?_ (Rat.mul_pos u0 v0)
    have:n*v⁻¹*(u*v)=n*u:=by grind
    rw[this];grind
  · refine lmm (c:=u*v) ?_ (Rat.mul_pos u0 v0)
    have:n*v⁻¹*(u*v)=n*u:=by grind
    rw[this];grind
theorem tn_cmp {y x A B:Rat} (y0:0≤y) (y2:y≤2) (x0:0≤x) (x2:x≤2) (hA:Ab A 1) (hB:Ab B 1) (hAB:(A=1∧0≤cNN (-1) y∧0≤cNN (-1) x)∨B=1)
    (h1:A*sNN (-1) y≤B*cNN (-1) y+400*eps) (h2:B*cNN (-1) x≤A*sNN (-1) x+400*eps):y≤x+1000000*eps:=by
  obtain⟨e0,e1,_⟩:=ep_num
  by_cases hy:y≤x
  · grind
  have k:=qm (t:=y - x) (by grind) (by grind)
  have ky:=qm y0 y2
  have kx:=qm x0 x2
  have n:=(N_add nq1 (a:=y) (b:=-x) ⟨by grind,by grind⟩ ⟨by grind,by grind⟩).1
  rw[(ft x).1,(ft x).2,show y+ -x=y - x by grind] at n
  obtain⟨n1,n2⟩:=n
  obtain⟨⟨b1,b2⟩,b3,b4⟩:=N_ab nq1 (t:=y) ⟨by grind,by grind⟩
  obtain⟨⟨c1,c2⟩,c3,c4⟩:=N_ab nq1 (t:=x) ⟨by grind,by grind⟩
  generalize sNN (-1) (y - x)=D at*
  generalize sNN (-1) y=S at*
  generalize cNN (-1) y=C at*
  generalize sNN (-1) x=s at*
  generalize cNN (-1) x=c at*
  rcases hAB with⟨rfl,p1,p2⟩ |rfl
  · have m1:=mlr h1 p2
    have m2:=mlr h2 p1
    have m3:=mll c2 (show 0≤400*eps by grind)
    have m4:=mll b2 (show 0≤400*eps by grind)
    grind
  · have m1:=mlr h1 (show 0≤s+eps by grind)
    have m2:=mlr h2 (show 0≤S+eps by grind)
    have m3:=mll (show s+eps≤61 by grind) (show 0≤400*eps by grind)
    have m4:=mll (show S+eps≤61 by grind) (show 0≤400*eps by grind)
    have m5:=mll (show C≤60 by grind) (llt e0)
    have m6:=mll (show -c≤60 by grind) (llt e0)
    have t1:=(hA.mul (⟨by grind,by grind⟩:Ab S 60)).mul (Ab.self (llt e0))
    have t2:=(hA.mul (⟨by grind,by grind⟩:Ab s 60)).mul (Ab.self (llt e0))
    obtain⟨t1,t1'⟩:=t1
    obtain⟨t2,t2'⟩:=t2
    grind
theorem yD (a b w:Nat):(sgn false (a - b*2^1) (2^(w+1))≤sgn false a (2^(w+1)) - (b:Rat) / ((2^w:Nat):Rat)∨sgn false (a - b*2^1) (2^(w+1))=0)∧sgn false a (2^(w+1)) - (b:Rat) / ((2^w:Nat):Rat)≤sgn false (a - b*2^1) (2^(w+1)):=by
  have e:=sgn_u (a - b*2^1) (w+1)
  have f:=sgn_u a (w+1)
  have U0:=u_pos w
  have e2:((2^(w+1):Nat):Rat)=((2^w:Nat):Rat)*2:=by rw[Nat.pow_succ,Rat.natCast_mul];rfl
  have z:sgn false 0 (2^(w+1))=0:=by
    have g:=sgn_u 0 (w+1)
    rw[show((0:Nat):Rat)=0 from rfl] at g
    rcases Rat.mul_eq_zero.1 g with c |c
    · exact c
    · have:=u_pos (w+1);grind
  rw[e2] at e f
  by_cases h:b*2^1≤a
  · have c:((a - b*2^1:Nat):Rat)=(a:Rat) - (b:Rat)*2:=by
      have:((a - b*2^1:Nat):Rat)+((b*2^1:Nat):Rat)=(a:Rat):=by rw[←Rat.natCast_add,Nat.sub_add_cancel h]
      rw[Rat.natCast_mul,show((2^1:Nat):Rat)=2 from rfl] at this
      grind
    rw[c] at e
    rw[Rat.div_def]
    generalize sgn false (a - b*2^1) (2^(w+1))=r at*
    generalize sgn false a (2^(w+1))=t at*
    generalize((2^w:Nat):Rat)=U at*
    have i:=Rat.mul_inv_cancel U (by grind)
    have:r=t - (b:Rat)*U⁻¹:=by
      have k:(r - (t - (b:Rat)*U⁻¹))*U=0:=by grind
      rcases Rat.mul_eq_zero.1 k with c |c<;>grind
    exact⟨.inl (by grind),by grind⟩
  · have c:a - b*2^1=0:=by omega
    rw[c,z]
    refine⟨.inr rfl,?_⟩
    have hab:(a:Rat)≤(b:Rat)*2:=by
      have:(a:Rat)≤((b*2:Nat):Rat):=Rat.natCast_le_natCast.2 (by omega)
      rw[Rat.natCast_mul] at this
      exact this
    rw[Rat.div_def]
    generalize sgn false a (2^(w+1))=t at*
    generalize((2^w:Nat):Rat)=U at*
    have i:=Rat.mul_inv_cancel U (by grind)
    have e9:(b:Rat)*U⁻¹*U=(b:Rat):=by rw[Rat.mul_assoc,Rat.mul_comm U⁻¹,i,Rat.mul_one]
    clear e e2 c z h
    have:t*U≤(b:Rat)*U⁻¹*U:=by rw[e9];grind
    have:=lmm this U0
    grind
theorem CT {l:Rat} {q:Nat} (l0:0 < l) (hq:q≤128):
    (∃y A,atLo l q≤y∧0≤y∧y≤2∧0 < A∧A≤1∧l*A≤1∧((A=1∧0≤cNN (-1) y)∨l*A=1)∧A*sNN (-1) y≤l*A*cNN (-1) y+400*eps)∧
    ∃y A,y≤atHi l q∧0≤y∧y≤2∧0 < A∧A≤1∧l*A≤1∧((A=1∧0≤cNN (-1) y)∨l*A=1)∧l*A*cNN (-1) y≤A*sNN (-1) y+400*eps:=by
  obtain⟨e0,e1,_,q1,q2⟩:=ep_num
  by_cases c:l.den < l.num.natAbs
  · obtain⟨n1,n2,n3,n4,n5⟩:=oh l0
    have l1:1≤l:=by
      refine Rat.not_lt.1 fun k=>?_
      have:=(wx l0).1 (llt k)
      omega
    obtain⟨o1,o2⟩:=(xF (p:=q) l0).1 c
    rw[n4] at o1 o2
    have c':¬(l⁻¹).den*1 < (l⁻¹).num.natAbs:=by rw[n1,n2];omega
    obtain⟨g1,g2⟩:=xQ (w:=q+32) c'
    rw[Nat.one_mul] at g2
    obtain⟨i1,i2⟩:=g_in0 (llt n3) (q+32)
    obtain⟨y,ya,yb,yc,yd⟩:=an_lo (w:=q+32) (by omega) (dH l⁻¹ (q+32)) g2
    obtain⟨z,za,zb,zc,zd⟩:=an_up (w:=q+32) (by omega) (dH l⁻¹ (q+32)) g2
    obtain⟨p1,p2⟩:=qtR_bd2 (w:=q+32) (by omega) (by omega)
    have j1:=(yD (piL (q+32)) (anH (glo l⁻¹ (q+32)) (ghi l⁻¹ (q+32)) (q+32)) (q+32)).1
    have j2:=(yD (piH (q+32)) (anL (glo l⁻¹ (q+32)) (ghi l⁻¹ (q+32)) (q+32)) (q+32)).2
    have f1:=gr_le.1 yc
    have f2:=gr_le.2 zc
    unfold fW at p1
    unfold gW at p2
    generalize sgn false (piL (q+32)) (2^(q+32+1))=PL at*
    generalize sgn false (piH (q+32)) (2^(q+32+1))=PH at*
    generalize sgn false (piL (q+32) - anH (glo l⁻¹ (q+32)) (ghi l⁻¹ (q+32)) (q+32)*2^1) (2^(q+32+1))=R1 at*
    generalize sgn false (piH (q+32) - anL (glo l⁻¹ (q+32)) (ghi l⁻¹ (q+32)) (q+32)*2^1) (2^(q+32+1))=R2 at*
    generalize(anL (glo l⁻¹ (q+32)) (ghi l⁻¹ (q+32)) (q+32):Rat) / ((2^(q+32):Nat):Rat)=X1 at*
    generalize(anH (glo l⁻¹ (q+32)) (ghi l⁻¹ (q+32)) (q+32):Rat) / ((2^(q+32):Nat):Rat)=X2 at*
    generalize(glo l⁻¹ (q+32):Rat) / ((2^(q+32):Nat):Rat)=v at*
    generalize(ghi l⁻¹ (q+32):Rat) / ((2^(q+32):Nat):Rat)=u at*
    have li:l*l⁻¹=1:=Rat.mul_inv_cancel _ (by grind)
    have A1:l⁻¹≤1:=by
      have:=mlr l1 (llt n3)
      grind
    constructor
    · obtain⟨s1,s2,c1,c2⟩:=sc_bd (t:=4*z) (by grind) (by grind)
      obtain⟨r1,r2⟩:=uM (r:=-(4*z)) ⟨by grind,by grind⟩
      rw[(ft _).2,show -(4*z)+qtR=qtR - 4*z by grind] at r1
      rw[(ft _).1,show -(4*z)+qtR=qtR - 4*z by grind] at r2
      refine⟨qtR - 4*z,l⁻¹,?_,by grind,by grind,n3,A1,by grind,.inr li,?_⟩
      · rcases j1 with j |j
        · grind
        · rw[j] at o1;grind
      · rw[li]
        have m:=mlr i2 (show 0≤cNN (-1) (4*z) by grind)
        have m2:=Ab.mul (⟨by grind,A1⟩:Ab l⁻¹ 1) r1
        obtain⟨m3,m4⟩:=m2
        obtain⟨m5,m6⟩:=r2
        grind
    · obtain⟨s1,s2,c1,c2⟩:=sc_bd (t:=4*y) (by grind) (by grind)
      obtain⟨r1,r2⟩:=uM (r:=-(4*y)) ⟨by grind,by grind⟩
      rw[(ft _).2,show -(4*y)+qtR=qtR - 4*y by grind] at r1
      rw[(ft _).1,show -(4*y)+qtR=qtR - 4*y by grind] at r2
      refine⟨qtR - 4*y,l⁻¹,by grind,by grind,by grind,n3,A1,by grind,.inr li,?_⟩
      rw[li]
      have m:=mlr i1 (show 0≤cNN (-1) (4*y) by grind)
      have m2:=Ab.mul (⟨by grind,A1⟩:Ab l⁻¹ 1) r1
      obtain⟨m3,m4⟩:=m2
      obtain⟨m5,m6⟩:=r2
      grind
  · have l1:l≤1:=by
      refine Rat.not_lt.1 fun k=>?_
      have h:=(wx l0).2 (llt k)
      have:=FB (llt l0) (by omega)
      grind
    obtain⟨o1,o2⟩:=(xF (p:=q) l0).2 c
    have c':¬l.den*1 < l.num.natAbs:=by omega
    obtain⟨g1,g2⟩:=xQ (w:=q+32) c'
    rw[Nat.one_mul] at g2
    obtain⟨i1,i2⟩:=g_in0 (llt l0) (q+32)
    obtain⟨y,ya,yb,yc,yd⟩:=an_lo (w:=q+32) (by omega) (dH l (q+32)) g2
    obtain⟨z,za,zb,zc,zd⟩:=an_up (w:=q+32) (by omega) (dH l (q+32)) g2
    have f1:=Rat.le_trans o1 (sgn_4.1 yc)
    have f2:=Rat.le_trans (sgn_4.2 zc) o2
    constructor
    · obtain⟨s1,s2,c1,c2⟩:=sc_bd (t:=4*y) (by grind) (by grind)
      have m:=mlr i1 (show 0≤cNN (-1) (4*y) by grind)
      refine⟨4*y,1,f1,by grind,by grind,by decide,Rat.le_refl,by grind,.inl ⟨rfl,by grind⟩,?_⟩
      rw[Rat.mul_one,Rat.one_mul]
      grind
    · obtain⟨s1,s2,c1,c2⟩:=sc_bd (t:=4*z) (by grind) (by grind)
      have m:=mlr i2 (show 0≤cNN (-1) (4*z) by grind)
      refine⟨4*z,1,f2,by grind,by grind,by decide,Rat.le_refl,by grind,.inl ⟨rfl,by grind⟩,?_⟩
      rw[Rat.mul_one,Rat.one_mul]
      grind
theorem D6 {x l S C:Rat} {p q:Nat} (hx:Ab x (3 / 2)) (hs:sz x≤1024) (aS:Ab (S - sNN (-1) x) (121*eps)) (aC:Ab (C - cNN (-1) x) (121*eps)) (hl:l*C≤S) (gl:∃z:Int,l*2^p=(z:Rat)) (hp:p≤128) (hq:q≤128):(if l=0 then 0 else atLo l q)≤x:=by
  obtain⟨e0,e1,_⟩:=ep_num
  obtain⟨f0,f1⟩:=GM
  obtain⟨x1,x2⟩:=hx
  have cx:1 / 200≤cNN (-1) x:=by
    by_cases x0:0≤x
    · exact uC x0 (by grind)
    · rw[←(ft x).2];exact uC (by grind) (by grind)
  have fin:∀{a:Rat},(∃z:Int,a*2^q=(z:Rat))→a≤x+1000000*eps→a≤x:=fun ha h=>wb ha hq hs h f0 (by grind)
  obtain⟨za,ha⟩:=bk_int (decide (l.num < 0)) (atA l (q+32)) (atB l (q+32)) (atK l) q
  obtain⟨aS1,aS2⟩:=aS
  obtain⟨aC1,aC2⟩:=aC
  by_cases l0:l=0
  · rw[if_pos l0]
    subst l0
    refine fin ⟨0,by rw[Rat.zero_mul];rfl⟩ ?_
    by_cases x0:0≤x
    · grind
    have k:=qm (t:=-x) (by grind) (by grind)
    rw[(ft x).1] at k
    grind
  rw[if_neg l0]
  refine fin ⟨za,ha⟩ ?_
  by_cases lp:0 < l
  · by_cases x0:0≤x
    · obtain⟨⟨y,A,y1,y2,y3,A0,A1,B1,hAB,k⟩,_⟩:=CT (q:=q) lp hq
      have lA:=mnn (llt lp) (llt A0)
      have m:=mll hl (llt A0)
      have m1:=Ab.mul (⟨by grind,A1⟩:Ab A 1) (⟨aS1,aS2⟩:Ab (S - sNN (-1) x) (121*eps))
      have m2:=Ab.mul (⟨by grind,B1⟩:Ab (l*A) 1) (⟨aC1,aC2⟩:Ab (C - cNN (-1) x) (121*eps))
      have c:=tn_cmp (A:=A) (B:=l*A) y2 y3 x0 (by grind) ⟨by grind,A1⟩ ⟨by grind,B1⟩ (hAB.imp (fun⟨a,b⟩=>⟨a,b,by grind⟩) id) k (by
        obtain⟨m3,m4⟩:=m1
        obtain⟨m5,m6⟩:=m2
        grind)
      grind
    · have k:=qm (t:=-x) (by grind) (by grind)
      rw[(ft x).1] at k
      have i:=G7 lp gl hp
      have m:=mll (show 1 / 300≤C by grind) (llt lp)
      have:=mlr (show l≤1000000*eps by grind) (llt (co 128))
      grind
  · by_cases x0:0≤x
    · have:=(at_sign (x:=l) (p:=q)).2 (by grind)
      grind
    · obtain⟨o1,o2⟩:=xD (x:=-l) (p:=q) (by grind)
      rw[Rat.neg_neg] at o1
      obtain⟨_,y,A,y1,y2,y3,A0,A1,B1,hAB,k⟩:=CT (l:=-l) (q:=q) (by grind) hq
      rw[o1]
      have lA:=mnn (show 0≤ -l by grind) (llt A0)
      have m:=mll hl (llt A0)
      have m1:=Ab.mul (⟨by grind,A1⟩:Ab A 1) (⟨aS1,aS2⟩:Ab (S - sNN (-1) x) (121*eps))
      have m2:=Ab.mul (⟨by grind,B1⟩:Ab (-l*A) 1) (⟨aC1,aC2⟩:Ab (C - cNN (-1) x) (121*eps))
      have c:=tn_cmp (y:=-x) (x:=y) (A:=A) (B:=-l*A) (by grind) (by grind) y2 y3 ⟨by grind,A1⟩ ⟨by grind,B1⟩ (hAB.imp (fun⟨a,b⟩=>⟨a,by rw[(ft x).2];grind,b⟩) id) (by
        rw[(ft x).1,(ft x).2]
        obtain⟨m3,m4⟩:=m1
        obtain⟨m5,m6⟩:=m2
        grind) k
      grind
end Go.Q
namespace Go.Q
set_option maxRecDepth 100000
set_option maxHeartbeats 4000000
theorem lnV_1:lnV false 1 1=0∧lnV true 1 1=0:=by decide+kernel
theorem br_lnV {x:Rat} {p:Int} (h:brE 2 x p=0):0 < x∧brL 2 x p≤lnV false x.num.natAbs x.den∧lnV true x.num.natAbs x.den≤brH 2 x p∧∃q:Nat,q≤128∧(∃z:Int,brL 2 x p*2^q=(z:Rat))∧∃z:Int,brH 2 x p*2^q=(z:Rat):=by
  obtain⟨_,p0,p1⟩:=br_p h
  obtain⟨q,rfl⟩:∃q:Nat,p=(q:Int):=⟨p.toNat,by omega⟩
  obtain⟨_,_,_,dx,_,_,_⟩:=dw (br_e h)
  have hx:0 < x:=by simpa[defB] using dx
  rw[(cC h).1,(cC h).2,show exB 2 x=decide (x=1) from rfl]
  by_cases x1:x=1
  · subst x1
    have z:∃z:Int,(0:Rat)*2^q=(z:Rat):=⟨0,by rw[Rat.zero_mul];rfl⟩
    rw[decide_eq_true rfl,if_pos rfl,if_pos rfl,show exV 2 1=0 by decide+kernel,show(1:Rat).num.natAbs=1 from rfl,show(1:Rat).den=1 from rfl,lnV_1.1,lnV_1.2]
    exact⟨by decide,Rat.le_refl,Rat.le_refl,q,by omega,z,z⟩
  · rw[decide_eq_false x1,if_neg (by decide),if_neg (by decide)]
    obtain⟨o1,o2⟩:=ln_in (p:=q) (d:=x.den) (bZ hx).2
    have f:∀n:Nat,∃z:Int,sgn false n (2^q)*2^q=(z:Rat):=fun n=>⟨_,eG _ _ _⟩
    refine⟨hx,o1,o2,q,by omega,?_,?_⟩
    · show ∃z:Int,lnLo x.num.natAbs x.den q*2^q=(z:Rat)
      unfold lnLo;split
      · exact f _
      · exact(g_in2 _ q).1
    · show ∃z:Int,lnHi x.num.natAbs x.den q*2^q=(z:Rat)
      unfold lnHi;split
      · exact f _
      · exact(g_in2 _ q).2
theorem back_exp {x:Rat} {p r:Int} (h:brE 1 x p=0):(brE 2 (brL 1 x p) r=0→brL 2 (brL 1 x p) r≤x)∧(brE 2 (brH 1 x p) r=0→x≤brH 2 (brH 1 x p) r):=by
  obtain⟨hs,p0,p1⟩:=br_p h
  obtain⟨q,rfl⟩:∃q:Nat,p=(q:Int):=⟨p.toNat,by omega⟩
  obtain⟨hv,l0,ga,gb,hp,hx⟩:=br_X h
  obtain⟨a1,_⟩:=hv _ Rat.le_refl (E8 x)
  obtain⟨_,b1⟩:=hv _ (E8 x) Rat.le_refl
  obtain⟨r0,_,_,_,_,r1⟩:=BB
  constructor
  · intro k
    obtain⟨lp,o1,_,m,hm,g,_⟩:=br_lnV k
    exact wb g hm hs (Rat.le_trans o1 (I8 hx lp a1 ga hp)) r1 (llt r0)
  · intro k
    obtain⟨lp,_,o2,m,hm,_,g⟩:=br_lnV k
    have e:=I9 hx lp b1 gb hp
    have:=wb (a:=-brH 2 (brH 1 x q) r) (x:=-x) (gR g) hm (by rw[cz];exact hs) (by grind) r1 (llt r0)
    grind
theorem opp_q (x:Rat):(-x).num.natAbs=x.num.natAbs∧(-x).den=x.den:=⟨(aN x).2.2,(aN x).2.1⟩
theorem back_sin {x:Rat} {p r:Int} (h:brE 3 x p=0) (hx:Ab x (3 / 2)):(brE 6 (brL 3 x p) r=0→brL 6 (brL 3 x p) r≤x)∧(brE 6 (brH 3 x p) r=0→x≤brH 6 (brH 3 x p) r):=by
  obtain⟨hs,p0,p1⟩:=br_p h
  obtain⟨q,rfl⟩:∃q:Nat,p=(q:Int):=⟨p.toNat,by omega⟩
  obtain⟨⟨⟨a1,a2⟩,ga,gb⟩,_,_,hp,hr⟩:=br_S h
  have v:=(v_N (k:=rsK x (q+64)) hx hr).1
  have v:Ab (xS x q - sNN (-1) x) (121*eps):=v
  obtain⟨v1,v2⟩:=v
  have ex:∀y:Rat,exB 6 y=decide (y=0):=fun _=>rfl
  have ev:exV 6 0=0:=by decide+kernel
  have dm:∀{y:Rat},brE 6 y r=0→y.num.natAbs≤y.den∧r.toNat≤128:=fun {y} k=>by
    obtain⟨_,k0,k1⟩:=br_p k
    obtain⟨_,_,_,dx,_,_,_⟩:=dw (br_e k)
    exact⟨by simpa[defB] using dx,by omega⟩
  constructor
  · intro k
    obtain⟨dl,hq⟩:=dm k
    have b:=DZ hx hs (show brL 3 x q≤sNN (-1) x+121*eps by grind) ga hp hq dl
    rw[(cC k).1,ex]
    by_cases l0:brL 3 x q=0
    · rw[if_pos l0] at b
      rw[decide_eq_true l0,if_pos rfl,l0,ev];exact b
    · rw[if_neg l0] at b
      rw[decide_eq_false l0,if_neg (by decide)];exact b
  · intro k
    obtain⟨dl,hq⟩:=dm k
    have b:=DZ (x:=-x) (l:=-brH 3 x q) hx.neg (by rw[cz];exact hs) (by rw[(ft x).1];grind) (gR gb) hp hq (by rw[(opp_q _).1,(opp_q _).2];exact dl)
    rw[(cC k).2,ex]
    by_cases l0:brH 3 x q=0
    · rw[if_pos (by grind)] at b
      rw[decide_eq_true l0,if_pos rfl,l0,ev];grind
    · rw[if_neg (by grind),(ux l0).1] at b
      rw[decide_eq_false l0,if_neg (by decide)]
      show x≤dM (brH 3 x q) r.toNat
      grind
theorem back_tan {x:Rat} {p r:Int} (h:brE 5 x p=0) (hx:Ab x (3 / 2)):(brE 8 (brL 5 x p) r=0→brL 8 (brL 5 x p) r≤x)∧(brE 8 (brH 5 x p) r=0→x≤brH 8 (brH 5 x p) r):=by
  obtain⟨hs,p0,p1⟩:=br_p h
  obtain⟨q,rfl⟩:∃q:Nat,p=(q:Int):=⟨p.toNat,by omega⟩
  obtain⟨_,_,_,_,_,_,k2⟩:=dw (br_e h)
  have hb:=iP (k2 (.inr (.inr rfl)))
  obtain⟨⟨t1,t2⟩,ci⟩:=br_T h
  have hr:=(pr (w:=q+64) (by omega) (by omega) hb).2.2
  obtain⟨v1,v2⟩:=v_N (k:=rsK x (q+64)) hx hr
  have v1:Ab (xS x q - sNN (-1) x) (121*eps):=v1
  have v2:Ab (xC x q - cNN (-1) x) (121*eps):=v2
  have ex:∀y:Rat,exB 8 y=decide (y=0):=fun _=>rfl
  have ev:exV 8 0=0:=by decide+kernel
  have hq:∀{y:Rat},brE 8 y r=0→r.toNat≤128:=fun {y} k=>by
    obtain⟨_,k0,k1⟩:=br_p k
    omega
  have cx:1 / 200≤cNN (-1) x:=by
    obtain⟨x1,x2⟩:=hx
    by_cases x0:0≤x
    · exact uC x0 (by grind)
    · rw[←(ft x).2];exact uC (by grind) (by grind)
  have cp:0 < xC x q:=by
    have:=ep_num.2.1
    have:=v2.1
    grind
  have g5:(∃z:Int,brL 5 x q*2^q=(z:Rat))∧∃z:Int,brH 5 x q*2^q=(z:Rat):=by
    rw[(cC h).1,(cC h).2]
    split
    · have z:∃z:Int,exV 5 x*2^q=(z:Rat):=by
        unfold exV
        split
        · exact⟨2^q,by push_cast;rw[Rat.one_mul]⟩
        · exact⟨0,by rw[Rat.zero_mul];rfl⟩
      exact⟨z,z⟩
    · exact⟨(g_in2 _ q).1,(g_in2 _ q).2⟩
  constructor
  · intro k
    have b:=D6 hx hs v1 v2 (l:=brL 5 x q) (by
      have:=mlr t1 (llt cp)
      rw[Rat.mul_assoc,Rat.mul_comm (xC x q)⁻¹,ci,Rat.mul_one] at this
      exact this) g5.1 (by omega) (hq k)
    rw[(cC k).1,ex]
    by_cases l0:brL 5 x q=0
    · rw[if_pos l0] at b
      rw[decide_eq_true l0,if_pos rfl,l0,ev];exact b
    · rw[if_neg l0] at b
      rw[decide_eq_false l0,if_neg (by decide)];exact b
  · intro k
    have b:=D6 (x:=-x) (l:=-brH 5 x q) (S:=-xS x q) (C:=xC x q) hx.neg (by rw[cz];exact hs) (by rw[(ft x).1];exact cf v1.neg (by grind)) (by rw[(ft x).2];exact v2) (by
      have:=mlr t2 (llt cp)
      rw[Rat.mul_assoc,Rat.mul_comm (xC x q)⁻¹,ci,Rat.mul_one] at this
      grind) (gR g5.2) (by omega) (hq k)
    rw[(cC k).2,ex]
    by_cases l0:brH 5 x q=0
    · rw[if_pos (by grind)] at b
      rw[decide_eq_true l0,if_pos rfl,l0,ev];grind
    · rw[if_neg (by grind),(xD l0).1] at b
      rw[decide_eq_false l0,if_neg (by decide)]
      show x≤atHi (brH 5 x q) r.toNat
      grind
end Go.Q
namespace Go.Q
open Go.Proofs
set_option maxRecDepth 100000
set_option maxHeartbeats 8000000
theorem rF {h0 h:PH} [Le h0 h] {va vb vq:Value} {a b x:Rat} {fn r:Int} (hk:∀{h0 h:PH} {w:Value} {y:Rat} [Le h0 h],Rv h0 w y→Spec mach 14 #[.int .i64 fn,w,.int .i64 r] h (fun c h'=>Ber h' c (elE fn y r) (elL fn y r) (elH fn y r)) NP)
    (ha:Qr h0 va a) (hb:Qr h0 vb b) (hq:Qr h0 vq x) (sa:sz a≤2048) (sb:sz b≤2048) (sx:sz x≤2^35) (h1:brE fn a r=0→brL fn a r≤x) (h2:brE fn b r=0→x≤brH fn b r):Spec mach 7 #[.int .i64 fn,va,vb,vq,.int .i64 r] h (fun c _=>c=.bool true) NP:=by
  have kA:=fun {h0 h:PH} {w:Value} [Le h0 h] (c:Qr h0 w a)=>aH (h:=h) (fn:=fn) (p:=r) hk c (Nat.le_trans sa (by decide))
  have kB:=fun {h0 h:PH} {w:Value} [Le h0 h] (c:Qr h0 w b)=>aH (h:=h) (fn:=fn) (p:=r) hk c (Nat.le_trans sb (by decide))
  have za:=(br_sz fn a r).1
  have zb:=(br_sz fn b r).2
  clear hk
  generalize hE:decide (brE fn a r=0)=ok at*
  generalize hF:decide (brE fn b r=0)=is at*
  have h1:ok=true→brL fn a r≤x:=fun k=>h1 (of_decide_eq_true (hE.trans k))
  have h2:is=true→x≤brH fn b r:=fun k=>h2 (of_decide_eq_true (hF.trans k))
  clear hE hF
  generalize brL fn a r=L at*
  generalize brH fn b r=H at*
  have e1:ok=true→decide (cmpQ L x≤0)=true:=fun k=>by have:=h1 k;unfold cmpQ;grind
  have e2:is=true→decide (0≤cmpQ H x)=true:=fun k=>by have:=h2 k;unfold cmpQ;grind
  obtain⟨_,_,_,_,_,_,_,rfl,ha⟩:=ha.sa
  obtain⟨_,_,_,_,_,_,_,rfl,hb⟩:=hb.sa
  obtain⟨_,_,_,_,_,_,_,rfl,hq⟩:=hq.sa
  refine Spec.go [] Tryz.func7 rfl rfl (by kernel_rfl) fun C _=>?_
  try simp(maxSteps:=999999) (disch:=omega) only[go_sem,Nat.reduceBEq,reduceAdd]
  refine caN (by exact kA ha) ?_;rintro v1 g1 s1 ⟨_,_,_,_,_,_,_,_,_,_,_,_,_,_,rfl,c1,c2⟩
  try simp(maxSteps:=999999) (disch:=omega) only[go_sem,Nat.reduceBEq,reduceAdd]
  refine caN (by exact kB (hb.to (h':=g1))) ?_;rintro v2 g2 s2 ⟨_,_,_,_,_,_,_,_,_,_,_,_,_,_,rfl,c3,c4⟩
  try simp(maxSteps:=999999) (disch:=omega) only[go_sem,Nat.reduceBEq,reduceAdd]
  have kX:=fun {h:PH} [Le g2 h]=>Ap (h:=h) (c1.to (h':=g2)) (hq.to (h':=g2)) (Nat.le_trans za (by decide)) sx
  have kY:=fun {h:PH} [Le g2 h]=>Ap (h:=h) c4 (hq.to (h':=g2)) (Nat.le_trans zb (by decide)) sx
  rcases Or.symm (Bool.eq_false_or_eq_true ok) with ho |ho
  · try simp(maxSteps:=999999) (disch:=omega) only[go_sem,Nat.reduceBEq,reduceAdd,ho]
    rcases Or.symm (Bool.eq_false_or_eq_true is) with hi |hi
    · try simp(maxSteps:=999999) (disch:=omega) only[go_sem,Nat.reduceBEq,reduceAdd,hi]
    · have e2:=e2 hi
      try simp(maxSteps:=999999) (disch:=omega) only[go_sem,Nat.reduceBEq,reduceAdd,hi]
      refine caN (by exact kY) ?_;rintro v3 g3 s3 rfl
      try simp(maxSteps:=999999) (disch:=omega) only[go_sem,Nat.reduceBEq,reduceAdd,e2]
  · have e1:=e1 ho
    try simp(maxSteps:=999999) (disch:=omega) only[go_sem,Nat.reduceBEq,reduceAdd,ho]
    refine caN (by exact kX) ?_;rintro v3 g3 s3 rfl
    try simp(maxSteps:=999999) (disch:=omega) only[go_sem,Nat.reduceBEq,reduceAdd,e1]
    rcases Or.symm (Bool.eq_false_or_eq_true is) with hi |hi
    · try simp(maxSteps:=999999) (disch:=omega) only[go_sem,Nat.reduceBEq,reduceAdd,hi]
    · have e2:=e2 hi
      try simp(maxSteps:=999999) (disch:=omega) only[go_sem,Nat.reduceBEq,reduceAdd,hi]
      refine caN (by exact kY) ?_;rintro v4 g4 s4 rfl
      try simp(maxSteps:=999999) (disch:=omega) only[go_sem,Nat.reduceBEq,reduceAdd,e2]
theorem abQ_32 {x:Rat} (h:¬3 / 2 < abQ x):Ab x (3 / 2):=by
  by_cases x0:0≤x
  · rw[jr x0] at h
    exact⟨by grind,by grind⟩
  · rw[←vP,jr (show 0≤ -x by grind)] at h
    exact⟨by grind,by grind⟩
theorem Back_law {h0 h:PH} [Le h0 h] {v:Value} {neg:Bool} {n d:Nat} {p r:Int} (hv:Rw h0 v neg n d):Spec mach 3 #[v,.int .i64 p,.int .i64 r] h (fun c _=>c=.bool true) NP:=by
  have kO:=fun {h} [Le h0 h]=>bM (h:=h) hv
  have bx:=hv.sz35
  generalize qof neg n d=x at*
  obtain⟨_,_,_,_,_,_,_,rfl,_⟩:=hv.sa
  clear hv
  have kA:=fun {h0 h:PH} {w:Value} [Le h0 h] (c:Qr h0 w x)=>aH (h:=h) (fn:=1) (p:=p) n7 c bx
  have kB:=fun {h0 h:PH} {w:Value} [Le h0 h] (c:Qr h0 w x)=>aH (h:=h) (fn:=3) (p:=p) n8 c bx
  have kC:=fun {h0 h:PH} {w:Value} [Le h0 h] (c:Qr h0 w x)=>aH (h:=h) (fn:=5) (p:=p) wM c bx
  have za:=br_sz 1 x p
  have zb:=br_sz 3 x p
  have zc:=br_sz 5 x p
  have la:=fun h:brE 1 x p=0=>back_exp (r:=r) h
  have lb:=fun(h:brE 3 x p=0)=>back_sin (r:=r) h
  have lc:=fun(h:brE 5 x p=0)=>back_tan (r:=r) h
  generalize hE:decide (brE 1 x p=0)=oa at*
  generalize hF:decide (brE 3 x p=0)=ob at*
  generalize hG:decide (brE 5 x p=0)=oc at*
  have la:oa=true→_:=fun k=>la (of_decide_eq_true (hE.trans k))
  have lb:ob=true→_:=fun k=>lb (of_decide_eq_true (hF.trans k))
  have lc:oc=true→_:=fun k=>lc (of_decide_eq_true (hG.trans k))
  clear hE hF hG
  generalize brL 1 x p=A at*
  generalize brH 1 x p=B at*
  generalize brL 3 x p=C at*
  generalize brH 3 x p=D at*
  generalize brL 5 x p=E at*
  generalize brH 5 x p=F at*
  have kF:=fun {h}=>pN (h:=h) (a:=3) (b:=2) (by decide) (by decide)
  have eT:((3:Nat):Rat) / ((2:Nat):Rat)=3 / 2:=by decide+kernel
  rw[eT] at kF
  have zT:sz (3 / 2:Rat)≤2^35:=by decide+kernel
  have zM:sz (abQ x)≤2^35:=by rw[EP];exact bx
  have eC:decide (0 < cmpQ (abQ x) (3 / 2))=decide (3 / 2 < abQ x):=by unfold cmpQ;grind
  have hA:decide (3 / 2 < abQ x)=false→Ab x (3 / 2):=fun k=>abQ_32 (of_decide_eq_false k)
  generalize hb:decide (3 / 2 < abQ x)=big at*
  clear hb
  have kM:=fun {h0 h:PH} {w:Value} [Le h0 h] (c:Qr h0 w x)=>wS (h:=h) c
  rw[show sgn false x.num.natAbs x.den=abQ x from rfl] at kM
  generalize abQ x=M at*
  generalize(3 / 2:Rat)=T at*
  have Z:=Hid.mk (And.intro za (And.intro zb (And.intro zc (And.intro zT zM))))
  clear za zb zc zT zM eT
  refine Spec.go [] Tryz.func3 rfl rfl (by kernel_rfl) fun C _=>?_
  try simp(maxSteps:=999999) (disch:=omega) only[go_sem,Nat.reduceBEq,reduceAdd]
  refine caN (by exact kO) ?_;rintro v1 h1 r1 q1;obtain⟨_,_,_,_,_,_,_,rfl,q1⟩:=q1.sa
  try simp(maxSteps:=999999) (disch:=omega) only[go_sem,Nat.reduceBEq,reduceAdd]
  refine caN (by exact kA q1) ?_;rintro v2 h2 r2 ⟨_,_,_,_,_,_,_,_,_,_,_,_,_,_,rfl,c1,c2⟩
  try simp(maxSteps:=999999) (disch:=omega) only[go_sem,Nat.reduceBEq,reduceAdd]
  have kB1:=fun {h:PH} [Le h2 h] (k:oa=true)=>rF (h:=h) (fn:=2) (r:=r) pE c1 c2 (q1.to (h':=h2)) Z.out.1.1 Z.out.1.2 bx (la k).1 (la k).2
  rcases Or.symm (Bool.eq_false_or_eq_true oa) with ho |ho
  case' inl=>(try simp(maxSteps:=999999) (disch:=omega) only[go_sem,Nat.reduceBEq,reduceAdd,ho])
  case' inr=>
    try simp(maxSteps:=999999) (disch:=omega) only[go_sem,Nat.reduceBEq,reduceAdd,ho]
    refine caN (by exact kB1 ho) ?_;rintro v3 h3 r3 rfl
    try simp(maxSteps:=999999) (disch:=omega) only[go_sem,Nat.reduceBEq,reduceAdd]
  all_goals
    refine caN (by exact ar) ?_;rintro v4 h4 r4 rfl
    try simp(maxSteps:=999999) (disch:=omega) only[go_sem,Nat.reduceBEq,reduceAdd]
    refine caN (by exact kM q1) ?_;rintro v5 h5 r5 q5;obtain⟨_,_,_,_,_,_,_,rfl,q5⟩:=q5.sa
    try simp(maxSteps:=999999) (disch:=omega) only[go_sem,Nat.reduceBEq,reduceAdd]
    refine caN (by exact kF) ?_;rintro v6 h6 r6 q6;obtain⟨_,_,_,_,_,_,_,rfl,q6⟩:=q6.sa
    try simp(maxSteps:=999999) (disch:=omega) only[go_sem,Nat.reduceBEq,reduceAdd]
    refine caN (by exact Ap (q5.to (h':=h6)) q6 Z.out.2.2.2.2 Z.out.2.2.2.1) ?_;rintro v7 h7 r7 rfl
    try simp(maxSteps:=999999) (disch:=omega) only[go_sem,Nat.reduceBEq,reduceAdd]
    rcases Or.symm (Bool.eq_false_or_eq_true big) with hb |hb<;>have eC:=eC.trans hb
    rotate_left
    · try simp(maxSteps:=999999) (disch:=omega) only[go_sem,Nat.reduceBEq,reduceAdd,eC]
    have aX:=hA hb
    try simp(maxSteps:=999999) (disch:=omega) only[go_sem,Nat.reduceBEq,reduceAdd,eC]
    refine caN (by exact kB q1) ?_;rintro v8 h8 r8 ⟨_,_,_,_,_,_,_,_,_,_,_,_,_,_,rfl,c3,c4⟩
    try simp(maxSteps:=999999) (disch:=omega) only[go_sem,Nat.reduceBEq,reduceAdd]
    have k2:=fun {h:PH} [Le h8 h] (k:ob=true)=>rF (h:=h) (fn:=6) (r:=r) sE (c3.to (h':=h8)) (c4.to (h':=h8)) (q1.to (h':=h8)) Z.out.2.1.1 Z.out.2.1.2 bx (lb k aX).1 (lb k aX).2
    rcases Or.symm (Bool.eq_false_or_eq_true ob) with h |h
    case' inl=>(try simp(maxSteps:=999999) (disch:=omega) only[go_sem,Nat.reduceBEq,reduceAdd,h])
    case' inr=>
      try simp(maxSteps:=999999) (disch:=omega) only[go_sem,Nat.reduceBEq,reduceAdd,h]
      refine caN (by exact k2 h) ?_;rintro v9 h9 r9 rfl
      try simp(maxSteps:=999999) (disch:=omega) only[go_sem,Nat.reduceBEq,reduceAdd]
    all_goals
      refine caN (by exact kC q1) ?_;rintro v10 h10 r10 ⟨_,_,_,_,_,_,_,_,_,_,_,_,_,_,rfl,c5,c6⟩
      try simp(maxSteps:=999999) (disch:=omega) only[go_sem,Nat.reduceBEq,reduceAdd]
      have k3:=fun {h:PH} [Le h10 h] (k:oc=true)=>rF (h:=h) (fn:=8) (r:=r) pF (c5.to (h':=h10)) (c6.to (h':=h10)) (q1.to (h':=h10)) Z.out.2.2.1.1 Z.out.2.2.1.2 bx (lc k aX).1 (lc k aX).2
      rcases Or.symm (Bool.eq_false_or_eq_true oc) with h |h
      · try simp(maxSteps:=999999) (disch:=omega) only[go_sem,Nat.reduceBEq,reduceAdd,h]
      · try simp(maxSteps:=999999) (disch:=omega) only[go_sem,Nat.reduceBEq,reduceAdd,h]
        refine caN (by exact k3 h) ?_;rintro v11 h11 r11 rfl
        try simp(maxSteps:=999999) (disch:=omega) only[go_sem,Nat.reduceBEq,reduceAdd]
end Go.Q
