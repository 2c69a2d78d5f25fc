/-
  The exponential of a sum is the product of the exponentials, as far as the bounds show it: no program. Conditions: the numbers' absolute values are at most 64.
  The values of sine, cosine and tangent and their brackets: no program. Conditions: the number has a bracket.
  The addition theorems and the brackets: no program. Conditions: the numbers have brackets.
  The statement ElemAdds. Conditions: the arguments are numbers as they come in, of at most 2^26 binary digits (Rx).
-/
import Derived.Test.YtclajmpjcojhaaaGreatDoorK17dbe3PkP
import Derived.Test.YtclajmpjcojhaaaGreatDoorK839921PkO
import Derived.Test.YtclajmpjcojhaaaGreatDoorK2204c2PkF
set_option linter.unusedVariables false
set_option linter.unusedSimpArgs false
namespace Go.Q
set_option maxRecDepth 100000
set_option maxHeartbeats 4000000
def eN (t:Rat):Rat:=eS t 161
theorem icq_one:∀k,(icq 1 k).1+(icq 1 k).2=1
  |0=>by show(1:Rat)+0=1;grind
  | k+1=>by
    have h:=icq_one k
    show 1*(icq 1 k).2+(icq 1 k).1=1
    grind
theorem cs_eS (t:Rat):∀n,cS 1 n t+sS 1 n t=eS t n
  |0=>by show(0:Rat)+0=0;grind
  | n+1=>by
    have h:=cs_eS t n
    have i:=icq_one n
    show cS 1 n t+(icq 1 n).1*trm t n+(sS 1 n t+(icq 1 n).2*trm t n)=eS t n+trm t n
    have e:(icq 1 n).1*trm t n+(icq 1 n).2*trm t n=trm t n:=by rw[←Rat.add_mul,i,Rat.one_mul]
    grind
theorem eN_add {a b:Rat} (ha:Ab a 2) (hb:Ab b 2):Ab (eN a*eN b - eN (a+b)) (2*eps):=by
  obtain⟨h1,h2⟩:=N_add (q:=1) (Ab.self (by decide)) ha hb
  have e1:=cs_eS a 161
  have e2:=cs_eS b 161
  have e3:=cs_eS (a+b) 161
  unfold cNN sNN at*
  unfold eN
  exact(ab_cast (h1.add h2) (by rw[←e1,←e2,←e3];grind)).le (by grind)
theorem eN_zero:eN 0=1:=by
  have h:=cs_eS 0 161
  obtain⟨z1,z2⟩:=N_zero 1
  unfold cNN sNN at*
  unfold eN
  rw[←h,z1,z2]
  decide+kernel
def exn (t:Rat):Nat→Nat→Rat
  |_,0=>0
  |i,n+1=>1+t*exn t (i+1) n*((i+1:Nat):Rat)⁻¹
theorem exn_sum (t:Rat):∀n k,exn t 0 (n+k)=eS t n+trm t n*exn t n k
  |0,k=>by rw[Nat.zero_add];show _=0+1*_;grind
  | n+1,k=>by
    have h:=exn_sum t n (k+1)
    rw[show n+1+k=n+(k+1) by omega,h]
    show eS t n+trm t n*(1+t*exn t (n+1) k*((n+1:Nat):Rat)⁻¹)=eS t n+trm t n+trm t n*t*((n+1:Nat):Rat)⁻¹*exn t (n+1) k
    grind
theorem eN_exn (t:Rat):eN t=exn t 0 161:=by
  have h:=exn_sum t 161 0
  rw[Nat.add_zero,show exn t 161 0=0 from rfl,Rat.mul_zero,Rat.add_zero] at h
  exact h.symm
theorem exn_12 {t:Rat} (h0:0≤t) (h1:t≤1 / 4):∀n i,1≤exn t i (n+1)∧exn t i (n+1)≤2
  | 0,i=>by
    show 1≤1+t*0*((i+1:Nat):Rat)⁻¹∧1+t*0*((i+1:Nat):Rat)⁻¹≤2
    have:1+t*0*((i+1:Nat):Rat)⁻¹=1:=by grind
    rw[this];exact⟨Rat.le_refl,by decide⟩
  | n+1,i=>by
    obtain⟨a1,a2⟩:=exn_12 h0 h1 n (i+1)
    obtain⟨p,_,l,_,_⟩:=k_inv i
    show 1≤1+t*exn t (i+1) (n+1)*((i+1:Nat):Rat)⁻¹∧1+t*exn t (i+1) (n+1)*((i+1:Nat):Rat)⁻¹≤2
    generalize((i+1:Nat):Rat)⁻¹=z at*
    generalize exn t (i+1) (n+1)=X at*
    have m0:0≤t*X:=Rat.mul_nonneg h0 (by grind)
    have m1:t*X≤1 / 4*X:=Rat.mul_le_mul_of_nonneg_right h1 (by grind)
    have m2:=Rat.mul_nonneg m0 (Rat.le_of_lt p)
    have m3:=Rat.mul_le_mul_of_nonneg_left l m0
    exact⟨by grind,by grind⟩
theorem eN_13 {t:Rat} (h0:0≤t) (h1:t≤1 / 4):1≤eN t∧eN t≤13 / 10:=by
  rw[eN_exn]
  have a3:=(exn_12 h0 h1 157 3).2
  have b0:=(exn_12 h0 h1 160 0).1
  have i3:(0:Rat) < ((2+1:Nat):Rat)⁻¹:=by decide+kernel
  have e2:exn t 2 159=1+t*exn t 3 158*(1 / 3):=by show 1+t*exn t 3 158*((2+1:Nat):Rat)⁻¹=_;rw[show((2+1:Nat):Rat)⁻¹=1 / 3 by decide+kernel]
  have e1:exn t 1 160=1+t*exn t 2 159*(1 / 2):=by show 1+t*exn t 2 159*((1+1:Nat):Rat)⁻¹=_;rw[show((1+1:Nat):Rat)⁻¹=1 / 2 by decide+kernel]
  have e0:exn t 0 161=1+t*exn t 1 160:=by show 1+t*exn t 1 160*((0+1:Nat):Rat)⁻¹=_;rw[show((0+1:Nat):Rat)⁻¹=1 by decide+kernel,Rat.mul_one]
  have p3:=(exn_12 h0 h1 157 3).1
  have p2:=(exn_12 h0 h1 158 2).1
  have p1:=(exn_12 h0 h1 159 1).1
  have m3:=Rat.mul_le_mul_of_nonneg_right h1 (show 0≤exn t 3 158 by grind)
  have m2:=Rat.mul_le_mul_of_nonneg_right h1 (show 0≤exn t 2 159 by grind)
  have m1:=Rat.mul_le_mul_of_nonneg_right h1 (show 0≤exn t 1 160 by grind)
  exact⟨b0,by grind⟩
theorem eQ_exn {y:Rat} (h0:0≤y) (h1:y≤64) (m:Nat):∀k,k≤40→eQ y false k≤exn (y*(256:Rat)⁻¹) (40 - k) (k+(m+1))∧exn (y*(256:Rat)⁻¹) (40 - k) (k+(m+1))≤eQ y true k
  | 0,_=>by
    rw[Nat.zero_add]
    have i0:(0:Rat)≤(256:Rat)⁻¹:=by decide+kernel
    have t1:=Rat.mul_le_mul_of_nonneg_right h1 i0
    rw[show(64:Rat)*(256:Rat)⁻¹=1 / 4 by decide+kernel] at t1
    exact exn_12 (Rat.mul_nonneg h0 i0) t1 m _
  | k+1,hk=>by
    obtain⟨a1,a2⟩:=eQ_exn h0 h1 m k (by omega)
    rw[eQ_s,eQ_s,show 40 - (k+1)=39 - k by omega,show k+1+(m+1)=(k+(m+1))+1 by omega]
    show _≤1+y*(256:Rat)⁻¹*exn (y*(256:Rat)⁻¹) (39 - k+1) (k+(m+1))*((39 - k+1:Nat):Rat)⁻¹∧1+y*(256:Rat)⁻¹*exn (y*(256:Rat)⁻¹) (39 - k+1) (k+(m+1))*((39 - k+1:Nat):Rat)⁻¹≤_
    rw[show 39 - k+1=40 - k by omega]
    have e:((256*(40 - k):Nat):Rat)⁻¹=((40 - k:Nat):Rat)⁻¹*(256:Rat)⁻¹:=by rw[Rat.natCast_mul,Rat.inv_mul_rev];rfl
    have z0:(0:Rat)≤((40 - k:Nat):Rat)⁻¹:=Rat.le_of_lt (Rat.inv_pos.2 (by exact_mod_cast (show 0 < 40 - k by omega)))
    have i0:(0:Rat)≤(256:Rat)⁻¹:=by decide+kernel
    rw[e]
    generalize((40 - k:Nat):Rat)⁻¹=z at*
    generalize(256:Rat)⁻¹=i at*
    have yz:0≤y*(z*i):=Rat.mul_nonneg h0 (Rat.mul_nonneg z0 i0)
    have m1:=Rat.mul_le_mul_of_nonneg_left a1 yz
    have m2:=Rat.mul_le_mul_of_nonneg_left a2 yz
    exact⟨by grind,by grind⟩
theorem sqk_mul (a b:Rat):∀k,sqk (a*b) k=sqk a k*sqk b k
  |0=>rfl
  | k+1=>by
    show sqk (a*b) k*sqk (a*b) k=sqk a k*sqk a k*(sqk b k*sqk b k)
    rw[sqk_mul a b k]
    grind
def nB:Nat→Rat
  |0=>7 / 4
  |k+1=>nB k*nB k
def nD:Nat→Rat
  |0=>2*eps
  |k+1=>2*nB k*nD k
theorem sqk_near {a b:Rat} (ha:Ab a (7 / 4)) (hb:Ab b (7 / 4)) (h:Ab (a - b) (2*eps)):∀k,Ab (sqk a k) (nB k)∧Ab (sqk b k) (nB k)∧Ab (sqk a k - sqk b k) (nD k)
  |0=>⟨ha,hb,h⟩
  | k+1=>by
    obtain⟨h1,h2,h3⟩:=sqk_near ha hb h k
    have m:=h3.mul (h1.add h2)
    refine⟨h1.mul h1,h2.mul h2,?_⟩
    show Ab (sqk a k*sqk a k - sqk b k*sqk b k) (2*nB k*nD k)
    exact(ab_cast m (by grind)).le (by grind)
def dl:Rat:=nD 8
theorem sqk_13 {a:Rat} (h1:1≤a) (h2:a≤13 / 10):1≤sqk a 8∧sqk a 8≤2^98:=by
  obtain⟨k1,k2⟩:=sqk_mono h1 h2 8
  exact⟨k1,Rat.le_trans k2 (by decide+kernel)⟩
def xE (x:Rat):Rat:=sqk (eN (x*(256:Rat)⁻¹)) 8
theorem t_64 {x:Rat} (h:Ab x 64):Ab (x*(256:Rat)⁻¹) (1 / 4):=by
  have:=h.mul (Ab.self (show(0:Rat)≤(256:Rat)⁻¹ by decide+kernel))
  rw[show(64:Rat)*(256:Rat)⁻¹=1 / 4 by decide+kernel] at this
  exact this
theorem eN_neg {t:Rat} (h0:0≤t) (h1:t≤1 / 4):Ab (eN (-t)) (7 / 5)∧0≤eN (-t):=by
  obtain⟨a1,a2⟩:=eN_13 h0 h1
  have k:=eN_add (a:=t) (b:=-t) ⟨by grind,by grind⟩ ⟨by grind,by grind⟩
  have e:t+ -t=0:=by grind
  rw[e,eN_zero] at k
  obtain⟨k1,k2⟩:=k
  have e1:2*eps≤1 / 5:=by decide+kernel
  have pos:0≤eN (-t):=by
    refine Rat.not_lt.1 fun c=>?_
    have:=Rat.mul_nonneg (show 0≤eN t by grind) (show 0≤ -eN (-t) by grind)
    grind
  have up:eN (-t)≤eN t*eN (-t):=by
    have:=Rat.mul_le_mul_of_nonneg_right a1 pos
    grind
  exact⟨⟨by grind,by grind⟩,pos⟩
theorem eN_ab {t:Rat} (h:Ab t (1 / 4)):Ab (eN t) (7 / 5)∧0≤eN t∧(0≤t→Ab (eN t) (13 / 10)):=by
  obtain⟨h1,h2⟩:=h
  by_cases p:0≤t
  · obtain⟨a1,a2⟩:=eN_13 p h2
    exact⟨⟨by grind,by grind⟩,by grind,fun _=>⟨by grind,by grind⟩⟩
  · obtain⟨a1,a2⟩:=eN_neg (t:=-t) (by grind) (by grind)
    rw[Rat.neg_neg] at a1 a2
    exact⟨a1,a2,fun c=>absurd c p⟩
theorem dl_num:0≤dl∧(4*2^98+4)*dl*2^256 < 1∧dl≤1:=by decide+kernel
theorem eN_mul {a b:Rat} (ha:Ab a (1 / 4)) (hb:Ab b (1 / 4)) (hs:Ab (a+b) (1 / 4)):Ab (sqk (eN a) 8*sqk (eN b) 8 - sqk (eN (a+b)) 8) dl:=by
  have k:=eN_add (ha.le (by decide+kernel)) (hb.le (by decide+kernel))
  obtain⟨a1,a2,a3⟩:=eN_ab ha
  obtain⟨b1,b2,b3⟩:=eN_ab hb
  obtain⟨c1,_,_⟩:=eN_ab hs
  rw[←sqk_mul]
  refine(sqk_near ?_ (c1.le (by decide+kernel)) k 8).2.2
  have up:=k.2
  have e1:2*eps≤1 / 5:=by decide+kernel
  obtain⟨_,c2⟩:=c1
  have m:=Rat.mul_nonneg a2 b2
  exact⟨by grind,by grind⟩
theorem exW_val {x:Rat} (h:Ab x 64):∃v,(exW false x≤v∧v≤exW true x)∧Ab (v - xE x) dl∧0≤v∧v≤2^98:=by
  have d0:=dl_num.1
  have ya:(x.num.natAbs:Rat)*(x.den:Rat)⁻¹=if x.num < 0 then -x else x:=by
    have dd:(x.den:Rat)*(x.den:Rat)⁻¹=1:=Rat.mul_inv_cancel _ (by exact_mod_cast x.den_nz)
    have q:=q_den x
    by_cases hn:x.num < 0
    · rw[if_pos hn,show((x.num.natAbs:Nat):Rat)=(((x.num.natAbs:Nat):Int):Rat) from rfl,show((x.num.natAbs:Nat):Int)= -x.num by omega,Rat.intCast_neg,←q]
      grind
    · rw[if_neg hn,show((x.num.natAbs:Nat):Rat)=(((x.num.natAbs:Nat):Int):Rat) from rfl,show((x.num.natAbs:Nat):Int)=x.num by omega,←q]
      grind
  have sg:=num_lt0 (x:=x)
  have key:∀{y:Rat},0≤y→y≤64→sqk (eQ y false 40) 8≤sqk (eN (y*(256:Rat)⁻¹)) 8∧sqk (eN (y*(256:Rat)⁻¹)) 8≤sqk (eQ y true 40) 8:=fun {y} h0 h1=>by
    obtain⟨k1,k2⟩:=eQ_exn h0 h1 120 40 (Nat.le_refl _)
    have e:eN (y*(256:Rat)⁻¹)=exn (y*(256:Rat)⁻¹) (40 - 40) (40+(120+1)):=eN_exn _
    rw[←e] at k1 k2
    obtain⟨o1,_⟩:=eQ_le h0 40 (Nat.le_refl _)
    exact⟨(sqk_mono o1 k1 8).2,(sqk_mono (Rat.le_trans o1 k1) k2 8).2⟩
  obtain⟨h1,h2⟩:=h
  unfold exW exV2
  rw[ya]
  by_cases hn:x.num < 0
  · have x0:=sg.1 hn
    simp only[if_pos hn,Bool.not_false,Bool.not_true]
    obtain⟨k1,k2⟩:=key (y:=-x) (by grind) (by grind)
    obtain⟨o1,o2⟩:=eQ_le (y:=-x) (by grind) 40 (Nat.le_refl _)
    have s1:=(sqk_mono o1 Rat.le_refl 8).1
    have tt:=t_64 (x:=-x) ⟨by grind,by grind⟩
    have tu:=t_64 (x:=x) ⟨by grind,by grind⟩
    have ez: -x*(256:Rat)⁻¹+x*(256:Rat)⁻¹=0:=by grind
    have m:=eN_mul tt tu (by rw[ez];exact Ab.zero (by decide+kernel))
    have t0:0≤ -x*(256:Rat)⁻¹:=Rat.mul_nonneg (by grind) (by decide+kernel)
    obtain⟨n1,n2⟩:=eN_13 t0 tt.2
    obtain⟨w1,_⟩:=sqk_13 n1 n2
    rw[ez,eN_zero,show sqk 1 8=1 by decide+kernel] at m
    refine⟨(sqk (eN (-x*(256:Rat)⁻¹)) 8)⁻¹,⟨rinv_le (by grind) k2,rinv_le (by grind) k1⟩,?_,?_,?_⟩
    · have p:=Rat.inv_pos.2 (show 0 < sqk (eN (-x*(256:Rat)⁻¹)) 8 by grind)
      have i:sqk (eN (-x*(256:Rat)⁻¹)) 8*(sqk (eN (-x*(256:Rat)⁻¹)) 8)⁻¹=1:=Rat.mul_inv_cancel _ (by grind)
      have l:=rinv_le (show(0:Rat) < 1 by decide) w1
      rw[show(1:Rat)⁻¹=1 by decide+kernel] at l
      unfold xE
      generalize sqk (eN (-x*(256:Rat)⁻¹)) 8=W at*
      generalize sqk (eN (x*(256:Rat)⁻¹)) 8=w at*
      generalize W⁻¹=v at*
      have q:=m.neg.mul (⟨by grind,l⟩:Ab v 1)
      have e: -(W*w - 1)*v=v - w*(W*v):=by grind
      rw[e,i,Rat.mul_one,Rat.mul_one] at q
      exact q
    · exact Rat.le_of_lt (Rat.inv_pos.2 (by grind))
    · have l:=rinv_le (show(0:Rat) < 1 by decide) w1
      exact Rat.le_trans l (by decide+kernel)
  · have x0:0≤x:=by grind
    simp only[if_neg hn]
    obtain⟨k1,k2⟩:=key x0 h2
    have tu:=t_64 (x:=x) ⟨h1,h2⟩
    obtain⟨n1,n2⟩:=eN_13 (Rat.mul_nonneg x0 (by decide+kernel)) tu.2
    obtain⟨w1,w2⟩:=sqk_13 n1 n2
    refine⟨xE x,⟨k1,k2⟩,?_,?_,w2⟩
    · have e:xE x - xE x=0:=by grind
      rw[e];exact Ab.zero d0
    · show 0≤sqk (eN (x*(256:Rat)⁻¹)) 8
      grind
theorem exp_sum {x y:Rat} (hx:Ab x 64) (hy:Ab y 64) (hs:Ab (x+y) 64):∃v w s,(exW false x≤v∧v≤exW true x)∧(exW false y≤w∧w≤exW true y)∧(exW false (x+y)≤s∧s≤exW true (x+y))∧0≤v∧0≤w∧Ab (v*w - s) ((4*2^98+4)*dl):=by
  obtain⟨v,v1,v2,v3,v4⟩:=exW_val hx
  obtain⟨w,w1,w2,w3,w4⟩:=exW_val hy
  obtain⟨s,s1,s2,s3,s4⟩:=exW_val hs
  refine⟨v,w,s,v1,w1,s1,v3,w3,?_⟩
  have e:x*(256:Rat)⁻¹+y*(256:Rat)⁻¹=(x+y)*(256:Rat)⁻¹:=by grind
  have m:=eN_mul (t_64 hx) (t_64 hy) (by rw[e];exact t_64 hs)
  rw[e] at m
  have m:Ab (xE x*xE y - xE (x+y)) dl:=m
  have d1:=dl_num.2.2
  have a1:=v2.mul (⟨by grind,w4⟩:Ab w (2^98))
  have xa:Ab (xE x) (2^98+1):=by
    obtain⟨q1,q2⟩:=v2
    exact⟨by grind,by grind⟩
  have a2:=xa.mul w2
  have t:=((a1.add a2).add m).add s2.neg
  have d0:=dl_num.1
  have b0:(0:Rat)≤2^98:=by decide+kernel
  generalize(2:Rat)^98=B at*
  generalize dl=D at*
  have bd:=Rat.mul_nonneg b0 d0
  exact(ab_cast t (by grind)).le (by grind)
end Go.Q
namespace Go.Q
set_option maxRecDepth 100000
set_option maxHeartbeats 8000000
def xS (x:Rat) (p:Nat):Rat:=vS (rsK x (p+64)) (rsR x (p+64))
def xC (x:Rat) (p:Nat):Rat:=vC (rsK x (p+64)) (rsR x (p+64))
theorem xS_0 (p:Nat):xS 0 p=0∧xC 0 p=1:=by
  have k:rsK 0 (p+64)=0:=by unfold rsK;rw[Rat.zero_mul];decide+kernel
  have r:rsR 0 (p+64)=0:=by unfold rsR;rw[k];decide+kernel
  unfold xS xC
  rw[k,r]
  exact⟨(N_zero _).2,(N_zero _).1⟩
theorem g_in2 (y:Rat) (p:Nat):(∃z:Int,gdown y p*2^p=(z:Rat))∧∃z:Int,gup y p*2^p=(z:Rat):=by
  have hp:=pow2_pos p
  have e:∀z:Rat,z / 2^p*2^p=z:=fun z=>Rat.div_mul_cancel (by grind)
  exact⟨⟨_,e _⟩,⟨_,e _⟩⟩
def Btw (p:Nat) (l v u:Rat):Prop:=(l≤v∧v≤u)∧(∃z:Int,l*2^p=(z:Rat))∧∃z:Int,u*2^p=(z:Rat)
theorem br_34 (x:Rat) (p:Int):brE 4 x p=brE 3 x p:=by
  have h:eErr 4 x p=eErr 3 x p:=by
    unfold eErr
    have d:defB 4 x=defB 3 x:=rfl
    rw[d]
    simp
  unfold brE elE
  rw[h]
  simp
theorem br_S {x:Rat} {p:Nat} (h:brE 3 x p=0):Btw p (brL 3 x p) (xS x p) (brH 3 x p)∧Btw p (brL 4 x p) (xC x p) (brH 4 x p)∧(-4294967296≤x∧x≤4294967296)∧p≤128∧Ab (rsR x (p+64)) 1:=by
  obtain⟨_,_,p1⟩:=br_p h
  obtain⟨_,_,_,_,_,_,k2⟩:=eErr_p (br_e h)
  have hb:=k2 (.inl rfl)
  have h4:=(br_34 x p).trans h
  obtain⟨⟨a1,a2⟩,b1,b2⟩:=si_val (w:=p+64) (by omega) (by omega) hb
  refine⟨?_,?_,num_bd hb,by omega,(rsR_bd (w:=p+64) (by omega) (by omega) (num_bd hb)).2.2⟩
  · rw[(br_ser h).1,(br_ser h).2,show exB 3 x=decide (x=0) from rfl]
    by_cases x0:x=0
    · subst x0
      rw[decide_eq_true rfl,if_pos rfl,if_pos rfl,(xS_0 p).1,show exV 3 0=0 by decide+kernel]
      exact⟨⟨Rat.le_refl,Rat.le_refl⟩,int_zero p,int_zero p⟩
    · rw[decide_eq_false x0,if_neg (by decide),if_neg (by decide)]
      exact⟨⟨Rat.le_trans (gdown_le _ _) a1,Rat.le_trans a2 (le_gup _ _)⟩,(g_in2 _ p).1,(g_in2 _ p).2⟩
  · rw[(br_ser h4).1,(br_ser h4).2,show exB 4 x=decide (x=0) from rfl]
    by_cases x0:x=0
    · subst x0
      rw[decide_eq_true rfl,if_pos rfl,if_pos rfl,(xS_0 p).2,show exV 4 0=1 by decide+kernel]
      exact⟨⟨Rat.le_refl,Rat.le_refl⟩,int_one p,int_one p⟩
    · rw[decide_eq_false x0,if_neg (by decide),if_neg (by decide)]
      exact⟨⟨Rat.le_trans (gdown_le _ _) b1,Rat.le_trans b2 (le_gup _ _)⟩,(g_in2 _ p).1,(g_in2 _ p).2⟩
end Go.Q
namespace Go.Q
set_option maxRecDepth 100000
set_option maxHeartbeats 8000000
theorem exW_0 (c:Bool):exW c 0=1:=by
  have e:∀(c:Bool) k,eQ 0 c (k+1)=1:=fun c k=>by rw[eQ_s];grind
  have n:((0:Rat).num.natAbs:Rat)*((0:Rat).den:Rat)⁻¹=0:=by decide+kernel
  have v:∀c,exV2 c 0=1:=fun c=>by
    unfold exV2
    rw[n,e c 39]
    decide+kernel
  unfold exW
  rw[if_neg (by decide),v]
theorem br_X {x:Rat} {p:Nat} (h:brE 1 x p=0):(∀v,exW false x≤v→v≤exW true x→brL 1 x p≤v∧v≤brH 1 x p)∧0≤brL 1 x p∧(∃z:Int,brL 1 x p*2^p=(z:Rat))∧(∃z:Int,brH 1 x p*2^p=(z:Rat))∧p≤128∧Ab x 64:=by
  obtain⟨_,_,p1⟩:=br_p h
  obtain⟨_,_,_,_,_,k1,_⟩:=eErr_p (br_e h)
  have hb:=k1 rfl
  have hx:Ab x 64:=by
    have d0:(0:Rat) < (x.den:Rat):=by exact_mod_cast x.den_pos
    have q:=q_den x
    have i1: -((x.den:Int)*64)≤x.num∧x.num≤(x.den:Int)*64:=by omega
    have c1:=Rat.intCast_le_intCast.2 i1.1
    have c2:=Rat.intCast_le_intCast.2 i1.2
    rw[Rat.intCast_neg,Rat.intCast_mul,←q] at c1
    rw[Rat.intCast_mul,←q] at c2
    rw[show(((x.den:Nat):Int):Rat)=(x.den:Rat) from rfl,show((64:Int):Rat)=64 from rfl] at c1 c2
    constructor
    · exact Rat.le_of_mul_le_mul_right (c:=(x.den:Rat)) (by grind) d0
    · exact Rat.le_of_mul_le_mul_right (c:=(x.den:Rat)) (by grind) d0
  rw[(br_ser h).1,(br_ser h).2,show exB 1 x=decide (x=0) from rfl]
  by_cases x0:x=0
  · subst x0
    rw[decide_eq_true rfl,if_pos rfl,if_pos rfl,show exV 1 0=1 by decide+kernel,exW_0,exW_0]
    exact⟨fun v a b=>⟨a,b⟩,by decide,int_one p,int_one p,by omega,hx⟩
  · rw[decide_eq_false x0,if_neg (by decide),if_neg (by decide)]
    obtain⟨o1,o2⟩:=exp_in x p
    have f:∀n:Nat,∃z:Int,sgn false n (2^p)*2^p=(z:Rat):=fun n=>⟨_,sgn_int _ _ _⟩
    have l0:0≤expLo x p:=by unfold expLo;split<;>exact sgn_nonneg _ _
    refine⟨fun v a b=>⟨Rat.le_trans o1 a,Rat.le_trans b o2⟩,l0,?_,?_,by omega,hx⟩
    · show ∃z:Int,expLo x p*2^p=(z:Rat)
      unfold expLo;split<;>exact f _
    · show ∃z:Int,expHi x p*2^p=(z:Rat)
      unfold expHi;split<;>exact f _
theorem adds_exp {x y:Rat} {p:Nat} (hx:brE 1 x p=0) (hy:brE 1 y p=0) (hs:brE 1 (x+y) p=0):brL 1 x p*brL 1 y p≤brH 1 (x+y) p∧brL 1 (x+y) p≤brH 1 x p*brH 1 y p:=by
  obtain⟨a1,a2,a3,a4,hp,ax⟩:=br_X hx
  obtain⟨b1,b2,b3,b4,_,ay⟩:=br_X hy
  obtain⟨c1,c2,c3,c4,_,asx⟩:=br_X hs
  obtain⟨v,w,s,v1,w1,s1,v0,w0,n1,n2⟩:=exp_sum ax ay asx
  obtain⟨v2,v3⟩:=a1 v v1.1 v1.2
  obtain⟨w2,w3⟩:=b1 w w1.1 w1.2
  obtain⟨s2,s3⟩:=c1 s s1.1 s1.2
  have m1:=Rat.le_trans (Rat.mul_le_mul_of_nonneg_right v2 b2) (Rat.mul_le_mul_of_nonneg_left w2 v0)
  have m2:=Rat.le_trans (Rat.mul_le_mul_of_nonneg_right v3 w0) (Rat.mul_le_mul_of_nonneg_left w3 (Rat.le_trans v0 v3))
  have pp:p+p≤256:=by omega
  have p2:p≤256:=by omega
  exact⟨int_near (int_to (int_mul a3 b3) pp) (int_to c4 p2) (by grind) dl_num.2.1,int_near (int_to c3 p2) (int_to (int_mul a4 b4) pp) (by grind) dl_num.2.1⟩
theorem adds_sc {x y:Rat} {p:Nat} (hx:brE 3 x p=0) (hy:brE 3 y p=0) (hs:brE 3 (x+y) p=0):
    (prLo (brL 3 x p) (brH 3 x p) (brL 4 y p) (brH 4 y p)+prLo (brL 4 x p) (brH 4 x p) (brL 3 y p) (brH 3 y p)≤brH 3 (x+y) p∧brL 3 (x+y) p≤prHi (brL 3 x p) (brH 3 x p) (brL 4 y p) (brH 4 y p)+prHi (brL 4 x p) (brH 4 x p) (brL 3 y p) (brH 3 y p))∧
    (prLo (brL 4 x p) (brH 4 x p) (brL 4 y p) (brH 4 y p) - prHi (brL 3 x p) (brH 3 x p) (brL 3 y p) (brH 3 y p)≤brH 4 (x+y) p∧brL 4 (x+y) p≤prHi (brL 4 x p) (brH 4 x p) (brL 4 y p) (brH 4 y p) - prLo (brL 3 x p) (brH 3 x p) (brL 3 y p) (brH 3 y p)):=by
  obtain⟨⟨a,ia,ib⟩,⟨c,ic,id⟩,bx,hp,_⟩:=br_S hx
  obtain⟨⟨e,ie,if_⟩,⟨g,ig,ih⟩,by_,_,_⟩:=br_S hy
  obtain⟨⟨l,il,iu⟩,⟨m,im,in_⟩,bs,_,_⟩:=br_S hs
  obtain⟨s1,s2⟩:=v_sum (w:=p+64) (by omega) (by omega) bx by_ bs
  have pp:p+p≤256:=by omega
  have p2:p≤256:=by omega
  obtain⟨q1,q2⟩:=pr_bd a.1 a.2 g.1 g.2
  obtain⟨q3,q4⟩:=pr_bd c.1 c.2 e.1 e.2
  obtain⟨q5,q6⟩:=pr_bd c.1 c.2 g.1 g.2
  obtain⟨q7,q8⟩:=pr_bd a.1 a.2 e.1 e.2
  obtain⟨j1,j2⟩:=pr_ints ia ib ig ih
  obtain⟨j3,j4⟩:=pr_ints ic id ie if_
  obtain⟨j5,j6⟩:=pr_ints ic id ig ih
  obtain⟨j7,j8⟩:=pr_ints ia ib ie if_
  refine⟨meet_core pp p2 j1 j2 j3 j4 il iu q1 q2 q3 q4 l.1 l.2 s1,?_⟩
  have k:=meet_core pp p2 j5 j6 (int_neg j8) (int_neg j7) im in_ q5 q6 (s:=xC x p*xC y p) (t:=-(xS x p*xS y p)) (v:=xC (x+y) p) (by grind) (by grind) m.1 m.2 (ab_cast s2 (by unfold xS xC;grind))
  exact⟨by have:=k.1;grind,by have:=k.2;grind⟩
end Go.Q
namespace Go.Q
open Go.Proofs
set_option maxRecDepth 100000
set_option maxHeartbeats 40000000
theorem leL_map (S:AS):∀ts:List Nat,leL S (ts.map fun t=>(t,lk S.sl t))
  |[]=>trivial
  |t :: ts=>⟨rfl,leL_map S ts⟩
theorem leB_refl:∀b:List (List Value),leB b b
  |[]=>trivial
  |_ :: b=>⟨.inr rfl,leB_refl b⟩
theorem AWP_keep {M:Mach} {n:Nat} {C:Ctx} [NoPin C] {c:Code} {Q:Exit→AS→PH→Prop} {E:List PanicEntry→PH→Prop} {sl:List (Nat×AV)} {bx:List (List Value)} {h:PH} (ts:List Nat) (hw:wfL bx.length (ts.map fun t=>(t,lk sl t))=true) (hk:AWP M n C c Q E ⟨ts.map fun t=>(t,lk sl t),bx⟩ h):AWP M n C c Q E ⟨sl,bx⟩ h:=
  AWP_le (S:=⟨sl,bx⟩) ⟨ts.map fun t=>(t,lk sl t),bx⟩ ⟨leL_map ⟨sl,bx⟩ ts,leB_refl bx,hw⟩ hk
theorem Adds_walk {h0 h:PH} [Le h0 h] {v w:Value} {ng mg:Bool} {nn nd mn md:Nat} {p:Int} {x y A1 B1 A2 B2 A3 B3 S1 T1 C1 D1 S2 T2 C2 D2 S3 T3 C3 D3:Rat} {E1 E2 E3 F1 F2 F3:Bool} (hv:Rw h0 v ng nn nd) (hw:Rw h0 w mg mn md) (hx:qof ng nn nd=x) (hy:qof mg mn md=y) (bx:Hid (sz x≤2^35)) (by_:Hid (sz y≤2^35))
    (e1:∀{h1 h:PH} {w:Value} [Le h1 h],Qr h1 w x→Spec mach 7 #[.int .i64 1,w,.int .i64 p] h (fun r h'=>Qb h' r A1 B1 E1) NP)
    (e2:∀{h1 h:PH} {w:Value} [Le h1 h],Qr h1 w y→Spec mach 7 #[.int .i64 1,w,.int .i64 p] h (fun r h'=>Qb h' r A2 B2 E2) NP)
    (e3:∀{h1 h:PH} {w:Value} [Le h1 h],Qr h1 w (x+y)→Spec mach 7 #[.int .i64 1,w,.int .i64 p] h (fun r h'=>Qb h' r A3 B3 E3) NP)
    (s1:∀{h1 h:PH} {w:Value} [Le h1 h],Qr h1 w x→Spec mach 7 #[.int .i64 3,w,.int .i64 p] h (fun r h'=>Qb h' r S1 T1 F1) NP)
    (c1:∀{h1 h:PH} {w:Value} [Le h1 h],Qr h1 w x→Spec mach 7 #[.int .i64 4,w,.int .i64 p] h (fun r h'=>Qb h' r C1 D1 F1) NP)
    (s2:∀{h1 h:PH} {w:Value} [Le h1 h],Qr h1 w y→Spec mach 7 #[.int .i64 3,w,.int .i64 p] h (fun r h'=>Qb h' r S2 T2 F2) NP)
    (c2:∀{h1 h:PH} {w:Value} [Le h1 h],Qr h1 w y→Spec mach 7 #[.int .i64 4,w,.int .i64 p] h (fun r h'=>Qb h' r C2 D2 F2) NP)
    (s3:∀{h1 h:PH} {w:Value} [Le h1 h],Qr h1 w (x+y)→Spec mach 7 #[.int .i64 3,w,.int .i64 p] h (fun r h'=>Qb h' r S3 T3 F3) NP)
    (c3:∀{h1 h:PH} {w:Value} [Le h1 h],Qr h1 w (x+y)→Spec mach 7 #[.int .i64 4,w,.int .i64 p] h (fun r h'=>Qb h' r C3 D3 F3) NP)
    (ZE1:Hid (sz A1≤2^20∧sz B1≤2^20))
    (ZE2:Hid (sz A2≤2^20∧sz B2≤2^20))
    (ZE3:Hid (sz A3≤2^20∧sz B3≤2^20))
    (ZS1:Hid (sz S1≤2^20∧sz T1≤2^20))
    (ZC1:Hid (sz C1≤2^20∧sz D1≤2^20))
    (ZS2:Hid (sz S2≤2^20∧sz T2≤2^20))
    (ZC2:Hid (sz C2≤2^20∧sz D2≤2^20))
    (ZS3:Hid (sz S3≤2^20∧sz T3≤2^20))
    (ZC3:Hid (sz C3≤2^20∧sz D3≤2^20))
    (M:E1=true→E2=true→E3=true→A1*A2≤B3∧A3≤B1*B2)
    (N:F1=true→F2=true→F3=true→(prLo S1 T1 C2 D2+prLo C1 D1 S2 T2≤T3∧S3≤prHi S1 T1 C2 D2+prHi C1 D1 S2 T2)∧(prLo C1 D1 C2 D2 - prHi S1 T1 S2 T2≤D3∧C3≤prHi C1 D1 C2 D2 - prLo S1 T1 S2 T2)):
    Spec mach 5 #[v,w,.int .i64 p] h (fun r _=>r=.bool true) NP:=by
  have kO:=fun {h} [Le h0 h]=>QOf_spec (h:=h) hv
  have kP:=fun {h} [Le h0 h]=>QOf_spec (h:=h) hw
  rw[hx] at kO
  rw[hy] at kP
  have u35:∀{r:Rat},sz r≤2^20→sz r≤2^35:=fun k=>Nat.le_trans k (by decide)
  have u34:∀{r:Rat},sz r≤2^20→sz r≤2^34:=fun k=>Nat.le_trans k (by decide)
  have w35:∀{r:Rat},sz r≤2^22→sz r≤2^35:=fun k=>Nat.le_trans k (by decide)
  have mm:∀{r t:Rat},sz r≤2^20→sz t≤2^20→sz (r*t)≤2^34:=fun {r t} k l=>by have:=sz_mul r t;omega
  have pp:∀{r t:Rat},sz r≤2^22→sz t≤2^22→sz (r+t)≤2^34:=fun {r t} k l=>by have:=sz_add r t;omega
  have ss:∀{r t:Rat},sz r≤2^22→sz t≤2^22→sz (r - t)≤2^34:=fun {r t} k l=>by have:=sz_sub r t;omega
  obtain⟨_,_,_,_,_,_,_,rfl,_⟩:=hv.sa
  obtain⟨_,_,_,_,_,_,_,rfl,_⟩:=hw.sa
  clear hv hw hx hy
  refine Spec.go [(1,.h [] [] [4,5] [4,5,0,2,1,3,6,7]),(6,.o [0,1,2,3,4,5,6,7,8,9,11,12,14,15,10,13,16,17,18]),(8,.x),(14,.x),(16,.x),(18,.o [0,1,3,4,6,7,2,5,8,9]),(20,.x),(22,.o [0,1,2,3,5,6,8,9,4,7,10,11,12])] Tryz.func5 rfl rfl (by kernel_rfl) fun C _=>?_
  try simp(maxSteps:=999999) (disch:=omega) only[go_sem,Nat.reduceBEq,Nat.reduceAdd]
  refine caN (by exact kO) ?_;rintro v1 h1 r1 q1;obtain⟨_,_,_,_,_,_,_,rfl,q1⟩:=q1.sa
  try simp(maxSteps:=999999) (disch:=omega) only[go_sem,Nat.reduceBEq,Nat.reduceAdd]
  refine caN (by exact kP) ?_;rintro v2 h2 r2 q2;obtain⟨_,_,_,_,_,_,_,rfl,q2⟩:=q2.sa
  try simp(maxSteps:=999999) (disch:=omega) only[go_sem,Nat.reduceBEq,Nat.reduceAdd]
  refine caN (by exact Sum_spec (q1.to (h':=h2)) q2 bx.out by_.out) ?_;rintro v3 h3 r3 q3;obtain⟨_,_,_,_,_,_,_,rfl,q3⟩:=q3.sa
  try simp(maxSteps:=999999) (disch:=omega) only[go_sem,Nat.reduceBEq,Nat.reduceAdd]
  refine caN (by exact e1 (q1.to (h':=h3))) ?_;rintro v4 h4 r4 ⟨_,_,_,_,_,_,_,_,_,_,_,_,_,_,rfl,a1,a2⟩
  try simp(maxSteps:=999999) (disch:=omega) only[go_sem,Nat.reduceBEq,Nat.reduceAdd]
  refine caN (by exact e2 (q2.to (h':=h4))) ?_;rintro v5 h5 r5 ⟨_,_,_,_,_,_,_,_,_,_,_,_,_,_,rfl,a3,a4⟩
  try simp(maxSteps:=999999) (disch:=omega) only[go_sem,Nat.reduceBEq,Nat.reduceAdd]
  refine caN (by exact e3 (q3.to (h':=h5))) ?_;rintro v6 h6 r6 ⟨_,_,_,_,_,_,_,_,_,_,_,_,_,_,rfl,a5,a6⟩
  try simp(maxSteps:=999999) (disch:=omega) only[go_sem,Nat.reduceBEq,Nat.reduceAdd]
  rcases Or.symm (Bool.eq_false_or_eq_true E1) with hE1 |hE1
  · try simp(maxSteps:=999999) (disch:=omega) only[go_sem,Nat.reduceBEq,Nat.reduceAdd,hE1]
    refine AWP_keep [2,6,7,8,9,10,11,13,14,16,17] (by kernel_rfl) ?_;dsimp only[List.map_cons,List.map_nil,lk,Nat.reduceBEq,cond_true,cond_false];refine rn [] (by kernel_rfl) ?_;try simp(maxSteps:=999999) (disch:=omega) only[go_sem,Nat.reduceBEq,Nat.reduceAdd]
    refine caN (by exact s1 (q1.to (h':=h6))) ?_;rintro v10 h10 r10 ⟨_,_,_,_,_,_,_,_,_,_,_,_,_,_,rfl,b1,b2⟩
    try simp(maxSteps:=999999) (disch:=omega) only[go_sem,Nat.reduceBEq,Nat.reduceAdd]
    refine caN (by exact c1 (q1.to (h':=h10))) ?_;rintro v11 h11 r11 ⟨_,_,_,_,_,_,_,_,_,_,_,_,_,_,rfl,b3,b4⟩
    try simp(maxSteps:=999999) (disch:=omega) only[go_sem,Nat.reduceBEq,Nat.reduceAdd]
    refine caN (by exact s2 (q2.to (h':=h11))) ?_;rintro v12 h12 r12 ⟨_,_,_,_,_,_,_,_,_,_,_,_,_,_,rfl,b5,b6⟩
    try simp(maxSteps:=999999) (disch:=omega) only[go_sem,Nat.reduceBEq,Nat.reduceAdd]
    refine caN (by exact c2 (q2.to (h':=h12))) ?_;rintro v13 h13 r13 ⟨_,_,_,_,_,_,_,_,_,_,_,_,_,_,rfl,b7,b8⟩
    try simp(maxSteps:=999999) (disch:=omega) only[go_sem,Nat.reduceBEq,Nat.reduceAdd]
    refine caN (by exact s3 (q3.to (h':=h13))) ?_;rintro v14 h14 r14 ⟨_,_,_,_,_,_,_,_,_,_,_,_,_,_,rfl,b9,b10⟩
    try simp(maxSteps:=999999) (disch:=omega) only[go_sem,Nat.reduceBEq,Nat.reduceAdd]
    refine caN (by exact c3 (q3.to (h':=h14))) ?_;rintro v15 h15 r15 ⟨_,_,_,_,_,_,_,_,_,_,_,_,_,_,rfl,b11,b12⟩
    try simp(maxSteps:=999999) (disch:=omega) only[go_sem,Nat.reduceBEq,Nat.reduceAdd]
    refine AWP_keep [6,10,11,12,13,14,15,16,17,18,19,20,21,22,23,24,25,26,27] (by kernel_rfl) ?_;dsimp only[List.map_cons,List.map_nil,lk,Nat.reduceBEq,cond_true,cond_false];refine rn [] (by kernel_rfl) ?_
    rcases Or.symm (Bool.eq_false_or_eq_true F1) with hF1 |hF1
    · try simp(maxSteps:=999999) (disch:=omega) only[go_sem,Nat.reduceBEq,Nat.reduceAdd,hF1]
      refine caN (by exact sane_spec) ?_;rintro v16 h16 r16 rfl
      try simp(maxSteps:=999999) (disch:=omega) only[go_sem,Nat.reduceBEq,Nat.reduceAdd]
    rcases Or.symm (Bool.eq_false_or_eq_true F2) with hF2 |hF2
    · try simp(maxSteps:=999999) (disch:=omega) only[go_sem,Nat.reduceBEq,Nat.reduceAdd,hF1,hF2]
      refine caN (by exact sane_spec) ?_;rintro v16 h16 r16 rfl
      try simp(maxSteps:=999999) (disch:=omega) only[go_sem,Nat.reduceBEq,Nat.reduceAdd]
    rcases Or.symm (Bool.eq_false_or_eq_true F3) with hF3 |hF3
    · try simp(maxSteps:=999999) (disch:=omega) only[go_sem,Nat.reduceBEq,Nat.reduceAdd,hF1,hF2,hF3]
      refine caN (by exact sane_spec) ?_;rintro v16 h16 r16 rfl
      try simp(maxSteps:=999999) (disch:=omega) only[go_sem,Nat.reduceBEq,Nat.reduceAdd]
    obtain⟨⟨n1,n2⟩,n3,n4⟩:=N hF1 hF2 hF3
    have P1:=Hid.mk (sz_pr ZS1.out.1 ZS1.out.2 ZC2.out.1 ZC2.out.2)
    have P2:=Hid.mk (sz_pr ZC1.out.1 ZC1.out.2 ZS2.out.1 ZS2.out.2)
    have P3:=Hid.mk (sz_pr ZC1.out.1 ZC1.out.2 ZC2.out.1 ZC2.out.2)
    have P4:=Hid.mk (sz_pr ZS1.out.1 ZS1.out.2 ZS2.out.1 ZS2.out.2)
    try simp(maxSteps:=999999) (disch:=omega) only[go_sem,Nat.reduceBEq,Nat.reduceAdd,hF1,hF2,hF3]
    refine AWP_keep [6,10,11,13,14,16,17,19,20,22,23,25,26] (by kernel_rfl) ?_;dsimp only[List.map_cons,List.map_nil,lk,Nat.reduceBEq,cond_true,cond_false];refine rn [] (by kernel_rfl) ?_;try simp(maxSteps:=999999) (disch:=omega) only[go_sem,Nat.reduceBEq,Nat.reduceAdd]
    have k1:=LProduct_spec (h:=h15) (b1.to (h':=h15)) (b2.to (h':=h15)) (b7.to (h':=h15)) (b8.to (h':=h15)) ZS1.out.1 ZS1.out.2 ZC2.out.1 ZC2.out.2
    refine caN (by exact k1) ?_;rintro v16 h16 r16 ⟨_,_,_,_,_,_,_,_,_,_,_,_,_,_,rfl,d1,d2⟩
    try simp(maxSteps:=999999) (disch:=omega) only[go_sem,Nat.reduceBEq,Nat.reduceAdd]
    have k2:=LProduct_spec (h:=h16) (b3.to (h':=h16)) (b4.to (h':=h16)) (b5.to (h':=h16)) (b6.to (h':=h16)) ZC1.out.1 ZC1.out.2 ZS2.out.1 ZS2.out.2
    refine caN (by exact k2) ?_;rintro v17 h17 r17 ⟨_,_,_,_,_,_,_,_,_,_,_,_,_,_,rfl,d3,d4⟩
    try simp(maxSteps:=999999) (disch:=omega) only[go_sem,Nat.reduceBEq,Nat.reduceAdd]
    refine caN (by exact Sum_spec (d1.to (h':=h17)) d3 (w35 P1.out.1) (w35 P2.out.1)) ?_;rintro v18 h18 r18 q4;obtain⟨_,_,_,_,_,_,_,rfl,q4⟩:=q4.sa
    try simp(maxSteps:=999999) (disch:=omega) only[go_sem,Nat.reduceBEq,Nat.reduceAdd]
    refine caN (by exact Sum_spec (d2.to (h':=h18)) (d4.to (h':=h18)) (w35 P1.out.2) (w35 P2.out.2)) ?_;rintro v19 h19 r19 q5;obtain⟨_,_,_,_,_,_,_,rfl,q5⟩:=q5.sa
    try simp(maxSteps:=999999) (disch:=omega) only[go_sem,Nat.reduceBEq,Nat.reduceAdd]
    have k5:=LMts_yes (h:=h19) (q4.to (h':=h19)) q5 (b9.to (h':=h19)) (b10.to (h':=h19)) (pp P1.out.1 P2.out.1) (pp P1.out.2 P2.out.2) (u34 ZS3.out.1) (u34 ZS3.out.2) n1 n2
    refine caN (by exact k5) ?_;rintro v20 h20 r20 rfl
    try simp(maxSteps:=999999) (disch:=omega) only[go_sem,Nat.reduceBEq,Nat.reduceAdd]
    refine AWP_keep [6,10,11,13,14,16,17,19,20,22,23,25,26,28,29,30,31] (by kernel_rfl) ?_;dsimp only[List.map_cons,List.map_nil,lk,Nat.reduceBEq,cond_true,cond_false];refine rn [] (by kernel_rfl) ?_;try simp(maxSteps:=999999) (disch:=omega) only[go_sem,Nat.reduceBEq,Nat.reduceAdd]
    have k3:=LProduct_spec (h:=h20) (b3.to (h':=h20)) (b4.to (h':=h20)) (b7.to (h':=h20)) (b8.to (h':=h20)) ZC1.out.1 ZC1.out.2 ZC2.out.1 ZC2.out.2
    refine caN (by exact k3) ?_;rintro v21 h21 r21 ⟨_,_,_,_,_,_,_,_,_,_,_,_,_,_,rfl,d5,d6⟩
    try simp(maxSteps:=999999) (disch:=omega) only[go_sem,Nat.reduceBEq,Nat.reduceAdd]
    have k4:=LProduct_spec (h:=h21) (b1.to (h':=h21)) (b2.to (h':=h21)) (b5.to (h':=h21)) (b6.to (h':=h21)) ZS1.out.1 ZS1.out.2 ZS2.out.1 ZS2.out.2
    refine caN (by exact k4) ?_;rintro v22 h22 r22 ⟨_,_,_,_,_,_,_,_,_,_,_,_,_,_,rfl,d7,d8⟩
    try simp(maxSteps:=999999) (disch:=omega) only[go_sem,Nat.reduceBEq,Nat.reduceAdd]
    refine caN (by exact sane_spec) ?_;rintro v23 h23 r23 rfl
    try simp(maxSteps:=999999) (disch:=omega) only[go_sem,Nat.reduceBEq,Nat.reduceAdd]
    refine caN (by exact Diff_spec (d5.to (h':=h23)) (d8.to (h':=h23)) (w35 P3.out.1) (w35 P4.out.2)) ?_;rintro v24 h24 r24 q6;obtain⟨_,_,_,_,_,_,_,rfl,q6⟩:=q6.sa
    try simp(maxSteps:=999999) (disch:=omega) only[go_sem,Nat.reduceBEq,Nat.reduceAdd]
    refine caN (by exact Diff_spec (d6.to (h':=h24)) (d7.to (h':=h24)) (w35 P3.out.2) (w35 P4.out.1)) ?_;rintro v25 h25 r25 q7;obtain⟨_,_,_,_,_,_,_,rfl,q7⟩:=q7.sa
    try simp(maxSteps:=999999) (disch:=omega) only[go_sem,Nat.reduceBEq,Nat.reduceAdd]
    have k6:=LMts_yes (h:=h25) (q6.to (h':=h25)) q7 (b11.to (h':=h25)) (b12.to (h':=h25)) (ss P3.out.1 P4.out.2) (ss P3.out.2 P4.out.1) (u34 ZC3.out.1) (u34 ZC3.out.2) n3 n4
    refine caN (by exact k6) ?_;rintro v26 h26 r26 rfl
    try simp(maxSteps:=999999) (disch:=omega) only[go_sem,Nat.reduceBEq,Nat.reduceAdd]
  rcases Or.symm (Bool.eq_false_or_eq_true E2) with hE2 |hE2
  · try simp(maxSteps:=999999) (disch:=omega) only[go_sem,Nat.reduceBEq,Nat.reduceAdd,hE1,hE2]
    refine AWP_keep [2,6,7,8,9,10,11,13,14,16,17] (by kernel_rfl) ?_;dsimp only[List.map_cons,List.map_nil,lk,Nat.reduceBEq,cond_true,cond_false];refine rn [] (by kernel_rfl) ?_;try simp(maxSteps:=999999) (disch:=omega) only[go_sem,Nat.reduceBEq,Nat.reduceAdd]
    refine caN (by exact s1 (q1.to (h':=h6))) ?_;rintro v10 h10 r10 ⟨_,_,_,_,_,_,_,_,_,_,_,_,_,_,rfl,b1,b2⟩
    try simp(maxSteps:=999999) (disch:=omega) only[go_sem,Nat.reduceBEq,Nat.reduceAdd]
    refine caN (by exact c1 (q1.to (h':=h10))) ?_;rintro v11 h11 r11 ⟨_,_,_,_,_,_,_,_,_,_,_,_,_,_,rfl,b3,b4⟩
    try simp(maxSteps:=999999) (disch:=omega) only[go_sem,Nat.reduceBEq,Nat.reduceAdd]
    refine caN (by exact s2 (q2.to (h':=h11))) ?_;rintro v12 h12 r12 ⟨_,_,_,_,_,_,_,_,_,_,_,_,_,_,rfl,b5,b6⟩
    try simp(maxSteps:=999999) (disch:=omega) only[go_sem,Nat.reduceBEq,Nat.reduceAdd]
    refine caN (by exact c2 (q2.to (h':=h12))) ?_;rintro v13 h13 r13 ⟨_,_,_,_,_,_,_,_,_,_,_,_,_,_,rfl,b7,b8⟩
    try simp(maxSteps:=999999) (disch:=omega) only[go_sem,Nat.reduceBEq,Nat.reduceAdd]
    refine caN (by exact s3 (q3.to (h':=h13))) ?_;rintro v14 h14 r14 ⟨_,_,_,_,_,_,_,_,_,_,_,_,_,_,rfl,b9,b10⟩
    try simp(maxSteps:=999999) (disch:=omega) only[go_sem,Nat.reduceBEq,Nat.reduceAdd]
    refine caN (by exact c3 (q3.to (h':=h14))) ?_;rintro v15 h15 r15 ⟨_,_,_,_,_,_,_,_,_,_,_,_,_,_,rfl,b11,b12⟩
    try simp(maxSteps:=999999) (disch:=omega) only[go_sem,Nat.reduceBEq,Nat.reduceAdd]
    refine AWP_keep [6,10,11,12,13,14,15,16,17,18,19,20,21,22,23,24,25,26,27] (by kernel_rfl) ?_;dsimp only[List.map_cons,List.map_nil,lk,Nat.reduceBEq,cond_true,cond_false];refine rn [] (by kernel_rfl) ?_
    rcases Or.symm (Bool.eq_false_or_eq_true F1) with hF1 |hF1
    · try simp(maxSteps:=999999) (disch:=omega) only[go_sem,Nat.reduceBEq,Nat.reduceAdd,hF1]
      refine caN (by exact sane_spec) ?_;rintro v16 h16 r16 rfl
      try simp(maxSteps:=999999) (disch:=omega) only[go_sem,Nat.reduceBEq,Nat.reduceAdd]
    rcases Or.symm (Bool.eq_false_or_eq_true F2) with hF2 |hF2
    · try simp(maxSteps:=999999) (disch:=omega) only[go_sem,Nat.reduceBEq,Nat.reduceAdd,hF1,hF2]
      refine caN (by exact sane_spec) ?_;rintro v16 h16 r16 rfl
      try simp(maxSteps:=999999) (disch:=omega) only[go_sem,Nat.reduceBEq,Nat.reduceAdd]
    rcases Or.symm (Bool.eq_false_or_eq_true F3) with hF3 |hF3
    · try simp(maxSteps:=999999) (disch:=omega) only[go_sem,Nat.reduceBEq,Nat.reduceAdd,hF1,hF2,hF3]
      refine caN (by exact sane_spec) ?_;rintro v16 h16 r16 rfl
      try simp(maxSteps:=999999) (disch:=omega) only[go_sem,Nat.reduceBEq,Nat.reduceAdd]
    obtain⟨⟨n1,n2⟩,n3,n4⟩:=N hF1 hF2 hF3
    have P1:=Hid.mk (sz_pr ZS1.out.1 ZS1.out.2 ZC2.out.1 ZC2.out.2)
    have P2:=Hid.mk (sz_pr ZC1.out.1 ZC1.out.2 ZS2.out.1 ZS2.out.2)
    have P3:=Hid.mk (sz_pr ZC1.out.1 ZC1.out.2 ZC2.out.1 ZC2.out.2)
    have P4:=Hid.mk (sz_pr ZS1.out.1 ZS1.out.2 ZS2.out.1 ZS2.out.2)
    try simp(maxSteps:=999999) (disch:=omega) only[go_sem,Nat.reduceBEq,Nat.reduceAdd,hF1,hF2,hF3]
    refine AWP_keep [6,10,11,13,14,16,17,19,20,22,23,25,26] (by kernel_rfl) ?_;dsimp only[List.map_cons,List.map_nil,lk,Nat.reduceBEq,cond_true,cond_false];refine rn [] (by kernel_rfl) ?_;try simp(maxSteps:=999999) (disch:=omega) only[go_sem,Nat.reduceBEq,Nat.reduceAdd]
    have k1:=LProduct_spec (h:=h15) (b1.to (h':=h15)) (b2.to (h':=h15)) (b7.to (h':=h15)) (b8.to (h':=h15)) ZS1.out.1 ZS1.out.2 ZC2.out.1 ZC2.out.2
    refine caN (by exact k1) ?_;rintro v16 h16 r16 ⟨_,_,_,_,_,_,_,_,_,_,_,_,_,_,rfl,d1,d2⟩
    try simp(maxSteps:=999999) (disch:=omega) only[go_sem,Nat.reduceBEq,Nat.reduceAdd]
    have k2:=LProduct_spec (h:=h16) (b3.to (h':=h16)) (b4.to (h':=h16)) (b5.to (h':=h16)) (b6.to (h':=h16)) ZC1.out.1 ZC1.out.2 ZS2.out.1 ZS2.out.2
    refine caN (by exact k2) ?_;rintro v17 h17 r17 ⟨_,_,_,_,_,_,_,_,_,_,_,_,_,_,rfl,d3,d4⟩
    try simp(maxSteps:=999999) (disch:=omega) only[go_sem,Nat.reduceBEq,Nat.reduceAdd]
    refine caN (by exact Sum_spec (d1.to (h':=h17)) d3 (w35 P1.out.1) (w35 P2.out.1)) ?_;rintro v18 h18 r18 q4;obtain⟨_,_,_,_,_,_,_,rfl,q4⟩:=q4.sa
    try simp(maxSteps:=999999) (disch:=omega) only[go_sem,Nat.reduceBEq,Nat.reduceAdd]
    refine caN (by exact Sum_spec (d2.to (h':=h18)) (d4.to (h':=h18)) (w35 P1.out.2) (w35 P2.out.2)) ?_;rintro v19 h19 r19 q5;obtain⟨_,_,_,_,_,_,_,rfl,q5⟩:=q5.sa
    try simp(maxSteps:=999999) (disch:=omega) only[go_sem,Nat.reduceBEq,Nat.reduceAdd]
    have k5:=LMts_yes (h:=h19) (q4.to (h':=h19)) q5 (b9.to (h':=h19)) (b10.to (h':=h19)) (pp P1.out.1 P2.out.1) (pp P1.out.2 P2.out.2) (u34 ZS3.out.1) (u34 ZS3.out.2) n1 n2
    refine caN (by exact k5) ?_;rintro v20 h20 r20 rfl
    try simp(maxSteps:=999999) (disch:=omega) only[go_sem,Nat.reduceBEq,Nat.reduceAdd]
    refine AWP_keep [6,10,11,13,14,16,17,19,20,22,23,25,26,28,29,30,31] (by kernel_rfl) ?_;dsimp only[List.map_cons,List.map_nil,lk,Nat.reduceBEq,cond_true,cond_false];refine rn [] (by kernel_rfl) ?_;try simp(maxSteps:=999999) (disch:=omega) only[go_sem,Nat.reduceBEq,Nat.reduceAdd]
    have k3:=LProduct_spec (h:=h20) (b3.to (h':=h20)) (b4.to (h':=h20)) (b7.to (h':=h20)) (b8.to (h':=h20)) ZC1.out.1 ZC1.out.2 ZC2.out.1 ZC2.out.2
    refine caN (by exact k3) ?_;rintro v21 h21 r21 ⟨_,_,_,_,_,_,_,_,_,_,_,_,_,_,rfl,d5,d6⟩
    try simp(maxSteps:=999999) (disch:=omega) only[go_sem,Nat.reduceBEq,Nat.reduceAdd]
    have k4:=LProduct_spec (h:=h21) (b1.to (h':=h21)) (b2.to (h':=h21)) (b5.to (h':=h21)) (b6.to (h':=h21)) ZS1.out.1 ZS1.out.2 ZS2.out.1 ZS2.out.2
    refine caN (by exact k4) ?_;rintro v22 h22 r22 ⟨_,_,_,_,_,_,_,_,_,_,_,_,_,_,rfl,d7,d8⟩
    try simp(maxSteps:=999999) (disch:=omega) only[go_sem,Nat.reduceBEq,Nat.reduceAdd]
    refine caN (by exact sane_spec) ?_;rintro v23 h23 r23 rfl
    try simp(maxSteps:=999999) (disch:=omega) only[go_sem,Nat.reduceBEq,Nat.reduceAdd]
    refine caN (by exact Diff_spec (d5.to (h':=h23)) (d8.to (h':=h23)) (w35 P3.out.1) (w35 P4.out.2)) ?_;rintro v24 h24 r24 q6;obtain⟨_,_,_,_,_,_,_,rfl,q6⟩:=q6.sa
    try simp(maxSteps:=999999) (disch:=omega) only[go_sem,Nat.reduceBEq,Nat.reduceAdd]
    refine caN (by exact Diff_spec (d6.to (h':=h24)) (d7.to (h':=h24)) (w35 P3.out.2) (w35 P4.out.1)) ?_;rintro v25 h25 r25 q7;obtain⟨_,_,_,_,_,_,_,rfl,q7⟩:=q7.sa
    try simp(maxSteps:=999999) (disch:=omega) only[go_sem,Nat.reduceBEq,Nat.reduceAdd]
    have k6:=LMts_yes (h:=h25) (q6.to (h':=h25)) q7 (b11.to (h':=h25)) (b12.to (h':=h25)) (ss P3.out.1 P4.out.2) (ss P3.out.2 P4.out.1) (u34 ZC3.out.1) (u34 ZC3.out.2) n3 n4
    refine caN (by exact k6) ?_;rintro v26 h26 r26 rfl
    try simp(maxSteps:=999999) (disch:=omega) only[go_sem,Nat.reduceBEq,Nat.reduceAdd]
  rcases Or.symm (Bool.eq_false_or_eq_true E3) with hE3 |hE3
  · try simp(maxSteps:=999999) (disch:=omega) only[go_sem,Nat.reduceBEq,Nat.reduceAdd,hE1,hE2,hE3]
    refine AWP_keep [2,6,7,8,9,10,11,13,14,16,17] (by kernel_rfl) ?_;dsimp only[List.map_cons,List.map_nil,lk,Nat.reduceBEq,cond_true,cond_false];refine rn [] (by kernel_rfl) ?_;try simp(maxSteps:=999999) (disch:=omega) only[go_sem,Nat.reduceBEq,Nat.reduceAdd]
    refine caN (by exact s1 (q1.to (h':=h6))) ?_;rintro v10 h10 r10 ⟨_,_,_,_,_,_,_,_,_,_,_,_,_,_,rfl,b1,b2⟩
    try simp(maxSteps:=999999) (disch:=omega) only[go_sem,Nat.reduceBEq,Nat.reduceAdd]
    refine caN (by exact c1 (q1.to (h':=h10))) ?_;rintro v11 h11 r11 ⟨_,_,_,_,_,_,_,_,_,_,_,_,_,_,rfl,b3,b4⟩
    try simp(maxSteps:=999999) (disch:=omega) only[go_sem,Nat.reduceBEq,Nat.reduceAdd]
    refine caN (by exact s2 (q2.to (h':=h11))) ?_;rintro v12 h12 r12 ⟨_,_,_,_,_,_,_,_,_,_,_,_,_,_,rfl,b5,b6⟩
    try simp(maxSteps:=999999) (disch:=omega) only[go_sem,Nat.reduceBEq,Nat.reduceAdd]
    refine caN (by exact c2 (q2.to (h':=h12))) ?_;rintro v13 h13 r13 ⟨_,_,_,_,_,_,_,_,_,_,_,_,_,_,rfl,b7,b8⟩
    try simp(maxSteps:=999999) (disch:=omega) only[go_sem,Nat.reduceBEq,Nat.reduceAdd]
    refine caN (by exact s3 (q3.to (h':=h13))) ?_;rintro v14 h14 r14 ⟨_,_,_,_,_,_,_,_,_,_,_,_,_,_,rfl,b9,b10⟩
    try simp(maxSteps:=999999) (disch:=omega) only[go_sem,Nat.reduceBEq,Nat.reduceAdd]
    refine caN (by exact c3 (q3.to (h':=h14))) ?_;rintro v15 h15 r15 ⟨_,_,_,_,_,_,_,_,_,_,_,_,_,_,rfl,b11,b12⟩
    try simp(maxSteps:=999999) (disch:=omega) only[go_sem,Nat.reduceBEq,Nat.reduceAdd]
    refine AWP_keep [6,10,11,12,13,14,15,16,17,18,19,20,21,22,23,24,25,26,27] (by kernel_rfl) ?_;dsimp only[List.map_cons,List.map_nil,lk,Nat.reduceBEq,cond_true,cond_false];refine rn [] (by kernel_rfl) ?_
    rcases Or.symm (Bool.eq_false_or_eq_true F1) with hF1 |hF1
    · try simp(maxSteps:=999999) (disch:=omega) only[go_sem,Nat.reduceBEq,Nat.reduceAdd,hF1]
      refine caN (by exact sane_spec) ?_;rintro v16 h16 r16 rfl
      try simp(maxSteps:=999999) (disch:=omega) only[go_sem,Nat.reduceBEq,Nat.reduceAdd]
    rcases Or.symm (Bool.eq_false_or_eq_true F2) with hF2 |hF2
    · try simp(maxSteps:=999999) (disch:=omega) only[go_sem,Nat.reduceBEq,Nat.reduceAdd,hF1,hF2]
      refine caN (by exact sane_spec) ?_;rintro v16 h16 r16 rfl
      try simp(maxSteps:=999999) (disch:=omega) only[go_sem,Nat.reduceBEq,Nat.reduceAdd]
    rcases Or.symm (Bool.eq_false_or_eq_true F3) with hF3 |hF3
    · try simp(maxSteps:=999999) (disch:=omega) only[go_sem,Nat.reduceBEq,Nat.reduceAdd,hF1,hF2,hF3]
      refine caN (by exact sane_spec) ?_;rintro v16 h16 r16 rfl
      try simp(maxSteps:=999999) (disch:=omega) only[go_sem,Nat.reduceBEq,Nat.reduceAdd]
    obtain⟨⟨n1,n2⟩,n3,n4⟩:=N hF1 hF2 hF3
    have P1:=Hid.mk (sz_pr ZS1.out.1 ZS1.out.2 ZC2.out.1 ZC2.out.2)
    have P2:=Hid.mk (sz_pr ZC1.out.1 ZC1.out.2 ZS2.out.1 ZS2.out.2)
    have P3:=Hid.mk (sz_pr ZC1.out.1 ZC1.out.2 ZC2.out.1 ZC2.out.2)
    have P4:=Hid.mk (sz_pr ZS1.out.1 ZS1.out.2 ZS2.out.1 ZS2.out.2)
    try simp(maxSteps:=999999) (disch:=omega) only[go_sem,Nat.reduceBEq,Nat.reduceAdd,hF1,hF2,hF3]
    refine AWP_keep [6,10,11,13,14,16,17,19,20,22,23,25,26] (by kernel_rfl) ?_;dsimp only[List.map_cons,List.map_nil,lk,Nat.reduceBEq,cond_true,cond_false];refine rn [] (by kernel_rfl) ?_;try simp(maxSteps:=999999) (disch:=omega) only[go_sem,Nat.reduceBEq,Nat.reduceAdd]
    have k1:=LProduct_spec (h:=h15) (b1.to (h':=h15)) (b2.to (h':=h15)) (b7.to (h':=h15)) (b8.to (h':=h15)) ZS1.out.1 ZS1.out.2 ZC2.out.1 ZC2.out.2
    refine caN (by exact k1) ?_;rintro v16 h16 r16 ⟨_,_,_,_,_,_,_,_,_,_,_,_,_,_,rfl,d1,d2⟩
    try simp(maxSteps:=999999) (disch:=omega) only[go_sem,Nat.reduceBEq,Nat.reduceAdd]
    have k2:=LProduct_spec (h:=h16) (b3.to (h':=h16)) (b4.to (h':=h16)) (b5.to (h':=h16)) (b6.to (h':=h16)) ZC1.out.1 ZC1.out.2 ZS2.out.1 ZS2.out.2
    refine caN (by exact k2) ?_;rintro v17 h17 r17 ⟨_,_,_,_,_,_,_,_,_,_,_,_,_,_,rfl,d3,d4⟩
    try simp(maxSteps:=999999) (disch:=omega) only[go_sem,Nat.reduceBEq,Nat.reduceAdd]
    refine caN (by exact Sum_spec (d1.to (h':=h17)) d3 (w35 P1.out.1) (w35 P2.out.1)) ?_;rintro v18 h18 r18 q4;obtain⟨_,_,_,_,_,_,_,rfl,q4⟩:=q4.sa
    try simp(maxSteps:=999999) (disch:=omega) only[go_sem,Nat.reduceBEq,Nat.reduceAdd]
    refine caN (by exact Sum_spec (d2.to (h':=h18)) (d4.to (h':=h18)) (w35 P1.out.2) (w35 P2.out.2)) ?_;rintro v19 h19 r19 q5;obtain⟨_,_,_,_,_,_,_,rfl,q5⟩:=q5.sa
    try simp(maxSteps:=999999) (disch:=omega) only[go_sem,Nat.reduceBEq,Nat.reduceAdd]
    have k5:=LMts_yes (h:=h19) (q4.to (h':=h19)) q5 (b9.to (h':=h19)) (b10.to (h':=h19)) (pp P1.out.1 P2.out.1) (pp P1.out.2 P2.out.2) (u34 ZS3.out.1) (u34 ZS3.out.2) n1 n2
    refine caN (by exact k5) ?_;rintro v20 h20 r20 rfl
    try simp(maxSteps:=999999) (disch:=omega) only[go_sem,Nat.reduceBEq,Nat.reduceAdd]
    refine AWP_keep [6,10,11,13,14,16,17,19,20,22,23,25,26,28,29,30,31] (by kernel_rfl) ?_;dsimp only[List.map_cons,List.map_nil,lk,Nat.reduceBEq,cond_true,cond_false];refine rn [] (by kernel_rfl) ?_;try simp(maxSteps:=999999) (disch:=omega) only[go_sem,Nat.reduceBEq,Nat.reduceAdd]
    have k3:=LProduct_spec (h:=h20) (b3.to (h':=h20)) (b4.to (h':=h20)) (b7.to (h':=h20)) (b8.to (h':=h20)) ZC1.out.1 ZC1.out.2 ZC2.out.1 ZC2.out.2
    refine caN (by exact k3) ?_;rintro v21 h21 r21 ⟨_,_,_,_,_,_,_,_,_,_,_,_,_,_,rfl,d5,d6⟩
    try simp(maxSteps:=999999) (disch:=omega) only[go_sem,Nat.reduceBEq,Nat.reduceAdd]
    have k4:=LProduct_spec (h:=h21) (b1.to (h':=h21)) (b2.to (h':=h21)) (b5.to (h':=h21)) (b6.to (h':=h21)) ZS1.out.1 ZS1.out.2 ZS2.out.1 ZS2.out.2
    refine caN (by exact k4) ?_;rintro v22 h22 r22 ⟨_,_,_,_,_,_,_,_,_,_,_,_,_,_,rfl,d7,d8⟩
    try simp(maxSteps:=999999) (disch:=omega) only[go_sem,Nat.reduceBEq,Nat.reduceAdd]
    refine caN (by exact sane_spec) ?_;rintro v23 h23 r23 rfl
    try simp(maxSteps:=999999) (disch:=omega) only[go_sem,Nat.reduceBEq,Nat.reduceAdd]
    refine caN (by exact Diff_spec (d5.to (h':=h23)) (d8.to (h':=h23)) (w35 P3.out.1) (w35 P4.out.2)) ?_;rintro v24 h24 r24 q6;obtain⟨_,_,_,_,_,_,_,rfl,q6⟩:=q6.sa
    try simp(maxSteps:=999999) (disch:=omega) only[go_sem,Nat.reduceBEq,Nat.reduceAdd]
    refine caN (by exact Diff_spec (d6.to (h':=h24)) (d7.to (h':=h24)) (w35 P3.out.2) (w35 P4.out.1)) ?_;rintro v25 h25 r25 q7;obtain⟨_,_,_,_,_,_,_,rfl,q7⟩:=q7.sa
    try simp(maxSteps:=999999) (disch:=omega) only[go_sem,Nat.reduceBEq,Nat.reduceAdd]
    have k6:=LMts_yes (h:=h25) (q6.to (h':=h25)) q7 (b11.to (h':=h25)) (b12.to (h':=h25)) (ss P3.out.1 P4.out.2) (ss P3.out.2 P4.out.1) (u34 ZC3.out.1) (u34 ZC3.out.2) n3 n4
    refine caN (by exact k6) ?_;rintro v26 h26 r26 rfl
    try simp(maxSteps:=999999) (disch:=omega) only[go_sem,Nat.reduceBEq,Nat.reduceAdd]
  obtain⟨m1,m2⟩:=M hE1 hE2 hE3
  try simp(maxSteps:=999999) (disch:=omega) only[go_sem,Nat.reduceBEq,Nat.reduceAdd,hE1,hE2,hE3]
  refine caN (by exact RProd_spec (a1.to (h':=h6)) (a3.to (h':=h6)) (u35 ZE1.out.1) (u35 ZE2.out.1)) ?_;rintro v7 h7 r7 q8;obtain⟨_,_,_,_,_,_,_,rfl,q8⟩:=q8.sa
  try simp(maxSteps:=999999) (disch:=omega) only[go_sem,Nat.reduceBEq,Nat.reduceAdd]
  refine caN (by exact RProd_spec (a2.to (h':=h7)) (a4.to (h':=h7)) (u35 ZE1.out.2) (u35 ZE2.out.2)) ?_;rintro v8 h8 r8 q9;obtain⟨_,_,_,_,_,_,_,rfl,q9⟩:=q9.sa
  try simp(maxSteps:=999999) (disch:=omega) only[go_sem,Nat.reduceBEq,Nat.reduceAdd]
  have k0:=LMts_yes (h:=h8) (q8.to (h':=h8)) q9 (a5.to (h':=h8)) (a6.to (h':=h8)) (mm ZE1.out.1 ZE2.out.1) (mm ZE1.out.2 ZE2.out.2) (u34 ZE3.out.1) (u34 ZE3.out.2) m1 m2
  refine caN (by exact k0) ?_;rintro v9 h9 r9 rfl
  try simp(maxSteps:=999999) (disch:=omega) only[go_sem,Nat.reduceBEq,Nat.reduceAdd]
  refine AWP_keep [2,6,7,8,9,10,11,13,14,16,17] (by kernel_rfl) ?_;dsimp only[List.map_cons,List.map_nil,lk,Nat.reduceBEq,cond_true,cond_false];refine rn [] (by kernel_rfl) ?_;try simp(maxSteps:=999999) (disch:=omega) only[go_sem,Nat.reduceBEq,Nat.reduceAdd]
  refine caN (by exact s1 (q1.to (h':=h9))) ?_;rintro v10 h10 r10 ⟨_,_,_,_,_,_,_,_,_,_,_,_,_,_,rfl,b1,b2⟩
  try simp(maxSteps:=999999) (disch:=omega) only[go_sem,Nat.reduceBEq,Nat.reduceAdd]
  refine caN (by exact c1 (q1.to (h':=h10))) ?_;rintro v11 h11 r11 ⟨_,_,_,_,_,_,_,_,_,_,_,_,_,_,rfl,b3,b4⟩
  try simp(maxSteps:=999999) (disch:=omega) only[go_sem,Nat.reduceBEq,Nat.reduceAdd]
  refine caN (by exact s2 (q2.to (h':=h11))) ?_;rintro v12 h12 r12 ⟨_,_,_,_,_,_,_,_,_,_,_,_,_,_,rfl,b5,b6⟩
  try simp(maxSteps:=999999) (disch:=omega) only[go_sem,Nat.reduceBEq,Nat.reduceAdd]
  refine caN (by exact c2 (q2.to (h':=h12))) ?_;rintro v13 h13 r13 ⟨_,_,_,_,_,_,_,_,_,_,_,_,_,_,rfl,b7,b8⟩
  try simp(maxSteps:=999999) (disch:=omega) only[go_sem,Nat.reduceBEq,Nat.reduceAdd]
  refine caN (by exact s3 (q3.to (h':=h13))) ?_;rintro v14 h14 r14 ⟨_,_,_,_,_,_,_,_,_,_,_,_,_,_,rfl,b9,b10⟩
  try simp(maxSteps:=999999) (disch:=omega) only[go_sem,Nat.reduceBEq,Nat.reduceAdd]
  refine caN (by exact c3 (q3.to (h':=h14))) ?_;rintro v15 h15 r15 ⟨_,_,_,_,_,_,_,_,_,_,_,_,_,_,rfl,b11,b12⟩
  try simp(maxSteps:=999999) (disch:=omega) only[go_sem,Nat.reduceBEq,Nat.reduceAdd]
  refine AWP_keep [6,10,11,12,13,14,15,16,17,18,19,20,21,22,23,24,25,26,27] (by kernel_rfl) ?_;dsimp only[List.map_cons,List.map_nil,lk,Nat.reduceBEq,cond_true,cond_false];refine rn [] (by kernel_rfl) ?_
  rcases Or.symm (Bool.eq_false_or_eq_true F1) with hF1 |hF1
  · try simp(maxSteps:=999999) (disch:=omega) only[go_sem,Nat.reduceBEq,Nat.reduceAdd,hF1]
    refine caN (by exact sane_spec) ?_;rintro v16 h16 r16 rfl
    try simp(maxSteps:=999999) (disch:=omega) only[go_sem,Nat.reduceBEq,Nat.reduceAdd]
  rcases Or.symm (Bool.eq_false_or_eq_true F2) with hF2 |hF2
  · try simp(maxSteps:=999999) (disch:=omega) only[go_sem,Nat.reduceBEq,Nat.reduceAdd,hF1,hF2]
    refine caN (by exact sane_spec) ?_;rintro v16 h16 r16 rfl
    try simp(maxSteps:=999999) (disch:=omega) only[go_sem,Nat.reduceBEq,Nat.reduceAdd]
  rcases Or.symm (Bool.eq_false_or_eq_true F3) with hF3 |hF3
  · try simp(maxSteps:=999999) (disch:=omega) only[go_sem,Nat.reduceBEq,Nat.reduceAdd,hF1,hF2,hF3]
    refine caN (by exact sane_spec) ?_;rintro v16 h16 r16 rfl
    try simp(maxSteps:=999999) (disch:=omega) only[go_sem,Nat.reduceBEq,Nat.reduceAdd]
  obtain⟨⟨n1,n2⟩,n3,n4⟩:=N hF1 hF2 hF3
  have P1:=Hid.mk (sz_pr ZS1.out.1 ZS1.out.2 ZC2.out.1 ZC2.out.2)
  have P2:=Hid.mk (sz_pr ZC1.out.1 ZC1.out.2 ZS2.out.1 ZS2.out.2)
  have P3:=Hid.mk (sz_pr ZC1.out.1 ZC1.out.2 ZC2.out.1 ZC2.out.2)
  have P4:=Hid.mk (sz_pr ZS1.out.1 ZS1.out.2 ZS2.out.1 ZS2.out.2)
  try simp(maxSteps:=999999) (disch:=omega) only[go_sem,Nat.reduceBEq,Nat.reduceAdd,hF1,hF2,hF3]
  refine AWP_keep [6,10,11,13,14,16,17,19,20,22,23,25,26] (by kernel_rfl) ?_;dsimp only[List.map_cons,List.map_nil,lk,Nat.reduceBEq,cond_true,cond_false];refine rn [] (by kernel_rfl) ?_;try simp(maxSteps:=999999) (disch:=omega) only[go_sem,Nat.reduceBEq,Nat.reduceAdd]
  have k1:=LProduct_spec (h:=h15) (b1.to (h':=h15)) (b2.to (h':=h15)) (b7.to (h':=h15)) (b8.to (h':=h15)) ZS1.out.1 ZS1.out.2 ZC2.out.1 ZC2.out.2
  refine caN (by exact k1) ?_;rintro v16 h16 r16 ⟨_,_,_,_,_,_,_,_,_,_,_,_,_,_,rfl,d1,d2⟩
  try simp(maxSteps:=999999) (disch:=omega) only[go_sem,Nat.reduceBEq,Nat.reduceAdd]
  have k2:=LProduct_spec (h:=h16) (b3.to (h':=h16)) (b4.to (h':=h16)) (b5.to (h':=h16)) (b6.to (h':=h16)) ZC1.out.1 ZC1.out.2 ZS2.out.1 ZS2.out.2
  refine caN (by exact k2) ?_;rintro v17 h17 r17 ⟨_,_,_,_,_,_,_,_,_,_,_,_,_,_,rfl,d3,d4⟩
  try simp(maxSteps:=999999) (disch:=omega) only[go_sem,Nat.reduceBEq,Nat.reduceAdd]
  refine caN (by exact Sum_spec (d1.to (h':=h17)) d3 (w35 P1.out.1) (w35 P2.out.1)) ?_;rintro v18 h18 r18 q4;obtain⟨_,_,_,_,_,_,_,rfl,q4⟩:=q4.sa
  try simp(maxSteps:=999999) (disch:=omega) only[go_sem,Nat.reduceBEq,Nat.reduceAdd]
  refine caN (by exact Sum_spec (d2.to (h':=h18)) (d4.to (h':=h18)) (w35 P1.out.2) (w35 P2.out.2)) ?_;rintro v19 h19 r19 q5;obtain⟨_,_,_,_,_,_,_,rfl,q5⟩:=q5.sa
  try simp(maxSteps:=999999) (disch:=omega) only[go_sem,Nat.reduceBEq,Nat.reduceAdd]
  have k5:=LMts_yes (h:=h19) (q4.to (h':=h19)) q5 (b9.to (h':=h19)) (b10.to (h':=h19)) (pp P1.out.1 P2.out.1) (pp P1.out.2 P2.out.2) (u34 ZS3.out.1) (u34 ZS3.out.2) n1 n2
  refine caN (by exact k5) ?_;rintro v20 h20 r20 rfl
  try simp(maxSteps:=999999) (disch:=omega) only[go_sem,Nat.reduceBEq,Nat.reduceAdd]
  refine AWP_keep [6,10,11,13,14,16,17,19,20,22,23,25,26,28,29,30,31] (by kernel_rfl) ?_;dsimp only[List.map_cons,List.map_nil,lk,Nat.reduceBEq,cond_true,cond_false];refine rn [] (by kernel_rfl) ?_;try simp(maxSteps:=999999) (disch:=omega) only[go_sem,Nat.reduceBEq,Nat.reduceAdd]
  have k3:=LProduct_spec (h:=h20) (b3.to (h':=h20)) (b4.to (h':=h20)) (b7.to (h':=h20)) (b8.to (h':=h20)) ZC1.out.1 ZC1.out.2 ZC2.out.1 ZC2.out.2
  refine caN (by exact k3) ?_;rintro v21 h21 r21 ⟨_,_,_,_,_,_,_,_,_,_,_,_,_,_,rfl,d5,d6⟩
  try simp(maxSteps:=999999) (disch:=omega) only[go_sem,Nat.reduceBEq,Nat.reduceAdd]
  have k4:=LProduct_spec (h:=h21) (b1.to (h':=h21)) (b2.to (h':=h21)) (b5.to (h':=h21)) (b6.to (h':=h21)) ZS1.out.1 ZS1.out.2 ZS2.out.1 ZS2.out.2
  refine caN (by exact k4) ?_;rintro v22 h22 r22 ⟨_,_,_,_,_,_,_,_,_,_,_,_,_,_,rfl,d7,d8⟩
  try simp(maxSteps:=999999) (disch:=omega) only[go_sem,Nat.reduceBEq,Nat.reduceAdd]
  refine caN (by exact sane_spec) ?_;rintro v23 h23 r23 rfl
  try simp(maxSteps:=999999) (disch:=omega) only[go_sem,Nat.reduceBEq,Nat.reduceAdd]
  refine caN (by exact Diff_spec (d5.to (h':=h23)) (d8.to (h':=h23)) (w35 P3.out.1) (w35 P4.out.2)) ?_;rintro v24 h24 r24 q6;obtain⟨_,_,_,_,_,_,_,rfl,q6⟩:=q6.sa
  try simp(maxSteps:=999999) (disch:=omega) only[go_sem,Nat.reduceBEq,Nat.reduceAdd]
  refine caN (by exact Diff_spec (d6.to (h':=h24)) (d7.to (h':=h24)) (w35 P3.out.2) (w35 P4.out.1)) ?_;rintro v25 h25 r25 q7;obtain⟨_,_,_,_,_,_,_,rfl,q7⟩:=q7.sa
  try simp(maxSteps:=999999) (disch:=omega) only[go_sem,Nat.reduceBEq,Nat.reduceAdd]
  have k6:=LMts_yes (h:=h25) (q6.to (h':=h25)) q7 (b11.to (h':=h25)) (b12.to (h':=h25)) (ss P3.out.1 P4.out.2) (ss P3.out.2 P4.out.1) (u34 ZC3.out.1) (u34 ZC3.out.2) n3 n4
  refine caN (by exact k6) ?_;rintro v26 h26 r26 rfl
  try simp(maxSteps:=999999) (disch:=omega) only[go_sem,Nat.reduceBEq,Nat.reduceAdd]
theorem Adds2_law {h0 h:PH} [Le h0 h] {v w:Value} {ng mg:Bool} {nn nd mn md:Nat} {p:Int} (hv:Rx h0 v ng nn nd) (hw:Rx h0 w mg mn md):Spec mach 5 #[v,w,.int .i64 p] h (fun r _=>r=.bool true) NP:=by
  have bx:=hv.sz
  have by_:=hw.sz
  have bs:=sz_add (qof ng nn nd) (qof mg mn md)
  have bs:sz (qof ng nn nd+qof mg mn md)≤2^35:=by omega
  have bx:sz (qof ng nn nd)≤2^35:=by omega
  have by_:sz (qof mg mn md)≤2^35:=by omega
  have up:∀(fn:Int) (x:Rat),Hid (sz (brL fn x p)≤2^20∧sz (brH fn x p)≤2^20):=fun fn x=>⟨Nat.le_trans (br_sz fn x p).1 (by decide),Nat.le_trans (br_sz fn x p).2 (by decide)⟩
  have c4:∀{x:Rat},sz x≤2^35→∀{h1 h:PH} {w:Value} [Le h1 h],Qr h1 w x→Spec mach 7 #[.int .i64 4,w,.int .i64 p] h (fun r h'=>Qb h' r (brL 4 x p) (brH 4 x p) (decide (brE 3 x p=0))) NP:=fun {x} b {h1 h w} _ c=>by
    have:=LBracket_spec (h:=h) (fn:=4) (p:=p) Apply_e4 c b
    rw[br_34] at this
    exact this
  have nat:∀{fn:Int} {x:Rat},brE fn x p=0→∃q:Nat,p=(q:Int):=fun k=>⟨p.toNat,by have:=(br_p k).2.1;omega⟩
  refine Adds_walk hv.1 hw.1 rfl rfl ⟨bx⟩ ⟨by_⟩ (fun c=>LBracket_spec (fn:=1) (p:=p) Apply_e1 c bx) (fun c=>LBracket_spec (fn:=1) (p:=p) Apply_e1 c by_) (fun c=>LBracket_spec (fn:=1) (p:=p) Apply_e1 c bs) (fun c=>LBracket_spec (fn:=3) (p:=p) Apply_e3 c bx) (c4 bx) (fun c=>LBracket_spec (fn:=3) (p:=p) Apply_e3 c by_) (c4 by_) (fun c=>LBracket_spec (fn:=3) (p:=p) Apply_e3 c bs) (c4 bs) (up _ _) (up _ _) (up _ _) (up _ _) (up _ _) (up _ _) (up _ _) (up _ _) (up _ _) (fun k1 k2 k3=>?_) (fun k1 k2 k3=>?_)
  · have k1:=of_decide_eq_true k1
    obtain⟨q,rfl⟩:=nat k1
    exact adds_exp k1 (of_decide_eq_true k2) (of_decide_eq_true k3)
  · have k1:=of_decide_eq_true k1
    obtain⟨q,rfl⟩:=nat k1
    exact adds_sc k1 (of_decide_eq_true k2) (of_decide_eq_true k3)
end Go.Q
