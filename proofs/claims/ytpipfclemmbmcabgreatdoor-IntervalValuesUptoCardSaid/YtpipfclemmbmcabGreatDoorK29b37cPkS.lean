/-
  The ends of what Call returns are in order, and what stands on it. Conditions: each theorem's own.
-/
import Derived.Test.YtpipfclemmbmcabGreatDoorK4df6b8PkR
import Derived.Test.YtpipfclemmbmcabGreatDoorK82eddfPkO
import Derived.Test.YtpipfclemmbmcabGreatDoorK39f9e2PkQ
import Derived.Test.YtpipfclemmbmcabGreatDoorK3aad23PkF
import Derived.Test.YtpipfclemmbmcabGreatDoorK66e2b1PkP
import Derived.Test.YtpipfclemmbmcabGreatDoorKe626caPkI
import Derived.Test.YtpipfclemmbmcabGreatDoorK943100PkJ
import Derived.Test.YtpipfclemmbmcabGreatDoorK3f4f2bPkL
import Derived.Test.YtpipfclemmbmcabGreatDoorK1890eePkC
set_option linter.unusedVariables false
set_option linter.unusedSimpArgs false
open Nat renaming reduceBEq→ξ,reduceAdd→ζ,le_trans→χ,le_refl→η,mod_eq_of_lt→qBi
open Rat renaming le_trans→qAq,intCast_le_intCast→qBa,mul_inv_cancel→qBf,le_refl→qBk
namespace Go.Q
set_option maxRecDepth 100000
set_option maxHeartbeats 8000000
theorem el_br {fn:Int} {x:Rat} {p:Int} (h:elE fn x p=0):brE fn x p=0∧brL fn x p=elL fn x p∧brH fn x p=elH fn x p:=by
 have h0:eErr fn x p=0:=by
  unfold elE at h
  by_cases e:eErr fn x p=0
  ·exact e
  ·rw[if_pos e] at h;exact h
 obtain⟨_,_,_,_,k,_⟩:=dw h0
 unfold brE brL brH
 have:¬2048 < sz x:=by omega
 rw[if_neg this,if_neg this,if_neg this]
 exact⟨h,rfl,rfl⟩
theorem hf_pos (p:Int):0≤hf p∧piHi p.toNat / 2≤hf p:=by
 have h1:0≤piHi p.toNat:=cD _ _
 have h2:=jc (piHi p.toNat / 2) p.toNat
 exact⟨qAq (by grind) h2,h2⟩
theorem at_cap {x:Rat} {p:Nat} (hp:p≤128) (h:0 < x):atLo x p≤piHi p / 2:=by
 obtain⟨_,q2⟩:=Bu p
 have pl:=pn (w:=p+32) (by omega) (by omega)
 have q:atLo x p≤sgn false (piH (p+32)) (2^(p+32+1)):=by
  by_cases c:x.den < x.num.natAbs
  ·exact qAq ((xF (p:=p) h).1 c).1 (fJ (by omega))
  ·refine qAq ((xF (p:=p) h).2 c).1 (fJ ?_)
   obtain⟨l1,l2⟩:=g_le (x:=x) (w:=p+32) c
   have t1:=sQ (w:=p+32) (by omega) (by omega) l1 (dN (dN (dH x _))) (χ (dk _ _) (χ (dk _ _) l2))
   unfold anL
   omega
 grind
theorem at_lim {x:Rat} {p:Int} (h:elE 8 x p=0):elL 8 x p≤hf p∧ -hf p≤elH 8 x p:=by
 obtain⟨b,e1,e2⟩:=el_br h
 obtain⟨_,p0,p1⟩:=br_p b
 rw[←e1,←e2,(cC b).1,(cC b).2,show exB 8 x=decide (x=0) from rfl]
 obtain⟨h0,h1⟩:=hf_pos p
 have hq:p.toNat≤128:=by omega
 by_cases x0:x=0
 ·rw[decide_eq_true x0,if_pos rfl,if_pos rfl,show exV 8 x=0 by unfold exV;rw[if_neg (by omega)]]
  grind
 ·rw[decide_eq_false x0,if_neg (by decide),if_neg (by decide)]
  show atLo x p.toNat≤_∧_≤atHi x p.toNat
  by_cases hx:0 < x
  ·have c:=at_cap hq hx
   have:=(at_sign (p:=p.toNat)).1 hx
   grind
  ·have hx:x < 0:=by grind
   have c:=at_cap (x:=-x) hq (by grind)
   have:=(at_sign (p:=p.toNat)).2 hx
   have:=(xD (p:=p.toNat) x0).1
   grind
theorem exp_pos {x:Rat} {p:Int} (h:elE 1 x p=0):0≤elH 1 x p:=by
 obtain⟨b,e1,e2⟩:=el_br h
 rw[←e2,(cC b).2]
 split
 ·unfold exV;split
  ·decide
  ·exact qBk
 ·show 0≤expHi x p.toNat
  unfold expHi
  split
  ·exact cD _ _
  ·exact cD _ _
theorem near_one {s c e:Rat} (e0:0≤e) (h:Ab (s*s+c*c - 1) e):s≤1+e∧ -(1+e)≤s:=by
 have c0:=cG c
 obtain⟨_,h2⟩:=h
 constructor
 ·refine Decidable.byContradiction fun k=>?_
  have m:=mlr (show 1+e≤s by grind) (show 0≤s by grind)
  have m2:=mnn e0 (show 0≤s by grind)
  grind
 ·refine Decidable.byContradiction fun k=>?_
  have m:=mlr (show 1+e≤ -s by grind) (show 0≤ -s by grind)
  have m2:=mnn e0 (show 0≤ -s by grind)
  grind
theorem wave_ends {fn:Int} {x:Rat} {p:Int} (hf:fn=3∨fn=4) (h:elE fn x p=0):elL fn x p≤elH fn x p∧elL fn x p≤1∧ -1≤elH fn x p:=by
 obtain⟨b,e1,e2⟩:=el_br h
 obtain⟨_,p0,_⟩:=br_p b
 rw[←e1,←e2]
 have b3:brE 3 x p=0:=by
  rcases hf with rfl |rfl
  ·exact b
  ·rw[←br_34];exact b
 obtain⟨q,rfl⟩:∃q:Nat,p=q:=⟨p.toNat,by omega⟩
 obtain⟨⟨⟨a1,a2⟩,i1,i2⟩,⟨⟨c1,c2⟩,j1,j2⟩,_,hq,hr⟩:=br_S b3
 have k:=v_circle (k:=rsK x (q+64)) (hr.le (show(1:Rat)≤2 by decide))
 have e0:0≤eps:=llt ep_num.1
 have hn:q≤256:=by omega
 have o1:=qK 256
 have o2:=gR o1
 have U:∀{l v u:Rat},l≤v→v≤u→v≤1+eps→ -(1+eps)≤v→(∃z:Int,l*2^q=(z:Rat))→(∃z:Int,u*2^q=(z:Rat))→l≤u∧l≤1∧ -1≤u:=fun h1 h2 h3 h4 h5 h6=>
  ⟨qAq h1 h2,iE (dZ h5 hn) o1 (qAq h1 h3) eps_256.1,iE o2 (dZ h6 hn) (by grind) eps_256.1⟩
 have n1:=near_one e0 k
 have n2:=near_one (s:=vC (rsK x (q+64)) (rsR x (q+64))) (c:=vS (rsK x (q+64)) (rsR x (q+64))) e0 (by rw[Rat.add_comm];exact k)
 rcases hf with rfl |rfl
 ·exact U a1 a2 n1.1 n1.2 i1 i2
 ·exact U c1 c2 n2.1 n2.2 j1 j2
theorem ok_i {l u:Rat} (h:l≤u):(NS.i (some l) (some u)).ok:=by
 show(!decide (u < l))=true
 rw[decide_eq_false (by grind)]
 rfl
theorem ok_le {l u:Rat} (h:(NS.i (some l) (some u)).ok):l≤u:=by
 have h:(!decide (u < l))=true:=h
 simp at h
 grind
theorem val_0 {fn p:Int} {a b:Option Rat} {o:Out} {z:NS} (h:(if valE fn p a b≠0 then .error (valE fn p a b) else o:Out)=.ok z):vErr fn p a=0∧vErr fn p b=0∧o=.ok z:=by
 by_cases k:valE fn p a b=0
 ·rw[if_neg (fun c=>c k)] at h
  unfold valE at k
  by_cases c:vErr fn p a=0
  ·rw[if_neg (fun d=>d c)] at k
   exact⟨c,k,h⟩
  ·rw[if_pos c] at k
   exact absurd k c
 ·rw[if_pos k] at h;cases h
theorem wave_ok {fn p r s:Int} {a b:Option Rat} {z:NS} (hf:fn=3∨fn=4) (h:waveO fn p a b r s=.ok z):z.ok:=by
 unfold waveO at h
 cases a with
 |none=>cases h;exact ok_i (by decide)
 | some x=>
  cases b with
  |none=>cases h;exact ok_i (by decide)
  | some y=>
   rw[if_neg (fun c=>by cases c)] at h
   obtain⟨v1,v2,h⟩:=val_0 h
   cases h
   obtain⟨a1,a2,a3⟩:=wave_ends hf v1
   obtain⟨b1,b2,b3⟩:=wave_ends hf v2
   unfold waveS
   refine ok_i ?_
   show(if _ then ((-1:Int):Rat) else min (elL fn x p) (elL fn y p))≤(if _ then ((1:Int):Rat) else max (elH fn x p) (elH fn y p))
   rw[show((-1:Int):Rat)= -1 from rfl,show((1:Int):Rat)=1 from rfl]
   split<;>split<;>grind
theorem mono_ok {fn p:Int} {a b:Option Rat} {z:NS} (hf:fn=1∨fn=2∨fn=6∨fn=7∨fn=8) (hs:(NS.i a b).ok) (ho:outB fn a b=false) (h:monoO fn p a b=.ok z):z.ok:=by
 unfold monoO at h
 obtain⟨v1,v2,h⟩:=val_0 h
 cases h
 unfold monoS
 by_cases f7:fn=7
 ·rw[if_pos f7]
  obtain⟨n1,n2⟩:=out_7 ho f7
  subst f7
  cases a with
  |none=>cases n1
  | some x=>
   cases b with
   |none=>cases n2
   | some y=>
    obtain⟨b1,e1,e2⟩:=el_br v1
    obtain⟨b2,e3,e4⟩:=el_br v2
    refine ok_i ?_
    show elL 7 y p≤elH 7 x p
    rw[←e3,←e2]
    exact br_ord7 (ok_le hs) b1 b2
 rw[if_neg f7]
 obtain⟨h0,h1⟩:=hf_pos p
 have U:∀{x y:Rat},x≤y→elE fn x p=0→elE fn y p=0→elL fn x p≤elH fn y p:=fun {x y} k k1 k2=>by
  obtain⟨b1,e1,e2⟩:=el_br k1
  obtain⟨b2,e3,e4⟩:=el_br k2
  rw[←e1,←e4]
  exact br_ord (by omega) k b1 b2
 by_cases f8:fn=8
 ·rw[if_pos f8]
  subst f8
  refine ok_i ?_
  cases a with
  | none=>
   cases b with
   |none=>show -Q.hf p≤Q.hf p;grind
   |some y=>exact(at_lim v2).2
  | some x=>
   cases b with
   |none=>exact(at_lim v1).1
   |some y=>exact U (ok_le hs) v1 v2
 rw[if_neg f8]
 cases b with
 |none=>rfl
 | some y=>
  refine ok_i ?_
  cases a with
  | none=>
   have f1:fn=1:=by
    refine Decidable.byContradiction fun c=>?_
    unfold outB at ho
    by_cases f2:fn=2
    ·rw[if_pos f2] at ho
     have:(NS.i none (some y)).slo≤0:=by show(-1:Int)≤0;decide
     rw[decide_eq_true this] at ho
     cases ho
    ·rw[if_neg f2,if_pos (by omega)] at ho
     cases ho
   subst f1
   exact exp_pos v2
  |some x=>exact U (ok_le hs) v1 v2
theorem mt_has {a b r z:Int} (h1:a≤z) (h2:z≤b) (h:z % 4=r % 4):mt a b r=true:=by
 unfold mt
 exact decide_eq_true (by omega)
theorem no_turn {x y:Rat} {k:Int} (t1:tv1 x y (k % 4)=false) (t2:tv2 x y (k % 4)=false) (h1:x≤(k:Rat)*qtR):¬(k:Rat)*qtR≤y:=by
 intro h2
 obtain⟨q1,q2⟩:=qtR_bd (w:=192) (by decide) (by decide)
 have q1:fP≤qtR:=q1
 have q2:qtR≤gP:=q2
 have f0:=f_pos
 have g0:=g_pos
 have e:k % 4 % 4=k % 4:=by omega
 by_cases k0:0≤k
 ·have kc:(0:Rat)≤(k:Rat):=qBa.2 k0
  have m1:=mll q1 kc
  have m2:=mll q2 kc
  have a1:=(qt_up (x:=x) g0 (z:=k)).2 (qAq h1 m2)
  have a2:=(qt_dn (x:=y) f0 (z:=k)).2 (qAq m1 h2)
  have:tv1 x y (k % 4)=true:=by
   unfold tv1
   refine mt_has (z:=k) ?_ a2 e.symm
   split
   ·exact a1
   ·exact k0
  rw[this] at t1
  cases t1
 ·have kc:(k:Rat)≤(0:Rat):=qBa.2 (show k≤0 by omega)
  have m1:=mll q1 (show 0≤ -(k:Rat) by grind)
  have m2:=mll q2 (show 0≤ -(k:Rat) by grind)
  have a1:=(qt_up (x:=x) f0 (z:=k)).2 (by grind)
  have a2:=(qt_dn (x:=y) g0 (z:=k)).2 (by grind)
  have:tv2 x y (k % 4)=true:=by
   unfold tv2
   refine mt_has (z:=k) a1 ?_ e.symm
   split
   ·exact a2
   ·omega
  rw[this] at t2
  cases t2
theorem half_of (x:Rat):∃m:Int,((2*m - 1:Int):Rat)*qtR≤x∧x≤((2*m+1:Int):Rat)*qtR:=by
 obtain⟨_,_,_,q1,_⟩:=ep_num
 have i:qtR*qtR⁻¹=1:=qBf _ (by grind)
 generalize qtR=q at*
 have f1:((x*q⁻¹*(1 / 2)+1 / 2).floor:Rat)≤x*q⁻¹*(1 / 2)+1 / 2:=Rat.floor_le _
 have f2:x*q⁻¹*(1 / 2)+1 / 2 < ((x*q⁻¹*(1 / 2)+1 / 2).floor:Rat)+1:=by
  have k:=Rat.lt_floor_add_one (x*q⁻¹*(1 / 2)+1 / 2)
  rw[Rat.intCast_add] at k
  exact k
 generalize(x*q⁻¹*(1 / 2)+1 / 2).floor=m at*
 have e:x*q⁻¹*q=x:=by grind
 generalize x*q⁻¹=y at*
 refine⟨m,?_,?_⟩
 ·rw[show((2*m - 1:Int):Rat)=2*(m:Rat) - 1 by push_cast;rfl]
  have:=mlr (show 2*(m:Rat) - 1≤y by grind) (show 0≤q by grind)
  grind
 ·rw[show((2*m+1:Int):Rat)=2*(m:Rat)+1 by push_cast;rfl]
  have:=mlr (show y≤2*(m:Rat)+1 by grind) (show 0≤q by grind)
  grind
theorem sn_pos {r:Rat} (h0:0≤r) (h:Ab r 1):0≤sNN (-1) r:=by
 have:=(sc_bd h0 h.2).1
 grind
theorem sn_neg {r:Rat} (h0:r≤0) (h:Ab r 1):sNN (-1) r≤0:=by
 have:=sn_pos (r:=-r) (by grind) h.neg
 have:=(ft r).1
 grind
theorem cn_pos {r:Rat} (h:Ab r 1):0≤cNN (-1) r:=by
 by_cases h0:0≤r
 ·have:=(sc_bd h0 h.2).2.2.1
  grind
 ·have:=(sc_bd (t:=-r) (by grind) h.neg.2).2.2.1
  have:=(ft r).2
  grind
theorem vC_sgn {x:Rat} {k m:Int} (h1:((2*m - 1:Int):Rat)*qtR≤x) (h2:x≤((2*m+1:Int):Rat)*qtR) (h:Ab (x - (k:Rat)*qtR) 1):(m % 2=0→0≤vC k (x - (k:Rat)*qtR))∧(m % 2=1→vC k (x - (k:Rat)*qtR)≤0):=by
 obtain⟨_,_,_,q1,q2⟩:=ep_num
 have c1:=cn_pos h
 obtain⟨a1,a2⟩:=h
 have lo:2*m - 1≤k:=by
  refine Decidable.byContradiction fun c=>?_
  have:=mlr (qBa.2 (show k≤(2*m - 1) - 1 by omega)) (show 0≤qtR by grind)
  rw[Rat.intCast_sub (2*m - 1) 1,show((1:Int):Rat)=1 from rfl] at this
  grind
 have hi:k≤2*m+1:=by
  refine Decidable.byContradiction fun c=>?_
  have:=mlr (qBa.2 (show(2*m+1)+1≤k by omega)) (show 0≤qtR by grind)
  rw[Rat.intCast_add (2*m+1) 1,show((1:Int):Rat)=1 from rfl] at this
  grind
 have h:Ab (x - (k:Rat)*qtR) 1:=⟨a1,a2⟩
 have kk:k=2*m - 1∨k=2*m∨k=2*m+1:=by omega
 unfold vC
 rcases kk with e |e |e
 ·have:=sn_pos (r:=x - (k:Rat)*qtR) (by rw[e];grind) h
  constructor
  ·intro g
   rw[if_neg (by omega),if_neg (by omega),if_pos (by omega)];exact this
  ·intro g
   rw[if_pos (by omega)];grind
 ·constructor
  ·intro g
   rw[if_neg (by omega),if_neg (by omega),if_neg (by omega)];exact c1
  ·intro g
   rw[if_neg (by omega),if_pos (by omega)];grind
 ·have:=sn_neg (r:=x - (k:Rat)*qtR) (by rw[e];grind) h
  constructor
  ·intro g
   rw[if_pos (by omega)];grind
  ·intro g
   rw[if_neg (by omega),if_neg (by omega),if_pos (by omega)];exact this
theorem vS_pos {u:Rat} {k:Int} (h0:0≤u) (h2:u≤2*qtR) (h:Ab (u - (k:Rat)*qtR) 1):0≤vS k (u - (k:Rat)*qtR):=by
 obtain⟨_,_,_,q1,q2⟩:=ep_num
 have c1:=cn_pos h
 obtain⟨a1,a2⟩:=h
 have lo:0≤k:=by
  refine Decidable.byContradiction fun c=>?_
  have:=mlr (qBa.2 (show k≤ -1 by omega)) (show 0≤qtR by grind)
  rw[show((-1:Int):Rat)= -1 from rfl] at this
  grind
 have hi:k≤2:=by
  refine Decidable.byContradiction fun c=>?_
  have:=mlr (qBa.2 (show 3≤k by omega)) (show 0≤qtR by grind)
  rw[show((3:Int):Rat)=3 from rfl] at this
  grind
 have h:Ab (u - (k:Rat)*qtR) 1:=⟨a1,a2⟩
 have kk:k=0∨k=1∨k=2:=by omega
 unfold vS
 rcases kk with rfl |rfl |rfl
 ·rw[if_neg (by decide),if_neg (by decide),if_neg (by decide)]
  exact sn_pos (by rw[show((0:Int):Rat)=0 from rfl];grind) h
 ·rw[if_pos (by decide)];exact c1
 ·rw[if_neg (by decide),if_pos (by decide)]
  have:=sn_neg (r:=u - ((2:Int):Rat)*qtR) (by rw[show((2:Int):Rat)=2 from rfl];grind) h
  grind
theorem eps_tg:0≤eps∧100000*eps*(2^192*2^192)*2^128 < 1:=by decide+kernel
theorem quo_core {s c S C u v i j e M:Rat} (e0:0≤e) (e1:e≤1) (hs:Ab s 60) (hc:Ab c 60) (i1:c*i=1) (j1:C*j=1) (hi:Ab i M) (hj:Ab j M) (u0:0≤u) (cc:0≤c*C)
  (h1:Ab (s*v+c*u - S) (400*e)) (h2:Ab (c*v - s*u - C) (400*e)) (h3:Ab (s*s+c*c - 1) e):s*i≤S*j+100000*e*(M*M):=by
 have M0:=hi.pos
 have m1:=h1.mul hc
 have m2:=h2.mul hs
 have w: -(50000*e)≤S*c - s*C:=by
  have n:=mnn u0 (show 0≤s*s+c*c by have:=cG s;have:=cG c;grind)
  obtain⟨a1,a2⟩:=m1
  obtain⟨b1,b2⟩:=m2
  grind
 have ij:0≤i*j:=by
  have k:=mnn cc (show 0≤(i*j)*(i*j) from cG _)
  have:c*C*(i*j*(i*j))=i*j:=by
   have:c*C*(i*j*(i*j))=(c*i)*(C*j)*(i*j):=by grind
   rw[this,i1,j1];grind
  rw[this] at k
  exact k
 have ijM:=(hi.mul hj).2
 have k1:=mlr w ij
 have k2:=mll ijM (show 0≤50000*e by grind)
 have e1:S*j=S*c*(i*j):=by
  have:S*c*(i*j)=S*j*(c*i):=by grind
  rw[this,i1];grind
 have e2:s*i=s*C*(i*j):=by
  have:s*C*(i*j)=s*i*(C*j):=by grind
  rw[this,j1];grind
 have k3:=mnn e0 (mnn M0 M0)
 rw[e1,e2]
 grind
theorem tan_int {x:Rat} {p:Nat} (h:brE 5 x p=0):(∃z:Int,brL 5 x p*2^p=(z:Rat))∧(∃z:Int,brH 5 x p*2^p=(z:Rat))∧Ab (xC x p)⁻¹ (2^192)∧(-4294967296≤x∧x≤4294967296)∧p≤128:=by
 obtain⟨_,_,p1⟩:=br_p h
 obtain⟨_,_,_,_,_,_,k2⟩:=dw (br_e h)
 have hb:=k2 (.inr (.inr rfl))
 rw[(cC h).1,(cC h).2]
 cases he:exB 5 x with
 | true=>
  have x0:x=0:=of_decide_eq_true he
  subst x0
  rw[if_pos rfl,if_pos rfl,(xS_0 p).2,show exV 5 0=0 by decide+kernel]
  exact⟨xW _,xW _,by unfold Ab;decide+kernel,by decide,by omega⟩
 | false=>
  rw[if_neg (by decide),if_neg (by decide)]
  exact⟨(g_in2 _ p).1,(g_in2 _ p).2,(E0 (w:=p+64) (by omega) (by omega) hb (tan_pole h he)).1,iP hb,by omega⟩
theorem tan_ord {x y:Rat} {p:Nat} (hxy:x≤y) (hx:brE 5 x p=0) (hy:brE 5 y p=0) (ht:∀r,r=1∨r=3→tv1 x y r=false∧tv2 x y r=false):brL 5 x p≤brH 5 y p:=by
 obtain⟨a1,_,a3,xb,hp⟩:=tan_int hx
 obtain⟨_,b2,b3,yb,_⟩:=tan_int hy
 obtain⟨⟨l1,_⟩,i1⟩:=br_T hx
 obtain⟨⟨_,l2⟩,i2⟩:=br_T hy
 obtain⟨m,m1,m2⟩:=half_of x
 have nt:=fun(k:Int) (hk:k % 2=1)=>no_turn (x:=x) (y:=y) (ht (k % 4) (by omega)).1 (ht (k % 4) (by omega)).2
 have m3:y≤((2*m+1:Int):Rat)*qtR:=by
  have:=nt (2*m+1) (by omega) m2
  grind
 have m4:=qAq m1 hxy
 have hw1:64≤p+64:=by omega
 have hw2:p+64≤192:=by omega
 obtain⟨_,_,_,q1,q2⟩:=ep_num
 have d0:0≤y - x:=by grind
 have d2:y - x≤2*qtR:=by
  rw[show((2*m+1:Int):Rat)=2*(m:Rat)+1 by push_cast;rfl] at m3
  rw[show((2*m - 1:Int):Rat)=2*(m:Rat) - 1 by push_cast;rfl] at m1
  grind
 have db: -4294967296≤y - x∧y - x≤4294967296:=by grind
 have ex:x+(y - x)=y:=by grind
 obtain⟨s1,s2⟩:=v_sum hw1 hw2 xb db (by rw[ex];exact yb)
 rw[ex] at s1 s2
 obtain⟨_,_,rx⟩:=pr hw1 hw2 xb
 obtain⟨_,_,ry⟩:=pr hw1 hw2 yb
 obtain⟨_,_,rd⟩:=pr hw1 hw2 db
 have c1:=vC_sgn m1 m2 rx
 have c2:=vC_sgn m4 m3 ry
 have u0:=vS_pos d0 d2 rd
 obtain⟨n1,n2⟩:=v_ab (k:=rsK x (p+64)) (rx.le (show(1:Rat)≤4 by decide))
 have k:=v_circle (k:=rsK x (p+64)) (rx.le (show(1:Rat)≤2 by decide))
 have cc:0≤xC x p*xC y p:=by
  by_cases h2:m % 2=0
  ·exact mnn (c1.1 h2) (c2.1 h2)
  ·have g1:xC x p≤0:=c1.2 (by omega)
   have g2:xC y p≤0:=c2.2 (by omega)
   have:=mnn (show 0≤ -xC x p by grind) (show 0≤ -xC y p by grind)
   grind
 have t:=quo_core (s:=xS x p) (c:=xC x p) (S:=xS y p) (C:=xC y p) (v:=vC (rsK (y - x) (p+64)) (rsR (y - x) (p+64))) (u:=vS (rsK (y - x) (p+64)) (rsR (y - x) (p+64))) eps_tg.1 (by decide+kernel) n1 n2 i1 i2 a3 b3 u0 cc s1 s2 k
 exact iE (dZ a1 hp) (dZ b2 hp) (qAq l1 (qAq t (Rat.add_le_add_right.2 l2))) eps_tg.2
theorem tan_ok {p:Int} {a b:Option Rat} {z:NS} (hs:(NS.i a b).ok) (ho:outB 5 a b=false) (h:tanO p a b=.ok z):z.ok:=by
 obtain⟨x,y,rfl,rfl⟩:=out_tan ho
 unfold tanO at h
 obtain⟨v1,v2,h⟩:=val_0 h
 split at h
 ·cases h
 ·rename_i ht
  cases h
  obtain⟨b1,e1,e2⟩:=el_br v1
  obtain⟨b2,e3,e4⟩:=el_br v2
  have hxy:=ok_le hs
  obtain⟨_,p0,_⟩:=br_p b1
  obtain⟨q,rfl⟩:∃q:Nat,p=q:=⟨p.toNat,by omega⟩
  refine ok_i ?_
  show elL 5 x q≤elH 5 y q
  rw[←e1,←e4]
  refine tan_ord hxy b1 b2 fun r hr=>?_
  have k:turnB x y r=false:=by
   have:wvTr (some x) (some y) r=false:=by
    rcases hr with rfl |rfl<;>(cases c:wvTr (some x) (some y) _ with |true=>exact absurd (by simp[c]) ht |false=>rfl)
   exact this
  unfold turnB at k
  rw[if_neg (by
   rintro(c |c)
   ·exact c (turn_el (.inr (.inr rfl)) v1 v2 (by omega))
   ·grind)] at k
  simpa using k
theorem callO_ok {fn p:Int} {s z:NS} (hs:s.ok) (h:callO fn p s=.ok z):z.ok:=by
 unfold callO at h
 cases gf:badf fn with
 |true=>rw[gf] at h;cases h
 | false =>
  rw[gf,cond_false] at h
  unfold Out.prec at h
  cases gp:bad p with
  |true=>rw[gp] at h;cases h
  | false =>
   rw[gp,cond_false] at h
   have hn:=badf_no gf
   cases s with
   |e=>cases h;exact trivial
   | i a b=>
    by_cases ho:outB fn a b=false
    ·rw[call_yes ho] at h
     by_cases f3:fn=3
     ·rw[if_pos f3] at h;exact wave_ok (.inl f3) h
     rw[if_neg f3] at h
     by_cases f4:fn=4
     ·rw[if_pos f4] at h;exact wave_ok (.inr f4) h
     rw[if_neg f4] at h
     by_cases f5:fn=5
     ·rw[if_pos f5] at h
      subst f5
      exact tan_ok hs ho h
     ·rw[if_neg f5] at h
      exact mono_ok (by omega) hs ho h
    ·rw[call_no ho] at h
     cases h
theorem br_both {fn:Int} {x y:Rat} {p q:Int} (hf:fn=1∨fn=2∨fn=6∨fn=8) (h:x≤y) (hx:brE fn x p=0) (hy:brE fn y q=0):brL fn x p≤brH fn y q:=by
 obtain⟨_,p0,p1⟩:=br_p hx
 obtain⟨_,q0,q1⟩:=br_p hy
 obtain⟨_,_,_,dx,_⟩:=dw (br_e hx)
 obtain⟨_,_,_,dy,_⟩:=dw (br_e hy)
 rw[(cC hx).1,(cC hy).2]
 have hp:p.toNat≤128:=by omega
 have hq:q.toNat≤128:=by omega
 generalize p.toNat=m at*
 generalize q.toNat=n at*
 clear hx hy p0 p1 q0 q1
 rcases hf with rfl |rfl |rfl |rfl
 ·have eB:∀z,exB 1 z=decide (z=0):=fun z=>rfl
  have eV:exV 1 0=1:=by decide+kernel
  show(if exB 1 x=true then exV 1 x else expLo x m)≤(if exB 1 y=true then exV 1 y else expHi y n)
  rw[eB,eB]
  by_cases x0:x=0<;>by_cases y0:y=0
  ·rw[decide_eq_true x0,decide_eq_true y0,if_pos rfl,if_pos rfl,x0,y0];exact qBk
  ·rw[decide_eq_true x0,decide_eq_false y0,if_pos rfl,if_neg (by decide),x0,eV]
   exact exp_one.2 (by grind)
  ·rw[decide_eq_true y0,decide_eq_false x0,if_pos rfl,if_neg (by decide),y0,eV]
   exact exp_one.1 (by grind)
  ·rw[decide_eq_false y0,decide_eq_false x0,if_neg (by decide),if_neg (by decide)]
   exact exp_both h
 ·have eB:∀z,exB 2 z=decide (z=1):=fun z=>rfl
  have eV:∀z,exV 2 z=0:=fun z=>by unfold exV;rw[if_neg (by omega)]
  have x0:0 < x:=of_decide_eq_true dx
  have y0:0 < y:=of_decide_eq_true dy
  show(if exB 2 x=true then exV 2 x else lnLo x.num.natAbs x.den m)≤(if exB 2 y=true then exV 2 y else lnHi y.num.natAbs y.den n)
  rw[eB,eB,eV,eV]
  by_cases x1:x=1<;>by_cases y1:y=1
  ·rw[decide_eq_true x1,decide_eq_true y1,if_pos rfl,if_pos rfl];exact qBk
  ·rw[decide_eq_true x1,decide_eq_false y1,if_pos rfl,if_neg (by decide)]
   exact(Hl y0 y1).2 (by grind)
  ·rw[decide_eq_true y1,decide_eq_false x1,if_pos rfl,if_neg (by decide)]
   exact(Hl x0 x1).1 (by grind)
  ·rw[decide_eq_false y1,decide_eq_false x1,if_neg (by decide),if_neg (by decide)]
   exact Hk x0 h
 ·have eB:∀z,exB 6 z=decide (z=0):=fun z=>rfl
  have eV:∀z,exV 6 z=0:=fun z=>by unfold exV;rw[if_neg (by omega)]
  have d1:x.num.natAbs≤x.den:=of_decide_eq_true dx
  have d2:y.num.natAbs≤y.den:=of_decide_eq_true dy
  show(if exB 6 x=true then exV 6 x else fg x m)≤(if exB 6 y=true then exV 6 y else dM y n)
  rw[eB,eB,eV,eV]
  by_cases x1:x=0<;>by_cases y1:y=0
  ·rw[decide_eq_true x1,decide_eq_true y1,if_pos rfl,if_pos rfl];exact qBk
  ·rw[decide_eq_true x1,decide_eq_false y1,if_pos rfl,if_neg (by decide)]
   exact(asin_sign.1 (by grind)).2
  ·rw[decide_eq_true y1,decide_eq_false x1,if_pos rfl,if_neg (by decide)]
   exact(asin_sign.2 (by grind)).1
  ·rw[decide_eq_false y1,decide_eq_false x1,if_neg (by decide),if_neg (by decide)]
   exact asin_both x1 y1 h d1 d2
 ·have eB:∀z,exB 8 z=decide (z=0):=fun z=>rfl
  have eV:∀z,exV 8 z=0:=fun z=>by unfold exV;rw[if_neg (by omega)]
  show(if exB 8 x=true then exV 8 x else atLo x m)≤(if exB 8 y=true then exV 8 y else atHi y n)
  rw[eB,eB,eV,eV]
  by_cases x1:x=0<;>by_cases y1:y=0
  ·rw[decide_eq_true x1,decide_eq_true y1,if_pos rfl,if_pos rfl];exact qBk
  ·rw[decide_eq_true x1,decide_eq_false y1,if_pos rfl,if_neg (by decide)]
   exact(at_sign.1 (by grind)).2
  ·rw[decide_eq_true y1,decide_eq_false x1,if_pos rfl,if_neg (by decide)]
   exact(at_sign.2 (by grind)).1
  ·rw[decide_eq_false y1,decide_eq_false x1,if_neg (by decide),if_neg (by decide)]
   exact at_both hp hq x1 y1 h
theorem br_both7 {x y:Rat} {p q:Int} (h:x≤y) (hx:brE 7 x q=0) (hy:brE 7 y p=0):brL 7 y p≤brH 7 x q:=by
 obtain⟨_,p0,p1⟩:=br_p hx
 obtain⟨_,q0,q1⟩:=br_p hy
 obtain⟨_,_,_,dx,_⟩:=dw (br_e hx)
 obtain⟨_,_,_,dy,_⟩:=dw (br_e hy)
 rw[(cC hx).2,(cC hy).1]
 have hq:q.toNat≤128:=by omega
 have hp:p.toNat≤128:=by omega
 generalize q.toNat=n at*
 generalize p.toNat=m at*
 clear hx hy p0 p1 q0 q1
 have eB:∀z,exB 7 z=decide (z=1):=fun z=>rfl
 have eV:∀z,exV 7 z=0:=fun z=>by unfold exV;rw[if_neg (by omega)]
 have d1:x.num.natAbs≤x.den:=of_decide_eq_true dx
 have d2:y.num.natAbs≤y.den:=of_decide_eq_true dy
 show(if exB 7 y=true then exV 7 y else acLo y m)≤(if exB 7 x=true then exV 7 x else acHi x n)
 rw[eB,eB,eV,eV]
 by_cases x1:x=1<;>by_cases y1:y=1
 ·rw[decide_eq_true x1,decide_eq_true y1,if_pos rfl,if_pos rfl];exact qBk
 ·have:=CS d2
  exact absurd (Rat.le_antisymm (CS d2) (by rw[←x1];exact h)) y1
 ·rw[decide_eq_true y1,decide_eq_false x1,if_pos rfl,if_neg (by decide)]
  exact acHi_0 hq d1
 ·rw[decide_eq_false y1,decide_eq_false x1,if_neg (by decide),if_neg (by decide)]
  exact ac_both hp hq h d1 d2
theorem at_cap2 {x:Rat} {p q:Nat} (hp:p≤128) (hq:q≤128) (h:0 < x):atLo x p≤piHi q / 2+tiny:=by
 obtain⟨_,k2⟩:=Bu q
 rw[Rat.add_zero] at k2
 obtain⟨ox1,ox2⟩:=xF (p:=p) h
 have pc:=z9 (DA (w:=p+32) (z:=q+32) (by omega) (by omega)).up
 have d0:(0:Rat)≤tiny:=at_160.2.2
 by_cases bx:x.den < x.num.natAbs
 ·refine qAq (ox1 bx).1 (qAq (fJ (Nat.sub_le _ _)) ?_)
  clear ox1 ox2
  generalize tiny=t at*
  generalize sgn false (piH (q+32)) (2^(q+32+1))=c at*
  generalize sgn false _ (2^(p+32+1))=e at*
  generalize piHi q / 2=g2 at*
  grind
 ·obtain⟨l1,l2⟩:=g_le (x:=x) (w:=p+32) bx
  have X:=z9 (((xz (w:=p+32) (z:=160) (a2:=2^160) (b2:=2^160) (by omega) (by omega) (dH x _) (η _) (one_cross l1) l2 (η _)).mul (2^1)).up)
  have P:=z9 (DA (w:=160) (z:=q+32) (by omega) (by omega)).up
  have n0:=cD (anH (2^160) (2^160) 160*2^1) 161
  have E:=at_160.1
  have O:=(ox2 bx).1
  clear ox1 ox2 pc l1 l2
  simp only[ζ] at X P
  generalize sgn false (anH (2^160) (2^160) 160*2^1) (2^161)=a at*
  generalize sgn false (piL 160) (2^161)=b at*
  generalize tiny=t at*
  generalize sgn false (piH (q+32)) (2^(q+32+1))=c at*
  generalize sgn false _ (2^(p+32+1))=e at*
  generalize atLo x p=f at*
  generalize piHi q / 2=g2 at*
  grind
theorem at_lim2 {x:Rat} {p q:Int} (hq:0≤q∧q≤128) (h:brE 8 x p=0):brL 8 x p≤hf q∧ -hf q≤brH 8 x p:=by
 obtain⟨_,p0,p1⟩:=br_p h
 rw[(cC h).1,(cC h).2,show exB 8 x=decide (x=0) from rfl]
 obtain⟨h0,h1⟩:=hf_pos q
 have hp:p.toNat≤128:=by omega
 have hn:q.toNat≤128:=by omega
 have iq:=(g_in2 (piHi q.toNat / 2) q.toNat).2
 by_cases x0:x=0
 ·rw[decide_eq_true x0,if_pos rfl,if_pos rfl,show exV 8 x=0 by unfold exV;rw[if_neg (by omega)]]
  grind
 ·rw[decide_eq_false x0,if_neg (by decide),if_neg (by decide)]
  show atLo x p.toNat≤_∧_≤atHi x p.toNat
  have K:∀{x:Rat},0 < x→atLo x p.toNat≤hf q:=fun {x} hx=>
   iE ((at_fine hp).ints hp).1 (dZ iq hn) (by have:=at_cap2 hp hn hx;unfold hf at*;grind) at_160.2.1
  by_cases hx:0 < x
  ·have:=K hx
   have:=(at_sign (p:=p.toNat)).1 hx
   grind
  ·have hx:x < 0:=by grind
   have:=K (x:=-x) (by grind)
   have:=(at_sign (p:=p.toNat)).2 hx
   have:=(xD (p:=p.toNat) x0).1
   grind
theorem quo_both {s c S C u v i j e M:Rat} (e0:0≤e) (hs:Ab s 60) (hc:Ab c 60) (i1:c*i=1) (j1:C*j=1) (hi:Ab i M) (hj:Ab j M) (u0:0≤u) (cc:0≤c*C)
  (h1:Ab (s*v+c*u - S) (600*e)) (h2:Ab (c*v - s*u - C) (600*e)):s*i≤S*j+100000*e*(M*M):=by
 have M0:=hi.pos
 have m1:=h1.mul hc
 have m2:=h2.mul hs
 have w: -(90000*e)≤S*c - s*C:=by
  have n:=mnn u0 (show 0≤s*s+c*c by have:=cG s;have:=cG c;grind)
  obtain⟨a1,a2⟩:=m1
  obtain⟨b1,b2⟩:=m2
  grind
 have ij:0≤i*j:=by
  have k:=mnn cc (show 0≤(i*j)*(i*j) from cG _)
  have:c*C*(i*j*(i*j))=i*j:=by
   have:c*C*(i*j*(i*j))=(c*i)*(C*j)*(i*j):=by grind
   rw[this,i1,j1];grind
  rw[this] at k
  exact k
 have ijM:=(hi.mul hj).2
 have k1:=mlr w ij
 have k2:=mll ijM (show 0≤90000*e by grind)
 have e1:S*j=S*c*(i*j):=by
  have:S*c*(i*j)=S*j*(c*i):=by grind
  rw[this,i1];grind
 have e2:s*i=s*C*(i*j):=by
  have:s*C*(i*j)=s*i*(C*j):=by grind
  rw[this,j1];grind
 have k3:=mnn e0 (mnn M0 M0)
 rw[e1,e2]
 grind
theorem ab_step {x y z a b:Rat} (h:Ab (x - y) a) (k:Ab (y - z) b):Ab (x - z) (a+b):=by
 obtain⟨h1,h2⟩:=h
 obtain⟨k1,k2⟩:=k
 exact⟨by grind,by grind⟩
theorem tan_both {x y:Rat} {p q:Nat} (hxy:x≤y) (hx:brE 5 x p=0) (hy:brE 5 y q=0) (nt:∀k:Int,k % 2=1→x≤(k:Rat)*qtR→¬(k:Rat)*qtR≤y):brL 5 x p≤brH 5 y q:=by
 obtain⟨a1,_,a3,xb,hp⟩:=tan_int hx
 obtain⟨_,b2,b3,yb,hq⟩:=tan_int hy
 obtain⟨⟨l1,_⟩,i1⟩:=br_T hx
 obtain⟨⟨_,l2⟩,i2⟩:=br_T hy
 obtain⟨m,m1,m2⟩:=half_of x
 have m3:y≤((2*m+1:Int):Rat)*qtR:=by
  have:=nt (2*m+1) (by omega) m2
  grind
 have m4:=qAq m1 hxy
 have hw1:64≤p+64:=by omega
 have hw2:p+64≤192:=by omega
 have hw3:64≤q+64:=by omega
 have hw4:q+64≤192:=by omega
 obtain⟨_,_,_,q1,q2⟩:=ep_num
 have d0:0≤y - x:=by grind
 have d2:y - x≤2*qtR:=by
  rw[show((2*m+1:Int):Rat)=2*(m:Rat)+1 by push_cast;rfl] at m3
  rw[show((2*m - 1:Int):Rat)=2*(m:Rat) - 1 by push_cast;rfl] at m1
  grind
 have db: -4294967296≤y - x∧y - x≤4294967296:=by grind
 have ex:x+(y - x)=y:=by grind
 obtain⟨s1,s2⟩:=v_sum hw1 hw2 xb db (by rw[ex];exact yb)
 rw[ex] at s1 s2
 obtain⟨t1,t2⟩:=v_two hw1 hw2 hw3 hw4 yb
 obtain⟨_,_,rx⟩:=pr hw1 hw2 xb
 obtain⟨_,_,ry⟩:=pr hw3 hw4 yb
 obtain⟨_,_,rd⟩:=pr hw1 hw2 db
 have c1:=vC_sgn m1 m2 rx
 have c2:=vC_sgn m4 m3 ry
 have u0:=vS_pos d0 d2 rd
 obtain⟨n1,n2⟩:=v_ab (k:=rsK x (p+64)) (rx.le (show(1:Rat)≤4 by decide))
 have cc:0≤xC x p*xC y q:=by
  by_cases h2:m % 2=0
  ·exact mnn (c1.1 h2) (c2.1 h2)
  ·have g1:xC x p≤0:=c1.2 (by omega)
   have g2:xC y q≤0:=c2.2 (by omega)
   have:=mnn (show 0≤ -xC x p by grind) (show 0≤ -xC y q by grind)
   grind
 have e6:400*eps+121*eps≤600*eps:=by have:=eps_tg.1;grind
 have t:=quo_both (s:=xS x p) (c:=xC x p) (S:=xS y q) (C:=xC y q) (v:=vC (rsK (y - x) (p+64)) (rsR (y - x) (p+64))) (u:=vS (rsK (y - x) (p+64)) (rsR (y - x) (p+64))) eps_tg.1 n1 n2 i1 i2 a3 b3 u0 cc ((ab_step s1 t1).le e6) ((ab_step s2 t2).le e6)
 exact iE (dZ a1 hp) (dZ b2 hq) (qAq l1 (qAq t (Rat.add_le_add_right.2 l2))) eps_tg.2
def wavS (s:Int) (x:Rat):Rat:=vS (rsK x 192+s) (rsR x 192)
def wavC (s:Int) (x:Rat):Rat:=vC (rsK x 192+s) (rsR x 192)
theorem v_shift (k:Int) (r:Rat):(vS (k+1) r=vC k r∧vC (k+1) r= -vS k r)∧(vS (k+2) r= -vS k r∧vC (k+2) r= -vC k r)∧(vS (k+3) r= -vC k r∧vC (k+3) r=vS k r)∧vS (k+0) r=vS k r∧vC (k+0) r=vC k r:=by
 have h:k % 4=0∨k % 4=1∨k % 4=2∨k % 4=3:=by omega
 unfold vS vC
 rcases h with h |h |h |h
 ·rw[show(k+1) % 4=1 by omega,show(k+2) % 4=2 by omega,show(k+3) % 4=3 by omega,show(k+0) % 4=0 by omega,h];simp
 ·rw[show(k+1) % 4=2 by omega,show(k+2) % 4=3 by omega,show(k+3) % 4=0 by omega,show(k+0) % 4=1 by omega,h];simp
 ·rw[show(k+1) % 4=3 by omega,show(k+2) % 4=0 by omega,show(k+3) % 4=1 by omega,show(k+0) % 4=2 by omega,h];simp
 ·rw[show(k+1) % 4=0 by omega,show(k+2) % 4=1 by omega,show(k+3) % 4=2 by omega,show(k+0) % 4=3 by omega,h];simp
def bnd (x:Rat):Prop:=-4294967296≤x∧x≤4294967296
theorem bnd.r {x:Rat} (h:bnd x):Ab (rsR x 192) 1:=(pr (w:=192) (by decide) (by decide) h).2.2
theorem ab_neg {x y a:Rat} (h:Ab x a) (e:y= -x):Ab y a:=e▸h.neg
theorem w_sum {s:Int} (h0:0≤s∧s≤3) {x y z:Rat} (e:x+y=z) (hx:bnd x) (hy:bnd y) (hz:bnd z):Ab (wavS s x*wavC 0 y+wavC s x*wavS 0 y - wavS s z) (400*eps)∧Ab (wavC s x*wavC 0 y - wavS s x*wavS 0 y - wavC s z) (400*eps):=by
 obtain⟨a,b⟩:=v_sum (w:=192) (by decide) (by decide) hx hy (by rw[e];exact hz)
 rw[e] at a b
 unfold wavS wavC
 obtain⟨⟨x1,x2⟩,⟨x3,x4⟩,⟨x5,x6⟩,x7,x8⟩:=v_shift (rsK x 192) (rsR x 192)
 obtain⟨_,_,_,y7,y8⟩:=v_shift (rsK y 192) (rsR y 192)
 obtain⟨⟨z1,z2⟩,⟨z3,z4⟩,⟨z5,z6⟩,z7,z8⟩:=v_shift (rsK z 192) (rsR z 192)
 rw[y7,y8]
 have h:s=0∨s=1∨s=2∨s=3:=by omega
 rcases h with rfl |rfl |rfl |rfl
 ·rw[x7,x8,z7,z8];exact⟨a,b⟩
 ·rw[x1,x2,z1,z2];exact⟨cf b (by grind),ab_neg a (by grind)⟩
 ·rw[x3,x4,z3,z4];exact⟨ab_neg a (by grind),ab_neg b (by grind)⟩
 ·rw[x5,x6,z5,z6];exact⟨ab_neg b (by grind),cf a (by grind)⟩
theorem wC_sgn {s m:Int} {x:Rat} (hx:bnd x) (h1:((2*m - 1:Int):Rat)*qtR≤x+(s:Rat)*qtR) (h2:x+(s:Rat)*qtR≤((2*m+1:Int):Rat)*qtR):(m % 2=0→0≤wavC s x)∧(m % 2=1→wavC s x≤0):=by
 have e:x+(s:Rat)*qtR - ((rsK x 192+s:Int):Rat)*qtR=rsR x 192:=by
  unfold rsR
  rw[Rat.intCast_add]
  grind
 have k:=vC_sgn (k:=rsK x 192+s) h1 h2 (by rw[e];exact hx.r)
 rw[e] at k
 exact k
theorem w_half {s:Int} (h0:0≤s∧s≤3) {a m z h:Rat} (e1:a+h=m) (e2:m+h=z) (hh:0≤h∧h≤2*qtR) (ba:bnd a) (bm:bnd m) (bz:bnd z):(0≤wavC s m→wavS s a≤wavS s z+50000*eps)∧(wavC s m≤0→wavS s z≤wavS s a+50000*eps):=by
 obtain⟨_,_,_,q1,q2⟩:=ep_num
 have bh:bnd h:=⟨by grind,by grind⟩
 obtain⟨a1,a2⟩:=w_sum h0 e1 ba bh bm
 obtain⟨b1,_⟩:=w_sum h0 e2 bm bh bz
 have u0:0≤wavS 0 h:=by
  unfold wavS
  rw[(v_shift _ _).2.2.2.1]
  exact vS_pos hh.1 hh.2 bh.r
 have F:∀{s:Int} {x:Rat},bnd x→Ab (wavS s x) 60∧Ab (wavC s x) 60:=fun hx=>v_ab (hx.r.le (show(1:Rat)≤4 by decide))
 obtain⟨f1,f2⟩:=F (s:=0) bh
 obtain⟨g1,g2⟩:=F (s:=s) ba
 have k:Ab (wavS 0 h*wavS 0 h+wavC 0 h*wavC 0 h - 1) eps:=v_circle (k:=rsK h 192+0) (bh.r.le (show(1:Rat)≤2 by decide))
 have m1:=a1.mul f2
 have m2:=a2.mul f1
 have m3:=k.mul g1
 have c1:0≤wavC s m→0≤wavC s m*wavS 0 h:=fun c=>mnn c u0
 have c2:wavC s m≤0→0≤ -wavC s m*wavS 0 h:=fun c=>mnn (by grind) u0
 have e0:=eps_tg.1
 generalize wavS s a=A at*
 generalize wavC s a=A' at*
 generalize wavS s m=M at*
 generalize wavC s m=M' at*
 generalize wavS s z=Z at*
 generalize wavS 0 h=H at*
 generalize wavC 0 h=H' at*
 generalize eps=e at*
 clear F
 have D:Ab (Z - A - 2*(M'*H)) (50000*e):=by
  obtain⟨p1,p2⟩:=m1
  obtain⟨p3,p4⟩:=m2
  obtain⟨p5,p6⟩:=m3
  obtain⟨p7,p8⟩:=b1
  constructor<;>grind
 obtain⟨d1,d2⟩:=D
 constructor
 ·intro c
  have:=c1 c
  grind
 ·intro c
  have:=c2 c
  grind
theorem quart_of (x:Rat):∃m:Int,(m:Rat)*qtR≤x∧x≤((m+1:Int):Rat)*qtR:=by
 obtain⟨m,h1,h2⟩:=half_of x
 by_cases c:x≤((2*m:Int):Rat)*qtR
 ·exact⟨2*m - 1,h1,by rw[show 2*m - 1+1=2*m by omega];exact c⟩
 ·exact⟨2*m,by grind,h2⟩
theorem wave_low {s:Int} (h0:0≤s∧s≤3) {a x b:Rat} (h1:a≤x) (h2:x≤b) (ba:bnd a) (bb:bnd b) (nt:∀k:Int,k % 4=(3 - s) % 4→a≤(k:Rat)*qtR→¬(k:Rat)*qtR≤b):wavS s a≤wavS s x+50000*eps∨wavS s b≤wavS s x+50000*eps:=by
 obtain⟨_,_,_,q1,q2⟩:=ep_num
 have cast:∀{i j:Int},i≤j→(i:Rat)*qtR≤(j:Rat)*qtR:=fun {i j} c=>mlr (qBa.2 c) (by grind)
 have bx:bnd x:=⟨qAq ba.1 h1,qAq h2 bb.2⟩
 have d:b≤a+4*qtR:=by
  obtain⟨m,m1,m2⟩:=quart_of a
  obtain⟨k,k1,k2,k3⟩:∃k:Int,m+1≤k∧k≤m+4∧k % 4=(3 - s) % 4:=by
   have:(m+1) % 4=(3 - s) % 4∨(m+2) % 4=(3 - s) % 4∨(m+3) % 4=(3 - s) % 4∨(m+4) % 4=(3 - s) % 4:=by omega
   rcases this with c |c |c |c
   ·exact⟨m+1,by omega,by omega,c⟩
   ·exact⟨m+2,by omega,by omega,c⟩
   ·exact⟨m+3,by omega,by omega,c⟩
   ·exact⟨m+4,by omega,by omega,c⟩
  have n:=nt k k3 (qAq m2 (cast k1))
  have c:=cast k2
  rw[Rat.intCast_add,show((4:Int):Rat)=4 from rfl] at c
  grind
 have b1:bnd ((x+a)*(1 / 2)):=by unfold bnd at*;grind
 have b2:bnd ((x+b)*(1 / 2)):=by unfold bnd at*;grind
 obtain⟨l1,_⟩:=w_half h0 (a:=a) (m:=(x+a)*(1 / 2)) (z:=x) (h:=(x - a)*(1 / 2)) (by grind) (by grind) ⟨by grind,by grind⟩ ba b1 bx
 obtain⟨_,r2⟩:=w_half h0 (a:=x) (m:=(x+b)*(1 / 2)) (z:=b) (h:=(b - x)*(1 / 2)) (by grind) (by grind) ⟨by grind,by grind⟩ bx b2 bb
 by_cases c1:0≤wavC s ((x+a)*(1 / 2))
 ·exact .inl (l1 c1)
 by_cases c2:wavC s ((x+b)*(1 / 2))≤0
 ·exact .inr (r2 c2)
 exfalso
 have g1:a≤(x+a)*(1 / 2):=by grind
 have g2:(x+b)*(1 / 2)≤b:=by grind
 have g3:(x+a)*(1 / 2)≤(x+b)*(1 / 2):=by grind
 clear l1 r2
 generalize(x+a)*(1 / 2)=u at*
 generalize(x+b)*(1 / 2)=v at*
 obtain⟨i,i1,i2⟩:=half_of (u+(s:Rat)*qtR)
 obtain⟨j,j1,j2⟩:=half_of (v+(s:Rat)*qtR)
 have i3:i % 2=1:=by
  rcases(show i % 2=0∨i % 2=1 by omega) with c |c
  ·exact absurd ((wC_sgn b1 i1 i2).1 c) c1
  ·exact c
 have j3:j % 2=0:=by
  rcases(show j % 2=0∨j % 2=1 by omega) with c |c
  ·exact c
  ·exact absurd ((wC_sgn b2 j1 j2).2 c) c2
 have ne:u≠v:=fun c=>by rw[c] at c1;grind
 have ij:i < j:=by
  refine Int.not_le.1 fun c=>?_
  have:=cast (show 2*j+1≤2*i - 1 by omega)
  grind
 have w1:=cast (show 2*i+1≤2*j - 1 by omega)
 have e:((2*i+1 - s:Int):Rat)=((2*i+1:Int):Rat) - (s:Rat):=Rat.intCast_sub _ _
 refine nt (2*i+1 - s) (by omega) ?_ ?_
 ·rw[e];grind
 ·rw[e];grind
theorem wave_in {fn s:Int} {x:Rat} {p:Nat} (hs:fn=3∧s=0∨fn=4∧s=1) (h:brE fn x p=0):(brL fn x p≤wavS s x+200*eps∧wavS s x≤brH fn x p+200*eps)∧(-brH fn x p≤wavS (s+2) x+200*eps∧wavS (s+2) x≤ -brL fn x p+200*eps)∧(∃z:Int,brL fn x p*2^128=(z:Rat))∧(∃z:Int,brH fn x p*2^128=(z:Rat))∧bnd x:=by
 have b3:brE 3 x p=0:=by
  rcases hs with⟨rfl,_⟩ |⟨rfl,_⟩
  ·exact h
  ·rw[←br_34];exact h
 obtain⟨⟨⟨a1,a2⟩,i1,i2⟩,⟨⟨c1,c2⟩,j1,j2⟩,bx,hq,_⟩:=br_S b3
 obtain⟨⟨t1,t2⟩,t3,t4⟩:=v_two (x:=x) (w:=p+64) (z:=192) (by omega) (by omega) (by decide) (by decide) bx
 have e0:=eps_tg.1
 obtain⟨⟨x1,_⟩,⟨x3,_⟩,⟨x5,_⟩,x7,_⟩:=v_shift (rsK x 192) (rsR x 192)
 unfold wavS
 unfold xS at a1 a2
 unfold xC at c1 c2
 rcases hs with⟨rfl,rfl⟩ |⟨rfl,rfl⟩
 ·rw[show(0+2:Int)=2 from rfl,x7,x3]
  exact⟨⟨by grind,by grind⟩,⟨by grind,by grind⟩,dZ i1 hq,dZ i2 hq,bx⟩
 ·rw[show(1+2:Int)=3 from rfl,x1,x5]
  exact⟨⟨by grind,by grind⟩,⟨by grind,by grind⟩,dZ j1 hq,dZ j2 hq,bx⟩
theorem eps_w:51000*eps*2^128 < 1:=by decide+kernel
theorem wave_btw {fn:Int} {a x b:Rat} {p q:Nat} (hf:fn=3∨fn=4) (h1:a≤x) (h2:x≤b) (ha:brE fn a p=0) (hb:brE fn b p=0) (hx:brE fn x q=0):
  ((∀k:Int,k % 4=(if fn=3 then 3 else 2)→a≤(k:Rat)*qtR→¬(k:Rat)*qtR≤b)→brL fn a p≤brH fn x q∨brL fn b p≤brH fn x q)∧
  ((∀k:Int,k % 4=(if fn=3 then 1 else 0)→a≤(k:Rat)*qtR→¬(k:Rat)*qtR≤b)→brL fn x q≤brH fn a p∨brL fn x q≤brH fn b p):=by
 obtain⟨s,hs⟩:∃s:Int,fn=3∧s=0∨fn=4∧s=1:=by
  rcases hf with c |c
  ·exact⟨0,.inl ⟨c,rfl⟩⟩
  ·exact⟨1,.inr ⟨c,rfl⟩⟩
 obtain⟨⟨a1,a2⟩,⟨a3,a4⟩,a5,a6,ba⟩:=wave_in hs ha
 obtain⟨⟨b1,b2⟩,⟨b3,b4⟩,b5,b6,bb⟩:=wave_in hs hb
 obtain⟨⟨x1,x2⟩,⟨x3,x4⟩,x5,x6,_⟩:=wave_in hs hx
 have e0:=eps_tg.1
 constructor
 ·intro nt
  rcases wave_low (s:=s) (by omega) h1 h2 ba bb (fun k hk=>nt k (by split<;>omega)) with c |c
  ·exact .inl (iE a5 x6 (show _≤_+51000*eps by grind) eps_w)
  ·exact .inr (iE b5 x6 (show _≤_+51000*eps by grind) eps_w)
 ·intro nt
  rcases wave_low (s:=s+2) (by omega) h1 h2 ba bb (fun k hk=>nt k (by split<;>omega)) with c |c
  ·exact .inl (iE x5 a6 (show _≤_+51000*eps by grind) eps_w)
  ·exact .inr (iE x5 b6 (show _≤_+51000*eps by grind) eps_w)
def Over (z:NS) (L H:Rat):Prop:=∃l u,z=.i l u∧(∀c,l=some c→c≤H)∧∀c,u=some c→L≤c
theorem some_le {a b c:Rat} (h:some a=some c) (k:a≤b):c≤b:=by cases h;exact k
theorem le_some {a b c:Rat} (h:some a=some c) (k:b≤a):b≤c:=by cases h;exact k
theorem wave_has {fn p q r s:Int} {a b:Option Rat} {x:Rat} {z:NS} (hf:fn=3∧r=3∧s=1∨fn=4∧r=2∧s=0) (hx:(NS.i a b).has x=true) (h:waveO fn p a b r s=.ok z) (hb:brE fn x q=0):Over z (brL fn x q) (brH fn x q):=by
 have hf2:fn=3∨fn=4:=by omega
 obtain⟨sx,_⟩:=br_p hb
 have eE:elE fn x q=0:=by unfold brE at hb;rwa[if_neg (by omega)] at hb
 obtain⟨_,x1,x2⟩:=el_br eE
 obtain⟨w1,w2,w3⟩:=wave_ends hf2 eE
 rw[←x1] at w2
 rw[←x2] at w3
 obtain⟨ha,hb2⟩:=NS.has_i.1 hx
 unfold waveO at h
 cases a with
 |none=>cases h;exact⟨_,_,rfl,fun c e=>some_le e w3,fun c e=>le_some e w2⟩
 | some u=>
  cases b with
  |none=>cases h;exact⟨_,_,rfl,fun c e=>some_le e w3,fun c e=>le_some e w2⟩
  | some v=>
   rw[if_neg (fun c=>by cases c)] at h
   obtain⟨v1,v2,h⟩:=val_0 h
   cases h
   obtain⟨b1,e1,e2⟩:=el_br v1
   obtain⟨b2,e3,e4⟩:=el_br v2
   obtain⟨_,p0,_⟩:=br_p b1
   obtain⟨_,q0,_⟩:=br_p hb
   obtain⟨m,rfl⟩:∃m:Nat,p=m:=⟨p.toNat,by omega⟩
   obtain⟨n,rfl⟩:∃n:Nat,q=n:=⟨q.toNat,by omega⟩
   obtain⟨k1,k2⟩:=wave_btw hf2 (ha u rfl) (hb2 v rfl) b1 b2 hb
   have uv:u≤v:=qAq (ha u rfl) (hb2 v rfl)
   have T:∀t:Int,0≤t∧t≤3→wvTr (some u) (some v) t=false→∀k:Int,k % 4=t→u≤(k:Rat)*qtR→¬(k:Rat)*qtR≤v:=fun t ht ht2 k hk=>by
    have g:turnB u v t=false:=ht2
    unfold turnB at g
    rw[if_neg (by
     rintro(c |c)
     ·exact c (turn_el (by omega) v1 v2 (by omega))
     ·grind)] at g
    have g:tv1 u v t=false∧tv2 u v t=false:=by simpa using g
    exact no_turn (by rw[hk];exact g.1) (by rw[hk];exact g.2)
   refine⟨_,_,rfl,fun c e=>some_le e ?_,fun c e=>le_some e ?_⟩
   ·show(if wvTr (some u) (some v) r=true then _ else min (elL fn u m) (elL fn v m))≤_
    split
    ·exact w3
    ·rename_i g
     rw[←e1,←e3]
     have:=k1 (by
      have:=T r (by omega) (by simpa using g)
      rcases hf with⟨rfl,rfl,rfl⟩ |⟨rfl,rfl,rfl⟩
      ·rw[if_pos rfl];exact this
      ·rw[if_neg (by decide)];exact this)
     grind
   ·show _≤(if wvTr (some u) (some v) s=true then _ else max (elH fn u m) (elH fn v m))
    split
    ·exact w2
    ·rename_i g
     rw[←e2,←e4]
     have:=k2 (by
      have:=T s (by omega) (by simpa using g)
      rcases hf with⟨rfl,rfl,rfl⟩ |⟨rfl,rfl,rfl⟩
      ·rw[if_pos rfl];exact this
      ·rw[if_neg (by decide)];exact this)
     grind
theorem tan_has {p q:Int} {a b:Option Rat} {x:Rat} {z:NS} (ho:outB 5 a b=false) (hx:(NS.i a b).has x=true) (h:tanO p a b=.ok z) (hb:brE 5 x q=0):Over z (brL 5 x q) (brH 5 x q):=by
 obtain⟨u,v,rfl,rfl⟩:=out_tan ho
 obtain⟨ha,hb2⟩:=NS.has_i.1 hx
 have ha:=ha u rfl
 have hb2:=hb2 v rfl
 unfold tanO at h
 obtain⟨v1,v2,h⟩:=val_0 h
 split at h
 ·cases h
 ·rename_i ht
  cases h
  obtain⟨b1,e1,e2⟩:=el_br v1
  obtain⟨b2,e3,e4⟩:=el_br v2
  obtain⟨_,p0,_⟩:=br_p b1
  obtain⟨_,q0,_⟩:=br_p hb
  obtain⟨m,rfl⟩:∃m:Nat,p=m:=⟨p.toNat,by omega⟩
  obtain⟨n,rfl⟩:∃n:Nat,q=n:=⟨q.toNat,by omega⟩
  have nt:∀k:Int,k % 2=1→u≤(k:Rat)*qtR→¬(k:Rat)*qtR≤v:=fun k hk=>by
   have g:turnB u v (k % 4)=false:=by
    have:wvTr (some u) (some v) (k % 4)=false:=by
     rcases(show k % 4=1∨k % 4=3 by omega) with c |c<;>rw[c]<;>(cases d:wvTr (some u) (some v) _ with |true=>exact absurd (by simp[d]) ht |false=>rfl)
    exact this
   unfold turnB at g
   rw[if_neg (by
    rintro(c |c)
    ·exact c (turn_el (.inr (.inr rfl)) v1 v2 (by omega))
    ·grind)] at g
   have g:tv1 u v (k % 4)=false∧tv2 u v (k % 4)=false:=by simpa using g
   exact no_turn g.1 g.2
  refine⟨_,_,rfl,fun c e=>some_le e ?_,fun c e=>le_some e ?_⟩
  ·show elL 5 u m≤_
   rw[←e1]
   exact tan_both ha b1 hb (fun k hk c d=>nt k hk c (qAq d hb2))
  ·show _≤elH 5 v m
   rw[←e4]
   exact tan_both hb2 hb b2 (fun k hk c d=>nt k hk (qAq ha c) d)
theorem exp_pos2 {x:Rat} {p:Int} (h:brE 1 x p=0):0≤brH 1 x p:=by
 obtain⟨s,_⟩:=br_p h
 have e:elE 1 x p=0:=by unfold brE at h;rwa[if_neg (by omega)] at h
 rw[(el_br e).2.2]
 exact exp_pos e
theorem mono_has {fn p q:Int} {a b:Option Rat} {x:Rat} {z:NS} (hf:fn=1∨fn=2∨fn=6∨fn=7∨fn=8) (hp:0≤p∧p≤128) (ho:outB fn a b=false) (hx:(NS.i a b).has x=true) (h:monoO fn p a b=.ok z) (hb:brE fn x q=0):Over z (brL fn x q) (brH fn x q):=by
 obtain⟨ha,hb2⟩:=NS.has_i.1 hx
 unfold monoO at h
 obtain⟨v1,v2,h⟩:=val_0 h
 cases h
 have A:∀u,a=some u→brE fn u p=0∧brL fn u p=elL fn u p∧brH fn u p=elH fn u p:=fun u e=>by subst e;exact el_br v1
 have B:∀u,b=some u→brE fn u p=0∧brL fn u p=elL fn u p∧brH fn u p=elH fn u p:=fun u e=>by subst e;exact el_br v2
 clear v1 v2
 unfold monoS
 by_cases f7:fn=7
 ·rw[if_pos f7]
  obtain⟨n1,n2⟩:=out_7 ho f7
  subst f7
  cases a with
  |none=>cases n1
  | some u=>
   cases b with
   |none=>cases n2
   | some v=>
    obtain⟨b1,e1,e2⟩:=A u rfl
    obtain⟨b2,e3,e4⟩:=B v rfl
    refine⟨_,_,rfl,fun c e=>some_le e ?_,fun c e=>le_some e ?_⟩
    ·show elL 7 v p≤_
     rw[←e3];exact br_both7 (hb2 v rfl) hb b2
    ·show _≤elH 7 u p
     rw[←e2];exact br_both7 (ha u rfl) b1 hb
 rw[if_neg f7]
 have U:∀u,a=some u→elL fn u p≤brH fn x q:=fun u e=>by
  obtain⟨b1,e1,_⟩:=A u e
  rw[←e1];exact br_both (by omega) (ha u e) b1 hb
 have V:∀u,b=some u→brL fn x q≤elH fn u p:=fun u e=>by
  obtain⟨b1,_,e2⟩:=B u e
  rw[←e2];exact br_both (by omega) (hb2 u e) hb b1
 by_cases f8:fn=8
 ·rw[if_pos f8]
  subst f8
  obtain⟨l1,l2⟩:=at_lim2 hp hb
  refine⟨_,_,rfl,fun c e=>some_le e ?_,fun c e=>le_some e ?_⟩
  ·cases a with
   |none=>exact l2
   |some u=>exact U u rfl
  ·cases b with
   |none=>exact l1
   |some u=>exact V u rfl
 rw[if_neg f8]
 refine⟨_,_,rfl,fun c e=>some_le e ?_,fun c e=>?_⟩
 ·cases a with
  |some u=>exact U u rfl
  | none=>
   have f1:fn=1:=by
    refine Decidable.byContradiction fun c=>?_
    unfold outB at ho
    by_cases f2:fn=2
    ·rw[if_pos f2] at ho
     have:(NS.i none b).slo≤0:=by show(-1:Int)≤0;decide
     rw[decide_eq_true this] at ho
     cases ho
    ·rw[if_neg f2,if_pos (by omega)] at ho
     cases ho
   subst f1
   exact exp_pos2 hb
 ·cases b with
  |none=>cases e
  |some u=>exact le_some e (V u rfl)
theorem call_has {fn p q:Int} {s z:NS} {x:Rat} (hx:s.has x=true) (h:callO fn p s=.ok z) (hb:brE fn x q=0):Over z (brL fn x q) (brH fn x q):=by
 unfold callO at h
 cases gf:badf fn with
 |true=>rw[gf] at h;cases h
 | false =>
  rw[gf,cond_false] at h
  unfold Out.prec at h
  cases gp:bad p with
  |true=>rw[gp] at h;cases h
  | false =>
   rw[gp,cond_false] at h
   have hn:=badf_no gf
   have hp:0≤p∧p≤128:=by unfold bad at gp;simp at gp;omega
   cases s with
   |e=>cases hx
   | i a b=>
    by_cases ho:outB fn a b=false
    ·rw[call_yes ho] at h
     by_cases f3:fn=3
     ·rw[if_pos f3] at h;exact wave_has (.inl ⟨f3,rfl,rfl⟩) hx h hb
     rw[if_neg f3] at h
     by_cases f4:fn=4
     ·rw[if_pos f4] at h;exact wave_has (.inr ⟨f4,rfl,rfl⟩) hx h hb
     rw[if_neg f4] at h
     by_cases f5:fn=5
     ·rw[if_pos f5] at h
      subst f5
      exact tan_has ho hx h hb
     ·rw[if_neg f5] at h
      exact mono_has (by omega) hp ho hx h hb
    ·rw[call_no ho] at h
     cases h
theorem over_met {z:NS} {L H:Rat} (hz:z.ok) (lh:L≤H) (h:Over z L H):(z.met (.i (some L) (some H))).void=false:=by
 obtain⟨l,u,rfl,h1,h2⟩:=h
 show(NS.mk' (omax l (some L)) (omin u (some H))).void=false
 have:ordO (omax l (some L)) (omin u (some H))=true:=by
  cases l with
  | none=>cases u with
   |none=>show(!decide (H < L))=true;rw[decide_eq_false (by grind)];rfl
   |some u=>have:=h2 u rfl;show(!decide (min u H < L))=true;rw[decide_eq_false (by grind)];rfl
  | some l=>cases u with
   |none=>have:=h1 l rfl;show(!decide (H < max l L))=true;rw[decide_eq_false (by grind)];rfl
   | some u=>
    have:=h1 l rfl
    have:=h2 u rfl
    have:=ok_le hz
    show(!decide (min u H < max l L))=true;rw[decide_eq_false (by grind)];rfl
 unfold NS.mk'
 rw[this];rfl
theorem abs_le1 {x:Rat} (h1: -1≤x) (h2:x≤1):x.num.natAbs≤x.den:=by
  by_cases a:0 < x
  · exact(wx a).1 h2
  · by_cases b:x=0
    · subst b;decide
    · have:=(wx (x:=-x) (by grind)).1 (by grind)
      rwa[(aN x).2.1,(aN x).2.2] at this
theorem call_def {fn p:Int} {s z:NS} {x:Rat} (hx:s.has x=true) (h:callO fn p s=.ok z) {q:Int} (hq:0≤q∧q≤128):elE fn x q=0∨elE fn x q=20:=by
 have hd : defB fn x=true∧1≤fn∧fn≤8:=by
  unfold callO at h
  cases gf:badf fn with
  |true=>rw[gf] at h;cases h
  | false =>
   rw[gf,cond_false] at h
   unfold Out.prec at h
   cases gp:bad p with
   |true=>rw[gp] at h;cases h
   | false =>
    rw[gp,cond_false] at h
    have hn:=badf_no gf
    refine⟨?_,hn⟩
    cases s with
    |e=>cases hx
    | i a b =>
     by_cases ho:outB fn a b=false
     ·obtain⟨ha,hb⟩:=NS.has_i.1 hx
      unfold outB at ho
      unfold defB
      by_cases f2:fn=2
      ·rw[if_pos f2] at ho ⊢
       cases a with
       |none=>exact absurd ho (by show ¬decide ((-1:Int)≤0)=false;decide)
       | some u=>
        have:=ha u rfl
        have ho:decide (sgn3 u≤0)=false:=ho
        have ho:=of_decide_eq_false ho
        have:¬u≤0:=fun c=>ho (by unfold sgn3;grind)
        exact decide_eq_true (by grind)
      rw[if_neg f2] at ho ⊢
      by_cases f6:fn=6∨fn=7
      ·rw[if_pos f6] at ho ⊢
       cases a with
       |none=>cases ho
       | some u=>
        cases b with
        |none=>cases ho
        | some v=>
         have h1:=ha u rfl
         have h2:=hb v rfl
         have ho:(decide (u < ((-1:Int):Rat)) || decide (((1:Int):Rat) < v))=false:=ho
         simp only[Bool.or_eq_false_iff,decide_eq_false_iff_not] at ho
         rw[show((-1:Int):Rat)= -1 from rfl,show((1:Int):Rat)=1 from rfl] at ho
         exact decide_eq_true (abs_le1 (x:=x) (by grind) (by grind))
      ·rw[if_neg f6]
     ·rw[call_no ho] at h
      cases h
 obtain⟨h1,h2⟩:=hd
 have e0:eErr fn x q=0∨eErr fn x q=20:=by
  unfold eErr
  rw[if_neg (by omega),if_neg (by rw[h1];decide)]
  split
  ·exact .inr rfl
  ·exact .inl rfl
 unfold elE
 rcases e0 with e |e
 ·rw[e,if_neg (by decide)]
  split
  ·exact .inl rfl
  ·split
   ·exact .inr rfl
   ·exact .inl rfl
 ·rw[e,if_pos (by decide)];exact .inr rfl
open Go.Proofs
theorem GC {x:Rat} {p:Nat} (h:brE 5 x p=0) (hb:exB 5 x=false):¬pole x p:=by
 have he:=br_e h
 intro hp
 unfold brE at h
 split at h
 ·cases h
 ·unfold elE at h
  rw[if_neg (fun c=>c he),if_neg (by rw[hb];decide),if_pos ⟨rfl,hp⟩] at h
  cases h
theorem AE {fn:Int} {x:Rat} {p q:Nat} (h:brE fn x p=0) (h':brE fn x q=0):brL fn x p≤brH fn x q:=by
 obtain⟨_,_,p1⟩:=br_p h
 obtain⟨_,_,q1⟩:=br_p h'
 obtain⟨hf,_,_,dx,_,k1,k2⟩:=dw (br_e h)
 rw[(cC h).1,(cC h').2,show((p:Int)).toNat=p from rfl,show((q:Int)).toNat=q from rfl]
 have hp:p≤128:=by omega
 have hq:q≤128:=by omega
 cases hb:exB fn x with
 |true=>rw[if_pos rfl,if_pos rfl];exact qBk
 | false=>
  rw[if_neg (by decide),if_neg (by decide)]
  unfold serL serH
  by_cases h1:fn=1
  ·subst h1;exact Ja x p q
  rw[if_neg h1,if_neg h1]
  by_cases h2:fn=2
  ·subst h2
   rw[if_pos rfl,if_pos rfl]
   have hx:0 < x:=by simpa[defB] using dx
   exact ln_cross (bZ hx).2
  rw[if_neg h2,if_neg h2]
  by_cases h3:fn=3
  ·subst h3
   rw[if_pos rfl,if_pos rfl]
   exact qAq (dV _ _) (qAq (si_two (w:=p+64) (z:=q+64) (by omega) (by omega) (by omega) (by omega) (k2 (.inl rfl))).1 (jc _ _))
  rw[if_neg h3,if_neg h3]
  by_cases h4:fn=4
  ·subst h4
   rw[if_pos rfl,if_pos rfl]
   exact qAq (dV _ _) (qAq (si_two (w:=p+64) (z:=q+64) (by omega) (by omega) (by omega) (by omega) (k2 (.inr (.inl rfl)))).2 (jc _ _))
  rw[if_neg h4,if_neg h4]
  by_cases h5:fn=5
  ·subst h5
   rw[if_pos rfl,if_pos rfl]
   exact tan_two hp hq (k2 (.inr (.inr rfl))) (GC h hb) (GC h' hb)
  rw[if_neg h5,if_neg h5]
  by_cases h6:fn=6
  ·subst h6
   rw[if_pos rfl,if_pos rfl]
   exact ET (abs_1 dx)
  rw[if_neg h6,if_neg h6]
  by_cases h7:fn=7
  ·subst h7
   rw[if_pos rfl,if_pos rfl]
   exact ac_cross (abs_1 dx)
  rw[if_neg h7,if_neg h7]
  exact at_cross
theorem br_meet {fn:Int} {x:Rat} {p q:Int} (h:brE fn x p=0) (h':brE fn x q=0):max (brL fn x p) (brL fn x q)≤min (brH fn x p) (brH fn x q):=by
 obtain⟨_,p0,_⟩:=br_p h
 obtain⟨_,q0,_⟩:=br_p h'
 obtain⟨a,rfl⟩:∃a:Nat,p=(a:Int):=⟨p.toNat,by omega⟩
 obtain⟨b,rfl⟩:∃b:Nat,q=(b:Int):=⟨q.toNat,by omega⟩
 have k1:=AE h h
 have k2:=AE h h'
 have k3:=AE h' h
 have k4:=AE h' h'
 grind
namespace NS
def hi0:NS→Rat
 |.e=>0
 |.i _ b=>b.getD 0
def loN:NS→Bool
 |.e=>false
 |.i a _=>a.isNone
def hiN:NS→Bool
 |.e=>false
 |.i _ b=>b.isNone
end NS
theorem HY:sz 0≤1:=by decide

namespace NS
def clo:NS→Rat
 |.e=>1
 |.i a _=>a.getD 0
def chi:NS→Rat
 |.e=>0
 |.i _ b=>b.getD 0
theorem le_c {k:Nat} {x:NS} (hk:1≤k) (h:x.le k):sz x.clo≤k∧sz x.chi≤k:=by
 have h0:sz 0≤k:=χ HY hk
 have h1:sz 1≤k:=χ (by decide) hk
 cases x with
 |e=>exact⟨h1,h0⟩
 | i a b=>
  rw[le_i] at h
  refine⟨?_,?_⟩
  ·cases a with
   |none=>exact h0
   |some a=>exact h.1 _ rfl
  ·cases b with
   |none=>exact h0
   |some b=>exact h.2 _ rfl
end NS
theorem Cv.fl {h:PH} {v:Value} {x:NS} (r:Cv h v x):∃b1 a1 m1 c1 a2 m2 c2 b2 a3 m3 c3 a4 m4 c4,v=.agg #[.bool b1,.slice a1 m1 c1,.slice a2 m2 c2,.bool b2,.slice a3 m3 c3,.slice a4 m4 c4,.bool x.loN,.bool x.hiN]∧
  Cn h (.agg #[.bool b1,.slice a1 m1 c1,.slice a2 m2 c2]) x.clo∧Cn h (.agg #[.bool b2,.slice a3 m3 c3,.slice a4 m4 c4]) x.chi:=by
 have r0:=r
 obtain⟨b1,x1,y1,b2,x2,y2,rfl,h1,h2⟩:=r
 obtain⟨_,_,_,_,_,_,_,e1,_⟩:=h1.sa
 obtain⟨_,_,_,_,_,_,_,e2,_⟩:=h2.sa
 simp only[Value.agg.injEq,Array.mk.injEq,List.cons.injEq,and_true] at e1 e2
 obtain⟨_,rfl,rfl⟩:=e1
 obtain⟨_,rfl,rfl⟩:=e2
 cases x with
 |e=>exact⟨_,_,_,_,_,_,_,_,_,_,_,_,_,_,rfl,h1,h2⟩
 |i a b=>exact⟨_,_,_,_,_,_,_,_,_,_,_,_,_,_,rfl,h1,h2⟩
def NS.ri (x:NS):RI:=⟨decide (x.clo.num < 0),x.clo.num.natAbs,if x.clo.den=1 then 0 else x.clo.den,decide (x.chi.num < 0),x.chi.num.natAbs,if x.chi.den=1 then 0 else x.chi.den,x.loN,x.hiN⟩
theorem Cv.iv {h:PH} {v:Value} {x:NS} (r:Cv h v x) (hf:x.le 2048):Iv h v x.ri:=by
 obtain⟨b1,a1,m1,c1,a2,m2,c2,b2,a3,m3,c3,a4,m4,c4,rfl,h1,h2⟩:=r.fl
 have hs:=NS.le_c (by decide) hf
 exact Iv.mk (h1.rw (χ hs.1 (by decide))) (h2.rw (χ hs.2 (by decide))) _ _
theorem NS.ri_big {x:NS} (hf:x.le 2048):x.ri.big=false:=by
 have hs:=NS.le_c (by decide) hf
 unfold RI.big NS.ri
 dsimp only
 have h1:¬lg (decide (x.clo.num < 0)) x.clo.num.natAbs (if x.clo.den=1 then 0 else x.clo.den):=by rw[lg_cn];omega
 have h2:¬lg (decide (x.chi.num < 0)) x.chi.num.natAbs (if x.chi.den=1 then 0 else x.chi.den):=by rw[lg_cn];omega
 simp only[h1,h2,decide_false,Bool.or_self]
theorem NS.ri_set {x:NS} (hx:x.ok):x.ri.set=x:=by
 unfold RI.set RI.lo RI.hi NS.ri
 dsimp only
 rw[jA,jA]
 cases x with
 |e=>simp[NS.loN,NS.hiN,NS.clo,NS.chi,NS.mk',ordO,show decide ((0:Rat) < 1)=true by decide]
 |i a b=>cases a<;>cases b<;>simp[NS.loN,NS.hiN,NS.clo,NS.chi,NS.mk']<;>simp[NS.ok] at hx<;>simp[hx]<;>rfl
theorem NS.le.sum {x y:NS} (hx:x.le 2048) (hy:y.le 2048):(x.sum y).le (2^30):=by
  cases x with
  |e=>rfl
  | i a b =>cases y with
    |e=>rfl
    | i c d =>
      rw[NS.le_i] at hx hy
      show NS.le _ (.i (oadd a c) (oadd b d))
      rw[NS.le_i]
      refine⟨fun q e=>?_,fun q e=>?_⟩
      · cases a with
        |none=>cases e
        | some a=>cases c with
          |none=>cases e
          | some c=>
            cases e
            have:=dA a c
            have:=hx.1 _ rfl
            have:=hy.1 _ rfl
            omega
      · cases b with
        |none=>cases e
        | some b=>cases d with
          |none=>cases e
          | some d=>
            cases e
            have:=dA b d
            have:=hx.2 _ rfl
            have:=hy.2 _ rfl
            omega
theorem Sum1 {h0 h:PH} [Le h0 h] {s t:Value} {x y:NS} (hs:Sn h0 s x) (ht:Sn h0 t y) (gx:x.void=false) (gy:y.void=false) (lx:x.le (2^30)) (ly:y.le (2^30)):Spec mach 88 #[s,t] h (fun v h'=>Sn h' v (x.sum y)) NP:=by
 cases x with
 |e=>cases gx
 | i a b=>cases y with
  |e=>cases gy
  |i c d=>exact sum_set hs ht lx ly
theorem jf {h0 h:PH} [Le h0 h] {v w:Value} {x y:RI} {p:Int} (hv:Iv h0 v x) (hw:Iv h0 w y):Spec mach 29 #[v,w,.int .i64 p] h (fun r h'=>Ir h' r (x.fin2 y (rnd p x.set y.set (.ok (x.set.sum y.set))))) NP:=by
 have hv0:=hv
 have hw0:=hw
 obtain⟨a1,m1,c1,a2,m2,c2,a3,m3,c3,a4,m4,c4,rfl,_,_⟩:=hv.sa
 obtain⟨a1',m1',c1',a2',m2',c2',a3',m3',c3',a4',m4',c4',rfl,_,_⟩:=hw.sa
 refine Spec.go [] Tryz.func29 rfl rfl (by kernel_rfl) fun C _=>?_
 try simp(maxSteps:=999999) (disch:=omega) only[go_sem,ξ,ζ]
 refine caN (by exact mC hv0 hw0 (fun g g' k k' h' _ s t hs ht=>Does.mk (Sum1 hs.sn ht.sn k k' (RI.le30 g) (RI.le30 g'))) (fun g g' z e=>by cases e;exact NS.le.sum (RI.le g) (RI.le g'))) ?_;rintro _ h3 _ hr3;obtain⟨_,_,_,_,_,_,_,_,_,_,_,_,_,_,_,_,_,rfl,hr3⟩:=hr3.sa
 try simp(maxSteps:=999999) (disch:=omega) only[go_sem,ξ,ζ]
 exact hr3
theorem Jg (n:Int) (p:Nat):gdown (n:Rat) 0=n:=by
 unfold gdown
 rw[show(2:Rat)^0=1 by rfl,Rat.mul_one,Rat.floor_intCast]
 grind
theorem gup_int (n:Int) (p:Nat):gup (n:Rat) 0=n:=by
 unfold gup
 rw[show(2:Rat)^0=1 by rfl,Rat.mul_one,Rat.ceil_intCast]
 grind
theorem IU:RI.fin2 (NS.i (some 1) (some 2)).ri (NS.i (some 3) (some 4)).ri (rnd 0 (NS.i (some 1) (some 2)).ri.set (NS.i (some 3) (some 4)).ri.set (.ok ((NS.i (some 1) (some 2)).ri.set.sum (NS.i (some 3) (some 4)).ri.set)))=.ok (.i (some 4) (some 6)):=by
 have l1:(NS.i (some 1) (some 2)).le 2048:=by decide
 have l2:(NS.i (some 3) (some 4)).le 2048:=by decide
 have o1:(NS.i (some 1) (some 2)).ok:=by unfold NS.ok ordO;decide
 have o2:(NS.i (some 3) (some 4)).ok:=by unfold NS.ok ordO;decide
 rw[NS.ri_set o1,NS.ri_set o2]
 unfold RI.fin2 rnd Out.prec
 rw[NS.ri_big l1,NS.ri_big l2]
 have e0:(1:Rat)+3=4:=by grind
 have e0':(2:Rat)+4=6:=by grind
 have e1:gdown (1+3) 0=4:=by
  have:=Jg 4 0
  rw[e0];simpa using this
 have e2:gup (2+4) 0=6:=by
  have:=gup_int 6 0
  rw[e0'];simpa using this
 have e3:decide (NS.le 2048 (NS.i (some 4) (some 6)))=true:=by decide
 simp[NS.sum,oadd,NS.void,bad,NS.hull,Out.fin,e1,e2,e3]
theorem zC {h:PH} {a:Option Addr} {m c n:Nat} (r:N32 h (.slice a m c) n) (h0:n≠0) (h1:n < 4294967296):m=1∧∃ad,a=some ad∧h.at ad=some (.int .u32 n):=by
 have hW:W 4294967296 n=[n]:=by
  rw[W_pos (by decide) h0,qBi h1,Nat.div_eq_of_lt h1,ff]
 obtain⟨a',c',e,A⟩:=r
 rw[hW] at e A
 simp only[Value.slice.injEq,List.length_cons,List.length_nil] at e
 obtain⟨rfl,rfl,rfl⟩:=e
 obtain⟨ad,e1,e2⟩:=A.at_ 0 n rfl
 refine⟨rfl,ad,e1,?_⟩
 simpa[Addr.add] using e2
theorem E4 {h:PH} {a:Option Addr} {m c:Nat} (r:N32 h (.slice a m c) 0):m=0:=by
 obtain⟨a',c',e,A⟩:=r
 rw[ff] at e
 simp only[Value.slice.injEq,List.length_nil] at e
 exact e.2.1
theorem au {h:PH}:Spec mach 8 #[] h (fun r _=>r=.bool true) NP:=by
 refine Spec.go [] Tryz.func8 rfl rfl (by kernel_rfl) fun C _=>?_
 try simp(maxSteps:=999999) (disch:=omega) only[go_sem,ξ,ζ]
 refine caN (by exact aF (n:=1) (by decide) (by decide)) ?_;rintro _ h1 _ f1;obtain⟨_,_,_,_,_,_,_,rfl,f1⟩:=f1.sa
 try simp(maxSteps:=999999) (disch:=omega) only[go_sem,ξ,ζ]
 refine caN (by exact cA f1 (by decide)) ?_;rintro _ h2 _ f2;obtain⟨v2_0,v2_1,v2_2,v2_3,v2_4,v2_5,v2_6,rfl,f2⟩:=f2.sa
 try simp(maxSteps:=999999) (disch:=omega) only[go_sem,ξ,ζ]
 refine caN (by exact aF (n:=2) (by decide) (by decide)) ?_;rintro _ h3 _ f3;obtain⟨_,_,_,_,_,_,_,rfl,f3⟩:=f3.sa
 try simp(maxSteps:=999999) (disch:=omega) only[go_sem,ξ,ζ]
 refine caN (by exact cA f3 (by decide)) ?_;rintro _ h4 _ f4;obtain⟨v4_0,v4_1,v4_2,v4_3,v4_4,v4_5,v4_6,rfl,f4⟩:=f4.sa
 try simp(maxSteps:=999999) (disch:=omega) only[go_sem,ξ,ζ]
 refine caN (by exact aF (n:=3) (by decide) (by decide)) ?_;rintro _ h5 _ f5;obtain⟨_,_,_,_,_,_,_,rfl,f5⟩:=f5.sa
 try simp(maxSteps:=999999) (disch:=omega) only[go_sem,ξ,ζ]
 refine caN (by exact cA f5 (by decide)) ?_;rintro _ h6 _ f6;obtain⟨v6_0,v6_1,v6_2,v6_3,v6_4,v6_5,v6_6,rfl,f6⟩:=f6.sa
 try simp(maxSteps:=999999) (disch:=omega) only[go_sem,ξ,ζ]
 refine caN (by exact aF (n:=4) (by decide) (by decide)) ?_;rintro _ h7 _ f7;obtain⟨_,_,_,_,_,_,_,rfl,f7⟩:=f7.sa
 try simp(maxSteps:=999999) (disch:=omega) only[go_sem,ξ,ζ]
 refine caN (by exact cA f7 (by decide)) ?_;rintro _ h8 _ f8;obtain⟨v8_0,v8_1,v8_2,v8_3,v8_4,v8_5,v8_6,rfl,f8⟩:=f8.sa
 try simp(maxSteps:=999999) (disch:=omega) only[go_sem,ξ,ζ]
 have c1:Cv h8 (.agg #[.bool v2_0,.slice v2_1 v2_2 v2_3,.slice v2_4 v2_5 v2_6,.bool v4_0,.slice v4_1 v4_2 v4_3,.slice v4_4 v4_5 v4_6,.bool false,.bool false]) (.i (some 1) (some 2)):=⟨_,_,_,_,_,_,rfl,by simpa using f2.to (h':=h8),by simpa using f4.to (h':=h8)⟩
 have c2:Cv h8 (.agg #[.bool v6_0,.slice v6_1 v6_2 v6_3,.slice v6_4 v6_5 v6_6,.bool v8_0,.slice v8_1 v8_2 v8_3,.slice v8_4 v8_5 v8_6,.bool false,.bool false]) (.i (some 3) (some 4)):=⟨_,_,_,_,_,_,rfl,by simpa using f6.to (h':=h8),by simpa using f8⟩
 have kA:=jf (h:=h8) (p:=0) (c1.iv (by decide)) (c2.iv (by decide))
 rw[IU] at kA
 refine caN (by exact kA) ?_;rintro r h9 st9 r9;obtain⟨u,rfl,c9⟩:=r9;obtain⟨d1,w1,w2,w3,w4,w5,w6,d2,w7,w8,w9,w10,w11,w12,rfl,p1,p2⟩:=c9.fl
 try simp(maxSteps:=999999) (disch:=omega) only[go_sem,ξ,ζ]
 have p1:Cn h9 _ 4:=p1
 have p2:Cn h9 _ 6:=p2
 obtain⟨sn,sd,e1,n1,n2⟩:=p1
 obtain⟨sn',sd',e2,n3,n4⟩:=p2
 simp only[Value.agg.injEq,Array.mk.injEq,List.cons.injEq,and_true] at e1 e2
 obtain⟨_,rfl,rfl⟩:=e1
 obtain⟨_,rfl,rfl⟩:=e2
 obtain⟨rfl,ad,rfl,t1⟩:=zC (n:=4) n1 (by decide) (by decide)
 obtain⟨rfl,ad',rfl,t2⟩:=zC (n:=6) n3 (by decide) (by decide)
 have:=E4 (by simpa using n4)
 subst this
 try simp(maxSteps:=999999) (disch:=omega) only[go_sem,ξ,ζ]
 refine aE t1 ?_
 try simp(maxSteps:=999999) (disch:=omega) only[go_sem,ξ,ζ]
 refine aE t2 ?_
 try simp(maxSteps:=999999) (disch:=omega) only[go_sem,ξ,ζ]
 all_goals exact rfl
def Fit (o:Out):Prop:=(∀x,o=.ok x→x.ok∧x.le 2048)∧∀e,o=.error e→e≠0
theorem Fit.fin {o:Out} (h1:∀x,o=.ok x→x.ok) (h2:∀e,o=.error e→e≠0):Fit o.fin:=by
 cases o with
 |error e=>exact⟨fun x k=>(by cases k),fun e' k=>h2 e' k⟩
 | ok z=>
  unfold Out.fin
  by_cases hz:z.le 2048
  ·simp only[hz,decide_true,cond_true]
   exact⟨fun x k=>by cases k;exact⟨h1 _ rfl,hz⟩,fun e k=>(by cases k)⟩
  ·simp only[hz,decide_false,cond_false]
   exact⟨fun x k=>(by cases k),fun e k=>by cases k;decide⟩
theorem Fit.err {e:Int} (h:e≠0):Fit (.error e):=⟨fun x k=>(by cases k),fun e' k=>by cases k;exact h⟩
theorem Fit.one {x:RI} {o:Out} (h:Fit o.fin):Fit (x.fin o):=by
 unfold RI.fin
 cases x.big with
 |true=>exact .err (by decide)
 |false=>exact h
theorem Fit.prec {p:Int} {z:NS} (hz:z.ok):Fit (Out.fin (Out.prec p (.ok z))):=by
 unfold Out.prec
 cases bad p with
 |true=>exact .err (by decide)
 |false=>exact Fit.fin (fun x k=>by cases k;exact hz) (fun e k=>(by cases k))
theorem Fit.of {z:NS} (hz:z.ok):Fit (Out.fin (.ok z)):=Fit.fin (fun x k=>by cases k;exact hz) (fun e k=>(by cases k))
theorem Ir.ea {h:PH} {r:Value} {e:Int} (k:Ir h r (.error e)):r=.tuple #[.agg #[.bool false,.slice none 0 0,.slice none 0 0,.bool false,.slice none 0 0,.slice none 0 0,.bool false,.bool false],.int .i64 e]:=k
theorem Ir.oa {h:PH} {r:Value} {x:NS} (k:Ir h r (.ok x)):∃b1 a1 m1 c1 a2 m2 c2 b2 a3 m3 c3 a4 m4 c4 l u,r=.tuple #[.agg #[.bool b1,.slice a1 m1 c1,.slice a2 m2 c2,.bool b2,.slice a3 m3 c3,.slice a4 m4 c4,.bool l,.bool u],.int .i64 0]∧
  Cv h (.agg #[.bool b1,.slice a1 m1 c1,.slice a2 m2 c2,.bool b2,.slice a3 m3 c3,.slice a4 m4 c4,.bool l,.bool u]) x:=by
 obtain⟨u,rfl,c⟩:=k
 obtain⟨_,_,_,_,_,_,_,_,_,_,_,_,_,_,_,_,rfl,c⟩:=c.sa
 exact⟨_,_,_,_,_,_,_,_,_,_,_,_,_,_,_,_,rfl,c⟩
theorem Fit.ok {x:NS} (h1:x.ok) (h2:x.le 2048):Fit (.ok x):=⟨fun z k=>(by cases k;exact⟨h1,h2⟩),fun e k=>(by cases k)⟩
theorem Out.fin_ok {o:Out} {z:NS} (h:o.fin=.ok z):o=.ok z∧z.le 2048:=by
 cases o with
 |error e=>cases h
 | ok x=>
  unfold Out.fin at h
  by_cases hx:x.le 2048
  ·simp only[hx,decide_true,cond_true] at h;cases h;exact⟨rfl,hx⟩
  ·simp only[hx,decide_false,cond_false] at h;cases h
theorem Out.fin_le {z:NS} (h:z.le 2048):Out.fin (.ok z)=.ok z:=by
 unfold Out.fin
 simp only[h,decide_true,cond_true]
end Go.Q
namespace Go.Q
open Go.Proofs
open Go.RowKit (Below)
set_option maxRecDepth 100000
set_option maxHeartbeats 4000000
end Go.Q
namespace Go.Q
open Go.Proofs
open Go.RowKit (Below)
set_option maxRecDepth 100000
set_option maxHeartbeats 4000000
theorem idle_Bo (p q:Value) (w:World):CallsD mach.P 122 #[p,q] .returning w fun e u' w'=>e=.returned (.tuple #[])∧u'=.returning∧w'=w:=by
 refine callsD_of_wpS Tryz.func122 rfl fun c₀ cs hu=>?_
 apply wpS_seq
 apply wpS_region
 simp[wpOpsS,go_sem,recoverD,hu,Exit.thenS]
 have hnil:∀w:World,(binOp BinOp.eql 20 .nilIface .nilIface).run mach.P w=.ok (.bool true) w:=fun _=>by kernel_rfl
 refine wpS_of_wp (wp_block (wp_seq_k fun K hK=>?_))
 apply wp_region
 simp[wpOps,go_sem,hnil,Oper.upon,Exit.then]
 refine .inl (hK _ _ ?_)
 clear hK K
 refine wp_cond_true ?_ ?_
 ·simp[Act.eval]
 apply wp_region
 simp[wpOps,go_sem]
 cases c₀
 simp_all [bodyPostS,results,Tryz.results122,Exit.inBlock]
theorem I1 {C:Ctx} {h:PH} {β:Nat→Nat} {w:World} {rv re:List Value} {e:Int} (hf:Fine mach C h w) (hr:Rows C h w β [rv,re]) (h8:rv.length=1) (h1:re.length=1):
    CallsD mach.P 122 #[.pointer (some ⟨β 0,0,none⟩),.pointer (some ⟨β 1,0,none⟩)] (.panicking [{v:=.iface 159 (.agg #[.int .i64 e]),recovered:=false}]) w fun en u' w'=>
      en=.returned (.tuple #[])∧u'=.panicking [{v:=.iface 159 (.agg #[.int .i64 e]),recovered:=true}]∧
      Fine mach C h w'∧Rows C h w' β [[.bool false],[.int .i64 e]]:=by
  have hnil:∀w:World,(binOp BinOp.eql 20 (.iface 159 (.agg #[.int .i64 e])) .nilIface).run mach.P w=.ok (.bool false) w:=fun _=>by kernel_rfl
  have has:∀w:World,(Instr.typeAssert (.iface 159 (.agg #[.int .i64 e])) 20 159 true).run mach.P w=.ok (.tuple #[.agg #[.int .i64 e],.bool true]) w:=fun _=>by kernel_rfl
  refine callsD_of_wpS Tryz.func122 rfl fun c₀ cs hu=>?_
  apply wpS_seq
  apply wpS_region
  simp[wpOpsS,go_sem,recoverD,hu,Exit.thenS]
  refine wpS_of_wp (wp_block (wp_seq_k fun K hK=>?_))
  apply wp_region
  simp[wpOps,go_sem,hnil,Oper.upon,Exit.then]
  refine .inl (hK _ _ ?_)
  clear hK K
  refine wp_cond_false ?_ ?_
  · simp[Act.eval]
  refine wp_seq_k fun K hK=>?_
  apply wp_region
  simp[wpOps,go_sem,has,Oper.upon,Exit.then]
  repeat refine Or.inl ?_
  refine hK _ _ ?_
  clear hK K
  refine wp_cond_true ?_ ?_
  · simp[Act.eval]
  match rv,re,h8,h1 with
  |[r0],[q0],_,_=>
  refine wp_mono (nh (M:=mach) (n:=15) (C:=⟨C.w0,C.h0,[β 0,β 1],[]⟩) (S:=⟨[(0,.p 0 0),(1,.p 1 0),(11,.v (.agg #[.int .i64 e]))],[[r0],[q0]]⟩) (h:=h) (β:=β) (E:=NP)
    (Q:=fun en S h'=>en=.normal∧h'=h∧2≤S.bx.length∧S.box 0=[.bool false]∧S.box 1=[.int .i64 e]) ?_ ?_) ?_
  · refine⟨by simp,rfl,hf.re rfl rfl,fun i cs hi hc=>(hr.at_ i cs hi hc).re rfl,hr.inj,fun t=>?_,fun t i hi=>?_,by simp,fun i hi=>?_⟩
    · simp only[lk]
      by_cases h0:t=0
      · subst h0;exact .inr rfl
      · by_cases h1:t=1
        · subst h1;exact .inr rfl
        · by_cases h2:t=11
          · subst h2;exact .inr rfl
          · refine .inl ?_
            have e0:(0 == t)=false:=by simp;omega
            have e1:(1 == t)=false:=by simp;omega
            have e2:(11 == t)=false:=by simp;omega
            simp[e0,e1,e2]
    · simp only[lk] at hi
      by_cases h0:t=0
      · subst h0;simp[AV.ix] at hi;subst hi;simp
      · by_cases h1:t=1
        · subst h1;simp[AV.ix] at hi;subst hi;simp
        · have e0:(0 == t)=false:=by simp;omega
          have e1:(1 == t)=false:=by simp;omega
          rw[e0,e1] at hi
          cases hx:(11 == t)<;>rw[hx] at hi<;>cases hi
    · simp only[List.length_cons,List.length_nil] at hi
      match i,hi with
      |0,_=>rfl
      |1,_=>rfl
  · repeat (first |(refine rg rfl rfl (fun K hK=>?_);(repeat (first |(refine wo rfl (fun k hk=>?_);simp(disch:=omega) only[go_sem,ξ,ζ];apply hk;clear hk k) |refine wkt rfl ?_));(try refine wk0 ?_);apply hK;clear hK K;(try dsimp only[ag,qs,qb])) |((first |refine ae ?_ |refine ac ?_);simp(disch:=decide) only[qs,qb,if_true,if_false,reduceIte]) |refine ah rfl (fun K hK=>?_) |refine ct rfl ?_ |((first |refine hK _ _ ?_ |(clear hK;refine hK _ _ ?_) |(clear hK;clear hK;refine hK _ _ ?_));clear hK;(try clear K)))
    refine pD (.alt 0 (.alt 1 (.alt 2 (.alt 3 (.alt 4 .done .no) .no) (.alt 3 (.alt 2 (.alt 4 .done .no) .no) .no)) (.alt 3 (.alt 1 (.alt 2 (.alt 4 .done .no) .no) .no) .no)) (.alt 1 (.alt 0 (.alt 2 (.alt 3 (.alt 4 .done .no) .no) (.alt 3 (.alt 2 (.alt 4 .done .no) .no) .no)) (.alt 2 (.alt 0 (.alt 3 (.alt 4 .done .no) .no) .no) .no)) .no)) (by decide+kernel) rfl (fun K hK=>?_)
    have fin:∀S h',h'=h→S.box 0=[.bool false]→S.box 1=[.int .i64 e]→2≤S.bx.length→K S h':=fun S h' e0 e1 e2 e3=>hK _ _ ⟨rfl,e0,e3,e1,e2⟩
    clear hK
    repeat' (first |exact wt_no |exact ak (fin _ _ rfl rfl rfl (by simp)) |refine aj ?_ ?_ |(refine wk (fun k hk=>?_);simp(disch:=omega) only[go_sem,ξ,ζ];apply hk;clear hk k;with_reducible refine wk0 ?_))
  · intro en a' w' hq
    cases en with
    | normal=>
      obtain⟨S',h',β',g',_,rfl,hl,hb0,hb1⟩:=hq
      have e0:β' 0=β 0:=g'.pin.2 0 (by simp)
      have e1:β' 1=β 1:=g'.pin.2 1 (by simp)
      have x0:=g'.boxes 0 _ (box_get hl) (by rw[hb0];simp)
      have x1:=g'.boxes 1 _ (box_get hl) (by rw[hb1];simp)
      have ne:=g'.inj 0 1 _ _ (box_get hl) (box_get hl) (by rw[hb0];simp) (by rw[hb1];simp)
      rw[e0,hb0] at x0
      rw[e1,hb1] at x1
      rw[e0,e1] at ne
      cases c₀
      simp only[Exit.inBlock,bodyPostS]
      refine⟨g'.defers,_,rfl,_,results_none rfl _ _ _,rfl,rfl,g'.fine.re rfl rfl,tL (x0.re rfl) (x1.re rfl) (fun e=>by simpa using ne e)⟩
    |panic ch=>obtain⟨_,_,_,hq⟩:=hq;exact(hq:False).elim
    |outgrown=>exact(hq:False).elim
    |_=>obtain⟨_,_,_,_,hq,_⟩:=hq;cases hq
def offBo (β:Nat→Nat):Deferred:={target:=.fn (.func 122) #[.pointer (some ⟨β 0,0,none⟩),.pointer (some ⟨β 1,0,none⟩)],args:=#[]}
theorem try_Bo {h : PH} {f:FuncId} {cap:Array Value} {w:World} (hw:Has w h) (hg:Sub mach.gl h) (hc:dS mach.P f=true) {Y:Ending→World→Prop}
  (hk :∀(w1:World),Has w1 h→Calls mach.P f cap w1 fun e w2=>∃h3,Below w1.heap.size w1 w2∧Has w2 h3∧Sub h h3∧New w1.heap.size h h3∧match e with
    |.returned v=>(∃r0,v=Value.bool r0∧[Value.bool r0].all Value.oneCell'=true)∧∀w3,Fine mach ⟨w,h,[],[]⟩ h3 w3→Y (.returned (.tuple #[v,.int .i64 0])) w3
    |.panicked ch=>∃e,ch=[{v:=.iface 159 (.agg #[.int .i64 e]),recovered:=false}]∧∀w3,Fine mach ⟨w,h,[],[]⟩ h3 w3→Y (.returned (.tuple #[.bool false,.int .i64 e])) w3
    |.outgrown=>False):Calls mach.P 44 #[.func (.func f) #[] cap] w Y:=by
 refine calls_of_wp_defers Tryz.func44 rfl ?_
 refine wp_seq (wp_mono (nh (E:=NP) (Q:=fun e S h'=>e=.normal∧h'=h∧S=⟨[(3,.p 1 0),(2,.p 0 0),(0,.v (.func (.func f) #[] cap))],[[.bool false],[.int .i64 0]]⟩) (G.start (M:=mach) (n:=7) (args:=[(.func (.func f) #[] cap)]) [] rfl (by simp) hw hg) ?_) ?_)
 ·refine AWP_s rfl ?_
  (repeat (first |(refine wo rfl (fun k hk=>?_);simp(disch:=omega) only[go_sem,ξ,ζ];apply hk;clear hk k) |refine wkt rfl ?_));(try refine wk0 ?_)
  exact⟨rfl,rfl,rfl⟩
 ·intro en a w1 hq
  cases en with
  | normal=>
   obtain⟨S',h',β,g,_,rfl,rfl⟩:=hq
   refine wp_seq (eK ?_)
   show RWc _ _ _ [0,1] _ _
   refine RWc_r (.func (.func 122) #[] #[.pointer (some ⟨β 0,0,none⟩),.pointer (some ⟨β 1,0,none⟩)]) rfl rfl rfl (fun w' hb=>?_) ?_
   ·simp[execOp,Instr.makeFunc,(g.below hb).ev_p (x:=.tmp 2) rfl,(g.below hb).ev_p (x:=.tmp 3) rfl]
   ·have g4 :=g.put (d:=some 4) (fun k hk=>by cases hk;decide) (x:=.top) (v:=(.func (.func 122) #[] #[.pointer (some ⟨β 0,0,none⟩),.pointer (some ⟨β 1,0,none⟩)])) (.inl rfl) (fun i hi=>by cases hi)
    have e4:(a.put (some 4) (.func (.func 122) #[] #[.pointer (some ⟨β 0,0,none⟩),.pointer (some ⟨β 1,0,none⟩)])).eval (.tmp 4)=(.func (.func 122) #[] #[.pointer (some ⟨β 0,0,none⟩),.pointer (some ⟨β 1,0,none⟩)]):=by
     have:=g.size
     simp[Act.eval,Act.put,this]
    refine RWc_i rfl (by decide) rfl (B9 (offBo β) ?_ ⟨.inr (Below.refl _ _),?_⟩)
    ·simp[execOp,offBo,resolve,Deferred.ofValue,e4]
    ·refine sM (a':={a.put (some 4) (.func (.func 122) #[] #[.pointer (some ⟨β 0,0,none⟩),.pointer (some ⟨β 1,0,none⟩)]) with defers:=[offBo β]}) ?_ ?_
     ·simp[Act.put,show a.defers=[] from g.defers]
     ·have g5 :=g4.re (C':=⟨w,h',[β 0,β 1],[offBo β]⟩) rfl rfl [offBo β] rfl ⟨by simp[AS.put],fun i hi=>by
       match i,hi with
       |0,_=>rfl
       |1,_=>rfl⟩
      generalize({a.put (some 4) (.func (.func 122) #[] #[.pointer (some ⟨β 0,0,none⟩),.pointer (some ⟨β 1,0,none⟩)]) with defers:=[offBo β]}:Act)=a5 at g5 ⊢
      clear e4 g4 g
      simp only[AS.put,st,ξ,cond_false] at g5
      refine wp_seq (eK ?_)
      show RWc _ _ _ [0,1,2,3] _ _
      refine RWc_r (.func (.func f) #[] cap) rfl rfl rfl (fun w' hb=>?_) ?_
      ·simp[execOp,(g5.below hb).ev_v (x:=.tmp 0) rfl]
      ·have g6:=g5.put (d:=some 5) (fun k hk=>by cases hk;decide) (x:=.v (.func (.func f) #[] cap)) (v:=(.func (.func f) #[] cap)) (.inr rfl) (fun i hi=>by cases hi)
       refine RWc_i rfl (by decide) rfl (tZ (f:=f) (args:=cap) ?_ ?_)
       ·exact BH g6 (t:=5) rfl rfl hc
       ·refine(hk w1 g6.fine.has).mono fun en w2 hp=>?_
        obtain⟨h3,hb,hh,hs,hn,hp⟩:=hp
        cases en with
        |outgrown=>exact hp
        | returned v=>
         obtain⟨⟨r0,rfl,hone⟩,hY⟩:=hp
         refine⟨.inr hb,?_⟩
         have g7:=(g6.grow hb hh hs hn).put (d:=some 6) (fun k hk=>by cases hk;decide) (x:=.v (Value.bool r0)) (v:=Value.bool r0) (.inr rfl) (fun i hi=>by cases hi)
         refine uo (Q:=LQ mach 7 ⟨w,h',[β 0,β 1],[offBo β]⟩ (fun e S h''=>e=.normal∧h''=h3∧2≤S.bx.length∧lk S.sl 2=.p 0 0∧lk S.sl 3=.p 1 0∧S.box 0=[Value.bool r0]∧S.box 1=[.int .i64 0]) NP) ?_ ?_ ?_ [2,3] _ _ (fx [.o 2,.o 3] _ _ _ _ _ _ rfl ?_ g7)
         ·rintro a8 w3 ⟨S8,h8,β8,g8,_,rfl,hl,l2,l3,b0,b1⟩
          refine wp_ret ?_
          show Leaves mach.P _ a8.tmps Y a8.defers .returning w3
          rw[show a8.defers=[offBo β] from g8.defers]
          refine leaves_cons (f:=122) (args:=#[.pointer (some ⟨β 0,0,none⟩),.pointer (some ⟨β 1,0,none⟩)]) (by simp) (by simp[go_sem];exact iF (by kernel_rfl) _ _) ?_
          refine(idle_Bo _ _ _).mono ?_
          rintro e u' w'' ⟨rfl,rfl,rfl⟩
          simp only[settle,Leaves]
          refine⟨_,i9 g8 (v:=.tuple #[Value.bool r0,.int .i64 0]) ?_,hY _ (g8.fine.re rfl rfl)⟩
          show resA mach.P S8 [.cell 2 4,.cell 3 27]=_
          have b0':S8.bx.getD 0 []=_:=b0
          have b1':S8.bx.getD 1 []=_:=b1
          simp only[resA,resL,res1,l2,l3,ldb,b0',b1',go_sem]
          all_goals rfl
         ·rintro ch a w ⟨_,_,_,hq⟩;exact(hq:False).elim
         ·intro a w hq;exact(hq:False).elim
         ·simp only[AS.put,st,ξ,cond_false]
          refine wk (fun k hk=>?_)
          simp(disch:=omega) only[go_sem,ξ,ζ]
          (first |refine⟨by simpa[Value.oneCell'] using hone,hk _ _ ?_⟩ |refine hk _ _ ?_)
          clear hk k
          (repeat (first |(refine wo rfl (fun k hk=>?_);simp(disch:=omega) only[go_sem,ξ,ζ];apply hk;clear hk k) |refine wkt rfl ?_));(try refine wk0 ?_)
          exact⟨trivial,rfl,by simp,rfl,rfl,rfl,rfl⟩
        | panicked ch=>
         obtain⟨e,rfl,hY⟩:=hp
         have g7:=g6.grow hb hh hs hn
         show Leaves mach.P _ (a5.put (some 5) (.func (.func f) #[] cap)).tmps Y (a5.put (some 5) (.func (.func f) #[] cap)).defers (.panicking _) w2
         rw[show(a5.put (some 5) (.func (.func f) #[] cap)).defers=[offBo β] from g7.defers]
         refine leaves_cons (f:=122) (args:=#[.pointer (some ⟨β 0,0,none⟩),.pointer (some ⟨β 1,0,none⟩)]) (by simp) (by simp[go_sem];exact iF (by kernel_rfl) _ _) ?_
         refine(I1 g7.fine ⟨g7.boxes,g7.inj⟩ rfl rfl).mono ?_
         rintro en u' w'' ⟨rfl,rfl,hf,hr⟩
         simp only[settle,Leaves,List.dropWhile_nil]
         have g9:G mach ⟨w,h',[β 0,β 1],[offBo β]⟩ 7 ⟨_,[[.bool false],[.int .i64 e]]⟩ h3 β (a5.put (some 5) (.func (.func f) #[] cap)) w'':=⟨g7.size,g7.defers,hf,hr.at_,hr.inj,g7.slots,g7.wf,g7.pin⟩
         refine⟨_,i9 g9 (v:=.tuple #[.bool false,.int .i64 e]) ?_,hY _ (hf.re rfl rfl)⟩
         show resA mach.P _ [.cell 2 4,.cell 3 27]=_
         simp only[resA,resL,res1,ldb,go_sem]
         all_goals rfl
  |panic ch=>obtain⟨_,_,_,hq⟩:=hq;exact(hq:False).elim
  |outgrown=>exact(hq:False).elim
  |_=>obtain⟨_,_,_,_,hq,_⟩:=hq;cases hq
theorem tryBo_ok {h:PH} {f:FuncId} {cap:Array Value} {R R':Value→PH→Prop} (s:Spec mach f cap h R NP) (hR:∀v h',Sub h h'→R v h'→(∃r0,v=Value.bool r0∧[Value.bool r0].all Value.oneCell'=true)∧R' (.tuple #[v,.int .i64 0]) h'):
  Spec mach 44 #[.func (.func f) #[] cap] h R' NP:=⟨by kernel_rfl,fun w hw hg=>try_Bo hw hg s.ok fun w1 hw1=>(s.run w1 hw1 hg).mono fun e w2 hp=>by
 cases e with
 |outgrown=>exact(hp:False).elim
 |panicked ch=>obtain⟨_,_,_,_,_,hp⟩:=hp;exact(hp:False).elim
 | returned v=>
  obtain⟨h3,hb,hh,hs,hn,hr⟩:=hp
  obtain⟨hv,hr⟩:=hR v h3 hs hr
  exact⟨h3,hb,hh,hs,hn,hv,fun w3 hf=>⟨h3,hf.below,hf.has,hf.sub,hf.new,hr⟩⟩⟩
theorem FZ {h:PH} {f:FuncId} {cap:Array Value} {e:Int} {R':Value→PH→Prop} (s:Spec mach f cap h NR (fail e)) (hR:∀h',Sub h h'→R' (.tuple #[.bool false,.int .i64 e]) h'):
  Spec mach 44 #[.func (.func f) #[] cap] h R' NP:=⟨by kernel_rfl,fun w hw hg=>try_Bo hw hg s.ok fun w1 hw1=>(s.run w1 hw1 hg).mono fun en w2 hp=>by
 cases en with
 |outgrown=>exact(hp:False).elim
 |returned v=>obtain⟨_,_,_,_,_,hp⟩:=hp;exact(hp:False).elim
 | panicked ch=>
  obtain⟨h3,hb,hh,hs,hn,hr⟩:=hp
  exact⟨h3,hb,hh,hs,hn,e,hr,fun w3 hf=>⟨h3,hf.below,hf.has,hf.sub,hf.new,hR h3 hs⟩⟩⟩
end Go.Q
