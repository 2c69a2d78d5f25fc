/-
  Contracts of package interval, and what stands on it. Conditions: each theorem's own.
-/
import Derived.Test.YtgmcchhklbeckaaGreatDoorKf08e96PkG
import Derived.Test.YtgmcchhklbeckaaGreatDoorK3d7e20PkP
import Derived.Test.YtgmcchhklbeckaaGreatDoorK6145e3PkL
import Derived.Test.YtgmcchhklbeckaaGreatDoorKd810e4PkN
import Derived.Test.YtgmcchhklbeckaaGreatDoorK745974PkM
import Derived.Test.YtgmcchhklbeckaaGreatDoorKdab1e0PkO
import Derived.Test.YtgmcchhklbeckaaGreatDoorK992e1bPkC
import Derived.Test.YtgmcchhklbeckaaGreatDoorKda9756PkA
import Derived.Maps.OwnIn
import Derived.Test.YtgmcchhklbeckaaGreatDoorK0ef115PkD
set_option linter.unusedVariables false
set_option linter.unusedSimpArgs false
open Nat renaming reduceBEq→ξ,reduceAdd→ζ,le_trans→χ,mul_le_mul_right→ψ,le_refl→η,mul_comm→ρ,pos_of_ne_zero→τ,mul_le_mul_left→ω,mul_assoc→σ,mul_le_mul→qAk,mul_add→qAm,pow_pos→qAo,pow_add→qAs,pow_le_pow_right→qAv,mul_ne_zero→qBe,mod_eq_of_lt→qBi,lt_or_ge→qBj,one_mul→qBm
open Bool renaming and_eq_true→φ,false_eq_true→qAw
open List renaming length_append→qAp,all_eq_true→qBd
namespace Go.Q
open Go.Proofs
set_option maxRecDepth 100000
set_option maxHeartbeats 8000000
theorem JT {n:Nat} (hn:n≠0):((0:Int):Rat)^n=((0:Int):Rat):=by
 obtain⟨m,rfl⟩:∃m,n=m+1:=⟨n - 1,by omega⟩
 rw[Rat.pow_succ]
 have:((0:Int):Rat)=0:=rfl
 rw[this,Rat.mul_zero]
theorem size_neg {a b:Option Rat} (hx:(NS.i a b).ok) (h:(NS.i a b).shi≤0):(NS.i a b).size=(NS.i a b).minus:=by
 rw[NS.size_i]
 by_cases h1:0≤(NS.i a b).slo
 ·rw[if_pos h1]
  cases a with
  |none=>exact absurd h1 (by show ¬(0:Int)≤ -1;decide)
  | some a=>cases b with
   |none=>exact absurd h (by show ¬(1:Int)≤0;decide)
   | some b=>
    have k1:0≤sgn3 a:=h1
    have k2:sgn3 b≤0:=h
    have k3:¬b < a:=by simpa[NS.ok,ordO] using hx
    have ea:a=0:=by unfold sgn3 at k1 k2;grind
    have eb:b=0:=by unfold sgn3 at k1 k2;grind
    subst ea eb
    show NS.i (some 0) (some 0)=.i (some (-0)) (some (-0))
    rw[Rat.neg_zero]
 ·rw[if_neg h1,if_pos h]
theorem up20 {k:Nat} (h:k≤2048):k≤2^20:=χ h (by decide)
theorem vt {h0 h:PH} [Le h0 h] {v:Value} {a b:Option Rat} {n:Nat} (hv:Sn h0 v (.i a b)) (lx:(NS.i a b).le 2048) (hn0:n≠0) (hn:n≤32) (hc:n % 2=1∨(n % 2=0∧0≤(NS.i a b).slo∧¬(NS.i a b).shi≤0)):Spec mach 182 #[v,.int .i64 n] h (fun v h'=>Sn h' v ((NS.i a b).powr n)) NP:=by
 have kS:=fun {h} [Le h0 h]=>jT (h:=h) hv
 rw[NS.le_i] at lx
 obtain⟨b1,a1,m1,c1,a2,m2,c2,b2,a3,m3,c3,a4,m4,c4,rfl,e1,e2⟩:=hv.ie
 generalize(NS.i a b).slo=m1' at*
 generalize(NS.i a b).shi=m2' at*
 rcases hc with hm |⟨hm,hl,hh⟩<;>cases a<;>cases b<;>
 ·dsimp only[Option.isNone] at*
  refine Spec.go [(8,.o [1,2,0,3,4,5,6,7,8]),(10,.o [0,1,3,4,6,2,5,7,8,9])] Tryz.func182 rfl rfl (by kernel_rfl) fun C _=>?_
  try simp(maxSteps:=999999) (disch:=omega) only[go_sem,ξ,ζ]
  refine caN (by exact kS) ?_;rintro w1 g1 s1 rfl
  try simp(maxSteps:=999999) (disch:=omega) only[go_sem,ξ,ζ]
  try (refine caN (by exact jM (e1.num.to (h':=g1)) (by omega) (up20 (lx.1 _ rfl))) ?_;rintro _ h3 _ f3;obtain⟨_,_,_,_,_,_,_,rfl,f3⟩:=f3.sa;(try simp(maxSteps:=999999) (disch:=omega) only[go_sem,ξ,ζ]))
  try (refine caN (by exact jM e2.num (by omega) (up20 (lx.2 _ rfl))) ?_;rintro _ h4 _ f4;obtain⟨_,_,_,_,_,_,_,rfl,f4⟩:=f4.sa;(try simp(maxSteps:=999999) (disch:=omega) only[go_sem,ξ,ζ]))
  try simp(maxSteps:=999999) (disch:=omega) only[go_sem,ξ,ζ]
  exact⟨_,_,_,_,_,_,rfl,by first |exact(En.of f3).to |exact En.nil _,by first |exact(En.of f4).to |exact En.nil _⟩
theorem EF {h0 h:PH} [Le h0 h] {v:Value} {a b:Option Rat} {n:Nat} (hv:Sn h0 v (.i a b)) (lx:(NS.i a b).le 2048) (hn0:n≠0) (hn:n≤32) (hm:n % 2=0) (hh:(NS.i a b).shi≤0):Spec mach 182 #[v,.int .i64 n] h (fun v h'=>Sn h' v ((NS.i a b).minus.powr n)) NP:=by
 have kS:=fun {h} [Le h0 h]=>jT (h:=h) hv
 have kM:=fun {h} [Le h0 h]=>jK (h:=h) hv
 have lx:=lx.minus
 obtain⟨_,_,_,_,_,_,_,_,_,_,_,_,_,_,rfl,_,_⟩:=hv.ie
 generalize(NS.i a b).slo=m1' at*
 generalize(NS.i a b).shi=m2' at*
 have h2:¬0 < m2':=by omega
 by_cases h3:m1' < 0<;>cases a<;>cases b<;>
 ·dsimp only[Option.isNone,NS.minus,Option.map] at*
  rw[NS.le_i] at lx
  refine Spec.go [(8,.o [1,2,0,3,4,5,6,7,8]),(10,.o [0,1,3,4,6,2,5,7,8,9])] Tryz.func182 rfl rfl (by kernel_rfl) fun C _=>?_
  try simp(maxSteps:=999999) (disch:=omega) only[go_sem,ξ,ζ]
  refine caN (by exact kS) ?_;rintro w1 g1 s1 rfl
  try simp(maxSteps:=999999) (disch:=omega) only[go_sem,ξ,ζ]
  refine caN (by exact kM) ?_;rintro w2 g2 s2 q2;obtain⟨_,_,_,_,_,_,_,_,_,_,_,_,_,_,rfl,e1,e2⟩:=q2.ie
  try simp(maxSteps:=999999) (disch:=omega) only[go_sem,ξ,ζ]
  dsimp only[Option.isNone] at*
  try simp(maxSteps:=999999) (disch:=omega) only[go_sem,ξ,ζ]
  try (refine caN (by exact jM e1.num (by omega) (up20 (lx.1 _ rfl))) ?_;rintro _ h3 _ f3;obtain⟨_,_,_,_,_,_,_,rfl,f3⟩:=f3.sa;(try simp(maxSteps:=999999) (disch:=omega) only[go_sem,ξ,ζ]))
  try (refine caN (by exact jM e2.num (by omega) (up20 (lx.2 _ rfl))) ?_;rintro _ h4 _ f4;obtain⟨_,_,_,_,_,_,_,rfl,f4⟩:=f4.sa;(try simp(maxSteps:=999999) (disch:=omega) only[go_sem,ξ,ζ]))
  try simp(maxSteps:=999999) (disch:=omega) only[go_sem,ξ,ζ]
  exact⟨_,_,_,_,_,_,rfl,by first |exact(En.of f3).to |exact En.nil _,by first |exact(En.of f4).to |exact En.nil _⟩
theorem Am {h0 h:PH} [Le h0 h] {v:Value} {a b:Option Rat} {n:Nat} (hv:Sn h0 v (.i a b)) (lx:(NS.i a b).le 2048) (hn0:n≠0) (hn:n≤32) (hm:n % 2=0) (hl:¬0≤(NS.i a b).slo) (hh:¬(NS.i a b).shi≤0):Spec mach 182 #[v,.int .i64 n] h (fun v h'=>Sn h' v ((NS.i (some ((0:Int):Rat)) (jmax (a.map (-·)) b)).powr n)) NP:=by
 have kS:=fun {h} [Le h0 h]=>jT (h:=h) hv
 rw[NS.le_i] at lx
 obtain⟨b1,a1,m1,c1,a2,m2,c2,b2,a3,m3,c3,a4,m4,c4,rfl,e1,e2⟩:=hv.ie
 generalize(NS.i a b).slo=m1' at*
 generalize(NS.i a b).shi=m2' at*
 have ez:=JT hn0
 show Spec _ _ _ _ (fun v h'=>Sn h' v (.i (some (((0:Int):Rat)^n)) ((jmax (a.map (-·)) b).map (· ^n)))) _
 rw[ez]
 cases a<;>cases b
 rotate_left 3
 ·rename_i a b
  have l1:=lx.1 _ rfl
  have l2:=lx.2 _ rfl
  have l3:sz (max (-a) b)≤2048:=px (by rw[cz];exact l1) l2
  dsimp only[Option.isNone] at*
  refine Spec.go [(8,.o [1,2,0,3,4,5,6,7,8]),(10,.o [0,1,3,4,6,2,5,7,8,9])] Tryz.func182 rfl rfl (by kernel_rfl) fun C _=>?_
  try simp(maxSteps:=999999) (disch:=omega) only[go_sem,ξ,ζ]
  refine caN (by exact kS) ?_;rintro w1 g1 s1 rfl
  try simp(maxSteps:=999999) (disch:=omega) only[go_sem,ξ,ζ]
  refine caN (by exact cB (n:=0) (by decide) (by decide)) ?_;rintro _ h3 _ f3;obtain⟨_,_,_,_,_,_,_,rfl,f3⟩:=f3.sa
  try simp(maxSteps:=999999) (disch:=omega) only[go_sem,ξ,ζ]
  refine caN (by exact kf (e1.num.to (h':=h3))) ?_;rintro _ h4 _ f4;obtain⟨_,_,_,_,_,_,_,rfl,f4⟩:=f4.sa
  try simp(maxSteps:=999999) (disch:=omega) only[go_sem,ξ,ζ]
  refine caN (by exact cE f4 (e2.num.to (h':=h4)) (by rw[cz];exact up36 (χ l1 (by decide))) (up36 (χ l2 (by decide)))) ?_;rintro _ h5 _ f5;obtain⟨_,_,_,_,_,_,_,rfl,f5⟩:=f5.sa
  try simp(maxSteps:=999999) (disch:=omega) only[go_sem,ξ,ζ]
  refine caN (by exact jM f5 (by omega) (up20 l3)) ?_;rintro _ h6 _ f6;obtain⟨_,_,_,_,_,_,_,rfl,f6⟩:=f6.sa
  try simp(maxSteps:=999999) (disch:=omega) only[go_sem,ξ,ζ]
  exact⟨_,_,_,_,_,_,rfl,En.of f3.to,(En.of f6).to⟩
 all_goals
  dsimp only[Option.isNone] at*
  refine Spec.go [(8,.o [1,2,0,3,4,5,6,7,8]),(10,.o [0,1,3,4,6,2,5,7,8,9])] Tryz.func182 rfl rfl (by kernel_rfl) fun C _=>?_
  try simp(maxSteps:=999999) (disch:=omega) only[go_sem,ξ,ζ]
  refine caN (by exact kS) ?_;rintro w1 g1 s1 rfl
  try simp(maxSteps:=999999) (disch:=omega) only[go_sem,ξ,ζ]
  refine caN (by exact cB (n:=0) (by decide) (by decide)) ?_;rintro _ h3 _ f3;obtain⟨_,_,_,_,_,_,_,rfl,f3⟩:=f3.sa
  try simp(maxSteps:=999999) (disch:=omega) only[go_sem,ξ,ζ]
  exact⟨_,_,_,_,_,_,rfl,En.of f3.to,En.nil _⟩
theorem vw {h0 h:PH} [Le h0 h] {v:Value} {a b:Option Rat} {n:Nat} (hv:Sn h0 v (.i a b)) (hx:(NS.i a b).ok) (lx:(NS.i a b).le 2048) (hn:n≤32):Spec mach 182 #[v,.int .i64 n] h (fun v h'=>Sn h' v ((NS.i a b).pow n)) NP:=by
 show Spec _ _ _ _ (fun v h'=>Sn h' v (if n=0 then .i (some ((1:Int):Rat)) (some ((1:Int):Rat)) else if n % 2=0 then (NS.i a b).size.powr n else (NS.i a b).powr n)) _
 by_cases hn0:n=0
 ·rw[if_pos hn0]
  subst hn0
  obtain⟨_,_,_,_,_,_,_,_,_,_,_,_,_,_,rfl,_,_⟩:=hv.ie
  refine Spec.go [(8,.o [1,2,0,3,4,5,6,7,8]),(10,.o [0,1,3,4,6,2,5,7,8,9])] Tryz.func182 rfl rfl (by kernel_rfl) fun C _=>?_
  try simp(maxSteps:=999999) (disch:=omega) only[go_sem,ξ,ζ]
  refine caN (by exact cB (n:=1) (by decide) (by decide)) ?_;rintro _ h1 _ f1;obtain⟨_,_,_,_,_,_,_,rfl,f1⟩:=f1.sa
  try simp(maxSteps:=999999) (disch:=omega) only[go_sem,ξ,ζ]
  refine caN (by exact qU f1) ?_;rintro _ h2 _ f2;obtain⟨_,_,_,_,_,_,_,_,_,_,_,_,_,_,_,_,rfl,f2⟩:=f2.sa
  try simp(maxSteps:=999999) (disch:=omega) only[go_sem,ξ,ζ]
  exact f2
 ·rw[if_neg hn0]
  by_cases hm:n % 2=0
  ·rw[if_pos hm]
   by_cases hh:(NS.i a b).shi≤0
   ·rw[size_neg hx hh]
    exact EF hv lx hn0 hn hm hh
   ·rw[NS.size_i,if_neg hh]
    by_cases hl:0≤(NS.i a b).slo
    ·rw[if_pos hl]
     exact vt hv lx hn0 hn (.inr ⟨hm,hl,hh⟩)
    ·rw[if_neg hl]
     exact Am hv lx hn0 hn hm hl hh
  ·rw[if_neg hm]
   exact vt hv lx hn0 hn (.inl (by omega))
def badn (n:Int):Bool:=decide (n < -32) || decide (32 < n)
theorem AB {n:Int} (h:badn n=false): -32≤n∧n≤32:=by
 unfold badn at h
 simp only[Bool.or_eq_false_iff,decide_eq_false_iff_not] at h
 omega
theorem CU {n:Int} (h:badn n=true):n < -32∨32 < n:=by
 unfold badn at h
 simpa using h
def hullO (p:Nat):Out→Out
 |.error e=>.error e
 |.ok z=>.ok (z.hull p)
def powO (n:Int) (x:NS):Out:=bif x.void then .ok .e else if n < 0 then (bif x.zero then .error 10 else .ok (x.inv.pow (-n).toNat)) else .ok (x.pow n.toNat)
def powR (n p:Int) (x:NS):Out:=bif badn n then .error 2 else Out.prec p (hullO p.toNat (powO n x))
theorem lG {n:Int} {x:NS} (hn:n < 0) (hz:x.zero=false):powO n x=.ok (x.inv.pow (-n).toNat):=by
 unfold powO
 rw[if_pos hn,hz]
 cases x<;>rfl
theorem mM {n:Int} {x:NS} (hn:n < 0) (hz:x.zero=true):powO n x=.error 10:=by
 unfold powO
 rw[if_pos hn,hz]
 cases x with
 |e=>cases hz
 |i a b=>rfl
theorem jz {n:Int} {x:NS} (hn:¬n < 0):powO n x=.ok (x.pow n.toNat):=by
 unfold powO
 rw[if_neg hn]
 cases x<;>rfl
theorem pY {x:NS} (hz:x.zero=false) (ho:x.ok):x.inv.ok:=by
 cases x with
 |e=>trivial
 | i a b=>
  show ordO _ _=true
  have:=qN hz ho
  simp[ordO];grind
theorem powR_ok {n p:Int} {x:NS} (gn:badn n=false) (gp:bad p=false):powR n p x=hullO p.toNat (powO n x):=by
 unfold powR Out.prec
 rw[gn,gp];rfl
@[go_sem] theorem void_at_e:NS.void .e=true:=rfl
@[go_sem] theorem void_at_i (a b:Option Rat):NS.void (.i a b)=false:=rfl
theorem Pow1 {h0 h:PH} [Le h0 h] {s:Value} {x:NS} {n p:Int} {b1 b2:Nat} (hs:Sd h0 s x) (hx:x.ok) (lx:x.le 2048) (hb1:h b1=some #[.int .i64 n]) (hb2:h b2=some #[.int .i64 p]):Does 181 #[s,.pointer (some ⟨b1,0,none⟩),.pointer (some ⟨b2,0,none⟩)] h (powR n p x):=by
 have hs0:=hs.sn
 obtain⟨_,_,_,_,_,_,_,_,_,_,_,_,_,_,_,_,rfl,hs⟩:=hs.sa
 cases gn:badn n with
 | true=>
  have e0:powR n p x=.error 2:=by unfold powR;rw[gn];rfl
  rw[e0]
  show Spec _ _ _ _ NR (fail 2)
  refine Spec.go [(8,.o [0,2,3,5,1,4,6,7]),(9,.o [0,1,3,2,4,5])] Tryz.func181 rfl rfl (by kernel_rfl) fun C _=>?_
  try simp(maxSteps:=999999) (disch:=omega) only[go_sem,ξ,ζ]
  refine aE (aK hb1) ?_
  try simp(maxSteps:=999999) (disch:=omega) only[go_sem,ξ,ζ]
  exact caF (by exact iN (CU gn)) (fun _ _ h=>h)
 | false =>
  have hn:=AB gn
  cases gp:bad p with
  | true=>
   have e0:powR n p x=.error 2:=by unfold powR Out.prec;rw[gn,gp];rfl
   rw[e0]
   show Spec _ _ _ _ NR (fail 2)
   refine Spec.go [(8,.o [0,2,3,5,1,4,6,7]),(9,.o [0,1,3,2,4,5])] Tryz.func181 rfl rfl (by kernel_rfl) fun C _=>?_
   try simp(maxSteps:=999999) (disch:=omega) only[go_sem,ξ,ζ]
   refine aE (aK hb1) ?_
   try simp(maxSteps:=999999) (disch:=omega) only[go_sem,ξ,ζ]
   refine caN (by exact aU hn.1 hn.2) ?_;rintro v1 h1 st1 _
   try simp(maxSteps:=999999) (disch:=omega) only[go_sem,ξ,ζ]
   refine aE (aK (st1.sub _ _ hb2)) ?_
   try simp(maxSteps:=999999) (disch:=omega) only[go_sem,ξ,ζ]
   exact caF (by exact iN (i7 gp)) (fun _ _ h=>h)
  | false =>
   have hp:=jt gp
   rw[powR_ok gn gp]
   cases x with
   | e=>
    show Spec _ _ _ _ (fun v h'=>Sn h' v .e) NP
    refine Spec.go [(8,.o [0,2,3,5,1,4,6,7]),(9,.o [0,1,3,2,4,5])] Tryz.func181 rfl rfl (by kernel_rfl) fun C _=>?_
    try simp(maxSteps:=999999) (disch:=omega) only[go_sem,ξ,ζ]
    refine aE (aK hb1) ?_
    try simp(maxSteps:=999999) (disch:=omega) only[go_sem,ξ,ζ]
    refine caN (by exact aU hn.1 hn.2) ?_;rintro v1 h1 st1 _
    try simp(maxSteps:=999999) (disch:=omega) only[go_sem,ξ,ζ]
    refine aE (aK (st1.sub _ _ hb2)) ?_
    try simp(maxSteps:=999999) (disch:=omega) only[go_sem,ξ,ζ]
    refine caN (by exact aU hp.1 hp.2) ?_;rintro v2 h2 st2 _
    try simp(maxSteps:=999999) (disch:=omega) only[go_sem,ξ,ζ]
    exact hs0.to
   | i a b =>
    have kZ:=fun {h} [Le h0 h]=>Ei (h:=h) hs0
    by_cases hneg:n < 0
    ·cases hz:(NS.i a b).zero with
     | true=>
      have e0:powO n (.i a b)=.error 10:=by unfold powO;rw[if_pos hneg,hz];rfl
      rw[e0]
      rw[hz] at kZ
      show Spec _ _ _ _ NR (fail 10)
      refine Spec.go [(8,.o [0,2,3,5,1,4,6,7]),(9,.o [0,1,3,2,4,5])] Tryz.func181 rfl rfl (by kernel_rfl) fun C _=>?_
      try simp(maxSteps:=999999) (disch:=omega) only[go_sem,ξ,ζ]
      refine aE (aK hb1) ?_
      try simp(maxSteps:=999999) (disch:=omega) only[go_sem,ξ,ζ]
      refine caN (by exact aU hn.1 hn.2) ?_;rintro v1 h1 st1 _
      try simp(maxSteps:=999999) (disch:=omega) only[go_sem,ξ,ζ]
      refine aE (aK (st1.sub _ _ hb2)) ?_
      try simp(maxSteps:=999999) (disch:=omega) only[go_sem,ξ,ζ]
      refine caN (by exact aU hp.1 hp.2) ?_;rintro v2 h2 st2 _
      try simp(maxSteps:=999999) (disch:=omega) only[go_sem,ξ,ζ]
      refine aE (aK (st2.sub _ _ (st1.sub _ _ hb1))) ?_
      try simp(maxSteps:=999999) (disch:=omega) only[go_sem,ξ,ζ]
      refine caN (by exact kZ) ?_;rintro v3 h3 st3 rfl
      try simp(maxSteps:=999999) (disch:=omega) only[go_sem,ξ,ζ]
      exact caF (by exact jm (by decide)) (fun _ _ h=>h)
     | false=>
      have e0:powO n (.i a b)=.ok ((NS.i a b).inv.pow (-n).toNat):=by unfold powO;rw[if_pos hneg,hz];rfl
      rw[e0]
      rw[hz] at kZ
      obtain⟨n1,n2⟩:=Ad hz hx
      have li:=jw lx (by decide)
      have oi:(NS.i a b).inv.ok:=by
       show ordO _ _=true
       have:=qN hz hx
       simp[ordO];grind
      have lp:=(NS.pow_le (n:=(-n).toNat) li (by decide)).up (m:=2^30) (by have:=ψ 2048 (show(-n).toNat≤32 by omega);omega)
      have en:IntKind.i64.wrap (-n)=(((-n).toNat:Nat):Int):=by rw[wi64 (by omega) (by omega)];omega
      have kI:=fun {h} [Le h0 h]=>rp (h:=h) hs0 n1 n2
      show Spec _ _ _ _ (fun v h'=>Sn h' v (((NS.i a b).inv.pow (-n).toNat).hull p.toNat)) NP
      refine Spec.go [(8,.o [0,2,3,5,1,4,6,7]),(9,.o [0,1,3,2,4,5])] Tryz.func181 rfl rfl (by kernel_rfl) fun C _=>?_
      try simp(maxSteps:=999999) (disch:=omega) only[go_sem,ξ,ζ]
      refine aE (aK hb1) ?_
      try simp(maxSteps:=999999) (disch:=omega) only[go_sem,ξ,ζ]
      refine caN (by exact aU hn.1 hn.2) ?_;rintro v1 h1 st1 _
      try simp(maxSteps:=999999) (disch:=omega) only[go_sem,ξ,ζ]
      refine aE (aK (st1.sub _ _ hb2)) ?_
      try simp(maxSteps:=999999) (disch:=omega) only[go_sem,ξ,ζ]
      refine caN (by exact aU hp.1 hp.2) ?_;rintro v2 h2 st2 _
      try simp(maxSteps:=999999) (disch:=omega) only[go_sem,ξ,ζ]
      refine aE (aK (st2.sub _ _ (st1.sub _ _ hb1))) ?_
      try simp(maxSteps:=999999) (disch:=omega) only[go_sem,ξ,ζ]
      refine caN (by exact kZ) ?_;rintro v3 h3 st3 rfl
      try simp(maxSteps:=999999) (disch:=omega) only[go_sem,ξ,ζ]
      refine aE (aK (st3.sub _ _ (st2.sub _ _ (st1.sub _ _ hb1)))) ?_
      try simp(maxSteps:=999999) (disch:=omega) only[go_sem,ξ,ζ]
      refine aE (aK (st3.sub _ _ (st2.sub _ _ (st1.sub _ _ hb1)))) ?_
      try simp(maxSteps:=999999) (disch:=omega) only[go_sem,ξ,ζ]
      refine aE (aK (st3.sub _ _ (st2.sub _ _ (st1.sub _ _ hb2)))) ?_
      try simp(maxSteps:=999999) (disch:=omega) only[go_sem,ξ,ζ]
      rw[show(0:Int) - n=(((-n).toNat:Nat):Int) by omega]
      refine caN (by exact kI) ?_;rintro _ h4 _ f4;obtain⟨_,_,_,_,_,_,_,_,_,_,_,_,_,_,_,_,rfl,f4⟩:=f4.sa
      try simp(maxSteps:=999999) (disch:=omega) only[go_sem,ξ,ζ]
      refine caN (by exact vw f4 oi li (by omega)) ?_;rintro _ h5 _ f5;obtain⟨_,_,_,_,_,_,_,_,_,_,_,_,_,_,_,_,rfl,f5⟩:=f5.sa
      try simp(maxSteps:=999999) (disch:=omega) only[go_sem,ξ,ζ]
      refine caN (by exact Ah f5 lp hp) ?_;rintro _ h6 _ f6;obtain⟨_,_,_,_,_,_,_,_,_,_,_,_,_,_,_,_,rfl,f6⟩:=f6.sa
      try simp(maxSteps:=999999) (disch:=omega) only[go_sem,ξ,ζ]
      exact f6
    ·have e0:powO n (.i a b)=.ok ((NS.i a b).pow n.toNat):=by unfold powO;rw[if_neg hneg];rfl
     rw[e0]
     have lp:=(NS.pow_le (n:=n.toNat) lx (by decide)).up (m:=2^30) (by have:=ψ 2048 (show n.toNat≤32 by omega);omega)
     have kP:=fun {h} [Le h0 h]=>vw (h:=h) (n:=n.toNat) hs0 hx lx (by omega)
     rw[show((n.toNat:Nat):Int)=n by omega] at kP
     show Spec _ _ _ _ (fun v h'=>Sn h' v (((NS.i a b).pow n.toNat).hull p.toNat)) NP
     refine Spec.go [(8,.o [0,2,3,5,1,4,6,7]),(9,.o [0,1,3,2,4,5])] Tryz.func181 rfl rfl (by kernel_rfl) fun C _=>?_
     try simp(maxSteps:=999999) (disch:=omega) only[go_sem,ξ,ζ]
     refine aE (aK hb1) ?_
     try simp(maxSteps:=999999) (disch:=omega) only[go_sem,ξ,ζ]
     refine caN (by exact aU hn.1 hn.2) ?_;rintro v1 h1 st1 _
     try simp(maxSteps:=999999) (disch:=omega) only[go_sem,ξ,ζ]
     refine aE (aK (st1.sub _ _ hb2)) ?_
     try simp(maxSteps:=999999) (disch:=omega) only[go_sem,ξ,ζ]
     refine caN (by exact aU hp.1 hp.2) ?_;rintro v2 h2 st2 _
     try simp(maxSteps:=999999) (disch:=omega) only[go_sem,ξ,ζ]
     refine aE (aK (st2.sub _ _ (st1.sub _ _ hb1))) ?_
     try simp(maxSteps:=999999) (disch:=omega) only[go_sem,ξ,ζ]
     refine aE (aK (st2.sub _ _ (st1.sub _ _ hb1))) ?_
     try simp(maxSteps:=999999) (disch:=omega) only[go_sem,ξ,ζ]
     refine aE (aK (st2.sub _ _ (st1.sub _ _ hb1))) ?_
     try simp(maxSteps:=999999) (disch:=omega) only[go_sem,ξ,ζ]
     refine aE (aK (st2.sub _ _ (st1.sub _ _ hb2))) ?_
     try simp(maxSteps:=999999) (disch:=omega) only[go_sem,ξ,ζ]
     refine caN (by exact kP) ?_;rintro _ h4 _ f4;obtain⟨_,_,_,_,_,_,_,_,_,_,_,_,_,_,_,_,rfl,f4⟩:=f4.sa
     try simp(maxSteps:=999999) (disch:=omega) only[go_sem,ξ,ζ]
     refine caN (by exact Ah f4 lp hp) ?_;rintro _ h5 _ f5;obtain⟨_,_,_,_,_,_,_,_,_,_,_,_,_,_,_,_,rfl,f5⟩:=f5.sa
     try simp(maxSteps:=999999) (disch:=omega) only[go_sem,ξ,ζ]
     exact f5
theorem ul {h0 h:PH} [Le h0 h] {v:Value} {x:RI} {n p:Int} (hv:Iv h0 v x):Spec mach 108 #[v,.int .i64 n,.int .i64 p] h (fun r h'=>Ir h' r (x.fin (powR n p x.set))) NP:=by
 have hv0:=hv
 obtain⟨a1,m1,c1,a2,m2,c2,a3,m3,c3,a4,m4,c4,rfl,_,_⟩:=hv.sa
 refine Spec.go [(1,.t (.p 1 (.p 2 (.s [0,1,2,3,4,5,6] .d))))] Tryz.func108 rfl rfl (by kernel_rfl) fun C _=>?_
 try simp(maxSteps:=999999) (disch:=omega) only[go_sem,ξ,ζ]
 intro b h1 st1 hb
 try simp(maxSteps:=999999) (disch:=omega) only[go_sem,ξ,ζ]
 have hb:=hb (by simp)
 intro b' h2 st2 hb'
 try simp(maxSteps:=999999) (disch:=omega) only[go_sem,ξ,ζ]
 have hb':=hb' (by simp)
 refine caN (by exact jX (hv0.to (h':=h2)) (fun g h' i s hs=>Pow1 hs (RI.set_ok x) (RI.le g) (i.sub _ _ (st2.sub _ _ hb)) (i.sub _ _ hb'))) ?_;rintro r3 h3 st3 hr3;obtain⟨_,_,_,_,_,_,_,_,_,_,_,_,_,_,_,_,_,rfl,hr3⟩:=hr3.sa
 try simp(maxSteps:=999999) (disch:=omega) only[go_sem,ξ,ζ]
 exact hr3

@[go_sem] theorem void_at_e':NS.void .e=true:=rfl
@[go_sem] theorem void_at_i' (a b:Option Rat):NS.void (.i a b)=false:=rfl
def NS.rootS (n p:Nat):NS→NS
 |.e=>.e
 |.i a b=>.i (a.map (rootg false · n p)) (b.map (rootg true · n p))
def badr (n:Int):Bool:=decide (n < 2) || decide (8 < n)
def rootO (n p:Int) (x:NS):Out:=bif x.void then .ok .e else if n % 2=0∧x.slo < 0 then .error 5 else .ok (x.rootS n.toNat p.toNat)
def rootR (n p:Int) (x:NS):Out:=bif badr n then .error 2 else Out.prec p (rootO n p x)
def opO (op:Nat) (x y:RI) (n p:Int):Out:=
 match op with
 |0=>x.fin2 y (rnd p x.set y.set (.ok (x.set.sum y.set)))
 |1=>x.fin2 y (rnd p x.set y.set (.ok (x.set.sum y.set.minus)))
 |2=>x.fin2 y (rnd p x.set y.set (.ok (x.set.prod y.set)))
 |3=>x.fin2 y (rnd p x.set y.set (divO x.set y.set))
 |4=>x.fin2 y (.ok (x.set.lesser y.set))
 |5=>x.fin2 y (.ok (x.set.minus.lesser y.set.minus).minus)
 |6=>x.fin (powR n p x.set)
 |_=>x.fin (rootR n p x.set)
def isoO (o o':Out):Prop:=∀L,o'=.ok L→∃S,o=.ok S∧S.within L=true
theorem AW (z:NS):Out.fin (.ok z)=.ok z∨Out.fin (.ok z)=.error 1:=by
 unfold Out.fin
 by_cases h:z.le 2048
 ·exact .inl (by simp only[h,decide_true,cond_true])
 ·exact .inr (by simp only[h,decide_false,cond_false])
theorem isoO.fin {o o':Out} (h:isoO o o') {L:NS} (hL:o'.fin=.ok L):o.fin=.error 1∨∃S,o.fin=.ok S∧S.within L=true:=by
 cases o' with
 |error e=>cases hL
 | ok z=>
  rcases AW z with e |e<;>rw[e] at hL<;>cases hL
  obtain⟨S,rfl,hS⟩:=h _ rfl
  rcases AW S with e |e
  ·exact .inr ⟨S,e,hS⟩
  ·exact .inl e
theorem yN {x y:NS} (h:x.within y=true) (hv:x.void=false):y.void=false:=by
 cases x with
 |e=>cases hv
 | i a b=>cases y with
  |e=>cases h
  |i c d=>rfl
theorem tX {y:NS}:NS.e.within y=true:=by cases y<;>rfl
theorem x8 {x y:NS} (h:x.within y=true):isoO (.ok x) (.ok y):=fun L e=>by cases e;exact⟨x,rfl,h⟩
theorem div_iso {x y x' y':NS} (ox:x.ok) (oy:y.ok) (oy':y'.ok) (h1:x.within x'=true) (h2:y.within y'=true):isoO (divO x y) (divO x' y'):=by
 intro L hL
 unfold divO at*
 cases hz:y'.zero with
 |true=>rw[hz] at hL;cases hL
 | false=>
  rw[hz] at hL
  cases hL
  rw[jE oy h2 hz]
  have oi:y.inv.ok:=by
   cases y with
   |e=>trivial
   | i a b=>
    show ordO _ _=true
    have:=qN (jE oy h2 hz) oy
    simp[ordO];grind
  exact⟨_,rfl,tH ox oi h1 (Ha oy oy' h2 hz)⟩
theorem powR_iso {x x':NS} {n p:Int} (ox:x.ok) (ox':x'.ok) (h:x.within x'=true):isoO (powR n p x) (powR n p x'):=by
 intro L hL
 unfold powR Out.prec at*
 cases gn:badn n with
 |true=>rw[gn] at hL;cases hL
 | false =>
  rw[gn] at hL
  cases gp:bad p with
  |true=>rw[gp] at hL;cases hL
  | false=>
   rw[gp] at hL
   have hL:hullO p.toNat (powO n x')=.ok L:=hL
   show ∃S,hullO p.toNat (powO n x)=.ok S∧_
   by_cases hn:n < 0
   ·cases hz:x'.zero with
    |true=>rw[mM hn hz] at hL;cases hL
    | false=>
     rw[lG hn hz] at hL
     cases hL
     rw[lG hn (jE ox h hz)]
     exact⟨_,rfl,NS.hull_mono (wv _ (pY (jE ox h hz) ox) (pY hz ox') (Ha ox ox' h hz))⟩
   ·rw[jz hn] at hL
    cases hL
    rw[jz hn]
    exact⟨_,rfl,NS.hull_mono (wv _ ox ox' h)⟩
theorem N32.len0y {h:PH} {a:Option Addr} {l c n:Nat} (r:N32 h (.slice a l c) n):l=0↔n=0:=by
 obtain⟨a',c',e,_⟩:=r
 cases e
 exact nP (by decide)
theorem Cn.parts {h:PH} {v:Value} {x:Rat} (r:Cn h v x):∃na nl nc da dl dc,v=.agg #[.bool (decide (x.num < 0)),.slice na nl nc,.slice da dl dc]∧N32 h (.slice na nl nc) x.num.natAbs∧N32 h (.slice da dl dc) (if x.den=1 then 0 else x.den)∧(nl=0↔x=0)∧(dl=0↔x.den=1):=by
 obtain⟨sn,sd,rfl,h1,h2⟩:=r
 obtain⟨na,nl,nc,rfl,h1⟩:=h1.sl
 obtain⟨da,dl,dc,rfl,h2⟩:=h2.sl
 refine⟨_,_,_,_,_,_,rfl,h1,h2,?_,?_⟩
 ·rw[h1.len0y,Int.natAbs_eq_zero,Rat.num_eq_zero]
 ·rw[h2.len0y]
  have:=x.den_nz
  split<;>omega

structure Hid (p:Prop):Prop where
 out:p
theorem Le.trn {a b c:PH} (x:Le a b) (y:Le b c):Le a c:=⟨x.sub.trans y.sub⟩
@[go_sem] theorem uw_get1 (d:Nat):(uw [d])[0]?=some (.int .u32 (d:Nat)):=rfl
theorem az {a d c:Nat} (hd:d≠0):cdiv a d≤c↔a≤d*c:=by
 unfold cdiv
 rw[Nat.div_le_iff_le_mul_add_pred (τ hd)]
 omega
def arcV (w s t:Nat):Bool→Nat→Nat
 |false,0=>(2^w*81 - t*79) / (79*81)
 |true,0=>cdiv (2^w) 79
 |false,j+1=>(2^w*2^w - t*arcV w s t true j*(77 - 2*j)) / ((77 - 2*j)*2^w)
 |true,j+1=>cdiv (2^w*2^w - s*arcV w s t false j*(77 - 2*j)) ((77 - 2*j)*2^w)
theorem EQ (w s t:Nat):arcV w s t false 0=(2^w*81 - t*79) / (79*81):=rfl
theorem vR (w s t:Nat):arcV w s t true 0=cdiv (2^w) 79:=rfl
theorem Az (w s t j:Nat):arcV w s t false (j+1)=(2^w*2^w - t*arcV w s t true j*(77 - 2*j)) / ((77 - 2*j)*2^w):=rfl
theorem vT (w s t j:Nat):arcV w s t true (j+1)=cdiv (2^w*2^w - s*arcV w s t false j*(77 - 2*j)) ((77 - 2*j)*2^w):=rfl
def sqL (a w:Nat):Nat:=a*a / 2^w
def sqH (b w:Nat):Nat:=cdiv (b*b) (2^w)
def arcL (a b w:Nat):Nat:=a*arcV w (sqL a w) (sqH b w) false 39 / 2^w
def arcH (a b w:Nat):Nat:=cdiv (b*arcV w (sqL a w) (sqH b w) true 39) (2^w)
theorem mj {a w:Nat} (h:a≤2^w):sqL a w≤2^w:=by
 unfold sqL
 exact Nat.div_le_of_le_mul (qAk h h)
theorem jV {a w:Nat} (h:a≤2^w):sqH a w≤2^w:=by
 unfold sqH
 exact(az (am w)).2 (qAk h h)
theorem vG {a k b:Nat} (hb:b≠0):a*b / (k*b)=a / k:=Nat.mul_div_mul_right _ _ (τ hb)
theorem Ay {w s t:Nat}:∀{j:Nat},j≤39→arcV w s t true j≤2^w / (79 - 2*j)+1∧arcV w s t false j≤2^w / (79 - 2*j)
 | 0,_=>by
  refine⟨AG (by decide),?_⟩
  show(2^w*81 - t*79) / (79*81)≤2^w / 79
  rw[←vG (a:=2^w) (k:=79) (b:=81) (by decide)]
  exact Nat.div_le_div_right (Nat.sub_le _ _)
 | j +1,h=>by
  have e:79 - 2*(j+1)=77 - 2*j:=by omega
  have hk:(77 - 2*j)*2^w≠0:=qBe (by omega) (am w)
  have em:2^w*2^w / ((77 - 2*j)*2^w)=2^w / (77 - 2*j):=vG (am w)
  rw[e]
  constructor
  ·refine χ (AG hk) ?_
   rw[←em]
   exact Nat.add_le_add_right (Nat.div_le_div_right (Nat.sub_le _ _)) 1
  ·rw[←em]
   exact Nat.div_le_div_right (Nat.sub_le _ _)
theorem Gx {u m k t v:Nat} (hu:2^20≤u) (hm:m≤112) (hm0:0 < m) (hk:k+2≤m) (ht:t≤u) (hv:v≤u / m+1):t*v*k≤u*u:=by
 have hq:112≤u / m:=by
  rw[Nat.le_div_iff_mul_le hm0]
  have:112*m≤112*112:=ω _ hm
  omega
 have hd:=Nat.mul_div_le u m
 generalize u / m=q at*
 have h1:k*(q+1)≤u:=by
  have e1:k*(q+1)+2*(q+1)≤m*(q+1):=by rw[←Nat.add_mul];exact ψ _ hk
  rw[qAm m] at e1
  omega
 have h2:v*k≤u:=χ (ψ k hv) (by rw[ρ];exact h1)
 rw[σ]
 exact qAk ht h2
theorem sR {w s t j:Nat} (hw:20≤w) (hs:s≤2^w) (ht:t≤2^w) (hj:j < 39):t*arcV w s t true j*(77 - 2*j)≤2^w*2^w∧s*arcV w s t false j*(77 - 2*j)≤2^w*2^w:=by
 have hu:2^20≤2^w:=qAv (by decide) hw
 obtain⟨h1,h2⟩:=Ay (w:=w) (s:=s) (t:=t) (j:=j) (by omega)
 exact⟨Gx (m:=79 - 2*j) hu (by omega) (by omega) (by omega) ht h1,Gx (m:=79 - 2*j) hu (by omega) (by omega) (by omega) hs (by omega)⟩
theorem mT {w s t j:Nat} {c:Bool} (hj:j≤39):arcV w s t c j≤2^w+1:=by
 obtain⟨h1,h2⟩:=Ay (w:=w) (s:=s) (t:=t) hj
 have:=Nat.div_le_self (2^w) (79 - 2*j)
 cases c<;>omega
theorem bh {n w:Nat} (h:n≤2^w+1):bl n≤w+2:=by
 refine bl_le.2 ?_
 have:2^(w+2)=4*2^w:=by rw[qAs];omega
 have:=qAo (n:=w) (show 0 < 2 by decide)
 omega
theorem GB {w s t j:Nat} {c:Bool} (hj:j≤39):bl (arcV w s t c j)≤w+2:=bh (mT hj)
theorem bl_sq {a w:Nat} (h:a≤2^w):bl (sqL a w)≤w+2∧bl (sqH a w)≤w+2:=⟨bh (by have:=mj h;omega),bh (by have:=jV h;omega)⟩
theorem Gt {a b w:Nat} (ha:a≤2^w):arcL a b w≤2^w+1:=by
 unfold arcL
 exact Nat.div_le_of_le_mul (qAk ha (mT (by decide)))
theorem Gs {a b w:Nat} (hb:b≤2^w):arcH a b w≤2^w+1:=by
 unfold arcH
 exact(az (am w)).2 (qAk hb (mT (by decide)))
def fifL (n w:Nat):Nat:=arcL (2^w / n) (cdiv (2^w) n) w
def fifH (n w:Nat):Nat:=arcH (2^w / n) (cdiv (2^w) n) w
def piL (w:Nat):Nat:=fifL 5 w*2^4 - fifH 239 w*2^2
def piH (w:Nat):Nat:=fifH 5 w*2^4 - fifL 239 w*2^2
theorem pV (n:Nat) {w:Nat} (hn:n≠0):2^w / n≤2^w∧cdiv (2^w) n≤2^w:=⟨Nat.div_le_self _ _,(az hn).2 (by have:=ψ (2^w) (τ hn);omega)⟩
theorem uy {n w:Nat} (hn:n≠0):bl (fifL n w)≤w+2∧bl (fifH n w)≤w+2:=⟨bh (Gt (pV n hn).1),bh (Gs (pV n hn).2)⟩
def piOk (w:Nat):Bool:=Nat.ble (fifH 239 w*2^2+3*2^w) (fifL 5 w*2^4) && Nat.ble (fifL 239 w*2^2+3*2^w) (fifH 5 w*2^4) && Nat.ble (piH w) (4*2^w) && Nat.ble (piL w+1) (piH w)
theorem piOk_all:((List.range 161).all fun i=>piOk (i+32))=true:=by decide+kernel
theorem FG {w:Nat} (h1:32≤w) (h2:w≤192):fifH 239 w*2^2+3*2^w≤fifL 5 w*2^4∧fifL 239 w*2^2+3*2^w≤fifH 5 w*2^4∧piH w≤4*2^w∧piL w < piH w:=by
 have h:=qBd.1 piOk_all (w - 32) (List.mem_range.2 (by omega))
 rw[show w - 32+32=w by omega] at h
 unfold piOk at h
 simp only[φ,Nat.ble_eq] at h
 omega
theorem bl_pi {w:Nat}:bl (piL w)≤w+6∧bl (piH w)≤w+6:=by
 obtain⟨h1,_⟩:=uy (n:=5) (w:=w) (by decide)
 obtain⟨_,h2⟩:=uy (n:=5) (w:=w) (by decide)
 have h3:=cu (fifL 5 w) 4
 have h4:=cu (fifH 5 w) 4
 have h5:bl (piL w)≤bl (fifL 5 w*2^4):=aR (Nat.sub_le _ _)
 have h6:bl (piH w)≤bl (fifH 5 w*2^4):=aR (Nat.sub_le _ _)
 omega

def Be (h:PH) (r:Value) (x y:Rat):Prop:=∃b1 a1 m1 c1 a2 m2 c2 b2 a3 m3 c3 a4 m4 c4,r=.tuple #[.agg #[.bool b1,.slice a1 m1 c1,.slice a2 m2 c2,.bool b2,.slice a3 m3 c3,.slice a4 m4 c4],.int .i64 0]∧Cn h (.agg #[.bool b1,.slice a1 m1 c1,.slice a2 m2 c2]) x∧Cn h (.agg #[.bool b2,.slice a3 m3 c3,.slice a4 m4 c4]) y
theorem bl_cd {a k n:Nat} (h:bl a≤k) (hn:1≤n):bl (cdiv a (2^n))≤k+1:=χ (fy a (am n)) (by omega)
theorem at1 {h:PH} {b:Nat} {v:Value} (hb:h b=some #[v]):h.at ⟨b,0,none⟩=some v:=by simp[PH.at,hb]
theorem nU (w:Nat):2^(2*w)=2^w*2^w:=by rw[Nat.two_mul,qAs]
theorem sF {h0 h:PH} [Le h0 h] {v:Value} {a b w:Nat} (hv:Pr h0 v a b) (la:a≤2^w) (lb:b≤2^w) (hw:20≤w) (hw':w≤1000):Spec mach 225 #[v,.int .i64 w] h (fun v h'=>Pr h' v (arcL a b w) (arcH a b w)) NP:=by
 have hv0:=hv
 obtain⟨x,m,c,y,n,d,rfl,k1,k2⟩:=hv
 have ba:bl a≤w+2:=bh (by omega)
 have bb:bl b≤w+2:=bh (by omega)
 obtain⟨bs,bt⟩:=bl_sq (a:=a) la
 obtain⟨bs',bt'⟩:=bl_sq (a:=b) lb
 have hs:=mj la
 have ht:=jV lb
 have u1:=bC w
 have u2:=bC (2*w)
 have u3:=aG (2^w) 81
 have u4:=aG (sqH b w) 79
 have u5:bl (2^w*81 - sqH b w*79)≤bl (2^w*81):=aR (Nat.sub_le _ _)
 have u6:bl 81=7:=by decide
 have u7:bl 79=7:=by decide
 have u8:bl 6399=13:=by decide
 have bA:∀{j c},j≤39→bl (arcV w (sqL a w) (sqH b w) c j)≤w+2:=fun hj=>GB hj
 have sA:∀{j},j < 39→_:=fun {j} hj=>sR (j:=j) hw hs ht hj
 have h79:sqH b w*79≤2^w*81:=by omega
 clear hs la lb
 have F:=Hid.mk (And.intro ba (And.intro bb (And.intro bs (And.intro bt (And.intro bs' (And.intro bt' (And.intro ht (And.intro u1 (And.intro u2 (And.intro u3 (And.intro u4 (And.intro u5 (And.intro u6 (And.intro u7 (And.intro u8 h79)))))))))))))));clear ba bb bs bt bs' bt' ht u1 u2 u3 u4 u5 u6 u7 u8 h79
 refine Spec.go [(3,.o [0,4,5,6,1,2,3,7,8,9]),(9,.o [0,1,3,4,5,7,2,6,8,9,10]),(10,.o [0,1,3,4,5,7,2,6,8,9,10]),(12,.o [0,1,2,4,6,7,8,10,3,5,9,11,12,13])] Tryz.func225 rfl rfl (by kernel_rfl) fun C _=>?_
 try simp(disch:=omega) only[go_sem,ξ,ζ]
 refine caN (by exact o8 hv0 (by have:=F.1;omega) (by have:=F.1;omega) (by have:=F.1;omega)) ?_;rintro v1 h1 s1 ⟨x1,m1,c1,y1,n1,d1,rfl,q1,q2⟩;have q1:N32 h1 (.slice x1 m1 c1) (sqL a w):=q1;have q2:N32 h1 (.slice y1 n1 d1) (sqH b w):=q2
 try simp(disch:=omega) only[go_sem,ξ,ζ]
 refine caN (by exact aw (n:=79) (by decide)) ?_;rintro _ h2 _ q3;obtain⟨v2,_,_,rfl,q3⟩:=q3.sl
 try simp(disch:=omega) only[go_sem,ξ,ζ]
 refine caN (by exact bu (w:=w) (by have:=F.1;omega)) ?_;rintro _ h3 _ q4;obtain⟨v3,_,_,rfl,q4⟩:=q4.sl
 try simp(disch:=omega) only[go_sem,ξ,ζ]
 refine caN (by exact aw (n:=81) (by decide)) ?_;rintro _ h4 _ q5;obtain⟨v4,_,_,rfl,q5⟩:=q5.sl
 try simp(disch:=omega) only[go_sem,ξ,ζ]
 refine caN (by exact aI (q4.to (h':=h4)) q5 (by have:=F.1;omega) (by have:=F.1;omega)) ?_;rintro _ h5 _ q6;obtain⟨v5,_,_,rfl,q6⟩:=q6.sl
 try simp(disch:=omega) only[go_sem,ξ,ζ]
 refine caN (by exact aI (q2.to (h':=h5)) (q3.to (h':=h5)) (show bl (sqH b w)≤2^40 by have:=F.1;omega) (by have:=F.1;omega)) ?_;rintro _ h6 _ q7;obtain⟨v6,_,_,rfl,q7⟩:=q7.sl
 try simp(disch:=omega) only[go_sem,ξ,ζ]
 refine caN (by exact gE (q6.to (h':=h6)) q7 (show sqH b w*79≤2^w*81 by have:=F.1;omega) (by have:=F.1;omega)) ?_;rintro _ h7 _ q8;obtain⟨v7,_,_,rfl,q8⟩:=q8.sl
 try simp(disch:=omega) only[go_sem,ξ,ζ]
 refine caN (by exact aw (n:=6399) (by decide)) ?_;rintro _ h8 _ q9;obtain⟨_,_,_,rfl,q9⟩:=q9.sl
 try simp(disch:=omega) only[go_sem,ξ,ζ]
 refine caN (by exact bD (c:=false) (q8.to (h':=h8)) q9 (by decide) (show bl (2^w*81 - sqH b w*79)≤2^36 by have:=F.1;omega) (by have:=F.1;omega)) ?_;rintro _ h9 _ q10;obtain⟨v9,v9_l,v9_c,rfl,q10⟩:=q10.sl
 try simp(disch:=omega) only[go_sem,ξ,ζ]
 refine caN (by exact bu (w:=w) (by have:=F.1;omega)) ?_;rintro _ h10 _ q11;obtain⟨v10,_,_,rfl,q11⟩:=q11.sl
 try simp(disch:=omega) only[go_sem,ξ,ζ]
 refine caN (by exact bD (c:=true) q11 (q3.to (h':=h10)) (by decide) (by have:=F.1;omega) (by have:=F.1;omega)) ?_;rintro _ h11 _ q12;obtain⟨v11,v11_l,v11_c,rfl,q12⟩:=q12.sl
 try simp(disch:=omega) only[go_sem,ξ,ζ]
 refine lp [(3,.o [0,4,5,6,1,2,3,7,8,9]),(9,.o [0,1,3,4,5,7,2,6,8,9,10]),(10,.o [0,1,3,4,5,7,2,6,8,9,10]),(12,.o [0,1,2,4,6,7,8,10,3,5,9,11,12,13])] (fun x':Value×Value×Nat=>⟨[(1,.v (.int .i64 w)),(2,.p 0 0),(4,.p 1 0),(5,.p 2 0),(8,.v x'.1),(9,.v x'.2.1),(10,.v (.int .i64 ((x'.2.2:Int) - 1)))],[[.slice x m c,.slice y n d],[.slice none 0 0,.slice none 0 0],[.slice x1 m1 c1,.slice y1 n1 d1]]⟩) (fun x' h'=>Le h1 h'∧x'.2.2≤39∧N32 h' x'.1 (arcV w (sqL a w) (sqH b w) false (39 - x'.2.2))∧N32 h' x'.2.1 (arcV w (sqL a w) (sqH b w) true (39 - x'.2.2))) (fun x'=>x'.2.2) (.slice v9 v9_l v9_c,.slice v11 v11_l v11_c,39) ?_ ⟨inferInstance,η _,by show N32 _ _ (arcV _ _ _ _ (39 - 39));rw[Nat.sub_self,EQ];exact q10.to,by show N32 _ _ (arcV _ _ _ _ (39 - 39));rw[Nat.sub_self,vR];exact q12⟩ (by kernel_rfl) ?_
 ·try simp(disch:=omega) only[go_sem,ξ,ζ]
  all_goals rfl
 rintro⟨va,vb,i⟩ g0 ⟨le0,hi,hl,hh⟩
 dsimp only at hi hl hh ⊢
 cases i with
 | zero=>
  rw[Nat.sub_zero] at hl hh
  have b1:=bA (j:=39) (c:=false) (η _)
  have b2:=bA (j:=39) (c:=true) (η _)
  have b3:=aG a (arcV w (sqL a w) (sqH b w) false 39)
  have b4:=aG b (arcV w (sqL a w) (sqH b w) true 39)
  have le1:Le h0 g0:=Le.trn inferInstance le0
  obtain⟨_,_,_,rfl,hl⟩:=hl.sl
  obtain⟨_,_,_,rfl,hh⟩:=hh.sl
  have F:=Hid.mk (And.intro F.1 (And.intro b1 (And.intro b2 (And.intro b3 b4))));clear b1 b2 b3 b4
  try simp(disch:=omega) only[go_sem,ξ,ζ]
  refine caN (by exact aI (k1.to (h':=g0)) hl (by have:=F.1;omega) (show bl (arcV w (sqL a w) (sqH b w) false 39)≤2^40 by have:=F.1;omega)) ?_;rintro _ g1 _ r1;obtain⟨w1,_,_,rfl,r1⟩:=r1.sl
  try simp(disch:=omega) only[go_sem,ξ,ζ]
  refine caN (by exact gD (n:=w) r1 (show bl (a*arcV w (sqL a w) (sqH b w) false 39)≤2^40 by have:=F.1;omega) (by have:=F.1;omega)) ?_;rintro _ g2 _ r2;obtain⟨w2,_,_,rfl,r2⟩:=r2.sl
  try simp(disch:=omega) only[go_sem,ξ,ζ]
  refine caN (by exact aI (k2.to (h':=g2)) (hh.to (h':=g2)) (by have:=F.1;omega) (show bl (arcV w (sqL a w) (sqH b w) true 39)≤2^40 by have:=F.1;omega)) ?_;rintro _ g3 _ r3;obtain⟨w3,_,_,rfl,r3⟩:=r3.sl
  try simp(disch:=omega) only[go_sem,ξ,ζ]
  refine caN (by exact kJ (n:=w) r3 (show bl (b*arcV w (sqL a w) (sqH b w) true 39)≤2^39 by have:=F.1;omega) (by have:=F.1;omega)) ?_;rintro _ g4 _ r4;obtain⟨w4,_,_,rfl,r4⟩:=r4.sl
  try simp(disch:=omega) only[go_sem,ξ,ζ]
  exact⟨_,_,_,_,_,_,rfl,r2.to,r4⟩
 | succ i=>
  obtain⟨j,hj,ej⟩:∃j,j < 39∧39 - (i+1)=j:=⟨_,by have:=F.1;omega,rfl⟩
  have en:39 - i=j+1:=by have:=F.1;omega
  have eo:77 - 2*j=2*i+1:=by have:=F.1;omega
  rw[ej] at hl hh
  obtain⟨s1',s2'⟩:=sA hj
  rw[eo] at s1' s2'
  have b1:=bA (j:=j) (c:=false) (by have:=F.1;omega)
  have b2:=bA (j:=j) (c:=true) (by have:=F.1;omega)
  have b3:bl (2*i+1)≤7:=bl_le.2 (by have:=F.1;omega)
  have b4:=aG (sqH b w) (arcV w (sqL a w) (sqH b w) true j)
  have b5:=aG (sqL a w) (arcV w (sqL a w) (sqH b w) false j)
  have b6:=aG (sqH b w*arcV w (sqL a w) (sqH b w) true j) (2*i+1)
  have b7:=aG (sqL a w*arcV w (sqL a w) (sqH b w) false j) (2*i+1)
  have b8:bl (2^(2*w) - sqH b w*arcV w (sqL a w) (sqH b w) true j*(2*i+1))≤_:=aR (Nat.sub_le _ _)
  have b9:bl (2^(2*w) - sqL a w*arcV w (sqL a w) (sqH b w) false j*(2*i+1))≤_:=aR (Nat.sub_le _ _)
  have b10:=cu (2*i+1) w
  have n0:Hid ((2*i+1)*2^w≠0):=⟨qBe (by have:=F.1;omega) (am w)⟩
  have s1':=Hid.mk s1'
  have s2':=Hid.mk s2'
  have eo:=Hid.mk eo
  have en:=Hid.mk en
  clear ej hj
  have F:=Hid.mk (And.intro F.1 (And.intro b1 (And.intro b2 (And.intro b3 (And.intro b4 (And.intro b5 (And.intro b6 (And.intro b7 (And.intro b8 (And.intro b9 b10))))))))));clear b1 b2 b3 b4 b5 b6 b7 b8 b9 b10
  try simp(disch:=omega) only[go_sem,ξ,ζ]
  refine caN (by exact aw (n:=2*i+1) (by have:=F.1;omega)) ?_;rintro _ g1 _ r1;obtain⟨w1,_,_,rfl,r1⟩:=r1.sl
  try simp(disch:=omega) only[go_sem,ξ,ζ]
  refine caN (by exact bu (w:=2*w) (by have:=F.1;omega)) ?_;rintro _ g2 _ r2;obtain⟨w2,_,_,rfl,r2⟩:=r2.sl
  try simp(disch:=omega) only[go_sem,ξ,ζ]
  refine caN (by exact aI (q2.to (h':=g2)) (hh.to (h':=g2)) (show bl (sqH b w)≤2^40 by have:=F.1;omega) (by have:=F.1;omega)) ?_;rintro _ g3 _ r3;obtain⟨w3,_,_,rfl,r3⟩:=r3.sl
  try simp(disch:=omega) only[go_sem,ξ,ζ]
  refine caN (by exact aI r3 (r1.to (h':=g3)) (show bl (sqH b w*arcV w (sqL a w) (sqH b w) true j)≤2^40 by have:=F.1;omega) (by have:=F.1;omega)) ?_;rintro _ g4 _ r4;obtain⟨w4,_,_,rfl,r4⟩:=r4.sl
  try simp(disch:=omega) only[go_sem,ξ,ζ]
  refine caN (by exact gE (r2.to (h':=g4)) r4 (by rw[nU];exact s1'.out) (by have:=F.1;omega)) ?_;rintro _ g5 _ r5;obtain⟨w5,_,_,rfl,r5⟩:=r5.sl
  try simp(disch:=omega) only[go_sem,ξ,ζ]
  refine caN (by exact bu (w:=2*w) (by have:=F.1;omega)) ?_;rintro _ g6 _ r6;obtain⟨w6,_,_,rfl,r6⟩:=r6.sl
  try simp(disch:=omega) only[go_sem,ξ,ζ]
  refine caN (by exact aI (q1.to (h':=g6)) (hl.to (h':=g6)) (show bl (sqL a w)≤2^40 by have:=F.1;omega) (by have:=F.1;omega)) ?_;rintro _ g7 _ r7;obtain⟨w7,_,_,rfl,r7⟩:=r7.sl
  try simp(disch:=omega) only[go_sem,ξ,ζ]
  refine caN (by exact aI r7 (r1.to (h':=g7)) (show bl (sqL a w*arcV w (sqL a w) (sqH b w) false j)≤2^40 by have:=F.1;omega) (by have:=F.1;omega)) ?_;rintro _ g8 _ r8;obtain⟨w8,_,_,rfl,r8⟩:=r8.sl
  try simp(disch:=omega) only[go_sem,ξ,ζ]
  refine caN (by exact gE (r6.to (h':=g8)) r8 (by rw[nU];exact s2'.out) (by have:=F.1;omega)) ?_;rintro _ g9 _ r9;obtain⟨w9,_,_,rfl,r9⟩:=r9.sl
  try simp(disch:=omega) only[go_sem,ξ,ζ]
  refine caN (by exact aL (n:=w) (r1.to (h':=g9)) (by have:=F.1;omega)) ?_;rintro _ g10 _ r10;obtain⟨w10,_,_,rfl,r10⟩:=r10.sl
  try simp(disch:=omega) only[go_sem,ξ,ζ]
  refine caN (by exact bD (c:=false) (r5.to (h':=g10)) r10 n0.out (show bl (2^(2*w) - sqH b w*arcV w (sqL a w) (sqH b w) true j*(2*i+1))≤2^36 by have:=F.1;omega) (by have:=F.1;omega)) ?_;rintro _ g11 _ r11;obtain⟨w11,w11_l,w11_c,rfl,r11⟩:=r11.sl
  try simp(disch:=omega) only[go_sem,ξ,ζ]
  refine caN (by exact aL (n:=w) (r1.to (h':=g11)) (by have:=F.1;omega)) ?_;rintro _ g12 _ r12;obtain⟨w12,_,_,rfl,r12⟩:=r12.sl
  try simp(disch:=omega) only[go_sem,ξ,ζ]
  refine caN (by exact bD (c:=true) (r9.to (h':=g12)) r12 n0.out (show bl (2^(2*w) - sqL a w*arcV w (sqL a w) (sqH b w) false j*(2*i+1))≤2^36 by have:=F.1;omega) (by have:=F.1;omega)) ?_;rintro _ g13 _ r13;obtain⟨w13,w13_l,w13_c,rfl,r13⟩:=r13.sl
  try simp(disch:=omega) only[go_sem,ξ,ζ]
  dsimp only[lpE];refine⟨(.slice w11 w11_l w11_c,.slice w13 w13_l w13_c,i),?_,⟨Le.trn le0 inferInstance,(show i≤39 by have:=F.1;omega),?_,?_⟩,(show i < i+1 by have:=F.1;omega)⟩
  ·try simp(disch:=omega) only[go_sem,ξ,ζ]
   all_goals rfl
  ·show N32 _ _ (arcV _ _ _ false (39 - i))
   rw[en.out,Az,eo.out,←nU]
   exact r11.to
  ·show N32 _ _ (arcV _ _ _ true (39 - i))
   rw[en.out,vT,eo.out,←nU]
   exact r13
theorem CF {h:PH} {n w b:Nat} (hb:h b=some #[.int .i64 w]) (hn:n≠0) (hn':n < 2^60) (hw:20≤w) (hw':w≤1000):Spec mach 224 #[.int .u64 n,.pointer (some ⟨b,0,none⟩)] h (fun v h'=>Pr h' v (fifL n w) (fifH n w)) NP:=by
 obtain⟨l1,l2⟩:=pV n (w:=w) hn
 have u1:=bC w
 have u2:bl n≤60:=bl_le.2 hn'
 have l1:=Hid.mk l1
 have l2:=Hid.mk l2
 have hn:=Hid.mk hn
 have F:=Hid.mk (And.intro u1 u2);clear u1 u2
 refine Spec.go [(1,.o [0,2,5,7,11,1,3,4,6,8,9,10,12,13])] Tryz.func224 rfl rfl (by kernel_rfl) fun C _=>?_
 try simp(disch:=omega) only[go_sem,ξ,ζ]
 refine aE (at1 hb) ?_
 try simp(disch:=omega) only[go_sem,ξ,ζ]
 refine aE (at1 hb) ?_
 try simp(disch:=omega) only[go_sem,ξ,ζ]
 refine aE (at1 hb) ?_
 try simp(disch:=omega) only[go_sem,ξ,ζ]
 refine caN (by exact bu (w:=w) (by have:=F.1;omega)) ?_;rintro _ h1 _ q1;obtain⟨v1,_,_,rfl,q1⟩:=q1.sl
 try simp(disch:=omega) only[go_sem,ξ,ζ]
 refine caN (by exact aw (n:=n) (by have:=F.1;omega)) ?_;rintro _ h2 _ q2;obtain⟨v2,_,_,rfl,q2⟩:=q2.sl
 try simp(disch:=omega) only[go_sem,ξ,ζ]
 refine caN (by exact bD (c:=false) (q1.to (h':=h2)) q2 hn.out (by have:=F.1;omega) (by have:=F.1;omega)) ?_;rintro _ h3 _ q3;obtain⟨v3,_,_,rfl,q3⟩:=q3.sl
 try simp(disch:=omega) only[go_sem,ξ,ζ]
 refine caN (by exact bu (w:=w) (by have:=F.1;omega)) ?_;rintro _ h4 _ q4;obtain⟨v4,_,_,rfl,q4⟩:=q4.sl
 try simp(disch:=omega) only[go_sem,ξ,ζ]
 refine caN (by exact aw (n:=n) (by have:=F.1;omega)) ?_;rintro _ h5 _ q5;obtain⟨v5,_,_,rfl,q5⟩:=q5.sl
 try simp(disch:=omega) only[go_sem,ξ,ζ]
 refine caN (by exact bD (c:=true) (q4.to (h':=h5)) q5 hn.out (by have:=F.1;omega) (by have:=F.1;omega)) ?_;rintro _ h6 _ q6;obtain⟨v6,_,_,rfl,q6⟩:=q6.sl
 try simp(disch:=omega) only[go_sem,ξ,ζ]
 refine caN (by exact sF (a:=2^w / n) (b:=cdiv (2^w) n) (w:=w) ⟨_,_,_,_,_,_,rfl,q3.to (h':=h6),q6⟩ l1.out l2.out hw hw') ?_;rintro v7 h7 s7 ⟨_,_,_,_,_,_,rfl,r1,r2⟩
 try simp(disch:=omega) only[go_sem,ξ,ζ]
 exact⟨_,_,_,_,_,_,rfl,r1,r2⟩
theorem kt {h:PH} {w:Nat} (hw:32≤w) (hw':w≤192):Spec mach 160 #[.int .i64 w] h (fun v h'=>Pr h' v (piL w) (piH w)) NP:=by
 obtain⟨z1,z2,_,_⟩:=FG hw hw'
 obtain⟨b1,b2⟩:=uy (n:=5) (w:=w) (by decide)
 obtain⟨b3,b4⟩:=uy (n:=239) (w:=w) (by decide)
 have b5:=cu (fifL 5 w) 4
 have b6:=cu (fifH 5 w) 4
 have F:=Hid.mk (And.intro z1 (And.intro z2 (And.intro b1 (And.intro b2 (And.intro b3 (And.intro b4 (And.intro b5 b6)))))));clear z1 z2 b1 b2 b3 b4 b5 b6
 refine Spec.go [(3,.o [0,1,2,3,5,6,7,8,4,9,10,11]),(1,.t (.p 0 (.s [0,1] .d)))] Tryz.func160 rfl rfl (by kernel_rfl) fun C _=>?_
 try simp(disch:=omega) only[go_sem,ξ,ζ]
 intro b h1 st1 hb
 try simp(disch:=omega) only[go_sem,ξ,ζ]
 have hb:=hb (by simp)
 try simp(disch:=omega) only[go_sem,ξ,ζ]
 refine caN (by exact CF (n:=5) (w:=w) hb (by decide) (by decide) (by have:=F.1;omega) (by have:=F.1;omega)) ?_;rintro v2 h2 st2 ⟨_,_,_,_,_,_,rfl,q1,q2⟩
 try simp(disch:=omega) only[go_sem,ξ,ζ]
 refine caN (by exact jh (n:=4) ⟨_,_,_,_,_,_,rfl,q1,q2⟩ (by have:=F.1;omega) (by have:=F.1;omega) (by decide)) ?_;rintro v3 h3 st3 ⟨_,_,_,_,_,_,rfl,q3,q4⟩
 try simp(disch:=omega) only[go_sem,ξ,ζ]
 refine caN (by exact CF (n:=239) (w:=w) (st3.sub _ _ (st2.sub _ _ hb)) (by decide) (by decide) (by have:=F.1;omega) (by have:=F.1;omega)) ?_;rintro v4 h4 st4 ⟨_,_,_,_,_,_,rfl,q5,q6⟩
 try simp(disch:=omega) only[go_sem,ξ,ζ]
 refine caN (by exact jh (n:=2) ⟨_,_,_,_,_,_,rfl,q5,q6⟩ (by have:=F.1;omega) (by have:=F.1;omega) (by decide)) ?_;rintro v5 h5 st5 ⟨_,_,_,_,_,_,rfl,q7,q8⟩
 try simp(disch:=omega) only[go_sem,ξ,ζ]
 refine caN (by exact gE (q3.to (h':=h5)) q8 (by have:=F.1;omega) (by have:=F.1;omega)) ?_;rintro _ h6 _ q9;obtain⟨v6,_,_,rfl,q9⟩:=q9.sl
 try simp(disch:=omega) only[go_sem,ξ,ζ]
 refine caN (by exact gE (q4.to (h':=h6)) (q7.to (h':=h6)) (by have:=F.1;omega) (by have:=F.1;omega)) ?_;rintro _ h7 _ q10;obtain⟨v7,_,_,rfl,q10⟩:=q10.sl
 try simp(disch:=omega) only[go_sem,ξ,ζ]
 exact⟨_,_,_,_,_,_,rfl,q9.to,q10⟩
def piLo (p:Nat):Rat:=sgn false (piL (p+32) / 2^32) (2^p)
def piHi (p:Nat):Rat:=sgn false (cdiv (piH (p+32)) (2^32)) (2^p)
theorem FPi_ok {h:PH} {p:Nat} (hp:p≤128):Spec mach 97 #[.int .i64 p] h (fun r h'=>Be h' r (piLo p) (piHi p)) NP:=by
 obtain⟨b1,b2⟩:=bl_pi (w:=p+32)
 have b3:=aZ (piL (p+32)) (2^(p+32 - p))
 have b4:=bl_cd (n:=p+32 - p) b2 (by omega)
 have e1:p+32 - p=32:=by omega
 have e1:=Hid.mk e1
 have F:=Hid.mk (And.intro b1 (And.intro b2 (And.intro b3 b4)));clear b1 b2 b3 b4
 refine Spec.go [] Tryz.func97 rfl rfl (by kernel_rfl) fun C _=>?_
 try simp(disch:=omega) only[go_sem,ξ,ζ]
 refine caN (by exact kt (w:=p+32) (by have:=F.1;omega) (by have:=F.1;omega)) ?_;rintro v1 h1 s1 ⟨_,_,_,_,_,_,rfl,q1,q2⟩
 try simp(disch:=omega) only[go_sem,ξ,ζ]
 refine caN (by exact fw (a:=piL (p+32)) (b:=piH (p+32)) (w:=p+32) (p:=p) (neg:=false) ⟨_,_,_,_,_,_,rfl,q1,q2⟩ (by have:=F.1;omega) (by have:=F.1;omega) (by have:=F.1;omega) (by have:=F.1;omega) (by have:=F.1;omega) (by have:=F.1;omega) (by have:=F.1;omega)) ?_;rintro v2 h2 s2 ⟨_,_,_,_,_,_,_,_,_,_,_,_,_,_,rfl,r1,r2⟩
 try simp(disch:=omega) only[go_sem,ξ,ζ]
 rw[e1.out] at r1 r2
 exact⟨_,_,_,_,_,_,_,_,_,_,_,_,_,_,rfl,r1,r2⟩
open Go.RowKit (Below)
section
variable {M:Mach} {C:Ctx} {n:Nat} {S:AS} {h:PH} {β:Nat→Nat} {a:Act} {w:World} {Q:Exit→AS→PH→Prop} {E:List PanicEntry→PH→Prop}
def mkN (P:Program) (T:TypeId) (sz:Nat):Bool:=match P.underlying T with
 | some (.slice e)=>match P.info? e with
  | some i=>match i.zero with
   |some v=>i.size == sz && v.cells.size == sz && decide (1≤sz) && decide (1≤i.bytes) && decide (i.bytes≤2^20)
   |none=>false
  |none=>false
 |_=>false
theorem mkN_some {P:Program} {T:TypeId} {sz:Nat} (h:mkN P T sz=true):∃e i v,P.underlying T=some (.slice e)∧P.info? e=some i∧i.zero=some v∧i.size=sz∧v.cells.size=sz∧1≤sz∧1≤i.bytes∧i.bytes≤2^20:=by
 unfold mkN at h
 split at h
 ·rename_i e he
  split at h
  ·rename_i i hi
   split at h
   ·rename_i v hv
    simp only[φ,beq_iff_eq,decide_eq_true_eq] at h
    exact⟨e,i,v,he,hi,hv,h.1.1.1.1,h.1.1.1.2,h.1.1.2,h.1.2,h.2⟩
   ·cases h
  ·cases h
 ·cases h
def appN (sz:Nat) (S:AS) (h:PH) (x y:AV) (k:AS→PH→AV→Prop):Prop:=match y with
 | .s j off m _=>off+m*sz≤(S.box j).length∧1≤m∧(((S.box j).drop off).take (m*sz)).all Value.oneCell'=true∧match x with
  |.v (.slice none 0 0)=>m≤2^26∧∀(cap:Nat) (junk:List Value),m≤cap→m*sz+junk.length=cap*sz→k (S.push (((S.box j).drop off).take (m*sz) ++junk)) h (.s S.bx.length 0 m cap)
  |.s i off' len cap=>off'=0∧len≤cap∧1≤cap∧cap*sz=(S.box i).length∧len+m≤2^26∧∀(cap':Nat) (junk:List Value),len+m≤cap'→(len+m)*sz+junk.length=cap'*sz→
    k ((S.setBox i []).push ((S.box i).take (len*sz) ++((S.box j).drop off).take (m*sz) ++junk)) h (.s S.bx.length 0 (len+m) cap')
  |_=>False
 |_=>False
theorem im_appN (g:G M C n S h β a w) {o:Oper} (hd:∀d,o.dst=some d→d < n) {x y:Operand} {T U:TypeId} {sz:Nat} (ho:o.op=.call {callee:=.builtin .append,args:=#[x,y],argTypes:=#[T,U]})
  (hU:uk M.P U=.slice) (hz:mkN M.P T sz=true) {k:AS→PH→AV→Prop} (hk:appN sz S h (S.ev x) (S.ev y) k):ImOk M C n a w o E k:=by
 obtain⟨e,i,z,hE,hi,hzero,hs,hzc,h1,hb1,hb2⟩:=mkN_some hz
 obtain⟨e',hE'⟩:=oA hU
 unfold appN at hk
 split at hk
 case h_2=>exact hk.elim
 rename_i j off m mc hy
 obtain⟨hoff,hm1,hall,hk⟩:=hk
 have hj:j < S.bx.length:=g.wf_ev (by rw[hy];rfl)
 have hyv:=g.ev_s hy
 generalize hN:((S.box j).drop off).take (m*sz)=news at hall hk
 have hl:news.length=m*sz:=by subst hN;simp;omega
 have hsrc:∀w',G M C n S h β a w'→(Builtin.firstCells sz m (.slice (some ⟨β j,off,none⟩) m mc)).run M.P w'=.ok news.toArray w':=fun w' g'=>by
  simp only[Builtin.firstCells]
  have:=run_loadCells_list (P:=M.P) (w:=w') ⟨β j,off,none⟩ news (fun q v hq=>by
   rw[gF]
   refine g'.box_get hj ?_
   rw[←hN,List.getElem?_take] at hq
   split at hq
   ·rw[List.getElem?_drop] at hq;exact hq
   ·cases hq)
  rw[hl] at this
  exact this
 have hexec:∀v,a.eval x=v→execOp a.eval o=(do pure (.value (←Builtin.append_ #[T,U] o.type #[v,.slice (some ⟨β j,off,none⟩) m mc])):Sem Next):=by
  intro v hv
  subst hv
  simp[execOp,ho,resolve,invoke,builtin,hyv]
 have hgrown:∀(base:Option Addr) (len cap:Nat) (old:List Value) (S':AS),a.eval x=.slice base len cap→cap < len+m→len+m≤2^26→old.length=len*sz→
   (∀w',G M C n S h β a w'→(Builtin.firstCells sz len (.slice base len cap)).run M.P w'=.ok old.toArray w')→G M C n S' h β a w.drew→S'.bx.length=S.bx.length→
   (∀(cap':Nat) (junk:List Value),len+m≤cap'→(len+m)*sz+junk.length=cap'*sz→k (S'.push (old ++news ++junk)) h (.s S.bx.length 0 (len+m) cap'))→ImOk M C n a w o E k:=by
  intro base len cap old S' hx hlt hroom hol hold g1 hlen hk
  have gd:=g.below (gt w)
  have c1:¬(len+m≤cap):=by omega
  have c2:¬(((len+m:Nat):Int) > IntKind.i64.max∧(i.bytes=0)):=by omega
  have c3:¬(Builtin.nextslicecap (len+m) cap*i.bytes > 2^48):=by
   have:=qAk (next_le hlt) hb2
   omega
  have⟨q,hq⟩:∃q:Nat,(Builtin.append_ #[T,U] T #[.slice base len cap,.slice (some ⟨β j,off,none⟩) m mc]).run M.P w=.ok (.slice (some ⟨w.heap.size,0,none⟩) (len+m) (len+m+q)) (w.drew.alloc (.cells (old.toArray ++news.toArray ++Builtin.zeroCells z.cells q) e)):=by
   refine⟨w.tape w.drawn (.appendCap (len+m) cap e) % (2^63 - (len+m)),?_⟩
   simp only[Builtin.append_,Sem.run_bind,run_underlying hE,run_underlying hE',Result.andThen_ok,Sem.run_pure,sizeOf,typeInfo,run_program,hi,hs,Builtin.lenOf,
    List.getElem?_toArray,List.getElem?_cons_zero,List.getElem?_cons_succ,qAw,if_false,Bool.not_false,if_true,c1,false_or,c2,c3,run_choose,Question.forced,Question.cut,World.drew_eq,run_askRoom,hold _ gd,hsrc _ gd,
    zeroValue,hzero,Nat.add_sub_cancel_left,newRow,run_newObj,World.alloc_eq,World.size_drew]
  have hjl:(Builtin.zeroCells z.cells q).toList.length=q*sz:=by simp[Builtin.zeroCells,hzc]
  obtain⟨β',b1,b2,g'⟩:=g1.push (old ++news ++(Builtin.zeroCells z.cells q).toList) e
  refine .mk hd (v:=.slice (some ⟨w.heap.size,0,none⟩) (len+m) (len+m+q)) (x:=.s S.bx.length 0 (len+m) (len+m+q)) ?_ (.inr ((gt w).alloc (by rw[World.size_drew];exact η _) _)) (β':=β') (S':=S'.push (old ++news ++(Builtin.zeroCells z.cells q).toList)) (w':=w.drew.alloc (.cells (old ++news ++(Builtin.zeroCells z.cells q).toList).toArray e)) g' (.inr ?_) ?_ (hk _ _ (by omega) (by rw[hjl,←Nat.add_mul]))
  ·have hc:old.toArray ++news.toArray ++Builtin.zeroCells z.cells q=(old ++news ++(Builtin.zeroCells z.cells q).toList).toArray:=by simp
   rw[hc] at hq
   rw[hexec _ hx]
   have hty:∀(t:TypeId) (vs:Array Value),Builtin.append_ #[T,U] t vs=Builtin.append_ #[T,U] T vs:=fun _ _=>rfl
   simp only[Sem.run_bind,hty,hq,Result.andThen_ok,Sem.run_pure]
  ·simp only[cv,←hlen,b2,World.size_drew]
  ·intro i hi;cases hi;simp[AS.push,hlen]
 split at hk
 ·rename_i hx
  obtain⟨hroom,hk⟩:=hk
  refine hgrown none 0 0 [] S (g.ev_v hx) (by omega) (by omega) (by simp) (fun w' _=>by simp[Builtin.firstCells]) (g.below (gt w)) rfl (fun cap' junk c1 c2=>?_)
  rw[Nat.zero_add] at c1 c2 ⊢
  exact hk cap' junk c1 c2
 ·rename_i i' off' len cap hx
  obtain⟨rfl,hlc,hc1,hcap,hroom,hk⟩:=hk
  have hcls:cls o.op=2:=by
   rw[ho]
   cases x with
   |const c=>cases hx
   |_=>rfl
  have hi':i' < S.bx.length:=g.wf_ev (by rw[hx];rfl)
  have hget:S.bx[i']?=some (S.box i'):=by simp[AS.box,hi']
  have hlm:len*sz≤cap*sz:=ψ _ hlc
  by_cases hle:len+m≤cap
  ·have hne:S.box i'≠[]:=fun e0=>by
    rw[e0] at hcap
    have:=ψ sz hc1
    simp at hcap;omega
   have hlm2:=ψ sz hle
   rw[Nat.add_mul] at hlm2
   obtain⟨T',hw⟩:=(g.boxes i' _ hget hne).row
   obtain⟨w',h1',h2,h3⟩:=jd (P:=M.P) news (S.box i') (len*sz) 0 w hw (by omega) hall
   have hspl:(S.box i').take (len*sz) ++news ++(S.box i').drop (len*sz+m*sz)=spl (S.box i') (len*sz) news:=by
    rw[spl_eq _ _ _ (by omega),hl]
   have hkj:=hk cap ((S.box i').drop (len*sz+m*sz)) hle (by simp[Nat.add_mul];omega)
   rw[hspl] at hkj
   have g1:=g.setBox hget hne (cs':=spl (S.box i') (len*sz) news) (by rw[sm]) (by simpa using h2) h3
   obtain⟨β',b1,g'⟩:=g1.move (i:=i') (cs:=spl (S.box i') (len*sz) news) (by simp[AS.setBox,hi'])
   have hset:(S.setBox i' (spl (S.box i') (len*sz) news)).setBox i' []=S.setBox i' []:=by simp[AS.setBox]
   have hlen:(S.setBox i' (spl (S.box i') (len*sz) news)).bx.length=S.bx.length:=by simp[AS.setBox]
   rw[hset] at g'
   rw[hlen] at b1
   refine .mk hd (v:=.slice (some ⟨β i',0,none⟩) (len+m) cap) (x:=.s S.bx.length 0 (len+m) cap) (w':=w') ?_ (.inl hcls) g' (.inr (by simp[cv,b1])) (fun q hq=>by cases hq;simp[AS.push,AS.setBox]) hkj
   rw[hexec _ (g.ev_s hx)]
   have hst:(storeCells ((⟨β i',0,none⟩:Addr).add (len*sz)) news).run M.P w=.ok () w':=by simpa[gF] using h1'
   simp only[Builtin.append_,Sem.run_bind,run_underlying hE,run_underlying hE',Result.andThen_ok,Sem.run_pure,sizeOf,typeInfo,run_program,hi,hs,Builtin.lenOf,
    List.getElem?_toArray,List.getElem?_cons_zero,List.getElem?_cons_succ,qAw,if_false,Bool.not_false,if_true,hle,hsrc _ g,hst]
  ·refine hgrown (some ⟨β i',0,none⟩) len cap ((S.box i').take (len*sz)) (S.setBox i' []) (g.ev_s hx) (by omega) hroom (by simp;omega) (fun w' g'=>?_) ((g.below (gt w)).kill i') (by simp[AS.setBox]) hk
   simp only[Builtin.firstCells]
   have hl2:((S.box i').take (len*sz)).length=len*sz:=by simp;omega
   have:=run_loadCells_list (P:=M.P) (w:=w') ⟨β i',0,none⟩ ((S.box i').take (len*sz)) (fun j v hj=>by
    rw[gF]
    refine g'.box_get hi' ?_
    rw[List.getElem?_take] at hj
    split at hj
    ·simpa using hj
    ·cases hj)
   rw[hl2] at this
   exact this
 ·exact hk.elim
theorem RWc_tail {ops:Array Oper} {Q Q':Exit→Act→World→Prop} {r:List Nat} (hp:∀e a w,e≠.normal→Q' e a w→Q e a w) (hl:LetsOut Q'→LetsOut Q) (hn:∀a w,Q' .normal a w→RWc M.P ops Q r a w):∀(l:List Nat) (a:Act) (w:World),RWc M.P ops Q' l a w→RWc M.P ops Q (l ++r) a w:=by
 intro l
 induction l with
 |nil=>intro a w hq;exact hn a w hq
 | cons i l ih=>
  intro a w hq
  show RWc M.P ops Q (i :: (l ++r)) a w
  simp only[RWc] at hq ⊢
  split at hq
  ·exact hq
  ·rename_i o ho
   by_cases hw:Region.wanted o (yielded ops a.tmps)=true
   ·rw[if_pos hw] at hq ⊢
    by_cases hc:cls o.op=0
    ·rw[if_pos hc] at hq ⊢
     obtain⟨v,h1,h2⟩:=hq
     exact⟨v,h1,ih _ _ h2⟩
    ·rw[if_neg hc] at hq ⊢
     have hq:=nf (K':=fun a' w'=>(cls o.op=2∨Below w.heap.size w w')∧RWc M.P ops Q (l ++r) a' w') (fun a' w' h=>⟨h.1,ih _ _ h.2⟩) hq
     unfold Oper.wp at hq ⊢
     generalize(execOp a.eval o).run M.P w=r at hq
     cases r with
     | ok n w'=>
      cases n<;>simp only[Oper.upon] at hq ⊢<;>first
       |exact hq
       |exact Calls.mono hq (fun e w'' he=>by cases e<;>first |exact he |exact hp _ _ _ (by simp) he |exact hl he)
     |halt x w'=>cases x<;>simp only[Oper.upon] at hq ⊢<;>first |exact hq |exact hp _ _ _ (by simp) hq
   ·rw[if_neg hw] at hq ⊢
    exact ih _ _ hq
theorem RWc_app {ops:Array Oper} {l1 l2:List GX} {d:Nat} {x y:Operand} {T U V:TypeId} {ps:String} {ar:Array Edge} {sz:Nat} (pl1:List PL) (i:Nat) (pl2:List PL) (hi:nth ops.toList i=some ⟨some d,.call {callee:=.builtin .append,args:=#[x,y],argTypes:=#[T,U]},V,ps,ar,none⟩)
  (hU:uk M.P U=.slice) (hz:mkN M.P T sz=true) (hd:d < n) (h1:prep n ops pl1=some l1) (h2:prep n ops pl2=some l2)
  (hw:walk M E l1 (fun S h=>appN sz S h (S.ev x) (S.ev y) fun S h v=>walk M E l2 (fun S h=>Q .normal S h) (S.put (some d) v) h) S h) (g:G M C n S h β a w):RWc M.P ops (LQ M n C Q E) (order pl1 ++i :: order pl2) a w:=by
 refine RWc_tail (Q':=LQ M n C (qs (fun S h=>appN sz S h (S.ev x) (S.ev y) fun S h v=>walk M E l2 (fun S h=>Q .normal S h) (S.put (some d) v) h) Q) E) (fun e a w he hq=>?_) ?_ (fun a w hq=>?_) _ _ _ (fx pl1 l1 S h β a w h1 hw g)
 ·cases e with
  |normal=>exact(he rfl).elim
  |panic ch=>exact hq
  |outgrown=>exact hq
  |_=>exact hq
 ·unfold LetsOut
  exact fun h=>h
 ·obtain⟨S1,h1',β1,g1,hk⟩:=hq
  rw[Bp] at hi
  dsimp only[qs] at hk
  rw[jP hi (by simp only[cls];cases nilB _<;>decide),if_pos (nI rfl _)]
  have:=im_appN (E:=E) g1 (o:=⟨some d,.call {callee:=.builtin .append,args:=#[x,y],argTypes:=#[T,U]},V,ps,ar,none⟩) (fun k hk=>by cases hk;exact hd) rfl hU hz hk (LQ M n C Q E) (fun ch h' w' hf he=>⟨g1.defers,h',hf,he⟩)
  exact nf (fun a' w' ⟨h1,S',h',x,β',g',hk⟩=>⟨h1,fx pl2 l2 _ h' β' a' w' h2 hk g'⟩) this
theorem AWP_app {id:Nat} {ops:Array Oper} {l1 l2:List GX} {d:Nat} {x y:Operand} {T U V:TypeId} {ps:String} {ar:Array Edge} {sz:Nat} (pl1:List PL) (i:Nat) (pl2:List PL) (hi:nth ops.toList i=some ⟨some d,.call {callee:=.builtin .append,args:=#[x,y],argTypes:=#[T,U]},V,ps,ar,none⟩)
  (hU:uk M.P U=.slice) (hz:mkN M.P T sz=true) (hord:order pl1 ++i :: order pl2=List.range ops.size) (hd:d < n) (h1:prep n ops pl1=some l1) (h2:prep n ops pl2=some l2)
  (hw:walk M E l1 (fun S h=>appN sz S h (S.ev x) (S.ev y) fun S h v=>walk M E l2 (fun S h=>Q .normal S h) (S.put (some d) v) h) S h):AWP M n C (.region id ops false) Q E S h:=
 fun β a w g=>eK (by rw[←hord];exact RWc_app pl1 i pl2 hi hU hz hd h1 h2 hw g)
end
def RowOf {α:Type} (sz:Nat) (Q:List Value→α→Prop) (row:List Value) (l:List α):Prop:=l.length*sz≤row.length∧∀(i:Nat) (s:α),l[i]?=some s→Q ((row.drop (i*sz)).take sz) s
theorem RowOf.nil {α:Type} {sz:Nat} {Q:List Value→α→Prop} {row:List Value}:RowOf sz Q row []:=⟨by simp,fun i s h=>by simp at h⟩
theorem RowOf.mono {α:Type} {sz:Nat} {Q Q':List Value→α→Prop} {row:List Value} {l:List α} (h:RowOf sz Q row l) (k:∀cs s,Q cs s→Q' cs s):RowOf sz Q' row l:=⟨h.1,fun i s e=>k _ _ (h.2 i s e)⟩
theorem RowOf.app {α:Type} {sz:Nat} {Q:List Value→α→Prop} {row:List Value} {l:List α} (h:RowOf sz Q row l) {cs:List Value} {s:α} (hl:cs.length=sz) (q:Q cs s) (junk:List Value):RowOf sz Q (row.take (l.length*sz) ++cs ++junk) (l ++[s]):=by
 have h1:=h.1
 have e1:(row.take (l.length*sz)).length=l.length*sz:=by simp;omega
 refine⟨by simp[Nat.add_mul];omega,fun i t hi=>?_⟩
 rcases qBj i l.length with g |g
 ·rw[List.getElem?_append_left g] at hi
  have hm:(i+1)*sz≤l.length*sz:=ψ _ g
  rw[Nat.add_mul,qBm] at hm
  have:=h.2 i t hi
  rw[List.append_assoc,List.drop_append_of_le_length (by omega),List.take_append_of_le_length (by simp;omega),List.drop_take,List.take_take,Nat.min_eq_left (by omega)]
  exact this
 ·have:i < (l ++[s]).length:=(List.getElem?_eq_some_iff.1 hi).1
  simp only[qAp,List.length_singleton] at this
  obtain rfl:i=l.length:=by omega
  rw[List.getElem?_append_right (η _),Nat.sub_self] at hi
  cases hi
  rw[List.append_assoc,List.drop_append_of_le_length (by omega),List.drop_take,Nat.sub_self,List.take_zero,List.nil_append,←hl,List.take_append_of_le_length (η _),List.take_length]
  exact q
theorem RowOf.ld {α:Type} {sz:Nat} {Q:List Value→α→Prop} {row:List Value} {l:List α} (h:RowOf sz Q row l) {i:Nat} {s:α} (hi:l[i]?=some s):ldb (some sz) row (i*sz)=some (.agg ((row.drop (i*sz)).take sz).toArray):=by
 have h1:=h.1
 have g:i < l.length:=(List.getElem?_eq_some_iff.1 hi).1
 have hm:(i+1)*sz≤l.length*sz:=ψ _ g
 rw[Nat.add_mul,qBm] at hm
 show(bif Nat.ble (i*sz+sz) row.length then _ else _)=_
 rw[Nat.ble_eq_true_of_le (by omega)]
 rfl
theorem at_off {h:PH} {b:Nat} {cs:Array Value} (hb:h b=some cs) (n j:Nat):h.at (((⟨b,0,none⟩:Addr).add n).add j)=cs[n+j]?:=by
 have e:((⟨b,0,none⟩:Addr).add n).add j=⟨b,n+j,none⟩:=by
  unfold Addr.add
  split<;>split<;>simp_all
 rw[e]
 simp[PH.at,hb]
open Go.RowKit
theorem Has.kept {A B:World} {h:PH} (hh:Has A h) {row:Option Nat} (hg:A.grownBy B row) (hr:∀r,row=some r→h r=none):Has B h:=fun b cs hx=>by
 obtain⟨T,f,hw⟩:=hh b cs hx
 exact⟨T,f,(hg.block b (Array.getElem?_eq_some_iff.1 hw).1 (fun e=>by rw[hr b e.symm] at hx;cases hx)).trans hw⟩
section
variable {α:Type} {w:World} {h0:PH} {B:Nat} {T E:TypeId} {sz:Nat} {Q:PH→List Value→α→Prop} {R:List (Nat×Array Value×TypeId)} {l:List α} {hp:PH} {v:Value} {W:World}
end
namespace NS
def clo:NS→Rat
 |.e=>1
 |.i a _=>a.getD 0
def chi:NS→Rat
 |.e=>0
 |.i _ b=>b.getD 0
theorem le_c {k:Nat} {x:NS} (hk:1≤k) (h:x.le k):sz x.clo≤k∧sz x.chi≤k:=by
 have h0:sz 0≤k:=χ HY hk
 have h1:sz 1≤k:=χ (by decide) hk
 cases x with
 |e=>exact⟨h1,h0⟩
 | i a b=>
  rw[le_i] at h
  refine⟨?_,?_⟩
  ·cases a with
   |none=>exact h0
   |some a=>exact h.1 _ rfl
  ·cases b with
   |none=>exact h0
   |some b=>exact h.2 _ rfl
end NS
theorem Cv.fl {h:PH} {v:Value} {x:NS} (r:Cv h v x):∃b1 a1 m1 c1 a2 m2 c2 b2 a3 m3 c3 a4 m4 c4,v=.agg #[.bool b1,.slice a1 m1 c1,.slice a2 m2 c2,.bool b2,.slice a3 m3 c3,.slice a4 m4 c4,.bool x.loN,.bool x.hiN]∧
  Cn h (.agg #[.bool b1,.slice a1 m1 c1,.slice a2 m2 c2]) x.clo∧Cn h (.agg #[.bool b2,.slice a3 m3 c3,.slice a4 m4 c4]) x.chi:=by
 have r0:=r
 obtain⟨b1,x1,y1,b2,x2,y2,rfl,h1,h2⟩:=r
 obtain⟨_,_,_,_,_,_,_,e1,_⟩:=h1.sa
 obtain⟨_,_,_,_,_,_,_,e2,_⟩:=h2.sa
 simp only[Value.agg.injEq,Array.mk.injEq,List.cons.injEq,and_true] at e1 e2
 obtain⟨_,rfl,rfl⟩:=e1
 obtain⟨_,rfl,rfl⟩:=e2
 cases x with
 |e=>exact⟨_,_,_,_,_,_,_,_,_,_,_,_,_,_,rfl,h1,h2⟩
 |i a b=>exact⟨_,_,_,_,_,_,_,_,_,_,_,_,_,_,rfl,h1,h2⟩
def NS.ri (x:NS):RI:=⟨decide (x.clo.num < 0),x.clo.num.natAbs,if x.clo.den=1 then 0 else x.clo.den,decide (x.chi.num < 0),x.chi.num.natAbs,if x.chi.den=1 then 0 else x.chi.den,x.loN,x.hiN⟩
theorem Cv.iv {h:PH} {v:Value} {x:NS} (r:Cv h v x) (hf:x.le 2048):Iv h v x.ri:=by
 obtain⟨b1,a1,m1,c1,a2,m2,c2,b2,a3,m3,c3,a4,m4,c4,rfl,h1,h2⟩:=r.fl
 have hs:=NS.le_c (by decide) hf
 exact Iv.mk (h1.rw (χ hs.1 (by decide))) (h2.rw (χ hs.2 (by decide))) _ _
theorem NS.ri_big {x:NS} (hf:x.le 2048):x.ri.big=false:=by
 have hs:=NS.le_c (by decide) hf
 unfold RI.big NS.ri
 dsimp only
 have h1:¬lg (decide (x.clo.num < 0)) x.clo.num.natAbs (if x.clo.den=1 then 0 else x.clo.den):=by rw[lg_cn];omega
 have h2:¬lg (decide (x.chi.num < 0)) x.chi.num.natAbs (if x.chi.den=1 then 0 else x.chi.den):=by rw[lg_cn];omega
 simp only[h1,h2,decide_false,Bool.or_self]
theorem NS.ri_set {x:NS} (hx:x.ok):x.ri.set=x:=by
 unfold RI.set RI.lo RI.hi NS.ri
 dsimp only
 rw[jA,jA]
 cases x with
 |e=>simp[NS.loN,NS.hiN,NS.clo,NS.chi,NS.mk',ordO,show decide ((0:Rat) < 1)=true by decide]
 |i a b=>cases a<;>cases b<;>simp[NS.loN,NS.hiN,NS.clo,NS.chi,NS.mk']<;>simp[NS.ok] at hx<;>simp[hx]<;>rfl
open Go.RowKit
section
variable {F:Fence} {n:Nat} {P:Program} {ops:Array Oper} {Q:Exit→Act→World→Prop}
end
section
variable {W:World} {hp:PH} {WB off r n:Nat} {g cp:Nat→Nat} {M:Nat→Nat→RI}
end
end Go.Q
namespace Go.Q
open Go.Proofs Go.RowKit
set_option maxRecDepth 100000
set_option maxHeartbeats 16000000
def mulE (p:Int) (x y:RI):Out:=x.fin2 y (rnd p x.set y.set (.ok (x.set.prod y.set)))
def divE (p:Int) (x y:RI):Out:=x.fin2 y (rnd p x.set y.set (divO x.set y.set))
def subE (p:Int) (x y:RI):Out:=x.fin2 y (rnd p x.set y.set (.ok (x.set.sum y.set.minus)))
def okE:Out→Bool
 |.ok _=>true
 |.error _=>false
theorem fin2_le {x y:RI} {o:Out} {z:NS} (h:x.fin2 y o=.ok z):z.le 2048:=by
 unfold RI.fin2 at h
 cases e:(x.big || y.big) with
 |true=>rw[e] at h;cases h
 | false=>
  rw[e,cond_false] at h
  cases o with
  |error e=>cases h
  | ok w=>
   unfold Out.fin at h
   dsimp only at h
   cases e2:decide (w.le 2048) with
   |false=>rw[e2] at h;cases h
   |true=>rw[e2] at h;cases h;exact of_decide_eq_true e2
end Go.Q
namespace Go.Q
open Go.Proofs
set_option maxRecDepth 100000
set_option maxHeartbeats 8000000
theorem nameX:nameB ⟨#[120]⟩=true:=by decide+kernel
theorem Kids_x {h:PH}:Spec mach 219 #[.int .i64 2] h (fun v _=>v=.tuple #[.int .i64 0,.bool true]) NP:=by
 refine Spec.go [] Tryz.func219 rfl rfl (by kernel_rfl) fun C _=>?_
 try simp(maxSteps:=999999) (disch:=omega) only[go_sem,ξ,ζ]
theorem Kids_a {h:PH}:Spec mach 219 #[.int .i64 5] h (fun v _=>v=.tuple #[.int .i64 2,.bool true]) NP:=by
 refine Spec.go [] Tryz.func219 rfl rfl (by kernel_rfl) fun C _=>?_
 try simp(maxSteps:=999999) (disch:=omega) only[go_sem,ξ,ζ]
theorem Fields_x {h:PH}:Spec mach 153 #[exXv] h (fun v _=>v=.bool true) NP:=by
 unfold exXv
 refine Spec.go [] Tryz.func153 rfl rfl (by kernel_rfl) fun C _=>?_
 try simp(maxSteps:=999999) (disch:=omega) only[go_sem,ξ,ζ]
 refine caN (by exact Kids_x) ?_;rintro v1 h1 s1 rfl
 try simp(maxSteps:=999999) (disch:=omega) only[go_sem,ξ,ζ]
 refine caN (by exact IsName_spec) ?_;rintro v2 h2 s2 rfl
 try simp(maxSteps:=999999) (disch:=omega) only[go_sem,ξ,ζ,nameX]
 refine caN (by exact rH (N32.zero h2)) ?_;rintro v3 h3 s3 q3
 try simp(maxSteps:=999999) (disch:=omega) only[go_sem,ξ,ζ]
 refine caN (by exact bU q3) ?_;rintro v4 h4 s4 rfl
 try simp(maxSteps:=999999) (disch:=omega) only[go_sem,ξ,ζ]
 all_goals rfl
theorem Fields_a {h:PH} {b:Nat}:Spec mach 153 #[exAv b] h (fun v _=>v=.bool true) NP:=by
 unfold exAv
 refine Spec.go [] Tryz.func153 rfl rfl (by kernel_rfl) fun C _=>?_
 try simp(maxSteps:=999999) (disch:=omega) only[go_sem,ξ,ζ]
 refine caN (by exact Kids_a) ?_;rintro v1 h1 s1 rfl
 try simp(maxSteps:=999999) (disch:=omega) only[go_sem,ξ,ζ,beq_self_eq_true]
 refine caN (by exact rH (N32.zero h1)) ?_;rintro v3 h3 s3 q3
 try simp(maxSteps:=999999) (disch:=omega) only[go_sem,ξ,ζ]
 refine caN (by exact bU q3) ?_;rintro v4 h4 s4 rfl
 try simp(maxSteps:=999999) (disch:=omega) only[go_sem,ξ,ζ]
 all_goals rfl
theorem Count_x {h:PH} {d n:Int} (hd:0≤d∧d≤30) (hn:0≤n∧n < 300):Spec mach 89 #[exXv,.int .i64 d,.int .i64 n] h (fun v _=>v=.int .i64 (n+1)) NP:=by
 have k:=fun {h:PH}=>Fields_x (h:=h)
 unfold exXv at k ⊢
 have e1:¬n+1 > 300:=by omega
 have e2:¬d > 30:=by omega
 refine Spec.go [] Tryz.func89 rfl rfl (by kernel_rfl) fun C _=>?_
 try simp(maxSteps:=999999) (disch:=omega) only[go_sem,ξ,ζ,e1,e2,decide_false]
 refine caN (by exact k) ?_;rintro v1 h1 s1 rfl
 try simp(maxSteps:=999999) (disch:=omega) only[go_sem,ξ,ζ]
 refine lp [] (fun _:Nat=>⟨[(2,.v (.int .i64 (n+1))),(24,.v (.int .i64 0)),(25,.v (.int .i64 0))],[]⟩) (fun _ _=>True) (fun _=>0) 0 ?_ trivial (by kernel_rfl) ?_
 ·try simp(maxSteps:=999999) (disch:=omega) only[go_sem,ξ,ζ]
  all_goals rfl
 rintro i h2 _
 try simp(maxSteps:=999999) (disch:=omega) only[go_sem,ξ,ζ]
theorem kC_at {h0:PH} {b:Nat} (hb:kC b h0):∀i,i < 2→∀(j:Nat) v,xC7[j]?=some v→h0.at ((⟨b,i*7,none⟩:Addr).add j)=some v:=fun i hi j v hv=>by
 have hj:j < 7:=(List.getElem?_eq_some_iff.1 hv).1
 unfold kC at hb
 have:(⟨b,i*7,none⟩:Addr).add j=⟨b,i*7+j,none⟩:=by
  unfold Addr.add;split
  ·rename_i e;rw[e];rfl
  ·rfl
 rw[this]
 have e:h0.at ⟨b,i*7+j,none⟩=(xC7 ++xC7)[i*7+j]?:=by simp[PH.at,hb]
 rw[e]
 rcases(show i=0∨i=1 by omega) with rfl |rfl
 ·rw[List.getElem?_append_left (by show 0*7+j < 7;omega)];simpa using hv
 ·rw[List.getElem?_append_right (by show 7≤1*7+j;omega)]
  show xC7[1*7+j - 7]?=_
  rw[show 1*7+j - 7=j by omega];exact hv
theorem Count_a {h0 h:PH} [Le h0 h] {b:Nat} (hb:kC b h0):Spec mach 89 #[exAv b,.int .i64 1,.int .i64 0] h (fun v _=>v=.int .i64 3) NP:=by
 have k:=fun {h:PH}=>Fields_a (h:=h) (b:=b)
 have hat:=kC_at hb
 unfold exAv at k ⊢
 refine Spec.go [] Tryz.func89 rfl rfl (by kernel_rfl) fun C _=>?_
 try simp(maxSteps:=999999) (disch:=omega) only[go_sem,ξ,ζ]
 refine caN (by exact k) ?_;rintro v1 h1 s1 rfl
 try simp(maxSteps:=999999) (disch:=omega) only[go_sem,ξ,ζ]
 refine lp [] (fun i:Nat=>⟨[(1,.v (.int .i64 1)),(2,.v (.int .i64 (i+1:Nat))),(23,.v (.slice (some ⟨b,0,none⟩) 2 2)),(24,.v (.int .i64 2)),(25,.v (.int .i64 i))],[]⟩) (fun i h'=>Le h0 h'∧i≤2) (fun i=>2 - i) 0 ?_ ⟨inferInstance,by decide⟩ (by kernel_rfl) ?_
 ·try simp(maxSteps:=999999) (disch:=omega) only[go_sem,ξ,ζ]
  all_goals (constructor<;>rfl)
 rintro i h2 ⟨le2,hi⟩
 by_cases hl:(i:Int) < 2
 ·have kx:=fun {h:PH}=>Count_x (h:=h) (d:=2) (n:=(i+1:Nat)) (by omega) (by omega)
  unfold exXv at kx
  have e3:¬((i+1:Nat):Int)+1 > 300:=by omega
  try simp(maxSteps:=999999) (disch:=omega) only[go_sem,ξ,ζ,hl,decide_true]
  refine Exists.intro [.int .i64 2,.int .i64 0,.bool false,.slice none 0 0,.slice none 0 0,.string ⟨#[120]⟩,.slice none 0 0] (And.intro rfl (And.intro (fun j v hj=>le2.sub.at (hat i (by omega) j v hj)) ?_))
  try simp(maxSteps:=999999) (disch:=omega) only[go_sem,ξ,ζ]
  refine caN (by exact kx) ?_;rintro v3 h3 s3 rfl
  try simp(maxSteps:=999999) (disch:=omega) only[go_sem,ξ,ζ,e3,decide_false]
  dsimp only[lpE];refine⟨i+1,?_,⟨inferInstance,by omega⟩,by omega⟩
  try simp(maxSteps:=999999) (disch:=omega) only[go_sem,ξ,ζ]
  all_goals rfl
 ·have e:i=2:=by omega
  subst e
  try simp(maxSteps:=999999) (disch:=omega) only[go_sem,ξ,ζ,hl,decide_false]
  all_goals rfl
theorem EValid_spec {h0 h:PH} [Le h0 h] {b:Nat} (hb:kC b h0):Spec mach 52 #[exAv b] h (fun v _=>v=.bool true) NP:=by
 have k:=fun {h} [Le h0 h]=>Count_a (h:=h) hb
 unfold exAv at k ⊢
 refine Spec.go [] Tryz.func52 rfl rfl (by kernel_rfl) fun C _=>?_
 try simp(maxSteps:=999999) (disch:=omega) only[go_sem,ξ,ζ]
 refine caN (by exact k) ?_;rintro v1 h1 s1 rfl
 try simp(maxSteps:=999999) (disch:=omega) only[go_sem,ξ,ζ]
theorem zC {h:PH} {a:Option Addr} {m c n:Nat} (r:N32 h (.slice a m c) n) (h0:n≠0) (h1:n < 4294967296):m=1∧∃ad,a=some ad∧h.at ad=some (.int .u32 n):=by
 have hW:W 4294967296 n=[n]:=by
  rw[W_pos (by decide) h0,qBi h1,Nat.div_eq_of_lt h1,ff]
 obtain⟨a',c',e,A⟩:=r
 rw[hW] at e A
 simp only[Value.slice.injEq,List.length_cons,List.length_nil] at e
 obtain⟨rfl,rfl,rfl⟩:=e
 obtain⟨ad,e1,e2⟩:=A.at_ 0 n rfl
 refine⟨rfl,ad,e1,?_⟩
 simpa[Addr.add] using e2
theorem E4 {h:PH} {a:Option Addr} {m c:Nat} (r:N32 h (.slice a m c) 0):m=0:=by
 obtain⟨a',c',e,A⟩:=r
 rw[ff] at e
 simp only[Value.slice.injEq,List.length_nil] at e
 exact e.2.1
end Go.Q
namespace Go.Q
open Go.Proofs Go.RowKit
set_option maxRecDepth 100000
set_option maxHeartbeats 8000000
theorem Vars_spec {h0 h:PH} [l0:Le h0 h] {b:Nat} (hb:kC b h0):Spec mach 53 #[exAv b] h (fun r h'=>∃ad c,r=.tuple #[.slice (some ad) 1 c,.int .i64 0]∧h'.at ad=some (.string ⟨#[120]⟩)) NP:=by
 refine⟨by kernel_rfl,fun w hw hg=>?_⟩
 have hb1:h b=some (xC7 ++xC7).toArray:=l0.sub _ _ hb
 obtain⟨T,f,hk⟩:=hw _ _ hb1
 have kV:∀m W,Below w.heap.size w W→CallsIn Fence.wide m Tryz.prog 52 #[exAv b] W fun e W'=>e=.returned (.bool true)∧Below W.heap.size W W':=fun m W hB=>by
  refine callsIn_wide.2 (((EValid_spec (h:=h) hb).run W (hw.below hB) hg).mono fun e W' hp=>?_)
  cases e with
  |returned v=>obtain⟨h',p1,_,_,_,rfl⟩:=hp;exact⟨rfl,p1⟩
  |panicked ch=>obtain⟨_,_,_,_,_,hp⟩:=hp;exact(hp:False).elim
  |outgrown=>exact(hp:False).elim
 refine(callsIn_wide.1 (vars_in ⟨(Array.getElem?_eq_some_iff.1 hk).1,T,f,hk⟩ kV)).mono fun e w' hp=>?_
 obtain⟨v,rfl,hr,hB⟩:=hp
 rcases hr.2 with⟨_,h1⟩ |⟨g,cap,cur,rfl,hge,hh,hn,_,hs,ht⟩
 ·cases h1
 ·have hgn:h g=none:=by
   cases e:h g with
   |none=>rfl
   |some cs=>have:=hw.lt e;omega
  refine⟨fun k=>if k=g then some cur else h k,hB,fun k cs hx=>?_,fun k cs hx=>?_,fun k hx=>?_,⟨g,0,none⟩,cap,rfl,?_⟩
  ·have hx:(if k=g then some cur else h k)=some cs:=hx
   by_cases e:k=g
   ·rw[if_pos e] at hx;cases hx;exact⟨_,_,e▸hh⟩
   ·rw[if_neg e] at hx;exact(hw.below hB) _ _ hx
  ·show(if k=g then some cur else h k)=some cs
   rw[if_neg (fun e=>by rw[e,hgn] at hx;cases hx)];exact hx
  ·have hx:(if k=g then some cur else h k)≠none:=hx
   by_cases e:k=g
   ·exact .inr (e▸hge)
   ·rw[if_neg e] at hx;exact .inl hx
  ·have e0:cur[0]?=some (.string ⟨#[120]⟩):=by
    have:=congrArg (·[0]?) ht
    simpa using this
   unfold PH.at
   simp[e0]
def x01:RI:=⟨false,0,0,false,1,0,false,false⟩
def l01:List Sd1:=[(⟨#[120]⟩,x01)]
theorem l01_ok:okB l01=true:=by decide+kernel
theorem l01_fnd:fnd l01 ⟨#[120]⟩=some 0:=by decide+kernel
theorem Ready_spec {h0 h:PH} [Le h0 h] {v:Value} {b:Nat} (hb:kC b h0) (hv:Boxv h0 v l01):Spec mach 22 #[exAv b,v,.int .i64 2] h (fun r _=>r=.int .i64 0) NP:=by
 have kE:=fun {h} [Le h0 h]=>EValid_spec (h:=h) hb
 have kB:=fun {h} [Le h0 h]=>BValid_spec (h:=h) hv
 have kN:=fun {h} [Le h0 h]=>Vars_spec (h:=h) hb
 have kI:=fun {h} [Le h0 h]=>Index_spec (h:=h) (s:=⟨#[120]⟩) hv
 rw[l01_ok] at kB
 rw[l01_fnd] at kI
 obtain⟨va,vm,vc,rfl⟩:=hv.sa
 unfold exAv at kE kN ⊢
 refine Spec.go [] Tryz.func22 rfl rfl (by kernel_rfl) fun C _=>?_
 try simp(maxSteps:=999999) (disch:=omega) only[go_sem,ξ,ζ]
 refine caN (by exact kE) ?_;rintro v1 h1 s1 rfl
 try simp(maxSteps:=999999) (disch:=omega) only[go_sem,ξ,ζ]
 refine caN (by exact kB) ?_;rintro v2 h2 s2 rfl
 try simp(maxSteps:=999999) (disch:=omega) only[go_sem,ξ,ζ]
 refine caN (by exact kN) ?_;rintro v3 h3 s3 ⟨ad,c,rfl,hat⟩
 try simp(maxSteps:=999999) (disch:=omega) only[go_sem,ξ,ζ]
 refine lp [] (fun i:Nat=>⟨[(1,.v (.slice va vm vc)),(31,.v (.slice (some ad) 1 c)),(32,.v (.int .i64 1)),(33,.v (.int .i64 i))],[]⟩) (fun i h'=>Le h0 h'∧h'.at ad=some (.string ⟨#[120]⟩)∧i≤1) (fun i=>1 - i) 0 ?_ ⟨inferInstance,hat,by decide⟩ (by kernel_rfl) ?_
 ·try simp(maxSteps:=999999) (disch:=omega) only[go_sem,ξ,ζ]
  all_goals rfl
 rintro i h4 ⟨le4,hat4,hi⟩
 by_cases hl:(i:Int) < 1
 ·obtain rfl:i=0:=by omega
  try simp(maxSteps:=999999) (disch:=omega) only[go_sem,ξ,ζ]
  refine aE hat4 ?_
  try simp(maxSteps:=999999) (disch:=omega) only[go_sem,ξ,ζ]
  refine caN (by exact kI) ?_;rintro v5 h5 s5 rfl
  try simp(maxSteps:=999999) (disch:=omega) only[go_sem,ξ,ζ]
  dsimp only[lpE];refine⟨1,?_,⟨inferInstance,s5.sub.at hat4,by omega⟩,by omega⟩
  ·try simp(maxSteps:=999999) (disch:=omega) only[go_sem,ξ,ζ]
   all_goals rfl
 ·try simp(maxSteps:=999999) (disch:=omega) only[go_sem,ξ,ζ,hl,decide_false]
end Go.Q
