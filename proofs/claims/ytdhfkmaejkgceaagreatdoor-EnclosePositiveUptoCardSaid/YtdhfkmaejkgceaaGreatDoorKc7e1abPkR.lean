/-
  A set cut in two, and what stands on it. Conditions: each theorem's own.
-/
import Derived.Test.YtdhfkmaejkgceaaGreatDoorK1256f4PkQ
import Derived.Test.YtdhfkmaejkgceaaGreatDoorKd61942PkG
import Derived.Test.YtdhfkmaejkgceaaGreatDoorK874e94PkK
import Derived.Test.YtdhfkmaejkgceaaGreatDoorK5f1229PkO
import Derived.Test.YtdhfkmaejkgceaaGreatDoorK944a42PkN
set_option linter.unusedVariables false
set_option linter.unusedSimpArgs false
open Nat renaming reduceBEq→ξ,reduceAdd→ζ,le_trans→χ,le_refl→η,mul_le_mul→qAk,mul_one→qAz,zero_le→qBh,lt_or_ge→qBj
open List renaming take_of_length_le→qAr
open Rat renaming div_def→qAx,le_refl→qBk
namespace Go.Q
theorem nE {a b:Option Rat} {q:Rat} (hq:(NS.i a b).has q=true):(NS.i a (some q)).within (.i a b)=true∧(NS.i a (some q)).ok:=by
 rw[NS.has_i] at hq
 constructor
 ·rw[cK,dp,cJ]
  exact⟨fun z e=>⟨z,e,qBk⟩,fun z e=>⟨q,rfl,hq.2 z e⟩⟩
 ·cases a with
  |none=>rfl
  | some a=>
   have:=hq.1 a rfl
   have h3:¬q < a:=by grind
   simp[NS.ok,ordO,h3]
theorem lJ {a b:Option Rat} {q:Rat} (hq:(NS.i a b).has q=true):(NS.i (some q) b).within (.i a b)=true∧(NS.i (some q) b).ok:=by
 rw[NS.has_i] at hq
 constructor
 ·rw[cK,dp,cJ]
  exact⟨fun z e=>⟨q,rfl,hq.1 z e⟩,fun z e=>⟨z,e,qBk⟩⟩
 ·cases b with
  |none=>rfl
  | some b=>
   have:=hq.2 b rfl
   have h3:¬b < q:=by grind
   simp[NS.ok,ordO,h3]
theorem mL {x:NS} {q:Rat} (h:x.has q=true):x.minus.has (-q)=true:=by
 cases x with
 |e=>cases h
 | i a b=>
  rw[NS.has_i] at h
  show(NS.i (b.map (-·)) (a.map (-·))).has (-q)=true
  rw[NS.has_i]
  refine⟨fun z e=>?_,fun z e=>?_⟩
  ·cases b with
   |none=>cases e
   |some b=>cases e;have:=h.2 b rfl;grind
  ·cases a with
   |none=>cases e
   |some a=>cases e;have:=h.1 a rfl;grind
theorem size_has {x:NS} {r:Rat} (hx:x.ok) (h:x.has r=true):∃s,x.size.has s=true∧0≤s∧(s=r∨s= -r):=by
 cases x with
 |e=>cases h
 | i a b =>
  have h':=NS.has_i.1 h
  rcases jU hx with⟨p,e1,hp,es⟩ |⟨q,e1,hq,es⟩ |⟨hp,hq,es⟩
  ·exact⟨r,by rw[es];exact h,by have:=h'.1 p e1;grind,.inl rfl⟩
  ·exact⟨-r,by rw[es];exact mL h,by have:=h'.2 q e1;grind,.inr rfl⟩
  ·rw[es]
   have key:∀s:Rat,0≤s→(∀p,a=some p→∀q,b=some q→s≤max (-p) q)→(NS.i (some ((0:Int):Rat)) (jmax (a.map (-·)) b)).has s=true:=by
    intro s hs hk
    rw[NS.has_i]
    refine⟨fun z e=>by cases e;exact hs,fun z e=>?_⟩
    cases a with
    |none=>cases e
    | some a=>cases b with
     |none=>cases e
     |some b=>cases e;exact hk a rfl b rfl
   by_cases hr:0≤r
   ·exact⟨r,key r hr fun p e1 q e2=>by have:=h'.2 q e2;grind,hr,.inl rfl⟩
   ·exact⟨-r,key (-r) (by grind) fun p e1 q e2=>by have:=h'.1 p e1;grind,by grind,.inr rfl⟩
theorem wu {x:NS} {r:Rat} (n:Nat) (hx:x.ok) (h:x.has r=true):(x.pow n).has (r^n)=true:=by
 cases x with
 |e=>cases h
 | i a b =>
  show(if n=0 then _ else if n % 2=0 then _ else _:NS).has (r^n)=true
  by_cases h0:n=0
  ·rw[if_pos h0,h0,Rat.pow_zero]
   rw[NS.has_i]
   exact⟨fun z e=>by cases e;exact qBk,fun z e=>by cases e;exact qBk⟩
  ·rw[if_neg h0]
   by_cases h2:n % 2=0
   ·rw[if_pos h2]
    obtain⟨s,k1,k2,k3⟩:=size_has hx h
    have e1:r^n=s^n:=by
     rcases k3 with rfl |rfl
     ·rfl
     ·rw[tK,if_pos h2]
    rw[e1]
    cases hs:(NS.i a b).size with
    |e=>rw[hs] at k1;cases k1
    | i c d=>
     obtain⟨p,ep,hp⟩:=NS.size_low hx hs
     rw[hs] at k1
     subst ep
     rw[NS.has_i] at k1
     show(NS.i (some (p^n)) (d.map (· ^n))).has (s^n)=true
     rw[NS.has_i]
     refine⟨fun z e=>by cases e;exact gO n hp (k1.1 _ rfl),fun z e=>?_⟩
     cases d with
     |none=>cases e
     |some d=>cases e;exact gO n k2 (k1.2 _ rfl)
   ·rw[if_neg h2]
    rw[NS.has_i] at h
    show(NS.i (a.map (· ^n)) (b.map (· ^n))).has (r^n)=true
    rw[NS.has_i]
    refine⟨fun z e=>?_,fun z e=>?_⟩
    ·cases a with
     |none=>cases e
     |some a=>cases e;exact tM (by omega) (h.1 _ rfl)
    ·cases b with
     |none=>cases e
     |some b=>cases e;exact tM (by omega) (h.2 _ rfl)
theorem GG {a b:Option Rat} {q:Rat} (ho:(NS.i a b).ok) (hq:(NS.i a b).has q=true) (hz:(NS.i a b).zero=false):(NS.i (some (invO b)) (some (invO a))).has q⁻¹=true:=by
 obtain⟨l1,l2⟩:=nE hq
 obtain⟨r1,r2⟩:=lJ hq
 have k1:invO (some q)≤invO a:=qN (jE l2 l1 hz) l2
 have k2:invO b≤invO (some q):=qN (jE r2 r1 hz) r2
 rw[NS.has_i]
 exact⟨fun z e=>by cases e;exact k2,fun z e=>by cases e;exact k1⟩
theorem xT {x:NS} {p:Nat} {q:Rat} (hx:x.ok) (h:x.has q=true):(x.hull p).has q=true:=(NS.within_iff hx).1 NS.within_hull q h
theorem HX {x y:NS} {u v:Rat} (hu:x.has u=true) (hv:y.has v=true):(x.sum y).has (u+v)=true:=by
 cases x with
 |e=>cases hu
 | i a b =>
  cases y with
  |e=>cases hv
  | i c d=>
   rw[NS.has_i] at hu hv
   show(NS.i (oadd a c) (oadd b d)).has (u+v)=true
   rw[NS.has_i]
   refine⟨fun z e=>?_,fun z e=>?_⟩
   ·cases a with
    |none=>cases e
    | some a=>cases c with
     |none=>cases e
     |some c=>cases e;have:=hu.1 a rfl;have:=hv.1 c rfl;grind
   ·cases b with
    |none=>cases e
    | some b=>cases d with
     |none=>cases e
     |some d=>cases e;have:=hu.2 b rfl;have:=hv.2 d rfl;grind
theorem x9 {x y:NS} {u v:Rat} (hu:x.has u=true) (hv:y.has v=true):(x.lesser y).has (min u v)=true:=by
 cases x with
 |e=>cases hu
 | i a b =>
  cases y with
  |e=>cases hv
  | i c d=>
   rw[NS.has_i] at hu hv
   show(NS.i (jmin a c) (omin b d)).has (min u v)=true
   rw[NS.has_i]
   refine⟨fun z e=>?_,fun z e=>?_⟩
   ·cases a with
    |none=>cases e
    | some a=>cases c with
     |none=>cases e
     |some c=>cases e;have:=hu.1 a rfl;have:=hv.1 c rfl;grind
   ·cases b with
    | none=>cases d with
     |none=>cases e
     |some d=>cases e;have:=hv.2 z rfl;grind
    | some b=>cases d with
     |none=>cases e;have:=hu.2 z rfl;grind
     |some d=>cases e;have:=hu.2 b rfl;have:=hv.2 d rfl;grind
theorem Dc {x y:NS} {u v:Rat} (hu:x.has u=true) (hv:y.has v=true):((x.minus.lesser y.minus).minus).has (max u v)=true:=by
 have:=mL (x9 (mL hu) (mL hv))
 rwa[show -(min (-u) (-v))=max u v by grind] at this
theorem G9 {y:NS} {v:Rat} (hy:y.ok) (hv:y.has v=true) (hz:y.zero=false):y.inv.has v⁻¹=true:=by
 cases y with
 |e=>cases hv
 |i a b=>exact GG hy hv hz
def onQ (op:Nat) (u v:Rat) (n:Int):Rat:=
 match op with
 |0=>u+v
 |1=>u+ -v
 |2=>u*v
 |3=>u*v⁻¹
 |4=>min u v
 |5=>max u v
 |_=>if n < 0 then (u⁻¹)^(-n).toNat else u^n.toNat
theorem GS {o:Out} {C:NS} {q:Rat} (h:o.fin=.ok C) (hq:∀z,o=.ok z→z.has q=true):C.has q=true:=by
 cases o with
 |error e=>cases h
 | ok z=>
  rcases AW z with k |k<;>rw[k] at h<;>cases h
  exact hq _ rfl
theorem wA {x y:NS} {p:Int} {o:Out} {q:Rat} {z:NS} (gp:bad p=false) (hx:x.void=false) (hy:y.void=false) (h:rnd p x y o=.ok z) (ho:∀w,o=.ok w→w.ok∧w.has q=true):z.has q=true:=by
 unfold rnd Out.prec at h
 rw[gp,hx,hy] at h
 cases o with
 |error e=>cases h
 | ok w=>
  cases h
  exact xT (ho w rfl).1 (ho w rfl).2
theorem iD {x:NS} {q:Rat} (h:x.has q=true):x.void=false:=by
 cases x with
 |e=>cases h
 |i a b=>rfl
theorem op_has {op:Nat} {x y:RI} {n p:Int} {u v:Rat} (gp:bad p=false) (ho:op < 7) (hu:x.set.has u=true) (hv:op < 6→y.set.has v=true) {C:NS} (hC:opO op x y n p=.ok C):C.has (onQ op u v n)=true:=by
 have ox:=RI.set_ok x
 have oy:=RI.set_ok y
 have two:∀{o:Out} {q:Rat},x.fin2 y o=.ok C→(x.big=false→y.big=false→∀z,o=.ok z→z.has q=true)→C.has q=true:=by
  intro o q h hq
  unfold RI.fin2 at h
  cases g:x.big || y.big with
  |true=>rw[g] at h;cases h
  | false=>
   rw[g] at h
   obtain⟨g1,g2⟩:=Bool.or_eq_false_iff.1 g
   exact GS h (hq g1 g2)
 match op,ho with
 |0,_=>exact two hC fun _ _ z e=>wA gp (iD hu) (iD (hv (by decide))) e fun w k=>by cases k;exact⟨NS.ok_sum ox oy,HX hu (hv (by decide))⟩
 |1,_=>exact two hC fun _ _ z e=>wA gp (iD hu) (iD (hv (by decide))) e fun w k=>by cases k;exact⟨NS.ok_sum ox (NS.ok_minus oy),HX hu (mL (hv (by decide)))⟩
 |2,_=>exact two hC fun g1 g2 z e=>wA gp (iD hu) (iD (hv (by decide))) e fun w k=>by cases k;exact⟨(fK (RI.le g1) (RI.le g2)).1,yo hu (hv (by decide))⟩
 | 3,_=>
  exact two hC fun g1 g2 z e=>wA gp (iD hu) (iD (hv (by decide))) e fun w k=>by
   unfold divO at k
   cases hz:y.set.zero with
   |true=>rw[hz] at k;cases k
   | false=>
    rw[hz] at k
    cases k
    exact⟨(fK (RI.le g1) (jw (RI.le g2) (by decide))).1,yo hu (G9 oy (hv (by decide)) hz)⟩
 |4,_=>exact two hC fun _ _ z e=>by cases e;exact x9 hu (hv (by decide))
 |5,_=>exact two hC fun _ _ z e=>by cases e;exact Dc hu (hv (by decide))
 | 6,_=>
  have hC:x.fin (powR n p x.set)=.ok C:=hC
  unfold RI.fin at hC
  cases g:x.big with
  |true=>rw[g] at hC;cases hC
  | false =>
   rw[g] at hC
   refine GS hC fun z e=>?_
   show z.has (if n < 0 then (u⁻¹)^(-n).toNat else u^n.toNat)=true
   unfold powR Out.prec at e
   cases gn:badn n with
   |true=>rw[gn] at e;cases e
   | false=>
    rw[gn,gp] at e
    have e:hullO p.toNat (powO n x.set)=.ok z:=e
    by_cases hn:n < 0
    ·rw[if_pos hn]
     cases hz:x.set.zero with
     |true=>rw[mM hn hz] at e;cases e
     | false=>
      rw[lG hn hz] at e
      cases e
      exact xT (NS.ok_pow (pY hz ox)) (wu _ (pY hz ox) (G9 ox hu hz))
    ·rw[if_neg hn]
     rw[jz hn] at e
     cases e
     exact xT (NS.ok_pow ox) (wu _ ox hu)
set_option maxHeartbeats 4000000
theorem fin2_out {x y:RI} {o:Out} {z:NS} (h:x.fin2 y o=.ok z):x.big=false∧y.big=false∧o=.ok z:=by
 unfold RI.fin2 at h
 cases g:(x.big || y.big) with
 |true=>rw[g] at h;cases h
 | false=>
  obtain⟨g1,g2⟩:=Bool.or_eq_false_iff.1 g
  rw[g,cond_false] at h
  refine⟨g1,g2,?_⟩
  cases o with
  |error e=>cases h
  | ok w=>
   unfold Out.fin at h
   dsimp only at h
   cases e2:decide (w.le 2048) with
   |false=>rw[e2] at h;cases h
   |true=>rw[e2] at h;cases h;rfl
theorem rnd_set {p:Int} {x y:NS} {o:Out} {z:NS} (h:rnd p x y o=.ok z) (ho:∀w,o=.ok w→w.ok):z.ok:=by
 unfold rnd Out.prec at h
 cases g:bad p with
 |true=>rw[g] at h;cases h
 | false=>
  rw[g,cond_false] at h
  cases gv:(x.void || y.void) with
  |true=>rw[gv] at h;cases h;trivial
  | false=>
   rw[gv] at h
   cases o with
   |error e=>cases h
   |ok w=>cases h;exact NS.ok_hull (ho w rfl)
theorem mulE_ok {p:Int} {x y:RI} {z:NS} (h:mulE p x y=.ok z):z.ok:=by
 obtain⟨g1,g2,h⟩:=fin2_out h
 exact rnd_set h fun w e=>by cases e;exact(fK (RI.le g1) (RI.le g2)).1
theorem divE_ok {p:Int} {x y:RI} {z:NS} (h:divE p x y=.ok z):z.ok:=by
 obtain⟨g1,g2,h⟩:=fin2_out h
 refine rnd_set h fun w e=>?_
 unfold divO at e
 cases hz:y.set.zero with
 |true=>rw[hz] at e;cases e
 |false=>rw[hz] at e;cases e;exact(fK (RI.le g1) (jw (RI.le g2) (by decide))).1
theorem subE_ok {p:Int} {x y:RI} {z:NS} (h:subE p x y=.ok z):z.ok:=by
 obtain⟨g1,g2,h⟩:=fin2_out h
 exact rnd_set h fun w e=>by cases e;exact NS.ok_sum (RI.set_ok _) (NS.ok_minus (RI.set_ok _))
theorem elE_has {p:Int} {kk ki kj ij:RI} {z:NS} (gp:bad p=false) {a b c d:Rat} (h1:kk.set.has a=true) (h2:ki.set.has b=true) (h3:kj.set.has c=true) (h4:ij.set.has d=true) (h:elE p kk ki kj ij=.ok z):z.ri.set.has (d - b*c / a)=true:=by
 unfold elE at h
 cases e1:mulE p ki kj with
 |error _=>rw[e1] at h;cases h
 | ok x=>
  rw[e1] at h;dsimp only at h
  have q1:=op_has (op:=2) (x:=ki) (y:=kj) (n:=0) gp (by decide) h2 (fun _=>h3) e1
  cases e2:divE p x.ri kk with
  |error _=>rw[e2] at h;cases h
  | ok y=>
   rw[e2] at h;dsimp only at h
   have q2:=op_has (op:=3) (x:=x.ri) (y:=kk) (n:=0) gp (by decide) (by rw[NS.ri_set (mulE_ok e1)];exact q1) (fun _=>h1) e2
   have q3:=op_has (op:=1) (x:=ij) (y:=y.ri) (n:=0) gp (by decide) h4 (fun _=>by rw[NS.ri_set (divE_ok e2)];exact q2) h
   rw[NS.ri_set (subE_ok h)]
   have:onQ 1 d (onQ 3 (onQ 2 b c 0) a 0) 0=d - b*c / a:=by
    show d+ -(b*c*a⁻¹)=_
    rw[qAx];grind
   rwa[this] at q3
theorem dfG_pos {p:Int} {n:Nat} {A:Nat→Nat→Rat} (gp:bad p=false):∀(m k:Nat) (M:Nat→Nat→RI),k+m=n→dfG p n m k M→(∀a b,k≤a→a≤b→b < n→(M a b).set.has (elA A k a b)=true)→∀j,k≤j→j < n→0 < elA A j j j
 |0,k,M,h,_,_,j,h1,h2=>by omega
 | m + 1,k,M,h,hd,hM,j,h1,h2=>by
  obtain⟨d1,d2,d3⟩:=(show sgN (M k k).set=2∧elB p k n M∧dfG p n m (k+1) (elM p k M) from hd)
  by_cases e:j=k
  ·subst e
   have q:=(guess (hM j j (η _) (η _) h2)).2.1 d1
   unfold sgn3 at q
   split at q
   ·cases q
   ·split at q
    ·assumption
    ·cases q
  ·refine dfG_pos gp m (k+1) (elM p k M) (by omega) d3 (fun a b k1 k2 k3=>?_) j (by omega) h2
   unfold elM
   rw[if_pos ⟨by omega,k2⟩]
   have hok:=d2 a b (by omega) k2 k3
   cases ez:elE p (M k k) (M k a) (M k b) (M a b) with
   |error _=>rw[ez] at hok;cases hok
   | ok z=>
    exact elE_has gp (hM k k (η _) (η _) (by omega)) (hM k a (η _) (by omega) (by omega)) (hM k b (η _) (by omega) k3) (hM a b (by omega) k2 k3) ez
theorem dfG_form {p:Int} {n:Nat} {M:Nat→Nat→RI} {A:Nat→Nat→Rat} {v:Nat→Rat} (gp:bad p=false) (hd:dfG p n n 0 M) (hs:∀i j,i < n→j < n→A i j=A j i) (hM:∀a b,a < n→b < n→(M a b).set.has (A a b)=true) (hv:∃i,i < n∧v i≠0):0 < qf A v 0 n:=by
 have key:∀B:Nat→Nat→Rat,(∀i j,B i j=B j i)→(∀i j,i < n→j < n→B i j=A i j)→0 < qf A v 0 n:=fun B hB hAB=>by
  have e:qf A v 0 n=qf B v 0 n:=by
   unfold qf
   exact sm_congr _ _ fun i _ h1=>sm_congr _ _ fun j _ h2=>by rw[hAB i j (by omega) (by omega)]
  rw[e]
  have hp:=dfG_pos (A:=B) gp n 0 M (by omega) hd (fun a b _ h2 h3=>by
   show(M a b).set.has (B a b)=true
   rw[hAB a b (by omega) h3];exact hM a b (by omega) h3)
  obtain⟨i,h1,h2⟩:=hv
  exact(qf_pos hB n (fun k hk=>hp k (by omega) hk) n 0 (by omega)).2 ⟨i,by omega,h1,h2⟩
 refine key (fun i j=>if i < n∧j < n then A i j else 0) (fun i j=>?_) (fun i j h1 h2=>if_pos ⟨h1,h2⟩)
 by_cases h:i < n∧j < n
 ·rw[if_pos h,if_pos ⟨h.2,h.1⟩];exact hs i j h.1 h.2
 ·rw[if_neg h,if_neg (fun q=>h ⟨q.2,q.1⟩)]
theorem dfO_yes {p:Int} {L:List (List RI)} (h:dfO p L=(true,0)):L.length≤6∧0≤p∧p≤128∧(∀(i:Nat) (row:List RI),L[i]?=some row→row.length=L.length)∧dfG p L.length L.length 0 (atL L):=by
 unfold dfO at h
 cases g:(decide (6 < L.length) || decide (p < 0) || decide (128 < p)) with
 |true=>rw[g] at h;cases h
 | false =>
  rw[g,cond_false] at h
  rw[Bool.or_eq_false_iff,Bool.or_eq_false_iff,decide_eq_false_iff_not,decide_eq_false_iff_not,decide_eq_false_iff_not] at g
  cases g2:L.any (fun r=>r.length != L.length) with
  |true=>rw[g2] at h;cases h
  | false =>
   rw[g2,cond_false] at h
   cases g3:L.any (fun r=>r.any RI.big) with
   |true=>rw[g3] at h;cases h
   | false=>
    rw[g3,cond_false] at h
    cases g4:L.any (fun r=>r.any (fun x=>x.set.void)) with
    |true=>rw[g4] at h;cases h
    | false=>
     rw[g4,cond_false] at h
     refine⟨by omega,by omega,by omega,fun i row hi=>?_,?_⟩
     ·have:=List.any_eq_false.1 g2 row (List.mem_of_getElem? hi)
      simpa using this
     ·exact @of_decide_eq_true _ (Classical.propDecidable _) (congrArg Prod.fst h)
open Go.Proofs
set_option maxRecDepth 100000
theorem GJ {h0 h:PH} [Le h0 h] {a:Option Addr} {l c e:Nat} (hd:N16 h0 (.slice a l c) e):Spec mach 42 #[.agg #[.bool false,.slice none 0 0,.slice a l c]] h (fun v h'=>N16 h' v (dz e)) NP:=by
 have ld:=hd.len0
 refine Spec.go [] Tryz.func42 rfl rfl (by kernel_rfl) fun C _=>?_
 try simp(maxSteps:=999999) (disch:=omega) only[go_sem,ξ,ζ]
 by_cases h0:e=0
 ·try simp(maxSteps:=999999) (disch:=omega) only[go_sem,ξ,ζ]
  refine caN (by exact bQ (n:=1) (by decide)) ?_;rintro v1 h1 s1 hv1
  try simp(maxSteps:=999999) (disch:=omega) only[go_sem,ξ,ζ]
  rw[h0];exact hv1
 ·try simp(maxSteps:=999999) (disch:=omega) only[go_sem,ξ,ζ]
  rw[my h0];exact hd.to
theorem Slim_spec {h0 h:PH} [Le h0 h] {v:Value} {neg:Bool} {n d:Nat} (hv:Rw h0 v neg n d):Spec mach 12 #[v] h (fun r _=>∃b,r=.bool b∧(b=true→bl n≤192∧bl d≤192)) NP:=by
  obtain⟨a,c,xs,a',c',ys,rfl,ha,ha',hn,hd,hsx,hsy⟩:=hv
  have b1:=mo ha.lt
  have b2:=mo ha'.lt
  rw[hn] at b1
  rw[hd] at b2
  by_cases h1:(xs.length:Int)≤6
  · by_cases h2:(ys.length:Int)≤6
    · refine Spec.go [] Tryz.func12 rfl rfl (by kernel_rfl) fun C _=>?_
      simp(disch:=omega) only[go_sem,ξ,ζ,h1,h2,decide_true]
      all_goals exact⟨_,rfl,fun _=>by omega⟩
    · refine Spec.go [] Tryz.func12 rfl rfl (by kernel_rfl) fun C _=>?_
      simp(disch:=omega) only[go_sem,ξ,ζ,h1,h2,decide_true,decide_false]
      all_goals exact⟨_,rfl,fun e=>by cases e⟩
  · refine Spec.go [] Tryz.func12 rfl rfl (by kernel_rfl) fun C _=>?_
    simp(disch:=omega) only[go_sem,ξ,ζ,h1,decide_false]
    all_goals exact⟨_,rfl,fun e=>by cases e⟩
theorem ZeroQ_spec {h0 h:PH} [Le h0 h] {v:Value} {neg:Bool} {n d:Nat} (hv:Rw h0 v neg n d):Spec mach 13 #[v] h (fun r _=>r=.bool (decide (n=0))) NP:=by
 obtain⟨a,c,xs,a',c',ys,rfl,ha,ha',hn,hd,hsx,hsy⟩:=hv
 refine Spec.go [] Tryz.func13 rfl rfl (by kernel_rfl) fun C _=>?_
 simp(disch:=omega) only[go_sem,ξ,ζ]
 refine caN (by exact jD ha rfl (by omega) hn) ?_;rintro _ h1 _ hv1;obtain⟨_,v1_l,_,rfl,hv1⟩:=hv1.sl
 simp(disch:=omega) only[go_sem,ξ,ζ]
 have l1:=hv1.len0
 by_cases hn0:n=0
 ·obtain rfl:=l1.2 hn0
  rw[decide_eq_true hn0]
  simp(disch:=omega) only[go_sem,ξ,ζ]
  all_goals rfl
 ·have n1:¬v1_l=0:=fun k=>hn0 (l1.1 k)
  rw[decide_eq_false hn0]
  simp(disch:=omega) only[go_sem,ξ,ζ]
  all_goals rfl
theorem EqualG_spec {h0 h:PH} [Le h0 h] {v w:Value} {neg neg':Bool} {n d m k:Nat} (hv:Rw h0 v neg n d) (hw:Rw h0 w neg' m k):Spec mach 14 #[v,w] h (fun r _=>∃b,r=.bool b∧(b=true→qof neg n d=qof neg' m k)) NP:=by
 obtain⟨a,c,xs,a',c',ys,rfl,ha,ha',hn,hd,hsx,hsy⟩:=hv
 obtain⟨b,e,zs,b',e',ws,rfl,hb,hb',hm,hk,hsz,hsw⟩:=hw
 have bn:bl n≤2^37:=by have:=mo ha.lt;rw[hn] at this;omega
 have bd:bl d≤2^37:=by have:=mo ha'.lt;rw[hd] at this;omega
 have bm:bl m≤2^37:=by have:=mo hb.lt;rw[hm] at this;omega
 have bk:bl k≤2^37:=by have:=mo hb'.lt;rw[hk] at this;omega
 have bz:=bl_dz d
 have by_:=bl_dz k
 refine Spec.go [(1,.o [0,1,3,4,2,5,6,7]),(4,.o [0,1,5,6,2,3,4,7,8,9,10,11])] Tryz.func14 rfl rfl (by kernel_rfl) fun C _=>?_
 simp(disch:=omega) only[go_sem,ξ,ζ]
 refine caN (by exact jD ha rfl (by omega) hn) ?_;rintro _ h1 _ hv1;obtain⟨_,v1_l,_,rfl,hv1⟩:=hv1.sl
 simp(disch:=omega) only[go_sem,ξ,ζ]
 refine caN (by exact jD hb rfl (by omega) hm) ?_;rintro _ h2 _ hv2;obtain⟨_,v2_l,_,rfl,hv2⟩:=hv2.sl
 simp(disch:=omega) only[go_sem,ξ,ζ]
 have l1:=hv1.len0
 have l2:=hv2.len0
 by_cases hn0:n=0
 ·obtain rfl:=l1.2 hn0
  by_cases hm0:m=0
  ·obtain rfl:=l2.2 hm0
   simp(disch:=omega) only[go_sem,ξ,ζ]
   all_goals exact⟨_,rfl,fun _=>by subst hn0;subst hm0;unfold qof sgn;simp⟩
  ·have n2:¬v2_l=0:=fun k=>hm0 (l2.1 k)
   have n3:¬(0:Nat)=v2_l:=fun k=>n2 k.symm
   simp(disch:=omega) only[go_sem,ξ,ζ]
   all_goals exact⟨_,rfl,fun e=>by cases e⟩
 ·have n1 :¬v1_l=0:=fun k=>hn0 (l1.1 k)
  by_cases hm0:m=0
  ·obtain rfl:=l2.2 hm0
   simp(disch:=omega) only[go_sem,ξ,ζ]
   all_goals exact⟨_,rfl,fun e=>by cases e⟩
  ·have n2:¬v2_l=0:=fun k=>hm0 (l2.1 k)
   simp(disch:=omega) only[go_sem,ξ,ζ]
   refine caN (by exact jD (ha'.to (h':=h2)) rfl (by omega) hd) ?_;rintro _ h3 _ hv3;obtain⟨_,_,_,rfl,hv3⟩:=hv3.sl
   simp(disch:=omega) only[go_sem,ξ,ζ]
   refine caN (by exact GJ hv3) ?_;rintro _ h4 _ hv4;obtain⟨_,_,_,rfl,hv4⟩:=hv4.sl
   simp(disch:=omega) only[go_sem,ξ,ζ]
   refine caN (by exact jD (hb'.to (h':=h4)) rfl (by omega) hk) ?_;rintro _ h5 _ hv5;obtain⟨_,_,_,rfl,hv5⟩:=hv5.sl
   simp(disch:=omega) only[go_sem,ξ,ζ]
   refine caN (by exact GJ hv5) ?_;rintro _ h6 _ hv6;obtain⟨_,_,_,rfl,hv6⟩:=hv6.sl
   simp(disch:=omega) only[go_sem,ξ,ζ]
   cases hb2:neg == neg' with
   | false=>
    simp(disch:=omega) only[go_sem,ξ,ζ,hb2]
    all_goals exact⟨_,rfl,fun e=>by cases e⟩
   | true=>
    obtain rfl:neg=neg':=by simpa using hb2
    simp(disch:=omega) only[go_sem,ξ,ζ,hb2]
    refine caN (by exact aV (hv1.to (h':=h6)) hv6 (by omega) (by omega)) ?_;rintro _ h7 _ hv7;obtain⟨_,_,_,rfl,hv7⟩:=hv7.sl
    simp(disch:=omega) only[go_sem,ξ,ζ]
    refine caN (by exact aV (hv2.to (h':=h7)) (hv4.to (h':=h7)) (by omega) (by omega)) ?_;rintro _ h8 _ hv8;obtain⟨_,_,_,rfl,hv8⟩:=hv8.sl
    simp(disch:=omega) only[go_sem,ξ,ζ]
    refine caN (by exact eI (hv7.to (h':=h8)) hv8) ?_;rintro v9 h9 s9 q9;subst q9
    simp(disch:=omega) only[go_sem,ξ,ζ]
    by_cases hc:n*dz k=m*dz d
    ·exact⟨_,rfl,fun _=>by
      unfold qof sgn
      rw[Rat.mkRat_eq_iff (dz_ne _) (dz_ne _)]
      have:(n:Int)*(dz k:Nat)=(m:Int)*(dz d:Nat):=by exact_mod_cast hc
      cases neg<;>simp<;>grind⟩
    ·have hc3:¬cmp3 (n*dz k) (m*dz d)=0:=fun e=>hc (by unfold cmp3 at e;split at e<;>(try split at e)<;>omega)
     exact⟨_,rfl,fun e=>by simp[hc3] at e⟩
end Go.Q
namespace Go.Q
open Go.Proofs Go.RowKit
attribute [local go_sem] Oper.semAt_some
set_option maxRecDepth 100000
set_option maxHeartbeats 16000000
def dfR (p:Int) (L:List (List RI)) (r:Value) (_:PH):Prop:=r=.tuple #[.bool (dfO p L).1,.int .i64 (dfO p L).2]
def dfArg (p:Int) (L:List (List RI)):Prop:=6 < L.length∨p < 0∨128 < p
def dfLen (L:List (List RI)):Prop:=∀(i:Nat) (row:List RI),L[i]?=some row→row.length=L.length
theorem dfA {p:Int} {L:List (List RI)} (h:¬dfArg p L):(decide (6 < L.length) || decide (p < 0) || decide (128 < p))=false:=by
 unfold dfArg at h
 rw[Bool.or_eq_false_iff,Bool.or_eq_false_iff,decide_eq_false_iff_not,decide_eq_false_iff_not,decide_eq_false_iff_not];omega
theorem dfL {L:List (List RI)} (h:dfLen L):L.any (fun r=>r.length != L.length)=false:=List.any_eq_false.2 fun r hr=>by
 obtain⟨i,hi⟩:=List.mem_iff_getElem?.1 hr;simp[h i r hi]
theorem dfO_arg {p:Int} {L:List (List RI)} (h:dfArg p L):dfO p L=(false,2):=by
 unfold dfO
 rw[show(decide (6 < L.length) || decide (p < 0) || decide (128 < p))=true by unfold dfArg at h;rw[Bool.or_eq_true,Bool.or_eq_true,decide_eq_true_eq,decide_eq_true_eq,decide_eq_true_eq];omega,cond_true]
theorem dfO_len {p:Int} {L:List (List RI)} (h:¬dfArg p L) {i:Nat} {row:List RI} (hi:L[i]?=some row) (hl:row.length≠L.length):dfO p L=(false,2):=by
 unfold dfO
 rw[dfA h,cond_false,show L.any (fun r=>r.length != L.length)=true from List.any_eq_true.2 ⟨row,List.mem_of_getElem? hi,by simpa using hl⟩,cond_true]
theorem dfO_big {p:Int} {L:List (List RI)} (h:¬dfArg p L) (hl:dfLen L) (hb:L.any (fun r=>r.any RI.big)=true):dfO p L=(false,1):=by
 unfold dfO
 rw[dfA h,cond_false,dfL hl,cond_false,hb,cond_true]
theorem dfO_void {p:Int} {L:List (List RI)} (h:¬dfArg p L) (hl:dfLen L) (hb:nbB L L.length 0) (hv:voidB L L.length 0=true):dfO p L=(false,0):=by
 unfold dfO
 rw[dfA h,cond_false,dfL hl,cond_false,nbB_any hb,cond_false,←voidB_all,hv,cond_true]
theorem dfO_go {p:Int} {L:List (List RI)} (h:¬dfArg p L) (hl:dfLen L) (hb:nbB L L.length 0) (hv:voidB L L.length 0=false) {b:Bool} (hg:b=true↔dfG p L.length L.length 0 (atL L)):dfO p L=(b,0):=by
 unfold dfO
 rw[dfA h,cond_false,dfL hl,cond_false,nbB_any hb,cond_false,←voidB_all,hv,cond_false]
 refine Prod.ext ?_ rfl
 cases b with
 |true=>exact @decide_eq_true _ (Classical.propDecidable _) (hg.1 rfl)
 |false=>exact @decide_eq_false _ (Classical.propDecidable _) (fun k=>by cases hg.2 k)
theorem dfG_succ {p:Int} {n m k:Nat} {M:Nat→Nat→RI}:dfG p n (m+1) k M↔sgN (M k k).set=2∧elB p k n M∧dfG p n m (k+1) (elM p k M):=Iff.rfl
theorem Definite_spec {h0 h:PH} [l0:Le h0 h] {v:Value} {L:List (List RI)} {p:Int} (hv:Matv h0 v L):Spec mach 8 #[v,.int .i64 p] h (dfR p L) NP:=by
 refine⟨by kernel_rfl,fun w hw hg=>?_⟩
 refine(callsIn_wide (n:=8)).1 ?_
 show CallsIn Fence.wide 8 Tryz.prog _ _ w _
 have hdd:∀k:Nat,(Fence.wide.depth.isSome=true→1≤k):=fun k h=>by cases h
 have htk2:tk mach.P 42=some none:=by kernel_rfl
 have fn1:Fence.wide.fn 30:=trivial
 have fn2:Fence.wide.fn 31:=trivial
 have fn3:Fence.wide.fn 32:=trivial
 have fn4:Fence.wide.fn 33:=trivial
 have hmix:Tryz.prog.follows .mixedOrders=true:=by kernel_rfl
 obtain⟨a,c,ra,rc,C,rfl,hl,hc⟩:=hv
 obtain⟨n,hn⟩:∃n,L.length=n:=⟨_,rfl⟩
 have hgetR:∀i,i < n→∃row,L[i]?=some row:=fun i hi=>⟨_,List.getElem?_eq_getElem (by omega)⟩
 obtain⟨blk,off,hA⟩:∃blk off,∀i,i < n→a=some ⟨blk,off,none⟩:=by
  cases n with
  |zero=>exact⟨0,0,fun i hi=>by omega⟩
  | succ n=>
   obtain⟨row,hr⟩:=hgetR 0 (by omega)
   obtain⟨_,blk,off,e,_⟩:=hc 0 row hr
   exact⟨blk,off,fun _ _=>e⟩
 rw[hn] at hl ⊢
 refine callsIn_of_wp Tryz.func8 rfl trivial ?_ rfl
 simp only[Tryz.ntmps8,List.size_toArray,List.length_cons,List.length_nil,ζ,Nat.reduceSub,Array.replicate_succ,Array.replicate_zero,List.push_toArray,List.append_toArray,List.nil_append,List.cons_append]
 have nw:New w.heap.size h h:=fun _ h=>.inl h
 have hP:∀{W:World} {hp:PH} {v:Value},Below w.heap.size w W→Has W hp→Sub h hp→New w.heap.size h hp→v=.tuple #[.bool (dfO p L).1,.int .i64 (dfO p L).2]→Post w h (dfR p L) NP (.returned v) W:=fun k1 k2 k3 k4 k5=>⟨_,k1,k2,k3,k4,k5⟩
 by_cases hq:dfArg p L
 ·have:=dfO_arg hq
  unfold dfArg at hq
  by_cases h6:(6:Int) < n
  ·gi_wp2
   refine bodyPost_ret (results_tmp2 rfl _ _ _) rfl ?_
   exact hP (Below.refl _ _) hw (Sub.refl _) nw (by rw[this];rfl)
  by_cases hp0:p < 0
  ·gi_wp2
   refine bodyPost_ret (results_tmp2 rfl _ _ _) rfl ?_
   exact hP (Below.refl _ _) hw (Sub.refl _) nw (by rw[this];rfl)
  have hp1:128 < p:=by omega
  gi_wp2
  refine bodyPost_ret (results_tmp2 rfl _ _ _) rfl ?_
  exact hP (Below.refl _ _) hw (Sub.refl _) nw (by rw[this];rfl)
 have⟨h6,hp0,hp1⟩:¬(6:Int) < n∧¬p < 0∧¬128 < p:=by unfold dfArg at hq;omega
 gi_wp2
 gi_loopw [32] (fun q wr=>∃(I:Int) (i:Nat),(i:Int)=I∧i≤n∧q=.int .i64 I∧w=wr∧∀a row,a < i→L[a]?=some row→row.length=n) (fun q _=>n - (RowKit.intOf q).toNat)
 case atStart=>exact⟨0,0,rfl,by omega,rfl,rfl,fun _ _ h=>by omega⟩
 case round=>
  obtain⟨I,i,eI,hi1,rfl,rfl,hlen⟩:=hrel
  have hI1:0≤I:=by omega
  have eI2:I.toNat=i:=by omega
  by_cases h2:I < n
  ·obtain⟨row,hr⟩:=hgetR i (by omega)
   obtain⟨hr1,blk',off',ea,hat,_⟩:=hc i row hr
   have eA:=hA i (by omega)
   rw[eA] at ea
   cases ea
   subst eA
   have hat:=hw.cell (l0.sub.at hat)
   by_cases h3:row.length=n
   ·have h3i:(row.length:Int)=n:=by omega
    gi_wp2
    go_roundw
    case rel=>exact⟨_,i+1,by omega,by omega,rfl,trivial,fun a r ha hr'=>by
     rcases qBj a i with g |g
     ·exact hlen a r g hr'
     ·obtain rfl:a=i:=by omega
      rw[hr] at hr';cases hr';exact h3⟩
    case measure=>simp[RowKit.intOf];omega
   ·have h3i:(row.length:Int)≠n:=by omega
    gi_wp2
    refine bodyPost_ret (results_tmp2 rfl _ _ _) rfl ?_
    exact hP (Below.refl _ _) hw (Sub.refl _) nw (by rw[dfO_len hq hr (by omega)];rfl)
  ·obtain rfl:n=i:=by omega
   subst eI
   have hLen:dfLen L:=fun a r h=>by rw[hn];exact hlen a r (by have:=(List.getElem?_eq_some_iff.1 h).1;omega) h
   have hin:(Tryz.prog.info? 42).map (fun i=>(i.zero,i.size,i.bytes))=some (some (.slice none 0 0),1,24):=by kernel_rfl
   obtain⟨ti,hti,hti2⟩:=Option.map_eq_some_iff.1 hin
   simp only[Prod.mk.injEq] at hti2
   obtain⟨tz,ts,tb⟩:=hti2
   obtain⟨W1,hrun,⟨hx1,hx2⟩,hx3⟩:=run_make_full (P:=Tryz.prog) w w.heap.size 22 42 ti (.slice none 0 0) 1 (Tryz.underlying22) hti tz ts .i64 .i64 n (by rw[tb];omega) (by unfold maxLen;omega) (η _)
   rcases hx2 with⟨e,_⟩ |⟨g0,cap0,cur,e,hb0,hgg,hcap,hmax,hsz,htk⟩
   ·cases e
   cases e
   have hb1:Below w.heap.size w W1:=(Below.refl _ w).grown hx3 (η _) (fun k e=>by cases e)
   have hB0:BlSt w h n w.heap.size 42 41 (atL L) 0 [] W1 h (fun _=>0) (fun _=>0) (.slice none 0 0):=by
    have hcur:∀a,a < n→cur.toList[a]?=some (.slice none 0 0):=fun a ha=>by
     have e1:cur.toList=(madeCells (Value.slice none 0 0).cells (n*1)).toList:=by rw[←htk,qAr (by simpa using Nat.le_of_eq hsz)]
     rw[e1]
     have e2:(Value.slice none 0 0).cells=#[.slice none 0 0]:=rfl
     rw[e2]
     simp[madeCells,ha,Nat.mod_one]
    refine⟨Sub.refl _,nw,hb1,⟨hw.below hb1,fun a ha=>by omega,fun a ha=>by omega,fun a ha=>by omega,fun a b ha=>by omega⟩,fun a ha=>by omega,⟨cur.toList,by simpa using hgg,by simpa using hsz,fun h=>hcur 0 h,fun a _ h=>hcur a h⟩,?_,η _,⟨[],World.ownsRow_nil _ _ _ _,RowOf.nil⟩,fun b e=>by simp[Value.ownBlock] at e⟩
    cases e:h w.heap.size with
    |none=>rfl
    |some cs=>have:=hw.lt e;omega
   gi_wp2
   clear hrun
   gi_loopw [47,9] (fun q f W=>∃(I:Int) (i:Nat),(i:Int)=I∧i≤n∧q=.int .i64 I∧f=.bool (voidB L i 0)∧nbB L i 0∧∃hp g cp,BlSt w h n w.heap.size 42 41 (atL L) i [] W hp g cp (.slice none 0 0)) (fun q _ _=>n - (RowKit.intOf q).toNat)
   case atStart=>exact⟨0,0,rfl,by omega,rfl,by unfold voidB;simp,fun a b r y _ _ k=>by omega,h,_,_,hB0⟩
   case round=>
    clear hB0 hcap htk hsz hgg hx3 hb1
    obtain⟨I,i,eI,hi1,rfl,rfl,hnb,hp,g,cp,s⟩:=hrel
    have hI1:0≤I:=by omega
    have eI2:I.toNat=i:=by omega
    by_cases h2:I < n
    ·obtain⟨row,hr⟩:=hgetR i (by omega)
     obtain⟨hr1,blk',off',ea,hat,hrow⟩:=hc i row hr
     have eA:=hA i (by omega)
     rw[eA] at ea
     cases ea
     have hrn:=hlen i row (by omega) hr
     obtain⟨x0,hx0⟩:∃x,row[0]?=some x:=⟨_,List.getElem?_eq_getElem (by omega)⟩
     obtain⟨_,_,rb,ro,era,_⟩:=hrow 0 x0 hx0
     rw[era,hrn] at hat
     have hat:=s.m.has.cell (s.sub.at (l0.sub.at hat))
     subst eA
     gi_wp2
     gi_loopw [54,9] (fun q f W=>∃(J:Int) (j:Nat),(j:Int)=J∧j≤n∧q=.int .i64 J∧f=.bool (voidB L i j)∧nbB L i j∧∃hp g cp v,BlSt w h n w.heap.size 42 41 (atL L) i (row.take j) W hp g cp v) (fun q _ _=>n - (RowKit.intOf q).toNat)
     case atStart=>exact⟨0,0,rfl,by omega,rfl,rfl,hnb,hp,g,cp,_,by rw[List.take_zero];exact s⟩
     case round=>
      clear s hnb hat
      obtain⟨J,j,eJ,hj1,rfl,rfl,hnb,hp,g,cp,v,s⟩:=hrel
      have hJ1:0≤J:=by omega
      have eJ2:J.toNat=j:=by omega
      by_cases h3:J < n
      ·obtain⟨x,hx⟩:∃x,row[j]?=some x:=⟨_,List.getElem?_eq_getElem (by omega)⟩
       obtain⟨⟨b1,a1,m1,k1,a2,m2,k2,b2,a3,m3,k3,a4,m4,k4,e1,e2,eC⟩,ivx,rb',ro',era',hcell⟩:=hrow j x hx
       rw[era] at era'
       cases era'
       rw[eC] at hcell ivx
       haveI l1:Le h hp:=⟨s.sub⟩
       haveI l2:Le h0 hp:=Le.tr l0 l1
       obtain⟨q0,q1,q2,q3,q4,q5,q6,q7⟩:=c8 (w:=wr) (fun t u hu=>s.m.has.cell (l2.sub.at (hcell t u hu)))
       have iv:=ivx.to (h':=hp)
       have kE:=sI (h0:=hp) (h:=hp) iv
       unfold RI.bo at kE
       cases hbig:x.big with
       | true=>
        rw[hbig,cond_true] at kE
        gi_wp2_with (gi_at_call 30;refine(callsIn_wide.2 (kE.run _ (s.alloc _).m.has (hg.trans s.sub))).mono ?_;rintro e W2 hP2;obtain⟨_,h1,rfl,t1,t2,t3,t4,rfl⟩:=post_ret hP2;have s2:=(s.alloc _).call t1 t2 t3 t4;have hbx:=t1.block wr.heap.size (by simp);rw[World.alloc_heap_new] at hbx)
        refine bodyPost_ret (results_tmp2 rfl _ _ _) rfl ?_
        exact hP s2.below s2.m.has s2.sub s2.new (by rw[dfO_big hq hLen (big_any hr hx hbig)];rfl)
       | false=>
        rw[hbig,cond_false] at kE
        obtain⟨V,hV⟩:∃V,voidB L i j=V:=⟨_,rfl⟩
        obtain⟨U,hU⟩:∃U,x.set.void=U:=⟨_,rfl⟩
        rw[hU] at kE
        rw[hV]
        cases V
        all_goals
         gi_wp2_with (gi_at_call 30;refine(callsIn_wide.2 (kE.run _ (s.alloc _).m.has (hg.trans s.sub))).mono ?_;rintro e W2 hP2;obtain⟨_,h1,rfl,t1,t2,t3,t4,rfl⟩:=post_ret hP2;have s2:=(s.alloc _).call t1 t2 t3 t4;have hbx:=t1.block wr.heap.size (by simp);rw[World.alloc_heap_new] at hbx)
         have s3:=s2.drew
         have F:=fun w' (hb:Below W2.drew.heap.size W2.drew w')=>And.intro (cellB hb (s3.cell (by omega))) (let q:=fun t=>bx_cell hbx t;And.intro (cellB (w:=W2.drew) hb (q 0)) (And.intro (cellB (w:=W2.drew) hb (q 1)) (And.intro (cellB (w:=W2.drew) hb (q 2)) (And.intro (cellB (w:=W2.drew) hb (q 3)) (And.intro (cellB (w:=W2.drew) hb (q 4)) (And.intro (cellB (w:=W2.drew) hb (q 5)) (And.intro (cellB (w:=W2.drew) hb (q 6)) (cellB (w:=W2.drew) hb (q 7)))))))))
         refine wpIn_region_b hmix ?_
         refine tkP 0 rfl rfl (by kernel_rfl) (fun _ _ _ h=>h) (fun _=>rfl) (v:=?_) (fun w'=>?_) ?_
         rotate_left
         ·go_simp<;>rfl
         go_simp
         refine tkP 1 rfl rfl (by kernel_rfl) (fun _ _ _ h=>h) (fun _=>rfl) (v:=?_) (fun w'=>?_) ?_
         rotate_left
         ·go_simp<;>rfl
         go_simp
         refine tkP 2 rfl rfl (by kernel_rfl) (fun _ _ _ h=>h) (fun _=>rfl) (v:=?_) (fun w'=>?_) ?_
         rotate_left
         ·go_simp<;>rfl
         go_simp
         refine tkP 3 rfl rfl (by kernel_rfl) (fun _ _ _ h=>h) (fun _=>rfl) (v:=?_) (fun w'=>?_) ?_
         rotate_left
         ·go_simp<;>rfl
         go_simp
         refine tkP 4 rfl rfl (by kernel_rfl) (fun _ _ _ h=>h) (fun _=>rfl) (v:=?_) (fun w'=>?_) ?_
         rotate_left
         ·go_simp<;>rfl
         go_simp
         refine tkR 5 rfl rfl (by kernel_rfl) (fun _ _ _ h=>h) (fun _=>rfl) (v:=?_) (fun w' hb=>?_) ?_
         rotate_left
         ·obtain⟨f0,f1,f2,f3,f4,f5,f6,f7,f8⟩:=F w' hb
          go_simp<;>rfl
         go_simp
         refine tkR 6 rfl rfl (by kernel_rfl) (fun _ _ _ h=>h) (fun _=>rfl) (v:=?_) (fun w' hb=>?_) ?_
         rotate_left
         ·obtain⟨f0,f1,f2,f3,f4,f5,f6,f7,f8⟩:=F w' hb
          go_simp<;>rfl
         go_simp
         clear F
         haveI l3:Le hp h1:=⟨t3⟩
         have kO:=Own_spec (h0:=h1) (h:=h1) (iv.to (h':=h1))
         refine tpOne 7 rfl rfl (by kernel_rfl) fun K' hK'=>?_
         go_simp
         refine(callsIn_wide.2 (kO.run _ s3.m.has (hg.trans s3.sub))).mono ?_
         intro e W3 hP3;obtain⟨u,h2',rfl,r1,r2,r3,r4,r⟩:=post_ret hP3;clear hP3
         have s4:=s3.call r1 r2 r3 r4
         obtain⟨o2,o3,o4,o5,o6,o7,o9,o10,o11,o12,o13,o14,rfl,_,_⟩:=r.sa
         refine hK' _ _ ⟨.inr (.inr r1),?_⟩
         clear hK' K'
         go_simp
         refine tpOne 8 rfl rfl (by kernel_rfl) fun K' hK'=>?_
         go_simp
         refine hK' _ _ ⟨.inr (.inr ((Below.refl _ _).alloc (η _) _)),?_⟩
         clear hK' K'
         go_simp
         have s5:=s4.alloc (.cells [.bool x.n1,.slice o2 o3 o4,.slice o5 o6 o7,.bool x.n2,.slice o9 o10 o11,.slice o12 o13 o14,.bool x.l,.bool x.u].toArray 41)
         obtain⟨xs,hxs,hR⟩:=s5.own
         obtain⟨ei,ti2,z0,hU2,hi0,hz0,hz1,hz2,_,hy1,hy2⟩:=mkN_some (P:=Tryz.prog) (T:=42) (sz:=8) (by kernel_rfl)
         obtain rfl:ei=41:=by have:=hU2.symm.trans Tryz.underlying42;simpa using this
         refine tpOne 9 rfl rfl (by kernel_rfl) fun K' hK'=>?_
         refine inAppend _ _ 42 rfl w.heap.size 41 ti2 z0 8 ti2.bytes hU2 hi0 hz0 hz1 rfl hz2 (by decide) v _ xs rfl hxs ⟨W3.heap.size,0,none⟩ 1 1 [.bool x.n1,.slice o2 o3 o4,.slice o5 o6 o7,.bool x.n2,.slice o9 o10 o11,.slice o12 o13 o14,.bool x.l,.bool x.u] rfl rfl ?_ (by simp[Value.oneCell']) (by rw[List.length_take];unfold maxLen;omega) ?_ s5.below.size ?_
         ·exact fun t u hu=>new_cells rfl #[.bool x.n1,.slice o2 o3 o4,.slice o5 o6 o7,.bool x.n2,.slice o9 o10 o11,.slice o12 o13 o14,.bool x.l,.bool x.u] _ t u hu
         ·rw[List.length_take]
          exact χ (qAk (show min j row.length+1≤8 by omega) hy2) (by decide)
         intro v' w1 hown hgrow hat2
         refine hK' _ _ ⟨.inl rfl,?_⟩
         clear hK' K'
         go_simp
         refine tkP 10 rfl rfl (by kernel_rfl) (fun _ _ _ h=>h) (fun _=>rfl) (v:=?_) (fun w'=>?_) ?_
         rotate_left
         ·go_simp<;>rfl
         go_simp
         obtain⟨ds,hds,hdl⟩:=s5.wbAt hgrow
         obtain⟨g',cap',e'⟩:=ownsRow_succ hown
         refine tpOne 11 rfl rfl (by kernel_rfl) fun K' hK'=>?_
         refine wpIn_store_box (M:=mach) rfl w.heap.size i [v'] _ rfl (by go_simp<;>rfl) (by subst e';go_simp<;>rfl) htk2 rfl (by subst e';rfl) hds (by simp;omega) ?_
         intro W5 hW5 hg5
         have s6:=s5.app (by omega) hR hxs.1 rfl (x:=x) r hown hgrow hat2 (fun ds' h=>by rw[hds] at h;cases h;exact hW5) hg5
         refine hK' _ _ ⟨.inl rfl,?_⟩
         clear hK' K'
         go_simp
         refine doneB (by kernel_rfl) ?_ 0
         gi_wp2
         go_roundw
         case rel=>exact⟨_,j+1,by omega,by omega,rfl,by rw[voidB_next hr hx,hV,hU];simp,nbB_next hnb hr hx hbig,h2',g,cp,_,by rw[List.take_succ_eq_append_getElem (List.getElem?_eq_some_iff.1 hx).1,(List.getElem?_eq_some_iff.1 hx).2];exact s6⟩
         case measure=>simp[RowKit.intOf];omega
      ·gi_wp2
       obtain rfl:n=j:=by omega
       obtain⟨g',cp',s'⟩:=s.next (by omega) (by rw[List.length_take];omega) (fun j x h=>by
        rw[List.getElem?_take] at h
        split at h
        ·exact atL_eq hr h
        ·cases h)
       go_roundw
       case rel=>exact⟨_,i+1,by omega,by omega,rfl,by rw[voidB_row hr,hrn],nbB_row (by rw[hrn];exact hnb) hr,hp,g',cp',s'⟩
       case measure=>simp[RowKit.intOf];omega
    ·obtain rfl:n=i:=by omega
     have hnb':nbB L L.length 0:=by rw[hn];exact hnb
     cases hv:voidB L n 0 with
     | true=>
      gi_wp2
      refine bodyPost_ret (results_tmp2 rfl _ _ _) rfl ?_
      exact hP s.below s.m.has s.sub s.new (by rw[dfO_void hq hLen hnb' (by rw[hn];exact hv)];rfl)
     | false =>
      have hgo:=fun b=>dfO_go (b:=b) hq hLen hnb' (by rw[hn];exact hv)
      rw[hn] at hgo
      have hd0:DfSt w h w.heap.size 0 n g cp (atL L) wr hp:=⟨s.sub,s.new,s.below,s.m,s.base⟩
      have hnm:NbM n (atL L):=by rw[←hn];exact nbm_of hnb'
      clear s hnb
      gi_wp2
      gi_loopw [86] (fun q W=>∃(K:Int) (k:Nat),(k:Int)=K∧k≤n∧q=.int .i64 K∧∃M hp,DfSt w h w.heap.size 0 n g cp M W hp∧NbM n M∧(dfG p n n 0 (atL L)↔dfG p n (n - k) k M)) (fun q _=>n - (RowKit.intOf q).toNat)
      case atStart=>exact⟨0,0,rfl,by omega,rfl,_,hp,hd0,hnm,Iff.rfl⟩
      case round=>
       clear hd0 hnm
       obtain⟨K,k,eK,hk1,rfl,M,hp,s,hnm,hiff⟩:=hrel
       have hK1:0≤K:=by omega
       have eK2:K.toNat=k:=by omega
       by_cases h3:K < n
       ·have hkn:k < n:=by omega
        rw[show n - k=(n - (k+1))+1 by omega] at hiff
        rw[dfG_succ] at hiff
        obtain⟨b1,a1,m1,k1,a2,m2,k2,b2,a3,m3,k3,a4,m4,k4,e1,e2,dA,iA⟩:=s.m.entry hkn hkn
        have ou:=s.m.outer k hkn
        rw[Nat.zero_add] at ou
        obtain⟨q0,q1,q2,q3,q4,q5,q6,q7⟩:=c8 dA
        have kS:=xp (h0:=hp) (h:=hp) iA
        unfold sgO at kS
        rw[hnm k k hkn hkn,cond_false] at kS
        obtain⟨S,hS⟩:∃S,sgN (M k k).set=S:=⟨_,rfl⟩
        rw[hS] at kS hiff
        by_cases hS2:S=2
        ·subst hS2
         gi_wp2_with (first
          |(gi_at_call 32;refine(callsIn_wide.2 (kS.run _ s.m.has (hg.trans s.sub))).mono ?_;rintro e W2 hP2;obtain⟨_,h1,rfl,t1,t2,t3,t4,rfl⟩:=post_ret hP2;have s2:=s.call t1 t2 t3 t4;have kEl:=fun N=>elim_p (N:=N) (p:=p) (c:=n) s2.m (by omega) hkn (hg.trans s2.sub);rw[eK] at kEl)
          |(gi_at_call 33;refine(kEl _).mono ?_;rintro e W3 (⟨rfl,hB,h3',s3⟩ |⟨rfl,hB,h3',M',s3⟩)))
         ·go_roundw
          case rel=>exact⟨_,k+1,by omega,by omega,rfl,_,h3',s2.el s3,hnm.el,hiff.trans ⟨fun q=>q.2.2,fun q=>⟨trivial,hB,q⟩⟩⟩
          case measure=>simp[RowKit.intOf];omega
         ·refine bodyPost_ret (results_tmp2 rfl _ _ _) rfl ?_
          have s4:=s2.el s3
          exact hP s4.below s4.m.has s4.sub s4.new (by rw[hgo false (by rw[hiff];simp[hB])];rfl)
        ·gi_wp2_with (gi_at_call 32;refine(callsIn_wide.2 (kS.run _ s.m.has (hg.trans s.sub))).mono ?_;rintro e W2 hP2;obtain⟨_,h1,rfl,t1,t2,t3,t4,rfl⟩:=post_ret hP2;have s2:=s.call t1 t2 t3 t4)
         refine bodyPost_ret (results_tmp2 rfl _ _ _) rfl ?_
         exact hP s2.below s2.m.has s2.sub s2.new (by rw[hgo false (by rw[hiff];simp[hS2])];rfl)
       ·obtain rfl:n=k:=by omega
        rw[Nat.sub_self] at hiff
        gi_wp2
        refine bodyPost_ret (results_tmp2 rfl _ _ _) rfl ?_
        exact hP s.below s.m.has s.sub s.new (by rw[hgo true (by rw[hiff];simp[dfG])];rfl)
end Go.Q
namespace Go.Q
open Go.Proofs Go.RowKit
attribute [local go_sem] Oper.semAt_some
set_option maxRecDepth 100000
set_option maxHeartbeats 16000000
section
variable {w:World} {h:PH} {n:Nat} {T E:TypeId} {M:Nat→Nat→RI} {i:Nat} {W:World} {hp:PH} {g cp:Nat→Nat} {v:Value}
end
open Go.Proofs
theorem Matv.sa {h:PH} {v:Value} {L:List (List RI)} (r:Matv h v L):∃a m c,v=.slice a m c:=let ⟨a,c,_,_,_,e,_⟩:=r;⟨a,_,c,e⟩
abbrev RQ:=Bool×Nat×Nat
def Rats (h:PH) (v:Value) (l:List RQ):Prop:=∃a c,v=.slice a l.length c∧l.length≤2^30∧∀j x,l[j]?=some x→∃ad a1 m1 c1 a2 m2 c2,a=some ad∧
 (∀(t:Nat) u,([.bool x.1,.slice a1 m1 c1,.slice a2 m2 c2]:List Value)[t]?=some u→h.at ((ad.add (j*3)).add t)=some u)∧Rw h (.agg #[.bool x.1,.slice a1 m1 c1,.slice a2 m2 c2]) x.1 x.2.1 x.2.2
def RatM (h:PH) (v:Value) (L:List (List RQ)):Prop:=∃a c,v=.slice a L.length c∧L.length≤2^30∧∀i row,L[i]?=some row→∃ad b cc,a=some ad∧h.at (ad.add i)=some (.slice b row.length cc)∧Rats h (.slice b row.length cc) row
def qqR (x:RQ):Rat:=qof x.1 x.2.1 x.2.2
def zq:RQ:=(false,0,0)
def AqR (A:List (List RQ)) (i k:Nat):Rat:=qqR (((A[i]?.getD [])[k]?).getD zq)
def Vq (V:List RQ) (k:Nat):Rat:=qqR ((V[k]?).getD zq)
theorem Aq_eq {A:List (List RQ)} {i k:Nat} {row:List RQ} {x:RQ} (h1:A[i]?=some row) (h2:row[k]?=some x):AqR A i k=qqR x:=by unfold AqR;rw[h1];simp[h2]
theorem Vq_eq {V:List RQ} {k:Nat} {x:RQ} (h2:V[k]?=some x):Vq V k=qqR x:=by unfold Vq;simp[h2]
def psQ (A:List (List RQ)) (V:List RQ) (n i k:Nat):Rat:=smSum (fun a=>smSum (fun b=>AqR A a b*(Vq V a*Vq V b)) 0 n) 0 i+smSum (fun b=>AqR A i b*(Vq V i*Vq V b)) 0 k
theorem smSum_succ (f:Nat→Rat):∀(m k:Nat),smSum f k (m+1)=smSum f k m+f (k+m)
 |0,k=>by unfold smSum smSum;simp;grind
 | m+1,k=>by
  have:=smSum_succ f m (k+1)
  show f k+smSum f (k+1) (m+1)=(f k+smSum f (k+1) m)+f (k+(m+1))
  rw[this,show k+1+m=k+(m+1) by omega]
  grind
theorem psQ_zero {A:List (List RQ)} {V:List RQ} {n:Nat}:psQ A V n 0 0=0:=by unfold psQ smSum;grind
theorem psQ_sz0 {A:List (List RQ)} {V:List RQ} {n:Nat}:sz (psQ A V n 0 0)≤2000*(0*6)+10:=by rw[psQ_zero];decide
theorem psQ_next {A:List (List RQ)} {V:List RQ} {n i k:Nat}:psQ A V n i (k+1)=psQ A V n i k+AqR A i k*(Vq V i*Vq V k):=by
 unfold psQ;rw[smSum_succ,Nat.zero_add];grind
theorem psQ_row {A:List (List RQ)} {V:List RQ} {n i:Nat}:psQ A V n (i+1) 0=psQ A V n i n:=by
 unfold psQ
 rw[smSum_succ,Nat.zero_add]
 show _+(0:Rat)=_
 grind
theorem psQ_all {A:List (List RQ)} {V:List RQ} {n:Nat}:psQ A V n n 0=qf (AqR A) (Vq V) 0 n:=by
 unfold psQ qf
 show _+(0:Rat)=_
 grind
def someB (V:List RQ) (i:Nat):Bool:=(V.take i).any fun x=>!decide (x.2.1=0)
theorem someB_next {V:List RQ} {i:Nat} {x:RQ} (h:V[i]?=some x):someB V (i+1)=(someB V i || !decide (x.2.1=0)):=by
 unfold someB
 rw[List.take_succ_eq_append_getElem (List.getElem?_eq_some_iff.1 h).1,(List.getElem?_eq_some_iff.1 h).2]
 simp
theorem someB_all {V:List RQ} (h:someB V V.length=true):∃i,i < V.length∧Vq V i≠0:=by
 unfold someB at h
 rw[List.take_length] at h
 obtain⟨x,hx,h1⟩:=List.any_eq_true.1 h
 obtain⟨i,hi⟩:=List.mem_iff_getElem?.1 hx
 refine⟨i,(List.getElem?_eq_some_iff.1 hi).1,fun e=>?_⟩
 rw[Vq_eq hi] at e
 unfold qqR qof sgn at e
 rw[Rat.mkRat_eq_zero (dz_ne _)] at e
 simp at h1
 split at e<;>omega
def FaQ (L:List (List RI)) (A:List (List RQ)) (n i k:Nat):Prop:=∀a b,(a < i∨a=i∧b < k)→b < n→(atL L a b).set.has (AqR A a b)=true∧(b < a→AqR A a b=AqR A b a)
theorem FaQ.next {L:List (List RI)} {A:List (List RQ)} {n i k:Nat} (h:FaQ L A n i k) (h1:(atL L i k).set.has (AqR A i k)=true) (h2:k < i→AqR A i k=AqR A k i):FaQ L A n i (k+1):=fun a b hab hb=>by
 by_cases e:a=i∧b=k
 ·obtain⟨rfl,rfl⟩:=e;exact⟨h1,h2⟩
 ·exact h a b (by omega) hb
theorem FaQ.row {L:List (List RI)} {A:List (List RQ)} {n i:Nat} (h:FaQ L A n i n):FaQ L A n (i+1) 0:=fun a b hab hb=>h a b (by omega) hb
theorem FaQ.form {L:List (List RI)} {A:List (List RQ)} {V:List RQ} {p:Int} (h:FaQ L A L.length L.length 0) (hd:dfO p L=(true,0)) (hl:V.length=L.length) (hv:someB V V.length=true):0 < psQ A V L.length L.length 0:=by
 obtain⟨h1,h2,h3,h4,h5⟩:=dfO_yes hd
 obtain⟨i,k1,k2⟩:=someB_all hv
 rw[psQ_all]
 refine dfG_form (by unfold bad;simp;omega) h5 (fun i j hi hj=>?_) (fun a b ha hb=>(h a b (.inl ha) hb).1) ⟨i,by omega,k2⟩
 rcases Nat.lt_trichotomy j i with g |g |g
 ·exact(h i j (.inl hi) hj).2 g
 ·rw[g]
 ·exact((h j i (.inl hj) hi).2 g).symm
theorem Rats.at_ {h:PH} {a:Option Addr} {m c:Nat} {l:List RQ} (r:Rats h (.slice a m c) l):m=l.length∧∀j x,l[j]?=some x→∃ad a1 m1 c1 a2 m2 c2,a=some ad∧
  (∀(t:Nat) u,([.bool x.1,.slice a1 m1 c1,.slice a2 m2 c2]:List Value)[t]?=some u→h.at ((ad.add (j*3)).add t)=some u)∧Rw h (.agg #[.bool x.1,.slice a1 m1 c1,.slice a2 m2 c2]) x.1 x.2.1 x.2.2:=by
 obtain⟨_,_,e,_,k⟩:=r
 simp only[Value.slice.injEq] at e
 obtain⟨rfl,rfl,rfl⟩:=e
 exact⟨rfl,k⟩
theorem sz_small {x:RQ} (h:bl x.2.1≤192∧bl x.2.2≤192):sz (qqR x)≤400:=by
 have:=dg x.1 x.2.1 (dz_ne x.2.2)
 have b':bl (dz x.2.2)≤max (bl x.2.2) 1:=by unfold dz;split;exact Nat.le_max_right _ _;exact Nat.le_max_left _ _
 unfold qqR qof
 omega
theorem Positive_law {h0 h:PH} [Le h0 h] {v w z:Value} {p:Int} {L:List (List RI)} {A:List (List RQ)} {V:List RQ} (hm:Matv h0 v L) (ha:RatM h0 w A) (hv:Rats h0 z V):Spec mach 4 #[v,.int .i64 p,w,z] h (fun r _=>r=.bool true) NP:=by
  have kF:=fun {h} [Le h0 h]=>Definite_spec (h:=h) (p:=p) hm
  unfold dfR at kF
  obtain⟨⟨b,e⟩,hw⟩:∃x,dfO p L=x:=⟨_,rfl⟩
  rw[hw] at kF
  obtain⟨ma,mc,mra,mrc,mC,rfl,hl,km⟩:=hm
  obtain⟨aa,ac,rfl,hal,ka⟩:=ha
  obtain⟨va,vc,rfl,hvl,kv⟩:=hv
  by_cases he:e=0
  · subst he
    cases b with
    | false=>
      refine Spec.go [(19,.o [0,1,2,3,4,5,6,7,9,10,11,12,14,15,16,17,8,13,18,19,20,21,22])] Tryz.func4 rfl rfl (by kernel_rfl) fun C _=>?_
      try simp(maxSteps:=999999) (disch:=omega) only[go_sem,ξ,ζ]
      refine caN (by exact kF) ?_;rintro v1 h1 s1 rfl
      try simp(maxSteps:=999999) (disch:=omega) only[go_sem,ξ,ζ]
      refine caN (by exact awake05_spec) ?_;rintro v8 h8 s8 rfl
      try simp(maxSteps:=999999) (disch:=omega) only[go_sem,ξ,ζ]
      all_goals rfl
    | true=>
      by_cases hA1:(A.length:Int)=L.length
      · by_cases hV1:(V.length:Int)=L.length
        · refine Spec.go [(19,.o [0,1,2,3,4,5,6,7,9,10,11,12,14,15,16,17,8,13,18,19,20,21,22])] Tryz.func4 rfl rfl (by kernel_rfl) fun C _=>?_
          try simp(maxSteps:=999999) (disch:=omega) only[go_sem,ξ,ζ]
          refine caN (by exact kF) ?_;rintro v1 h1 s1 rfl
          try simp(maxSteps:=999999) (disch:=omega) only[go_sem,ξ,ζ]
          refine caN (by exact aF (n:=0) (by decide) (by decide)) ?_;rintro _ h2 _ f2;obtain⟨u1,u2,u3,u4,u5,u6,u7,rfl,f2⟩:=f2.sa
          try simp(maxSteps:=999999) (disch:=omega) only[go_sem,ξ,ζ]
          obtain⟨n,hn⟩:∃n,L.length=n:=⟨_,rfl⟩
          have hdy:=dfO_yes hw
          rw[hn] at hdy hA1 hV1 hl
          have h1':A.length=n:=by omega
          have h2':V.length=n:=by omega
          have hn6:n≤6:=hdy.1
          rw[hn,h1',h2']
          refine lpSl [(19,.o [0,1,2,3,4,5,6,7,9,10,11,12,14,15,16,17,8,13,18,19,20,21,22])] (fun x:Nat×Bool×List Value=>⟨[(0,.v (.slice ma n mc)),(2,.v (.slice aa n ac)),(3,.v (.slice va n vc)),(45,.v (.slice ma n mc)),(46,.v (.int .i64 n)),(47,.v (.int .i64 x.1)),(12,.v (.bool x.2.1)),(11,.p 0 0)],[x.2.2]⟩) (fun x h'=>Le h0 h'∧x.1≤n∧x.2.1=someB V x.1∧FaQ L A n x.1 0∧(∀a row,a < x.1→A[a]?=some row→row.length=n)∧sz (psQ A V n x.1 0)≤2000*(x.1*6)+10∧∃u1 u2 u3 u4 u5 u6 u7,x.2.2=[.bool u1,.slice u2 u3 u4,.slice u5 u6 u7]∧Qr h' (.agg #[.bool u1,.slice u2 u3 u4,.slice u5 u6 u7]) (psQ A V n x.1 0)) (fun x=>n - x.1) (0,false,_) [0] ?_ ⟨inferInstance,qBh _,rfl,fun a b hab _=>by omega,fun a row ha=>by omega,psQ_sz0,_,_,_,_,_,_,_,rfl,by rw[psQ_zero];exact f2⟩ (by kernel_rfl) ?_
          · try simp(maxSteps:=999999) (disch:=omega) only[go_sem,ξ,ζ]
            all_goals rfl
          rintro⟨i,fl,cells⟩ h3 ⟨le3,hi,hfl,hFa,hrows,hsz,u1,u2,u3,u4,u5,u6,u7,rfl,hQ⟩
          dsimp only at hi hfl hFa hrows hsz hQ ⊢
          by_cases hlt:(i:Int) < n
          · obtain⟨row,hr⟩:∃row,A[i]?=some row:=⟨_,List.getElem?_eq_getElem (by omega)⟩
            obtain⟨y,hy⟩:∃y,V[i]?=some y:=⟨_,List.getElem?_eq_getElem (by omega)⟩
            obtain⟨ad,rb,rc,rfl,hrow,hRow⟩:=ka i row hr
            obtain⟨vd,y1,y2,y3,y4,y5,y6,rfl,hyat,hyr⟩:=kv i y hy
            try simp(maxSteps:=999999) (disch:=omega) only[go_sem,ξ,ζ,hlt,decide_true]
            refine aE (le3.sub.at hrow) ?_
            try simp(maxSteps:=999999) (disch:=omega) only[go_sem,ξ,ζ]
            by_cases hrl:(row.length:Int)=n
            · have e1 : ((row.length:Int) != n)=false:=by simpa using hrl
              try simp(maxSteps:=999999) (disch:=omega) only[go_sem,ξ,ζ,e1]
              refine Exists.intro [_,_,_] (And.intro rfl (And.intro (fun j v hj=>le3.sub.at (hyat j v hj)) ?_))
              try simp(maxSteps:=999999) (disch:=omega) only[go_sem,ξ,ζ]
              refine caN (by exact Slim_spec (hyr.to (h':=h3))) ?_;rintro _ h4 s4 ⟨bs,rfl,hbs⟩
              try simp(maxSteps:=999999) (disch:=omega) only[go_sem,ξ,ζ]
              have le4:Le h0 h4:=inferInstance
              cases bs with
              | false=>
                try simp(maxSteps:=999999) (disch:=omega) only[go_sem,ξ,ζ]
                refine caN (by exact awake05_spec) ?_;rintro v8 h8 s8 rfl
                try simp(maxSteps:=999999) (disch:=omega) only[go_sem,ξ,ζ]
                all_goals rfl
              | true=>
                replace hbs:=hbs rfl
                have hsn:someB V (i+1)=(fl || !decide (y.2.1=0)):=by rw[someB_next hy,hfl]
                obtain⟨hrl',hrk⟩:=hRow.at_
                cases fl
                case' false=>
                  try simp(maxSteps:=999999) (disch:=omega) only[go_sem,ξ,ζ]
                  refine Exists.intro [_,_,_] (And.intro rfl (And.intro (fun j v hj=>le4.sub.at (hyat j v hj)) ?_))
                  try simp(maxSteps:=999999) (disch:=omega) only[go_sem,ξ,ζ]
                  refine caN (by exact ZeroQ_spec (hyr.to (h':=h4))) ?_;rintro _ h5 s5 rfl
                  try simp(maxSteps:=999999) (disch:=omega) only[go_sem,ξ,ζ]
                  rw[Bool.false_or] at hsn
                case' true=>
                  try simp(maxSteps:=999999) (disch:=omega) only[go_sem,ξ,ζ]
                  rw[Bool.true_or] at hsn
                all_goals
                  refine lpSl [(19,.o [0,1,2,3,4,5,6,7,9,10,11,12,14,15,16,17,8,13,18,19,20,21,22])] (fun x:Nat×List Value=>⟨[(0,.v (.slice ma n mc)),(2,.v (.slice (some ad) n ac)),(3,.v (.slice (some vd) n vc)),(45,.v (.slice ma n mc)),(46,.v (.int .i64 n)),(47,.v (.int .i64 i)),(12,.v (.bool (someB V (i+1)))),(11,.p 0 0),(13,.v (.int .i64 i)),(77,.v (.int .i64 n)),(78,.v (.int .i64 x.1))],[x.2]⟩) (fun x h'=>Le h0 h'∧x.1≤n∧FaQ L A n i x.1∧sz (psQ A V n i x.1)≤2000*(i*6+x.1)+10∧∃u1 u2 u3 u4 u5 u6 u7,x.2=[.bool u1,.slice u2 u3 u4,.slice u5 u6 u7]∧Qr h' (.agg #[.bool u1,.slice u2 u3 u4,.slice u5 u6 u7]) (psQ A V n i x.1)) (fun x=>n - x.1) (0,_) [0] ?_ ⟨inferInstance,qBh _,hFa,by omega,_,_,_,_,_,_,_,rfl,hQ.to⟩ (by kernel_rfl) ?_
                  · rw[hsn]
                    try simp(maxSteps:=999999) (disch:=omega) only[go_sem,ξ,ζ]
                    all_goals rfl
                  clear hQ hFa hsz
                  rintro⟨k,cells⟩ h6 ⟨le6,hk,hFa,hsz,u1,u2,u3,u4,u5,u6,u7,rfl,hQ⟩
                  dsimp only at hk hFa hsz hQ ⊢
                  by_cases hlk:(k:Int) < n
                  · have hrn:row.length=n:=by omega
                    obtain⟨x,hx⟩:∃x,row[k]?=some x:=⟨_,List.getElem?_eq_getElem (by omega)⟩
                    obtain⟨yk,hyk⟩:∃x,V[k]?=some x:=⟨_,List.getElem?_eq_getElem (by omega)⟩
                    obtain⟨bd,x1,x2,x3,x4,x5,x6,rfl,hxat,hxr⟩:=hrk k x hx
                    obtain⟨vd',z1,z2,z3,z4,z5,z6,ev,hzat,hzr⟩:=kv k yk hyk
                    cases ev
                    rw[hrn] at hrow
                    obtain⟨rm,hrm⟩:∃r,L[i]?=some r:=⟨_,List.getElem?_eq_getElem (by omega)⟩
                    obtain⟨_,blk,off,rfl,hM1,hMr⟩:=km i rm hrm
                    have hrmn:rm.length=n:=hdy.2.2.2.1 i rm hrm
                    obtain⟨xm,hxm⟩:∃x,rm[k]?=some x:=⟨_,List.getElem?_eq_getElem (by omega)⟩
                    obtain⟨⟨c1,c2,c3,c4,c5,c6,c7,c8,c9,c10,c11,c12,c13,c14,c15,c16,eC⟩,hiv,rbM,roM,eMr,hM2⟩:=hMr k xm hxm
                    rw[eMr,hrmn] at hM1
                    rw[eC] at hiv hM2
                    have hM3:∀(t:Nat) u,([.bool c1,.slice c2 c3 c4,.slice c5 c6 c7,.bool c8,.slice c9 c10 c11,.slice c12 c13 c14,.bool c15,.bool c16]:List Value)[t]?=some u→h0.at ((⟨rbM,roM+k*8,none⟩:Addr).add t)=some u:=fun t u hu=>by rw[adrN];exact hM2 t u hu
                    try simp(maxSteps:=999999) (disch:=omega) only[go_sem,ξ,ζ,hlk,decide_true]
                    refine aE (le6.sub.at hrow) ?_
                    try simp(maxSteps:=999999) (disch:=omega) only[go_sem,ξ,ζ]
                    refine Exists.intro [_,_,_] (And.intro rfl (And.intro (fun j v hj=>le6.sub.at (hxat j v hj)) ?_))
                    try simp(maxSteps:=999999) (disch:=omega) only[go_sem,ξ,ζ]
                    refine caN (by exact Slim_spec (hxr.to (h':=h6))) ?_;rintro _ h7 s7 ⟨b1,rfl,hb1⟩
                    try simp(maxSteps:=999999) (disch:=omega) only[go_sem,ξ,ζ]
                    have le7:Le h0 h7:=inferInstance
                    cases b1 with
                    | false=>
                      try simp(maxSteps:=999999) (disch:=omega) only[go_sem,ξ,ζ]
                      refine caN (by exact awake05_spec) ?_;rintro v8 h8 s8 rfl
                      try simp(maxSteps:=999999) (disch:=omega) only[go_sem,ξ,ζ]
                      all_goals rfl
                    | true=>
                      replace hb1:=hb1 rfl
                      try simp(maxSteps:=999999) (disch:=omega) only[go_sem,ξ,ζ]
                      refine Exists.intro [_,_,_] (And.intro rfl (And.intro (fun j v hj=>le7.sub.at (hzat j v hj)) ?_))
                      try simp(maxSteps:=999999) (disch:=omega) only[go_sem,ξ,ζ]
                      refine caN (by exact Slim_spec (hzr.to (h':=h7))) ?_;rintro _ h9 s9 ⟨b2,rfl,hb2⟩
                      try simp(maxSteps:=999999) (disch:=omega) only[go_sem,ξ,ζ]
                      have le9:Le h0 h9:=inferInstance
                      cases b2 with
                      | false=>
                        try simp(maxSteps:=999999) (disch:=omega) only[go_sem,ξ,ζ]
                        refine caN (by exact awake05_spec) ?_;rintro v8 h8 s8 rfl
                        try simp(maxSteps:=999999) (disch:=omega) only[go_sem,ξ,ζ]
                        all_goals rfl
                      | true=>
                        replace hb2:=hb2 rfl
                        by_cases hki:(k:Int) < i
                        case' pos=>
                          obtain⟨rk,hrk1⟩:∃rk,A[k]?=some rk:=⟨_,List.getElem?_eq_getElem (by omega)⟩
                          obtain⟨ad',kb,kc,ev,hrowk,hRowk⟩:=ka k rk hrk1
                          cases ev
                          obtain⟨hkl,hkk⟩:=hRowk.at_
                          have hkn:=hrows k rk (by omega) hrk1
                          obtain⟨t,ht⟩:∃t,rk[i]?=some t:=⟨_,List.getElem?_eq_getElem (by omega)⟩
                          obtain⟨kd,t1,t2,t3,t4,t5,t6,rfl,htat,htr⟩:=hkk i t ht
                          rw[hkn] at hrowk
                          try simp(maxSteps:=999999) (disch:=omega) only[go_sem,ξ,ζ,hki,decide_true]
                          refine aE (le9.sub.at hrow) ?_
                          try simp(maxSteps:=999999) (disch:=omega) only[go_sem,ξ,ζ]
                          refine Exists.intro [_,_,_] (And.intro rfl (And.intro (fun j v hj=>le9.sub.at (hxat j v hj)) ?_))
                          try simp(maxSteps:=999999) (disch:=omega) only[go_sem,ξ,ζ]
                          refine aE (le9.sub.at hrowk) ?_
                          try simp(maxSteps:=999999) (disch:=omega) only[go_sem,ξ,ζ]
                          refine Exists.intro [_,_,_] (And.intro rfl (And.intro (fun j v hj=>le9.sub.at (htat j v hj)) ?_))
                          try simp(maxSteps:=999999) (disch:=omega) only[go_sem,ξ,ζ]
                          refine caN (by exact EqualG_spec (hxr.to (h':=h9)) (htr.to (h':=h9))) ?_;rintro _ h10 s10 ⟨b3,rfl,hb3⟩
                          try simp(maxSteps:=999999) (disch:=omega) only[go_sem,ξ,ζ]
                          have hsym:b3=true→k < i→AqR A i k=AqR A k i:=fun e _=>by rw[Aq_eq hr hx,Aq_eq hrk1 ht];exact hb3 e
                          have le10:Le h0 h10:=inferInstance
                          cases b3
                          · try simp(maxSteps:=999999) (disch:=omega) only[go_sem,ξ,ζ]
                            refine caN (by exact awake05_spec) ?_;rintro v8 h8 s8 rfl
                            try simp(maxSteps:=999999) (disch:=omega) only[go_sem,ξ,ζ]
                            all_goals rfl
                          replace hsym:=hsym rfl
                          try simp(maxSteps:=999999) (disch:=omega) only[go_sem,ξ,ζ]
                        case' neg=>
                          try simp(maxSteps:=999999) (disch:=omega) only[go_sem,ξ,ζ,hki,decide_false]
                          have hsym:k < i→AqR A i k=AqR A k i:=fun e=>by omega
                          obtain⟨h10,e10⟩:∃x,x=h9:=⟨_,rfl⟩
                          subst e10
                          have le10:=le9
                        all_goals
                          refine aE (le10.sub.at hM1) ?_
                          try simp(maxSteps:=999999) (disch:=omega) only[go_sem,ξ,ζ]
                          refine Exists.intro [_,_,_,_,_,_,_,_] (And.intro rfl (And.intro (fun j v hj=>le10.sub.at (hM3 j v hj)) ?_))
                          try simp(maxSteps:=999999) (disch:=omega) only[go_sem,ξ,ζ]
                          refine aE (le10.sub.at hrow) ?_
                          try simp(maxSteps:=999999) (disch:=omega) only[go_sem,ξ,ζ]
                          refine Exists.intro [_,_,_] (And.intro rfl (And.intro (fun j v hj=>le10.sub.at (hxat j v hj)) ?_))
                          try simp(maxSteps:=999999) (disch:=omega) only[go_sem,ξ,ζ]
                          have kH:=wP (h0:=h10) (h:=h10) hiv.to hxr.to
                          unfold hasO at kH
                          cases hB:(xm.big || decide (lg x.1 x.2.1 x.2.2)) with
                          | true=>
                            rw[hB,cond_true] at kH
                            unfold Br at kH
                            refine caN (by exact kH) ?_;rintro _ h11 s11 rfl
                            try simp(maxSteps:=999999) (disch:=omega) only[go_sem,ξ,ζ]
                            refine caN (by exact awake05_spec) ?_;rintro v8 h8 s8 rfl
                            try simp(maxSteps:=999999) (disch:=omega) only[go_sem,ξ,ζ]
                            all_goals rfl
                          | false=>
                            rw[hB,cond_false] at kH
                            unfold Br at kH
                            cases hH:xm.set.has (qof x.1 x.2.1 x.2.2) with
                            | false=>
                              rw[hH] at kH
                              refine caN (by exact kH) ?_;rintro _ h11 s11 rfl
                              try simp(maxSteps:=999999) (disch:=omega) only[go_sem,ξ,ζ]
                              refine caN (by exact awake05_spec) ?_;rintro v8 h8 s8 rfl
                              try simp(maxSteps:=999999) (disch:=omega) only[go_sem,ξ,ζ]
                              all_goals rfl
                            | true=>
                              rw[hH] at kH
                              refine caN (by exact kH) ?_;rintro _ h11 s11 rfl
                              try simp(maxSteps:=999999) (disch:=omega) only[go_sem,ξ,ζ]
                              have le11:Le h0 h11:=inferInstance
                              refine aE (le11.sub.at hrow) ?_
                              try simp(maxSteps:=999999) (disch:=omega) only[go_sem,ξ,ζ]
                              refine Exists.intro [_,_,_] (And.intro rfl (And.intro (fun j v hj=>le11.sub.at (hxat j v hj)) ?_))
                              try simp(maxSteps:=999999) (disch:=omega) only[go_sem,ξ,ζ]
                              refine Exists.intro [_,_,_] (And.intro rfl (And.intro (fun j v hj=>le11.sub.at (hyat j v hj)) ?_))
                              try simp(maxSteps:=999999) (disch:=omega) only[go_sem,ξ,ζ]
                              refine Exists.intro [_,_,_] (And.intro rfl (And.intro (fun j v hj=>le11.sub.at (hzat j v hj)) ?_))
                              try simp(maxSteps:=999999) (disch:=omega) only[go_sem,ξ,ζ]
                              have sx:=sz_small hb1
                              have sk:=sz_small hb2
                              have sy:=sz_small hbs
                              have exk:=Aq_eq hr hx
                              have evi:=Vq_eq hy
                              have evk:=Vq_eq hyk
                              refine caN (by exact bM (hxr.to (h':=h11))) ?_;rintro _ g1 _ f1;obtain⟨_,_,_,_,_,_,_,rfl,f1⟩:=f1.sa
                              try simp(maxSteps:=999999) (disch:=omega) only[go_sem,ξ,ζ]
                              change Qr _ _ (qqR x) at f1
                              refine caN (by exact bM (hyr.to (h':=g1))) ?_;rintro _ g2 _ f2;obtain⟨_,_,_,_,_,_,_,rfl,f2⟩:=f2.sa
                              try simp(maxSteps:=999999) (disch:=omega) only[go_sem,ξ,ζ]
                              change Qr _ _ (qqR y) at f2
                              refine caN (by exact bM (hzr.to (h':=g2))) ?_;rintro _ g3 _ f3;obtain⟨_,_,_,_,_,_,_,rfl,f3⟩:=f3.sa
                              try simp(maxSteps:=999999) (disch:=omega) only[go_sem,ξ,ζ]
                              change Qr _ _ (qqR yk) at f3
                              have m1:=bV (qqR y) (qqR yk)
                              have m2:=bV (qqR x) (qqR y*qqR yk)
                              have m3:=dA (psQ A V n i k) (qqR x*(qqR y*qqR yk))
                              have hps:psQ A V n i (k+1)=psQ A V n i k+qqR x*(qqR y*qqR yk):=by rw[psQ_next,exk,evi,evk]
                              have hFn:FaQ L A n i (k+1):=hFa.next (by rw[atL_eq hrm hxm,exk];exact hH) hsym
                              have hsn':sz (psQ A V n i (k+1))≤2000*(i*6+(k+1))+10:=by rw[hps];omega
                              clear hFa exk evi evk
                              refine caN (by exact IH (f2.to (h':=g3)) f3 (by omega) (by omega)) ?_;rintro _ g4 _ f4;obtain⟨_,_,_,_,_,_,_,rfl,f4⟩:=f4.sa
                              try simp(maxSteps:=999999) (disch:=omega) only[go_sem,ξ,ζ]
                              refine caN (by exact IH (f1.to (h':=g4)) f4 (by omega) (by omega)) ?_;rintro _ g5 _ f5;obtain⟨_,_,_,_,_,_,_,rfl,f5⟩:=f5.sa
                              try simp(maxSteps:=999999) (disch:=omega) only[go_sem,ξ,ζ]
                              refine caN (by exact aW (hQ.to (h':=g5)) f5 (by omega) (by omega)) ?_;rintro _ g6 _ f6;obtain⟨_,_,_,_,_,_,_,rfl,f6⟩:=f6.sa
                              try simp(maxSteps:=999999) (disch:=omega) only[go_sem,ξ,ζ]
                              rw[←hps] at f6
                              refine⟨(k+1,_),[0],?_,⟨inferInstance,by omega,hFn,hsn',_,_,_,_,_,_,_,rfl,f6⟩,(by show n - (k+1) < n - k;omega)⟩
                              try simp(maxSteps:=999999) (disch:=omega) only[go_sem,ξ,ζ]
                              all_goals rfl
                  · obtain rfl:n=k:=by omega
                    try simp(maxSteps:=999999) (disch:=omega) only[go_sem,ξ,ζ,hlk,decide_false]
                    dsimp only[lpS];refine⟨(i+1,someB V (i+1),_),[0],?_,⟨inferInstance,by omega,rfl,hFa.row,fun a r ha hr'=>?_,by rw[psQ_row];omega,_,_,_,_,_,_,_,rfl,by rw[psQ_row];exact hQ⟩,by omega⟩
                    · try simp(maxSteps:=999999) (disch:=omega) only[go_sem,ξ,ζ]
                      all_goals rfl
                    · rcases qBj a i with g |g
                      · exact hrows a r g hr'
                      · obtain rfl:a=i:=by omega
                        rw[hr] at hr';cases hr';omega
            · have e1:((row.length:Int) != n)=true:=by simpa using hrl
              try simp(maxSteps:=999999) (disch:=omega) only[go_sem,ξ,ζ,e1]
              refine caN (by exact awake05_spec) ?_;rintro v8 h8 s8 rfl
              try simp(maxSteps:=999999) (disch:=omega) only[go_sem,ξ,ζ]
              all_goals rfl
          · obtain rfl:n=i:=by omega
            try simp(maxSteps:=999999) (disch:=omega) only[go_sem,ξ,ζ,hlt,decide_false]
            cases fl with
            | false=>
              try simp(maxSteps:=999999) (disch:=omega) only[go_sem,ξ,ζ]
              refine caN (by exact awake05_spec) ?_;rintro v8 h8 s8 rfl
              try simp(maxSteps:=999999) (disch:=omega) only[go_sem,ξ,ζ]
              all_goals rfl
            | true=>
              try simp(maxSteps:=999999) (disch:=omega) only[go_sem,ξ,ζ]
              refine caN (by exact bS hQ) ?_;rintro v7 h7 s7 rfl
              try simp(maxSteps:=999999) (disch:=omega) only[go_sem,ξ,ζ]
              have hpos:0 < psQ A V n n 0:=by
                subst hn
                exact hFa.form hw h2' (by rw[h2'];exact hfl.symm)
              have hs3:sgn3 (psQ A V n n 0)=1:=by unfold sgn3;rw[if_neg (by grind),if_pos hpos]
              rw[hs3]
              try simp(maxSteps:=999999) (disch:=omega) only[go_sem,ξ,ζ]
              refine caN (by exact awake05_spec) ?_;rintro v8 h8 s8 rfl
              try simp(maxSteps:=999999) (disch:=omega) only[go_sem,ξ,ζ]
              all_goals rfl
        · have h3:((V.length:Int) != L.length)=true:=by simpa using hV1
          have h4:((A.length:Int) != L.length)=false:=by simpa using hA1
          refine Spec.go [(19,.o [0,1,2,3,4,5,6,7,9,10,11,12,14,15,16,17,8,13,18,19,20,21,22])] Tryz.func4 rfl rfl (by kernel_rfl) fun C _=>?_
          try simp(maxSteps:=999999) (disch:=omega) only[go_sem,ξ,ζ]
          refine caN (by exact kF) ?_;rintro v1 h1 s1 rfl
          try simp(maxSteps:=999999) (disch:=omega) only[go_sem,ξ,ζ,h3,h4]
          refine caN (by exact awake05_spec) ?_;rintro v8 h8 s8 rfl
          try simp(maxSteps:=999999) (disch:=omega) only[go_sem,ξ,ζ]
          all_goals rfl
      · have h4:((A.length:Int) != L.length)=true:=by simpa using hA1
        refine Spec.go [(19,.o [0,1,2,3,4,5,6,7,9,10,11,12,14,15,16,17,8,13,18,19,20,21,22])] Tryz.func4 rfl rfl (by kernel_rfl) fun C _=>?_
        try simp(maxSteps:=999999) (disch:=omega) only[go_sem,ξ,ζ]
        refine caN (by exact kF) ?_;rintro v1 h1 s1 rfl
        try simp(maxSteps:=999999) (disch:=omega) only[go_sem,ξ,ζ,h4]
        refine caN (by exact awake05_spec) ?_;rintro v8 h8 s8 rfl
        try simp(maxSteps:=999999) (disch:=omega) only[go_sem,ξ,ζ]
        all_goals rfl
  · have h4:(e != 0)=true:=by simpa using he
    refine Spec.go [(19,.o [0,1,2,3,4,5,6,7,9,10,11,12,14,15,16,17,8,13,18,19,20,21,22])] Tryz.func4 rfl rfl (by kernel_rfl) fun C _=>?_
    try simp(maxSteps:=999999) (disch:=omega) only[go_sem,ξ,ζ]
    refine caN (by exact kF) ?_;rintro v1 h1 s1 rfl
    try simp(maxSteps:=999999) (disch:=omega) only[go_sem,ξ,ζ,h4]
    refine caN (by exact awake05_spec) ?_;rintro v8 h8 s8 rfl
    try simp(maxSteps:=999999) (disch:=omega) only[go_sem,ξ,ζ]
    all_goals rfl
open Go.Proofs Go.Proofs.YtdhfkmaejkgceaaGreatDoor
open Go.ChangeShapes Go.WideShapes Go.ChangeAt Go.RowKit
theorem unRs:Tryz.prog.underlying 29=some (.slice 37):=by kernel_rfl
theorem unRm:Tryz.prog.underlying 28=some (.slice 29):=by kernel_rfl
theorem ceRs:Tryz.prog.cellsOf 29=1:=by kernel_rfl
section
variable {H:Type} {enc:TypeId×Value→H} {W:World} {sp:Nat→Bool} {held:Bool}
theorem open_rats {fuel:Nat} {v:Value} {x:DataW H×List MemPlace} (h:DataW.trod enc Tryz.prog W 0 sp held fuel 29 [v]=some x) {B:Nat} (hB:B≤1048576) (hk:Rows.uptoBulk x.1≤B):
  ∃(l:List RQ),Rats (pub W) v l:=by
 rcases DataW.trod_slice unRs h with⟨e,_⟩ |⟨a,len,cap,elems,rest,n,_,e,rfl,_,hl,hm,hlen,hel,_,_⟩
 ·cases e
  exact⟨[],none,0,rfl,by simp,fun j s h=>by simp at h⟩
 cases e
 simp only[Rows.uptoBulk] at hk
 have b1:=bulk_len (H:=H) (elems.map (·.1))
 rw[List.length_map,hlen] at b1
 obtain⟨l,hll,hP⟩:=list_of (fun j (s:RQ)=>∃(a1:Option Addr) (m1 c1:Nat) (a2:Option Addr) (m2 c2:Nat),(∀(t:Nat) u,([.bool s.1,.slice a1 m1 c1,.slice a2 m2 c2]:List Value)[t]?=some u→(pub W).at ((a.add (j*3)).add t)=some u)∧Rw (pub W) (.agg #[.bool s.1,.slice a1 m1 c1,.slice a2 m2 c2]) s.1 s.2.1 s.2.2) len fun i hi=>by
  have he:=hel i hi
  obtain⟨y,hy⟩:∃y,elems[i]?=some y:=⟨_,List.getElem?_eq_getElem (by omega)⟩
  rw[hy,Option.bind_eq_some_iff,ce24] at he
  obtain⟨cs,hc,ht⟩:=he
  have hb:=bulk_mem (d:=y.1) (l:=elems.map (·.1)) (List.mem_map.2 ⟨y,List.mem_of_getElem? hy,rfl⟩)
  obtain⟨neg,nn,dd,hr,_⟩:=open_rat ht hB (by omega)
  have hc':=World.cells?_some hc
  have hr0:=hr
  obtain⟨a1,c1,xs,a2,c2,ys,e,_⟩:=hr
  have e:cs=_:=congrArg Array.toList (Value.agg.inj e)
  subst e
  refine⟨(neg,nn,dd),a1,xs.length,c1,a2,ys.length,c2,fun t u hu=>?_,hr0⟩
  have:t < 3:=(List.getElem?_eq_some_iff.1 hu).1
  rw[pub_at,hc'.2.2 t this]
  exact hu
 refine⟨l,some a,cap,by rw[hll],by omega,fun j y hj=>?_⟩
 obtain⟨a1,m1,c1,a2,m2,c2,k1,k2⟩:=hP j y hj
 exact⟨a,a1,m1,c1,a2,m2,c2,rfl,k1,k2⟩
theorem open_ratm {fuel:Nat} {v:Value} {x:DataW H×List MemPlace} (h:DataW.trod enc Tryz.prog W 0 sp held fuel 28 [v]=some x) {B:Nat} (hB:B≤1048576) (hk:Rows.uptoBulk x.1≤B):
  ∃L:List (List RQ),RatM (pub W) v L:=by
 rcases DataW.trod_slice unRm h with⟨e,_⟩ |⟨a,len,cap,elems,rest,n,_,e,rfl,_,hl,hm,hlen,hel,_,_⟩
 ·cases e
  exact⟨[],none,0,rfl,by simp,fun j s h=>by simp at h⟩
 cases e
 simp only[Rows.uptoBulk] at hk
 have b1:=bulk_len (H:=H) (elems.map (·.1))
 rw[List.length_map,hlen] at b1
 obtain⟨l,hll,hP⟩:=list_of (fun i (row:List RQ)=>∃(ra:Option Addr) (c:Nat),(pub W).at (a.add i)=some (.slice ra row.length c)∧Rats (pub W) (.slice ra row.length c) row) len fun i hi=>by
  have he:=hel i hi
  obtain⟨y,hy⟩:∃y,elems[i]?=some y:=⟨_,List.getElem?_eq_getElem (by omega)⟩
  rw[hy,Option.bind_eq_some_iff,ceRs] at he
  obtain⟨cs,hc,ht⟩:=he
  have hb:=bulk_mem (d:=y.1) (l:=elems.map (·.1)) (List.mem_map.2 ⟨y,List.mem_of_getElem? hy,rfl⟩)
  have hc':=World.cells?_some hc
  obtain⟨c0,rfl⟩:∃c0,cs=[c0]:=by
   match cs,hc'.1 with
   |[c0],_=>exact⟨c0,rfl⟩
  obtain⟨row,hrow⟩:=open_rats ht hB (by omega)
  have hrow0:=hrow
  obtain⟨ra,c,rfl,_⟩:=hrow
  refine⟨row,ra,c,?_,hrow0⟩
  have:=hc'.2.2 0 (by omega)
  rw[pub_at,show a.add i=(a.add (i*1)).add 0 by rw[adr0,qAz]]
  exact this
 refine⟨l,some a,cap,by rw[hll],by omega,fun i row hi=>?_⟩
 obtain⟨ra,c,k1,k2⟩:=hP i row hi
 exact⟨a,ra,c,rfl,k1,k2⟩
end
end Go.Q
