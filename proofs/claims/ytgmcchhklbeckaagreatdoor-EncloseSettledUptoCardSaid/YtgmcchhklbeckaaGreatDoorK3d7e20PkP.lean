/-
  Contracts of package interval, and what stands on it. Conditions: each theorem's own.
-/
import Derived.Test.YtgmcchhklbeckaaGreatDoorKf08e96PkG
import Derived.Test.YtgmcchhklbeckaaGreatDoorK745974PkM
import Derived.Test.YtgmcchhklbeckaaGreatDoorKd810e4PkN
import Derived.Test.YtgmcchhklbeckaaGreatDoorK6145e3PkL
import Derived.Test.YtgmcchhklbeckaaGreatDoorKdab1e0PkO
import Derived.Test.YtgmcchhklbeckaaGreatDoorKe1901fPkI
set_option linter.unusedVariables false
set_option linter.unusedSimpArgs false
open Nat renaming reduceBEq→ξ,reduceAdd→ζ,le_trans→χ,pos_of_ne_zero→τ,mul_le_mul_left→ω,one_mul→qBm
open Bool renaming and_eq_true→φ,false_eq_true→qAw
open Rat renaming le_trans→qAq,mkRat_eq_div→qBb,mul_inv_cancel→qBf,le_refl→qBk
namespace Go.Q
open Go.Proofs
set_option maxRecDepth 100000
set_option maxHeartbeats 4000000
inductive Pt where
 |fin (q:Rat)
 |inf (up:Bool)
def Pt.mul:Pt→Pt→Pt
 |.fin p,.fin q=>.fin (p*q)
 |.inf u,.fin q=>if q=0 then .fin 0 else .inf (u == decide (0 < q))
 |.fin p,.inf u=>if p=0 then .fin 0 else .inf (u == decide (0 < p))
 |.inf u,.inf w=>.inf (u == w)
def Pt.le (k:Nat):Pt→Prop
 |.fin q=>sz q≤k
 |.inf _=>True
def Pt.side:Pt→Int
 |.fin _=>0
 |.inf u=>if u=true then 1 else -1
@[reducible] def Pt.num:Pt→Option Rat
 |.fin q=>some q
 |.inf _=>none
def Ev (h:PH) (v:Value) (z:Pt):Prop:=∃b x y,v=.agg #[.bool b,x,y,.int .i64 z.side]∧En h b x y z.num
theorem Ev.to {h h':PH} {v:Value} {z:Pt} (r:Ev h v z) [Le h h']:Ev h' v z:=let ⟨a,b,c,h1,h2⟩:=r;⟨a,b,c,h1,h2.to⟩
theorem Ev.sa {h:PH} {v:Value} {z:Pt} (r:Ev h v z):∃b a1 m1 c1 a2 m2 c2,v=.agg #[.bool b,.slice a1 m1 c1,.slice a2 m2 c2,.int .i64 z.side]∧En h b (.slice a1 m1 c1) (.slice a2 m2 c2) z.num:=by
 obtain⟨b,x,y,rfl,h1⟩:=r
 obtain⟨_,_,_,_,_,_,rfl,rfl⟩:=h1.sl
 exact⟨_,_,_,_,_,_,_,rfl,h1⟩
theorem BJ {q:Rat}:sgn3 q= -1∨sgn3 q=0∨sgn3 q=1:=by unfold sgn3;grind
theorem sgn3_zero {q:Rat}:sgn3 q=0↔q=0:=by unfold sgn3;grind
theorem yB {q:Rat}:0 < sgn3 q↔0 < q:=by unfold sgn3;grind
theorem pc {h0 h:PH} [Le h0 h] {v w:Value} {x y:Pt} (hv:Ev h0 v x) (hw:Ev h0 w y) (lx:x.le (2^30)) (ly:y.le (2^30)):Spec mach 239 #[v,w] h (fun r h'=>Ev h' r (x.mul y)) NP:=by
 obtain⟨b,a1,m1,c1,a2,m2,c2,rfl,e1⟩:=hv.sa
 obtain⟨b',a1',m1',c1',a2',m2',c2',rfl,e2⟩:=hw.sa
 cases x with
 | fin p =>
  cases y with
  | fin q=>
   show Spec _ _ _ _ (fun r h'=>Ev h' r (.fin (p*q))) _
   dsimp only[Pt.side] at*
   have k1:=fun {h} [Le h0 h]=>dv (h:=h) e1.num
   have k2:=fun {h} [Le h0 h]=>dv (h:=h) e2.num
   by_cases hp:p=0∨q=0
   ·have e0:p*q=((0:Int):Rat):=by rcases hp with rfl |rfl<;>simp<;>rfl
    have hs:sgn3 p=0∨sgn3 q=0:=by rw[sgn3_zero,sgn3_zero];exact hp
    rw[e0]
    generalize sgn3 p=m at*
    generalize sgn3 q=n at*
    by_cases hm:m=0
    ·refine Spec.go [] Tryz.func239 rfl rfl (by kernel_rfl) fun C _=>?_
     simp(disch:=omega) only[go_sem,ξ,ζ,Int.toNat_one,Nat.zero_mul,qBm,Nat.zero_add,List.set_cons_zero,List.set_cons_succ]
     refine caN (by exact k1) ?_;rintro v1 h1 s1 rfl
     simp(disch:=omega) only[go_sem,ξ,ζ,Int.toNat_one,Nat.zero_mul,qBm,Nat.zero_add,List.set_cons_zero,List.set_cons_succ]
     refine caN (by exact k2) ?_;rintro v2 h2 s2 rfl
     simp(disch:=omega) only[go_sem,ξ,ζ,Int.toNat_one,Nat.zero_mul,qBm,Nat.zero_add,List.set_cons_zero,List.set_cons_succ]
     refine caN (by exact cB (n:=0) (by decide) (by decide)) ?_;rintro _ h3 _ f3;obtain⟨_,_,_,_,_,_,_,rfl,f3⟩:=f3.sa
     simp(disch:=omega) only[go_sem,ξ,ζ,Int.toNat_one,Nat.zero_mul,qBm,Nat.zero_add,List.set_cons_zero,List.set_cons_succ]
     exact⟨_,_,_,rfl,En.of f3⟩
    ·have hn:n=0:=hs.resolve_left hm
     refine Spec.go [] Tryz.func239 rfl rfl (by kernel_rfl) fun C _=>?_
     simp(disch:=omega) only[go_sem,ξ,ζ,Int.toNat_one,Nat.zero_mul,qBm,Nat.zero_add,List.set_cons_zero,List.set_cons_succ]
     refine caN (by exact k1) ?_;rintro v1 h1 s1 rfl
     simp(disch:=omega) only[go_sem,ξ,ζ,Int.toNat_one,Nat.zero_mul,qBm,Nat.zero_add,List.set_cons_zero,List.set_cons_succ]
     refine caN (by exact k2) ?_;rintro v2 h2 s2 rfl
     simp(disch:=omega) only[go_sem,ξ,ζ,Int.toNat_one,Nat.zero_mul,qBm,Nat.zero_add,List.set_cons_zero,List.set_cons_succ]
     refine caN (by exact cB (n:=0) (by decide) (by decide)) ?_;rintro _ h3 _ f3;obtain⟨_,_,_,_,_,_,_,rfl,f3⟩:=f3.sa
     simp(disch:=omega) only[go_sem,ξ,ζ,Int.toNat_one,Nat.zero_mul,qBm,Nat.zero_add,List.set_cons_zero,List.set_cons_succ]
     exact⟨_,_,_,rfl,En.of f3⟩
   ·have hm:¬sgn3 p=0:=by rw[sgn3_zero];exact fun k=>hp (.inl k)
    have hn:¬sgn3 q=0:=by rw[sgn3_zero];exact fun k=>hp (.inr k)
    generalize sgn3 p=m at*
    generalize sgn3 q=n at*
    refine Spec.go [] Tryz.func239 rfl rfl (by kernel_rfl) fun C _=>?_
    simp(disch:=omega) only[go_sem,ξ,ζ,Int.toNat_one,Nat.zero_mul,qBm,Nat.zero_add,List.set_cons_zero,List.set_cons_succ]
    refine caN (by exact k1) ?_;rintro v1 h1 s1 rfl
    simp(disch:=omega) only[go_sem,ξ,ζ,Int.toNat_one,Nat.zero_mul,qBm,Nat.zero_add,List.set_cons_zero,List.set_cons_succ]
    refine caN (by exact k2) ?_;rintro v2 h2 s2 rfl
    simp(disch:=omega) only[go_sem,ξ,ζ,Int.toNat_one,Nat.zero_mul,qBm,Nat.zero_add,List.set_cons_zero,List.set_cons_succ]
    refine caN (by exact wU (e1.num.to (h':=h2)) (e2.num.to (h':=h2)) (up36 lx) (up36 ly)) ?_;rintro _ h3 _ f3;obtain⟨_,_,_,_,_,_,_,rfl,f3⟩:=f3.sa
    simp(disch:=omega) only[go_sem,ξ,ζ,Int.toNat_one,Nat.zero_mul,qBm,Nat.zero_add,List.set_cons_zero,List.set_cons_succ]
    exact⟨_,_,_,rfl,En.of f3⟩
  | inf u =>
   have k1:=fun {h} [Le h0 h]=>dv (h:=h) e1.num
   dsimp only[Pt.mul]
   have hb:=BJ (q:=p)
   by_cases hp:p=0
   ·have hm:=sgn3_zero.2 hp
    rw[if_pos hp]
    rw[hm] at k1
    cases u<;>
    ·dsimp only[Pt.side] at*
     simp only[if_true,if_false,qAw,reduceIte]
     refine Spec.go [] Tryz.func239 rfl rfl (by kernel_rfl) fun C _=>?_
     simp(disch:=omega) only[go_sem,ξ,ζ,Int.toNat_one,Nat.zero_mul,qBm,Nat.zero_add,List.set_cons_zero,List.set_cons_succ]
     refine caN (by exact k1) ?_;rintro v1 h1 s1 rfl
     simp(disch:=omega) only[go_sem,ξ,ζ,Int.toNat_one,Nat.zero_mul,qBm,Nat.zero_add,List.set_cons_zero,List.set_cons_succ]
     refine caN (by exact cB (n:=0) (by decide) (by decide)) ?_;rintro _ h3 _ f3;obtain⟨_,_,_,_,_,_,_,rfl,f3⟩:=f3.sa
     simp(disch:=omega) only[go_sem,ξ,ζ,Int.toNat_one,Nat.zero_mul,qBm,Nat.zero_add,List.set_cons_zero,List.set_cons_succ]
     exact⟨_,_,_,rfl,En.of f3⟩
   ·have hm:sgn3 p≠0:=fun k=>hp (sgn3_zero.1 k)
    rw[if_neg hp]
    have hpos:=yB (q:=p)
    rcases hb with hb |hb |hb
    ·have h2:decide (0 < p)=false:=decide_eq_false (fun k=>by have:=hpos.2 k;omega)
     rw[h2]
     rw[hb] at k1
     cases u<;>
     ·dsimp only[Pt.side] at*
      simp only[if_true,if_false,qAw,reduceIte]
      refine Spec.go [] Tryz.func239 rfl rfl (by kernel_rfl) fun C _=>?_
      simp(disch:=omega) only[go_sem,ξ,ζ,Int.toNat_one,Nat.zero_mul,qBm,Nat.zero_add,List.set_cons_zero,List.set_cons_succ]
      refine caN (by exact k1) ?_;rintro v1 h1 s1 rfl
      simp(disch:=omega) only[go_sem,ξ,ζ,Int.toNat_one,Nat.zero_mul,qBm,Nat.zero_add,List.set_cons_zero,List.set_cons_succ]
      exact⟨_,_,_,rfl,En.nil _⟩
    ·exact(hm hb).elim
    ·have h2:decide (0 < p)=true:=decide_eq_true (hpos.1 (by omega))
     rw[h2]
     rw[hb] at k1
     cases u<;>
     ·dsimp only[Pt.side] at*
      simp only[if_true,if_false,qAw,reduceIte]
      refine Spec.go [] Tryz.func239 rfl rfl (by kernel_rfl) fun C _=>?_
      simp(disch:=omega) only[go_sem,ξ,ζ,Int.toNat_one,Nat.zero_mul,qBm,Nat.zero_add,List.set_cons_zero,List.set_cons_succ]
      refine caN (by exact k1) ?_;rintro v1 h1 s1 rfl
      simp(disch:=omega) only[go_sem,ξ,ζ,Int.toNat_one,Nat.zero_mul,qBm,Nat.zero_add,List.set_cons_zero,List.set_cons_succ]
      exact⟨_,_,_,rfl,En.nil _⟩
 | inf u =>
  cases y with
  | fin p =>
   have k1:=fun {h} [Le h0 h]=>dv (h:=h) e2.num
   dsimp only[Pt.mul]
   have hb:=BJ (q:=p)
   by_cases hp:p=0
   ·have hm:=sgn3_zero.2 hp
    rw[if_pos hp]
    rw[hm] at k1
    cases u<;>
    ·dsimp only[Pt.side] at*
     simp only[if_true,if_false,qAw,reduceIte]
     refine Spec.go [] Tryz.func239 rfl rfl (by kernel_rfl) fun C _=>?_
     simp(disch:=omega) only[go_sem,ξ,ζ,Int.toNat_one,Nat.zero_mul,qBm,Nat.zero_add,List.set_cons_zero,List.set_cons_succ]
     refine caN (by exact k1) ?_;rintro v1 h1 s1 rfl
     simp(disch:=omega) only[go_sem,ξ,ζ,Int.toNat_one,Nat.zero_mul,qBm,Nat.zero_add,List.set_cons_zero,List.set_cons_succ]
     refine caN (by exact cB (n:=0) (by decide) (by decide)) ?_;rintro _ h3 _ f3;obtain⟨_,_,_,_,_,_,_,rfl,f3⟩:=f3.sa
     simp(disch:=omega) only[go_sem,ξ,ζ,Int.toNat_one,Nat.zero_mul,qBm,Nat.zero_add,List.set_cons_zero,List.set_cons_succ]
     exact⟨_,_,_,rfl,En.of f3⟩
   ·have hm:sgn3 p≠0:=fun k=>hp (sgn3_zero.1 k)
    rw[if_neg hp]
    have hpos:=yB (q:=p)
    rcases hb with hb |hb |hb
    ·have h2:decide (0 < p)=false:=decide_eq_false (fun k=>by have:=hpos.2 k;omega)
     rw[h2]
     rw[hb] at k1
     cases u<;>
     ·dsimp only[Pt.side] at*
      simp only[if_true,if_false,qAw,reduceIte]
      refine Spec.go [] Tryz.func239 rfl rfl (by kernel_rfl) fun C _=>?_
      simp(disch:=omega) only[go_sem,ξ,ζ,Int.toNat_one,Nat.zero_mul,qBm,Nat.zero_add,List.set_cons_zero,List.set_cons_succ]
      refine caN (by exact k1) ?_;rintro v1 h1 s1 rfl
      simp(disch:=omega) only[go_sem,ξ,ζ,Int.toNat_one,Nat.zero_mul,qBm,Nat.zero_add,List.set_cons_zero,List.set_cons_succ]
      exact⟨_,_,_,rfl,En.nil _⟩
    ·exact(hm hb).elim
    ·have h2:decide (0 < p)=true:=decide_eq_true (hpos.1 (by omega))
     rw[h2]
     rw[hb] at k1
     cases u<;>
     ·dsimp only[Pt.side] at*
      simp only[if_true,if_false,qAw,reduceIte]
      refine Spec.go [] Tryz.func239 rfl rfl (by kernel_rfl) fun C _=>?_
      simp(disch:=omega) only[go_sem,ξ,ζ,Int.toNat_one,Nat.zero_mul,qBm,Nat.zero_add,List.set_cons_zero,List.set_cons_succ]
      refine caN (by exact k1) ?_;rintro v1 h1 s1 rfl
      simp(disch:=omega) only[go_sem,ξ,ζ,Int.toNat_one,Nat.zero_mul,qBm,Nat.zero_add,List.set_cons_zero,List.set_cons_succ]
      exact⟨_,_,_,rfl,En.nil _⟩
  | inf w=>
   dsimp only[Pt.mul]
   cases u<;>cases w<;>
   ·dsimp only[Pt.side] at*
    simp only[if_true,if_false,qAw,reduceIte]
    refine Spec.go [] Tryz.func239 rfl rfl (by kernel_rfl) fun C _=>?_
    simp(disch:=omega) only[go_sem,ξ,ζ,Int.toNat_one,Nat.zero_mul,qBm,Nat.zero_add,List.set_cons_zero,List.set_cons_succ]
    exact⟨_,_,_,rfl,En.nil _⟩
def lowP:Option Rat→Pt
 |none=>.inf false
 |some q=>.fin q
def highP:Option Rat→Pt
 |none=>.inf true
 |some q=>.fin q
theorem y8 {h0 h:PH} [Le h0 h] {v:Value} {a b:Option Rat} (hv:Sn h0 v (.i a b)):Spec mach 238 #[v] h (fun r h'=>∃b1 a1 m1 c1 a2 m2 c2 b2 a3 m3 c3 a4 m4 c4,r=.agg #[.bool b1,.slice a1 m1 c1,.slice a2 m2 c2,.int .i64 (lowP a).side,.bool b2,.slice a3 m3 c3,.slice a4 m4 c4,.int .i64 (highP b).side]∧
  Ev h' (.agg #[.bool b1,.slice a1 m1 c1,.slice a2 m2 c2,.int .i64 (lowP a).side]) (lowP a)∧Ev h' (.agg #[.bool b2,.slice a3 m3 c3,.slice a4 m4 c4,.int .i64 (highP b).side]) (highP b)) NP:=by
 obtain⟨b1,a1,m1,c1,a2,m2,c2,b2,a3,m3,c3,a4,m4,c4,rfl,h1,h2⟩:=hv.ie
 cases a<;>cases b<;>
 ·dsimp only[Option.isNone]
  refine Spec.go [] Tryz.func238 rfl rfl (by kernel_rfl) fun C _=>?_
  simp(disch:=omega) only[go_sem,ξ,ζ,Int.toNat_one,Nat.zero_mul,qBm,Nat.zero_add,List.set_cons_zero,List.set_cons_succ]
  exact⟨_,_,_,_,_,_,_,_,_,_,_,_,_,_,rfl,⟨_,_,_,rfl,h1.to⟩,⟨_,_,_,rfl,h2.to⟩⟩
set_option maxHeartbeats 8000000
def stp (o:NS×Bool×Bool):Pt→NS×Bool×Bool
 |.fin q=>(o.1.joined (.i (some q) (some q)),o.2.1,o.2.2)
 |.inf true=>(o.1,o.2.1,true)
 |.inf false=>(o.1,true,o.2.2)
def inn (x y1 y2:Pt) (o:NS×Bool×Bool):Nat→NS×Bool×Bool
 |0=>o
 |1=>stp o (x.mul y1)
 |_+2=>stp (stp o (x.mul y1)) (x.mul y2)
def fin3 (o:NS×Bool×Bool):NS:=
 match o.1 with
 |.e=>.i (bif o.2.1 then none else some 0) (bif o.2.2 then none else some 0)
 |.i l h=>.i (bif o.2.1 then none else l) (bif o.2.2 then none else h)
def outer (x1 x2 y1 y2:Pt):Nat→NS×Bool×Bool
 |0=>(.e,false,false)
 |1=>inn x1 y1 y2 (.e,false,false) 2
 |_+2=>inn x2 y1 y2 (inn x1 y1 y2 (.e,false,false) 2) 2
def NS.prod:NS→NS→NS
 |.i a b,.i c d=>fin3 (outer (lowP a) (highP b) (lowP c) (highP d) 2)
 |_,_=>.e
theorem Pt.mul_comm (x y:Pt):x.mul y=y.mul x:=by
 cases x with
 | fin p=>cases y with
  |fin q=>show Pt.fin (p*q)=.fin (q*p);rw[Rat.mul_comm]
  |inf u=>rfl
 | inf u=>cases y with
  |fin q=>rfl
  |inf w=>show Pt.inf (u == w)=.inf (w == u);cases u<;>cases w<;>rfl
def NS.pts (k:Nat) (o:NS×Bool×Bool):Prop:=o.1.ok∧o.1.le k∧(o.1=.e∨∃a b,o.1=.i (some a) (some b))
theorem le_pt {q:Rat} {k:Nat} (h:sz q≤k):(NS.i (some q) (some q)).le k:=by
 rw[NS.le_i];exact⟨fun _ e=>by cases e;exact h,fun _ e=>by cases e;exact h⟩
theorem le_jn {x y:NS} {k:Nat} (hx:x.le k) (hy:y.le k):(x.joined y).le k:=by
 cases x with
 |e=>cases y<;>exact hy
 | i a b =>
  cases y with
  |e=>exact hx
  | i c d=>
   rw[NS.le_i] at hx hy
   show NS.le k (.i (jmin a c) (jmax b d))
   rw[NS.le_i]
   refine⟨fun q e=>?_,fun q e=>?_⟩
   ·cases a with
    |none=>cases e
    | some a=>
     cases c with
     |none=>cases e
     |some c=>cases e;exact py (hx.1 _ rfl) (hy.1 _ rfl)
   ·cases b with
    |none=>cases e
    | some b=>
     cases d with
     |none=>cases e
     |some d=>cases e;exact px (hx.2 _ rfl) (hy.2 _ rfl)
theorem ja {k:Nat} {o:NS×Bool×Bool} {z:Pt} (ho:NS.pts k o) (hz:z.le k):NS.pts k (stp o z):=by
 obtain⟨s,l,u⟩:=o
 cases z with
 |inf u=>cases u<;>exact ho
 | fin q=>
  have hq:(NS.i (some q) (some q)).ok:=by simp[NS.ok,ordO]
  refine⟨NS.ok_joined ho.1 hq,le_jn ho.2.1 (le_pt hz),.inr ?_⟩
  rcases ho.2.2 with e |⟨a,b,e⟩
  ·cases(e:s=.e);exact⟨q,q,rfl⟩
  ·cases(e:s=.i _ _);exact⟨min a q,max b q,rfl⟩
theorem lU {k:Nat} {x y:Pt} (hx:x.le k) (hy:y.le k) (hk:1≤k):(x.mul y).le (2*k):=by
 cases x with
 | fin p=>cases y with
  | fin q=>
   have:=bV p q
   have h1:sz p≤k:=hx
   have h2:sz q≤k:=hy
   show sz (p*q)≤2*k
   omega
  | inf u=>
   show Pt.le _ (if p=0 then .fin 0 else .inf _)
   split
   ·exact χ (show sz 0≤1 by decide) (by omega)
   ·trivial
 | inf u=>cases y with
  | fin q=>
   show Pt.le _ (if q=0 then .fin 0 else .inf _)
   split
   ·exact χ (show sz 0≤1 by decide) (by omega)
   ·trivial
  |inf w=>trivial
theorem wr {a b c d:Option Rat}:(outer (lowP a) (highP b) (lowP c) (highP d) 2).1=.e→(outer (lowP a) (highP b) (lowP c) (highP d) 2).2=(true,true):=by
 have hj:∀(s:NS) (q:Rat),s.joined (.i (some q) (some q))≠.e:=fun s q k=>by cases s<;>cases k
 have key:∀z1 z2 z3 z4:Pt,(stp (stp (stp (stp (.e,false,false) z1) z2) z3) z4).1=.e→∃u1 u2 u3 u4,z1=.inf u1∧z2=.inf u2∧z3=.inf u3∧z4=.inf u4:=by
  intro z1 z2 z3 z4 k
  have h4:∀(o:NS×Bool×Bool) (z:Pt),(stp o z).1=.e→o.1=.e∧∃u,z=.inf u:=by
   intro o z k
   cases z with
   |fin q=>exact(hj _ _ k).elim
   |inf u=>refine⟨?_,u,rfl⟩;cases u<;>exact k
  obtain⟨k,u4,e4⟩:=h4 _ _ k
  obtain⟨k,u3,e3⟩:=h4 _ _ k
  obtain⟨k,u2,e2⟩:=h4 _ _ k
  obtain⟨k,u1,e1⟩:=h4 _ _ k
  exact⟨u1,u2,u3,u4,e1,e2,e3,e4⟩
 intro k
 obtain⟨u1,u2,u3,u4,e1,e2,e3,e4⟩:=key _ _ _ _ k
 show(stp (stp (stp (stp (.e,false,false) ((lowP a).mul (lowP c))) ((lowP a).mul (highP d))) ((highP b).mul (lowP c))) ((highP b).mul (highP d))).2=_
 rw[e1,e2,e3,e4]
 have m1:∀{p:Rat} {u v:Bool},Pt.mul (.fin p) (.inf u)=.inf v→v=(u == decide (0 < p)):=by
  intro p u v k
  simp only[Pt.mul] at k
  split at k
  ·cases k
  ·cases k;rfl
 have m2:∀{p:Rat} {u v:Bool},Pt.mul (.inf u) (.fin p)=.inf v→v=(u == decide (0 < p)):=by
  intro p u v k
  simp only[Pt.mul] at k
  split at k
  ·cases k
  ·cases k;rfl
 cases a with
 | some a=>
  cases c with
  |some c=>cases e1
  | none=>cases d with
   |some d=>cases e2
   | none=>
    have:=m1 e1;have:=m1 e2
    subst u1 u2
    cases decide (0 < a)<;>cases u3<;>cases u4<;>rfl
 | none=>
  cases b with
  | some b=>
   cases c with
   |some c=>cases e3
   | none=>cases d with
    |some d=>cases e4
    | none=>
     have:=m1 e3;have:=m1 e4
     subst u3 u4
     cases decide (0 < b)<;>cases u1<;>cases u2<;>rfl
  | none=>
   cases c with
   | some c=>
    have:=m2 e1;have:=m2 e3
    subst u1 u3
    cases decide (0 < c)<;>cases u2<;>cases u4<;>rfl
   | none=>
    have e1':u1=true:=by cases e1;rfl
    have e3':u3=false:=by cases e3;rfl
    subst e1' e3'
    cases u2<;>cases u4<;>rfl
set_option maxHeartbeats 16000000
theorem NS.le30' {x:NS} (h:x.le 4096):x.le (2^30):=h.up (by decide)
theorem Pt.up {z:Pt} {k m:Nat} (h:z.le k) (hm:k≤m):z.le m:=by
 cases z with
 |fin q=>exact χ h hm
 |inf u=>trivial
theorem qR {a:Option Rat} {k:Nat} (h:∀q,a=some q→sz q≤k):(lowP a).le k:=by
 cases a with
 |none=>trivial
 |some q=>exact h q rfl
theorem og {a:Option Rat} {k:Nat} (h:∀q,a=some q→sz q≤k):(highP a).le k:=by
 cases a with
 |none=>trivial
 |some q=>exact h q rfl
theorem Ao {h0 h:PH} [Le h0 h] {v w:Value} {a b c d:Option Rat} (hs:Sn h0 v (.i a b)) (ht:Sn h0 w (.i c d)) (ls:(NS.i a b).le 2048) (lt:(NS.i c d).le 2048):
    Spec mach 177 #[v,w] h (fun v h'=>Sn h' v ((NS.i a b).prod (.i c d))) NP:=by
  rw[NS.le_i] at ls lt
  have la0:=qR ls.1
  have lb0:=og ls.2
  have lc0:=qR lt.1
  have ld0:=og lt.2
  have la:=Pt.up (m:=2^30) la0 (by decide)
  have lb:=Pt.up (m:=2^30) lb0 (by decide)
  have lc:=Pt.up (m:=2^30) lc0 (by decide)
  have ld:=Pt.up (m:=2^30) ld0 (by decide)
  have kA:=fun {h} [Le h0 h]=>y8 (h:=h) hs
  have kB:=fun {h} [Le h0 h]=>y8 (h:=h) ht
  have he:=wr (a:=a) (b:=b) (c:=c) (d:=d)
  obtain⟨b1,a1,m1,c1,a2,m2,c2,b2,a3,m3,c3,a4,m4,c4,rfl,_,_⟩:=hs.ie
  obtain⟨b1',a1',m1',c1',a2',m2',c2',b2',a3',m3',c3',a4',m4',c4',rfl,_,_⟩:=ht.ie
  show Spec _ _ _ _ (fun v h'=>Sn h' v (fin3 (outer (lowP a) (highP b) (lowP c) (highP d) 2))) _
  generalize lowP a=x1 at*
  generalize highP b=x2 at*
  generalize lowP c=y1 at*
  generalize highP d=y2 at*
  refine Spec.go [] Tryz.func177 rfl rfl (by kernel_rfl) fun C _=>?_
  try simp(maxSteps:=999999) (disch:=omega) only[go_sem,ξ,ζ,Int.toNat_one,Nat.zero_mul,qBm,Nat.zero_add,List.set_cons_zero,List.set_cons_succ]
  refine caN (by exact kA) ?_;rintro w1 h1 s1 zz1;obtain⟨p1,p2,p3,p4,p5,p6,p7,q1,q2,q3,q4,q5,q6,q7,rfl,ea,eb⟩:=zz1
  try simp(maxSteps:=999999) (disch:=omega) only[go_sem,ξ,ζ,Int.toNat_one,Nat.zero_mul,qBm,Nat.zero_add,List.set_cons_zero,List.set_cons_succ]
  refine lpSl [] (fun x:Nat×List Value×Bool×Bool=>⟨[(3,.p 1 0),(4,.p 2 0),(5,.p 3 0),(6,.v (.bool x.2.2.1)),(7,.v (.bool x.2.2.2)),(15,.v (.agg #[.bool p1,.slice p2 p3 p4,.slice p5 p6 p7,.int .i64 x1.side,.bool q1,.slice q2 q3 q4,.slice q5 q6 q7,.int .i64 x2.side])),(16,.v (.int .i64 x.1))],[[.bool b1,.slice a1 m1 c1,.slice a2 m2 c2,.bool b2,.slice a3 m3 c3,.slice a4 m4 c4,.bool a.isNone,.bool b.isNone,.bool false],[.bool b1',.slice a1' m1' c1',.slice a2' m2' c2',.bool b2',.slice a3' m3' c3',.slice a4' m4' c4',.bool c.isNone,.bool d.isNone,.bool false],[.bool false,.slice none 0 0,.slice none 0 0,.bool false,.slice none 0 0,.slice none 0 0,.bool false,.bool false,.bool false],x.2.1]⟩) (fun x h'=>Le h1 h'∧x.1≤2∧∃J,Sn h' (.agg x.2.1.toArray) J∧NS.pts 4096 (J,x.2.2.1,x.2.2.2)∧outer x1 x2 y1 y2 x.1=(J,x.2.2.1,x.2.2.2)) (fun x=>2 - x.1) (0,[.bool false,.slice none 0 0,.slice none 0 0,.bool false,.slice none 0 0,.slice none 0 0,.bool false,.bool false,.bool true],false,false) [0,1,2,3] ?_ ⟨inferInstance,by decide,.e,⟨_,_,_,_,_,_,_,_,rfl,En.nil _,En.nil _⟩,⟨trivial,rfl,.inl rfl⟩,rfl⟩ (by kernel_rfl) ?_
  · try simp(maxSteps:=999999) (disch:=omega) only[go_sem,ξ,ζ,aJ,Int.toNat_one,Nat.zero_mul,qBm,Nat.zero_add,List.set_cons_zero,List.set_cons_succ]
  rintro⟨i,cs,lo,hi⟩ h2 ⟨le2,hi2,J,hJ,hpt,hacc⟩
  have leh:Le h0 h2:=Le.tr inferInstance le2
  dsimp only at*
  obtain⟨g1,g2,g3,g4,g5,g6,g7,g8,g9,ga,gb,gc,gd,ge,gl,gu,gv,rfl⟩:∃g1 g2 g3 g4 g5 g6 g7 g8 g9 ga gb gc gd ge gl gu gv,cs=[.bool g1,.slice g2 g3 g4,.slice g5 g6 g7,.bool g8,.slice g9 ga gb,.slice gc gd ge,.bool gl,.bool gu,.bool gv]:=by
    obtain⟨_,_,_,_,_,_,_,_,_,_,_,_,_,_,_,_,e,_⟩:=hJ.sa
    simp only[Value.agg.injEq,Array.mk.injEq] at e
    exact⟨_,_,_,_,_,_,_,_,_,_,_,_,_,_,_,_,_,e⟩
  obtain rfl |rfl |rfl:i=2∨i=0∨i=1:=by omega
  · rw[hacc] at he
    try simp(maxSteps:=999999) (disch:=omega) only[go_sem,ξ,ζ,Int.toNat_one,Nat.zero_mul,qBm,Nat.zero_add,List.set_cons_zero,List.set_cons_succ]
    rw[hacc]
    cases J with
    | e=>
      obtain⟨rfl,rfl⟩:lo=true∧hi=true:=by have:=he rfl;simpa using this
      obtain⟨_,_,_,_,_,_,_,_,e,j1,j2⟩:=hJ
      simp only[Value.agg.injEq,Array.mk.injEq,List.cons.injEq,and_true,Value.bool.injEq] at e
      obtain⟨rfl,rfl,rfl,rfl,rfl,rfl,_⟩:=e
      exact⟨_,_,_,_,_,_,rfl,j1,j2⟩
    | i l u=>
      obtain⟨_,_,_,_,_,_,e,j1,j2⟩:=hJ
      simp only[Value.agg.injEq,Array.mk.injEq,List.cons.injEq,and_true,Value.bool.injEq] at e
      obtain⟨rfl,rfl,rfl,rfl,rfl,rfl,_⟩:=e
      obtain⟨l,u,e⟩:=hpt.2.2.resolve_left (fun k=>by cases k)
      cases e
      cases lo<;>cases hi<;>exact⟨_,_,_,_,_,_,rfl,by first |exact j1 |exact j1.junk,by first |exact j2 |exact j2.junk⟩
  · try simp(maxSteps:=999999) (disch:=omega) only[go_sem,ξ,ζ,Int.toNat_one,Nat.zero_mul,qBm,Nat.zero_add,List.set_cons_zero,List.set_cons_succ]
    refine caN (by exact kB) ?_;rintro w3 h3 s3 zz3;obtain⟨r1,r2,r3,r4,r5,r6,r7,t1,t2,t3,t4,t5,t6,t7,rfl,ec,ed⟩:=zz3
    try simp(maxSteps:=999999) (disch:=omega) only[go_sem,ξ,ζ,Int.toNat_one,Nat.zero_mul,qBm,Nat.zero_add,List.set_cons_zero,List.set_cons_succ]
    have eX:=ea.to (h':=h3)
    have hO:outer x1 x2 y1 y2 (0+1)=inn x1 y1 y2 (J,lo,hi) 2:=by rw[←hacc];rfl
    have lX:x1.le (2^30):=la
    have lX0:x1.le 2048:=la0
    obtain⟨o,ho⟩:∃o,(J,lo,hi)=o:=⟨_,rfl⟩
    rw[ho] at hO
    refine lpSl [] (fun x:Nat×List Value×Bool×Bool=>⟨[(3,.p 1 0),(4,.p 2 0),(5,.p 3 0),(6,.v (.bool x.2.2.1)),(7,.v (.bool x.2.2.2)),(9,.p 4 0),(15,.v (.agg #[.bool p1,.slice p2 p3 p4,.slice p5 p6 p7,.int .i64 x1.side,.bool q1,.slice q2 q3 q4,.slice q5 q6 q7,.int .i64 x2.side])),(16,.v (.int .i64 0)),(20,.v (.agg #[.bool r1,.slice r2 r3 r4,.slice r5 r6 r7,.int .i64 y1.side,.bool t1,.slice t2 t3 t4,.slice t5 t6 t7,.int .i64 y2.side])),(21,.v (.int .i64 x.1))],[[.bool b1,.slice a1 m1 c1,.slice a2 m2 c2,.bool b2,.slice a3 m3 c3,.slice a4 m4 c4,.bool a.isNone,.bool b.isNone,.bool false],[.bool b1',.slice a1' m1' c1',.slice a2' m2' c2',.bool b2',.slice a3' m3' c3',.slice a4' m4' c4',.bool c.isNone,.bool d.isNone,.bool false],[.bool false,.slice none 0 0,.slice none 0 0,.bool false,.slice none 0 0,.slice none 0 0,.bool false,.bool false,.bool false],x.2.1,[.bool p1,.slice p2 p3 p4,.slice p5 p6 p7,.int .i64 x1.side]]⟩) (fun x h'=>Le h3 h'∧x.1≤2∧∃J,Sn h' (.agg x.2.1.toArray) J∧NS.pts 4096 (J,x.2.2.1,x.2.2.2)∧inn x1 y1 y2 o x.1=(J,x.2.2.1,x.2.2.2)) (fun x=>2 - x.1) (0,_,lo,hi) [0,1,2,3,4] ?_ ⟨inferInstance,(show 0≤2 by decide),J,hJ.to (h':=h3),hpt,ho.symm⟩ (by kernel_rfl) ?_
    · try simp(maxSteps:=999999) (disch:=omega) only[go_sem,ξ,ζ,aJ,Int.toNat_one,Nat.zero_mul,qBm,Nat.zero_add,List.set_cons_zero,List.set_cons_succ]
    clear hJ hpt hacc ho
    rintro⟨j,cs,lo,hi⟩ h4 ⟨le4,hj,J,hJ,hpt,hacc⟩
    dsimp only at*
    generalize hX:x1=X at*
    obtain⟨k1,k2,k3,k4,k5,k6,k7,k8,k9,ka,kb,kc,kd,ke,kl,ku,kv,rfl⟩:∃k1 k2 k3 k4 k5 k6 k7 k8 k9 ka kb kc kd ke kl ku kv,cs=[.bool k1,.slice k2 k3 k4,.slice k5 k6 k7,.bool k8,.slice k9 ka kb,.slice kc kd ke,.bool kl,.bool ku,.bool kv]:=by
      obtain⟨_,_,_,_,_,_,_,_,_,_,_,_,_,_,_,_,e,_⟩:=hJ.sa
      simp only[Value.agg.injEq,Array.mk.injEq] at e
      exact⟨_,_,_,_,_,_,_,_,_,_,_,_,_,_,_,_,_,e⟩
    obtain rfl |rfl |rfl:j=2∨j=0∨j=1:=by omega
    · try simp(maxSteps:=999999) (disch:=omega) only[go_sem,ξ,ζ,Int.toNat_one,Nat.zero_mul,qBm,Nat.zero_add,List.set_cons_zero,List.set_cons_succ]
      dsimp only[lpS];refine⟨(0+1,_,lo,hi),[0,1,2,3],?_,⟨Le.tr le2 (Le.tr inferInstance le4),(show 0+1≤2 by decide),J,hJ,hpt,by rw[hO];exact hacc⟩,(show 2 - (0+1) < 2 - 0 by decide)⟩
      try simp(maxSteps:=999999) (disch:=omega) only[go_sem,ξ,ζ,aJ,Int.toNat_one,Nat.zero_mul,qBm,Nat.zero_add,List.set_cons_zero,List.set_cons_succ]
      all_goals rfl
    · try simp(maxSteps:=999999) (disch:=omega) only[go_sem,ξ,ζ,Int.toNat_one,Nat.zero_mul,qBm,Nat.zero_add,List.set_cons_zero,List.set_cons_succ]
      refine caN (by exact pc (eX.to (h':=h4)) (ec.to (h':=h4)) lX lc) ?_;rintro w5 h5 s5 zz5;obtain⟨f1,f2,f3,f4,f5,f6,f7,rfl,zz5c⟩:=zz5.sa
      try simp(maxSteps:=999999) (disch:=omega) only[go_sem,ξ,ζ,Int.toNat_one,Nat.zero_mul,qBm,Nat.zero_add,List.set_cons_zero,List.set_cons_succ]
      have lz:=lU lX0 lc0 (by decide)
      have hz:inn X y1 y2 o (0+1)=stp (J,lo,hi) (X.mul y1):=by rw[←hacc];rfl
      generalize X.mul y1=z at*
      cases z with
      | fin q=>
        dsimp only[Pt.side] at*
        try simp(maxSteps:=999999) (disch:=omega) only[go_sem,ξ,ζ,Int.toNat_one,Nat.zero_mul,qBm,Nat.zero_add,List.set_cons_zero,List.set_cons_succ]
        refine caN (by exact qU zz5c.num) ?_;rintro _ h6 _ zz6;obtain⟨_,_,_,_,_,_,_,_,_,_,_,_,_,_,_,_,rfl,zz6⟩:=zz6.sa
        try simp(maxSteps:=999999) (disch:=omega) only[go_sem,ξ,ζ,Int.toNat_one,Nat.zero_mul,qBm,Nat.zero_add,List.set_cons_zero,List.set_cons_succ]
        refine caN (by exact mS (hJ.to (h':=h6)) zz6 (NS.le30' hpt.2.1) (NS.le30' (le_pt lz))) ?_;rintro _ h7 _ zz7;obtain⟨_,_,_,_,_,_,_,_,_,_,_,_,_,_,_,_,rfl,zz7⟩:=zz7.sa
        try simp(maxSteps:=999999) (disch:=omega) only[go_sem,ξ,ζ,Int.toNat_one,Nat.zero_mul,qBm,Nat.zero_add,List.set_cons_zero,List.set_cons_succ]
        dsimp only[lpS];refine⟨(0+1,_,lo,hi),[0,1,2,3,4],?_,⟨inferInstance,(show 0+1≤2 by decide),_,zz7,ja (z:=.fin q) hpt lz,hz⟩,(show 2 - (0+1) < 2 - 0 by decide)⟩
        try simp(maxSteps:=999999) (disch:=omega) only[go_sem,ξ,ζ,aJ,Int.toNat_one,Nat.zero_mul,qBm,Nat.zero_add,List.set_cons_zero,List.set_cons_succ]
        all_goals rfl
      | inf up=>
        cases up with
        | true=>
          dsimp only[Pt.side] at*
          simp only[if_true,if_false,qAw,reduceIte] at*
          try simp(maxSteps:=999999) (disch:=omega) only[go_sem,ξ,ζ,Int.toNat_one,Nat.zero_mul,qBm,Nat.zero_add,List.set_cons_zero,List.set_cons_succ]
          dsimp only[lpS];refine⟨(0+1,_,lo,true),[0,1,2,3,4],?_,⟨inferInstance,(show 0+1≤2 by decide),_,hJ.to (h':=h5),hpt,hz⟩,(show 2 - (0+1) < 2 - 0 by decide)⟩
          try simp(maxSteps:=999999) (disch:=omega) only[go_sem,ξ,ζ,aJ,Int.toNat_one,Nat.zero_mul,qBm,Nat.zero_add,List.set_cons_zero,List.set_cons_succ]
          all_goals rfl
        | false=>
          dsimp only[Pt.side] at*
          simp only[if_true,if_false,qAw,reduceIte] at*
          try simp(maxSteps:=999999) (disch:=omega) only[go_sem,ξ,ζ,Int.toNat_one,Nat.zero_mul,qBm,Nat.zero_add,List.set_cons_zero,List.set_cons_succ]
          dsimp only[lpS];refine⟨(0+1,_,true,hi),[0,1,2,3,4],?_,⟨inferInstance,(show 0+1≤2 by decide),_,hJ.to (h':=h5),hpt,hz⟩,(show 2 - (0+1) < 2 - 0 by decide)⟩
          try simp(maxSteps:=999999) (disch:=omega) only[go_sem,ξ,ζ,aJ,Int.toNat_one,Nat.zero_mul,qBm,Nat.zero_add,List.set_cons_zero,List.set_cons_succ]
          all_goals rfl
    · try simp(maxSteps:=999999) (disch:=omega) only[go_sem,ξ,ζ,Int.toNat_one,Nat.zero_mul,qBm,Nat.zero_add,List.set_cons_zero,List.set_cons_succ]
      refine caN (by exact pc (eX.to (h':=h4)) (ed.to (h':=h4)) lX ld) ?_;rintro w5 h5 s5 zz5;obtain⟨f1,f2,f3,f4,f5,f6,f7,rfl,zz5c⟩:=zz5.sa
      try simp(maxSteps:=999999) (disch:=omega) only[go_sem,ξ,ζ,Int.toNat_one,Nat.zero_mul,qBm,Nat.zero_add,List.set_cons_zero,List.set_cons_succ]
      have lz:=lU lX0 ld0 (by decide)
      have hz:inn X y1 y2 o (1+1)=stp (J,lo,hi) (X.mul y2):=by rw[←hacc];rfl
      generalize X.mul y2=z at*
      cases z with
      | fin q=>
        dsimp only[Pt.side] at*
        try simp(maxSteps:=999999) (disch:=omega) only[go_sem,ξ,ζ,Int.toNat_one,Nat.zero_mul,qBm,Nat.zero_add,List.set_cons_zero,List.set_cons_succ]
        refine caN (by exact qU zz5c.num) ?_;rintro _ h6 _ zz6;obtain⟨_,_,_,_,_,_,_,_,_,_,_,_,_,_,_,_,rfl,zz6⟩:=zz6.sa
        try simp(maxSteps:=999999) (disch:=omega) only[go_sem,ξ,ζ,Int.toNat_one,Nat.zero_mul,qBm,Nat.zero_add,List.set_cons_zero,List.set_cons_succ]
        refine caN (by exact mS (hJ.to (h':=h6)) zz6 (NS.le30' hpt.2.1) (NS.le30' (le_pt lz))) ?_;rintro _ h7 _ zz7;obtain⟨_,_,_,_,_,_,_,_,_,_,_,_,_,_,_,_,rfl,zz7⟩:=zz7.sa
        try simp(maxSteps:=999999) (disch:=omega) only[go_sem,ξ,ζ,Int.toNat_one,Nat.zero_mul,qBm,Nat.zero_add,List.set_cons_zero,List.set_cons_succ]
        dsimp only[lpS];refine⟨(1+1,_,lo,hi),[0,1,2,3,4],?_,⟨inferInstance,(show 1+1≤2 by decide),_,zz7,ja (z:=.fin q) hpt lz,hz⟩,(show 2 - (1+1) < 2 - 1 by decide)⟩
        try simp(maxSteps:=999999) (disch:=omega) only[go_sem,ξ,ζ,aJ,Int.toNat_one,Nat.zero_mul,qBm,Nat.zero_add,List.set_cons_zero,List.set_cons_succ]
        all_goals rfl
      | inf up=>
        cases up with
        | true=>
          dsimp only[Pt.side] at*
          simp only[if_true,if_false,qAw,reduceIte] at*
          try simp(maxSteps:=999999) (disch:=omega) only[go_sem,ξ,ζ,Int.toNat_one,Nat.zero_mul,qBm,Nat.zero_add,List.set_cons_zero,List.set_cons_succ]
          dsimp only[lpS];refine⟨(1+1,_,lo,true),[0,1,2,3,4],?_,⟨inferInstance,(show 1+1≤2 by decide),_,hJ.to (h':=h5),hpt,hz⟩,(show 2 - (1+1) < 2 - 1 by decide)⟩
          try simp(maxSteps:=999999) (disch:=omega) only[go_sem,ξ,ζ,aJ,Int.toNat_one,Nat.zero_mul,qBm,Nat.zero_add,List.set_cons_zero,List.set_cons_succ]
          all_goals rfl
        | false=>
          dsimp only[Pt.side] at*
          simp only[if_true,if_false,qAw,reduceIte] at*
          try simp(maxSteps:=999999) (disch:=omega) only[go_sem,ξ,ζ,Int.toNat_one,Nat.zero_mul,qBm,Nat.zero_add,List.set_cons_zero,List.set_cons_succ]
          dsimp only[lpS];refine⟨(1+1,_,true,hi),[0,1,2,3,4],?_,⟨inferInstance,(show 1+1≤2 by decide),_,hJ.to (h':=h5),hpt,hz⟩,(show 2 - (1+1) < 2 - 1 by decide)⟩
          try simp(maxSteps:=999999) (disch:=omega) only[go_sem,ξ,ζ,aJ,Int.toNat_one,Nat.zero_mul,qBm,Nat.zero_add,List.set_cons_zero,List.set_cons_succ]
          all_goals rfl
  · try simp(maxSteps:=999999) (disch:=omega) only[go_sem,ξ,ζ,Int.toNat_one,Nat.zero_mul,qBm,Nat.zero_add,List.set_cons_zero,List.set_cons_succ]
    refine caN (by exact kB) ?_;rintro w3 h3 s3 zz3;obtain⟨r1,r2,r3,r4,r5,r6,r7,t1,t2,t3,t4,t5,t6,t7,rfl,ec,ed⟩:=zz3
    try simp(maxSteps:=999999) (disch:=omega) only[go_sem,ξ,ζ,Int.toNat_one,Nat.zero_mul,qBm,Nat.zero_add,List.set_cons_zero,List.set_cons_succ]
    have eX:=eb.to (h':=h3)
    have hO:outer x1 x2 y1 y2 (1+1)=inn x2 y1 y2 (J,lo,hi) 2:=by rw[←hacc];rfl
    have lX:x2.le (2^30):=lb
    have lX0:x2.le 2048:=lb0
    obtain⟨o,ho⟩:∃o,(J,lo,hi)=o:=⟨_,rfl⟩
    rw[ho] at hO
    refine lpSl [] (fun x:Nat×List Value×Bool×Bool=>⟨[(3,.p 1 0),(4,.p 2 0),(5,.p 3 0),(6,.v (.bool x.2.2.1)),(7,.v (.bool x.2.2.2)),(9,.p 4 0),(15,.v (.agg #[.bool p1,.slice p2 p3 p4,.slice p5 p6 p7,.int .i64 x1.side,.bool q1,.slice q2 q3 q4,.slice q5 q6 q7,.int .i64 x2.side])),(16,.v (.int .i64 1)),(20,.v (.agg #[.bool r1,.slice r2 r3 r4,.slice r5 r6 r7,.int .i64 y1.side,.bool t1,.slice t2 t3 t4,.slice t5 t6 t7,.int .i64 y2.side])),(21,.v (.int .i64 x.1))],[[.bool b1,.slice a1 m1 c1,.slice a2 m2 c2,.bool b2,.slice a3 m3 c3,.slice a4 m4 c4,.bool a.isNone,.bool b.isNone,.bool false],[.bool b1',.slice a1' m1' c1',.slice a2' m2' c2',.bool b2',.slice a3' m3' c3',.slice a4' m4' c4',.bool c.isNone,.bool d.isNone,.bool false],[.bool false,.slice none 0 0,.slice none 0 0,.bool false,.slice none 0 0,.slice none 0 0,.bool false,.bool false,.bool false],x.2.1,[.bool q1,.slice q2 q3 q4,.slice q5 q6 q7,.int .i64 x2.side]]⟩) (fun x h'=>Le h3 h'∧x.1≤2∧∃J,Sn h' (.agg x.2.1.toArray) J∧NS.pts 4096 (J,x.2.2.1,x.2.2.2)∧inn x2 y1 y2 o x.1=(J,x.2.2.1,x.2.2.2)) (fun x=>2 - x.1) (0,_,lo,hi) [0,1,2,3,4] ?_ ⟨inferInstance,(show 0≤2 by decide),J,hJ.to (h':=h3),hpt,ho.symm⟩ (by kernel_rfl) ?_
    · try simp(maxSteps:=999999) (disch:=omega) only[go_sem,ξ,ζ,aJ,Int.toNat_one,Nat.zero_mul,qBm,Nat.zero_add,List.set_cons_zero,List.set_cons_succ]
    clear hJ hpt hacc ho
    rintro⟨j,cs,lo,hi⟩ h4 ⟨le4,hj,J,hJ,hpt,hacc⟩
    dsimp only at*
    generalize hX:x2=X at*
    obtain⟨k1,k2,k3,k4,k5,k6,k7,k8,k9,ka,kb,kc,kd,ke,kl,ku,kv,rfl⟩:∃k1 k2 k3 k4 k5 k6 k7 k8 k9 ka kb kc kd ke kl ku kv,cs=[.bool k1,.slice k2 k3 k4,.slice k5 k6 k7,.bool k8,.slice k9 ka kb,.slice kc kd ke,.bool kl,.bool ku,.bool kv]:=by
      obtain⟨_,_,_,_,_,_,_,_,_,_,_,_,_,_,_,_,e,_⟩:=hJ.sa
      simp only[Value.agg.injEq,Array.mk.injEq] at e
      exact⟨_,_,_,_,_,_,_,_,_,_,_,_,_,_,_,_,_,e⟩
    obtain rfl |rfl |rfl:j=2∨j=0∨j=1:=by omega
    · try simp(maxSteps:=999999) (disch:=omega) only[go_sem,ξ,ζ,Int.toNat_one,Nat.zero_mul,qBm,Nat.zero_add,List.set_cons_zero,List.set_cons_succ]
      dsimp only[lpS];refine⟨(1+1,_,lo,hi),[0,1,2,3],?_,⟨Le.tr le2 (Le.tr inferInstance le4),(show 1+1≤2 by decide),J,hJ,hpt,by rw[hO];exact hacc⟩,(show 2 - (1+1) < 2 - 1 by decide)⟩
      try simp(maxSteps:=999999) (disch:=omega) only[go_sem,ξ,ζ,aJ,Int.toNat_one,Nat.zero_mul,qBm,Nat.zero_add,List.set_cons_zero,List.set_cons_succ]
      all_goals rfl
    · try simp(maxSteps:=999999) (disch:=omega) only[go_sem,ξ,ζ,Int.toNat_one,Nat.zero_mul,qBm,Nat.zero_add,List.set_cons_zero,List.set_cons_succ]
      refine caN (by exact pc (eX.to (h':=h4)) (ec.to (h':=h4)) lX lc) ?_;rintro w5 h5 s5 zz5;obtain⟨f1,f2,f3,f4,f5,f6,f7,rfl,zz5c⟩:=zz5.sa
      try simp(maxSteps:=999999) (disch:=omega) only[go_sem,ξ,ζ,Int.toNat_one,Nat.zero_mul,qBm,Nat.zero_add,List.set_cons_zero,List.set_cons_succ]
      have lz:=lU lX0 lc0 (by decide)
      have hz:inn X y1 y2 o (0+1)=stp (J,lo,hi) (X.mul y1):=by rw[←hacc];rfl
      generalize X.mul y1=z at*
      cases z with
      | fin q=>
        dsimp only[Pt.side] at*
        try simp(maxSteps:=999999) (disch:=omega) only[go_sem,ξ,ζ,Int.toNat_one,Nat.zero_mul,qBm,Nat.zero_add,List.set_cons_zero,List.set_cons_succ]
        refine caN (by exact qU zz5c.num) ?_;rintro _ h6 _ zz6;obtain⟨_,_,_,_,_,_,_,_,_,_,_,_,_,_,_,_,rfl,zz6⟩:=zz6.sa
        try simp(maxSteps:=999999) (disch:=omega) only[go_sem,ξ,ζ,Int.toNat_one,Nat.zero_mul,qBm,Nat.zero_add,List.set_cons_zero,List.set_cons_succ]
        refine caN (by exact mS (hJ.to (h':=h6)) zz6 (NS.le30' hpt.2.1) (NS.le30' (le_pt lz))) ?_;rintro _ h7 _ zz7;obtain⟨_,_,_,_,_,_,_,_,_,_,_,_,_,_,_,_,rfl,zz7⟩:=zz7.sa
        try simp(maxSteps:=999999) (disch:=omega) only[go_sem,ξ,ζ,Int.toNat_one,Nat.zero_mul,qBm,Nat.zero_add,List.set_cons_zero,List.set_cons_succ]
        dsimp only[lpS];refine⟨(0+1,_,lo,hi),[0,1,2,3,4],?_,⟨inferInstance,(show 0+1≤2 by decide),_,zz7,ja (z:=.fin q) hpt lz,hz⟩,(show 2 - (0+1) < 2 - 0 by decide)⟩
        try simp(maxSteps:=999999) (disch:=omega) only[go_sem,ξ,ζ,aJ,Int.toNat_one,Nat.zero_mul,qBm,Nat.zero_add,List.set_cons_zero,List.set_cons_succ]
        all_goals rfl
      | inf up=>
        cases up with
        | true=>
          dsimp only[Pt.side] at*
          simp only[if_true,if_false,qAw,reduceIte] at*
          try simp(maxSteps:=999999) (disch:=omega) only[go_sem,ξ,ζ,Int.toNat_one,Nat.zero_mul,qBm,Nat.zero_add,List.set_cons_zero,List.set_cons_succ]
          dsimp only[lpS];refine⟨(0+1,_,lo,true),[0,1,2,3,4],?_,⟨inferInstance,(show 0+1≤2 by decide),_,hJ.to (h':=h5),hpt,hz⟩,(show 2 - (0+1) < 2 - 0 by decide)⟩
          try simp(maxSteps:=999999) (disch:=omega) only[go_sem,ξ,ζ,aJ,Int.toNat_one,Nat.zero_mul,qBm,Nat.zero_add,List.set_cons_zero,List.set_cons_succ]
          all_goals rfl
        | false=>
          dsimp only[Pt.side] at*
          simp only[if_true,if_false,qAw,reduceIte] at*
          try simp(maxSteps:=999999) (disch:=omega) only[go_sem,ξ,ζ,Int.toNat_one,Nat.zero_mul,qBm,Nat.zero_add,List.set_cons_zero,List.set_cons_succ]
          dsimp only[lpS];refine⟨(0+1,_,true,hi),[0,1,2,3,4],?_,⟨inferInstance,(show 0+1≤2 by decide),_,hJ.to (h':=h5),hpt,hz⟩,(show 2 - (0+1) < 2 - 0 by decide)⟩
          try simp(maxSteps:=999999) (disch:=omega) only[go_sem,ξ,ζ,aJ,Int.toNat_one,Nat.zero_mul,qBm,Nat.zero_add,List.set_cons_zero,List.set_cons_succ]
          all_goals rfl
    · try simp(maxSteps:=999999) (disch:=omega) only[go_sem,ξ,ζ,Int.toNat_one,Nat.zero_mul,qBm,Nat.zero_add,List.set_cons_zero,List.set_cons_succ]
      refine caN (by exact pc (eX.to (h':=h4)) (ed.to (h':=h4)) lX ld) ?_;rintro w5 h5 s5 zz5;obtain⟨f1,f2,f3,f4,f5,f6,f7,rfl,zz5c⟩:=zz5.sa
      try simp(maxSteps:=999999) (disch:=omega) only[go_sem,ξ,ζ,Int.toNat_one,Nat.zero_mul,qBm,Nat.zero_add,List.set_cons_zero,List.set_cons_succ]
      have lz:=lU lX0 ld0 (by decide)
      have hz:inn X y1 y2 o (1+1)=stp (J,lo,hi) (X.mul y2):=by rw[←hacc];rfl
      generalize X.mul y2=z at*
      cases z with
      | fin q=>
        dsimp only[Pt.side] at*
        try simp(maxSteps:=999999) (disch:=omega) only[go_sem,ξ,ζ,Int.toNat_one,Nat.zero_mul,qBm,Nat.zero_add,List.set_cons_zero,List.set_cons_succ]
        refine caN (by exact qU zz5c.num) ?_;rintro _ h6 _ zz6;obtain⟨_,_,_,_,_,_,_,_,_,_,_,_,_,_,_,_,rfl,zz6⟩:=zz6.sa
        try simp(maxSteps:=999999) (disch:=omega) only[go_sem,ξ,ζ,Int.toNat_one,Nat.zero_mul,qBm,Nat.zero_add,List.set_cons_zero,List.set_cons_succ]
        refine caN (by exact mS (hJ.to (h':=h6)) zz6 (NS.le30' hpt.2.1) (NS.le30' (le_pt lz))) ?_;rintro _ h7 _ zz7;obtain⟨_,_,_,_,_,_,_,_,_,_,_,_,_,_,_,_,rfl,zz7⟩:=zz7.sa
        try simp(maxSteps:=999999) (disch:=omega) only[go_sem,ξ,ζ,Int.toNat_one,Nat.zero_mul,qBm,Nat.zero_add,List.set_cons_zero,List.set_cons_succ]
        dsimp only[lpS];refine⟨(1+1,_,lo,hi),[0,1,2,3,4],?_,⟨inferInstance,(show 1+1≤2 by decide),_,zz7,ja (z:=.fin q) hpt lz,hz⟩,(show 2 - (1+1) < 2 - 1 by decide)⟩
        try simp(maxSteps:=999999) (disch:=omega) only[go_sem,ξ,ζ,aJ,Int.toNat_one,Nat.zero_mul,qBm,Nat.zero_add,List.set_cons_zero,List.set_cons_succ]
        all_goals rfl
      | inf up=>
        cases up with
        | true=>
          dsimp only[Pt.side] at*
          simp only[if_true,if_false,qAw,reduceIte] at*
          try simp(maxSteps:=999999) (disch:=omega) only[go_sem,ξ,ζ,Int.toNat_one,Nat.zero_mul,qBm,Nat.zero_add,List.set_cons_zero,List.set_cons_succ]
          dsimp only[lpS];refine⟨(1+1,_,lo,true),[0,1,2,3,4],?_,⟨inferInstance,(show 1+1≤2 by decide),_,hJ.to (h':=h5),hpt,hz⟩,(show 2 - (1+1) < 2 - 1 by decide)⟩
          try simp(maxSteps:=999999) (disch:=omega) only[go_sem,ξ,ζ,aJ,Int.toNat_one,Nat.zero_mul,qBm,Nat.zero_add,List.set_cons_zero,List.set_cons_succ]
          all_goals rfl
        | false=>
          dsimp only[Pt.side] at*
          simp only[if_true,if_false,qAw,reduceIte] at*
          try simp(maxSteps:=999999) (disch:=omega) only[go_sem,ξ,ζ,Int.toNat_one,Nat.zero_mul,qBm,Nat.zero_add,List.set_cons_zero,List.set_cons_succ]
          dsimp only[lpS];refine⟨(1+1,_,true,hi),[0,1,2,3,4],?_,⟨inferInstance,(show 1+1≤2 by decide),_,hJ.to (h':=h5),hpt,hz⟩,(show 2 - (1+1) < 2 - 1 by decide)⟩
          try simp(maxSteps:=999999) (disch:=omega) only[go_sem,ξ,ζ,aJ,Int.toNat_one,Nat.zero_mul,qBm,Nat.zero_add,List.set_cons_zero,List.set_cons_succ]
          all_goals rfl
theorem prod_pts {a b c d:Option Rat} (ls:(NS.i a b).le 2048) (lt:(NS.i c d).le 2048):NS.pts 4096 (outer (lowP a) (highP b) (lowP c) (highP d) 2):=by
 rw[NS.le_i] at ls lt
 have la:=qR ls.1
 have lb:=og ls.2
 have lc:=qR lt.1
 have ld:=og lt.2
 exact ja (ja (ja (ja ⟨trivial,rfl,.inl rfl⟩ (lU la lc (by decide))) (lU la ld (by decide))) (lU lb lc (by decide))) (lU lb ld (by decide))
theorem fin3_pts {k:Nat} {o:NS×Bool×Bool} (h:NS.pts k o) (hk:1≤k):(fin3 o).ok∧(fin3 o).le k:=by
 obtain⟨s,l,u⟩:=o
 obtain⟨h1,h2,h3⟩:=h
 have h0:sz 0≤k:=χ (show sz 0≤1 by decide) hk
 rcases h3 with e |⟨a,b,e⟩
 ·cases(e:s=.e)
  refine⟨?_,?_⟩
  ·cases l<;>cases u<;>simp[fin3,NS.ok,ordO]
  ·show NS.le k (.i _ _)
   rw[NS.le_i]
   cases l<;>cases u<;>exact⟨fun _ e=>by cases e;try exact h0,fun _ e=>by cases e;try exact h0⟩
 ·cases(e:s=.i _ _)
  have h2':=(NS.le_i.1 h2)
  refine⟨?_,?_⟩
  ·cases l<;>cases u<;>first |exact h1 |rfl
  ·show NS.le k (.i _ _)
   rw[NS.le_i]
   cases l<;>cases u<;>exact⟨fun _ e=>by cases e;try exact h2'.1 _ rfl,fun _ e=>by cases e;try exact h2'.2 _ rfl⟩
theorem fK {x y:NS} (hx:x.le 2048) (hy:y.le 2048):(x.prod y).ok∧(x.prod y).le 4096:=by
 cases x with
 |e=>exact⟨trivial,rfl⟩
 | i a b=>cases y with
  |e=>exact⟨trivial,rfl⟩
  |i c d=>exact fin3_pts (prod_pts hx hy) (by decide)
theorem Prod1 {h0 h:PH} [Le h0 h] {s t:Value} {x y:NS} (hs:Sn h0 s x) (ht:Sn h0 t y) (gx:x.void=false) (gy:y.void=false) (lx:x.le 2048) (ly:y.le 2048):Spec mach 177 #[s,t] h (fun v h'=>Sn h' v (x.prod y)) NP:=by
 cases x with
 |e=>cases gx
 | i a b=>cases y with
  |e=>cases gy
  |i c d=>exact Ao hs ht lx ly
theorem gH {h0 h:PH} [Le h0 h] {v w:Value} {x y:RI} {p:Int} (hv:Iv h0 v x) (hw:Iv h0 w y):Spec mach 106 #[v,w,.int .i64 p] h (fun r h'=>Ir h' r (x.fin2 y (rnd p x.set y.set (.ok (x.set.prod y.set))))) NP:=by
 have hv0:=hv
 have hw0:=hw
 obtain⟨a1,m1,c1,a2,m2,c2,a3,m3,c3,a4,m4,c4,rfl,_,_⟩:=hv.sa
 obtain⟨a1',m1',c1',a2',m2',c2',a3',m3',c3',a4',m4',c4',rfl,_,_⟩:=hw.sa
 refine Spec.go [] Tryz.func106 rfl rfl (by kernel_rfl) fun C _=>?_
 try simp(maxSteps:=999999) (disch:=omega) only[go_sem,ξ,ζ,Int.toNat_one,Nat.zero_mul,qBm,Nat.zero_add,List.set_cons_zero,List.set_cons_succ]
 refine caN (by exact mC hv0 hw0 (fun g g' k k' h' _ s t hs ht=>Does.mk (Prod1 hs.sn ht.sn k k' (RI.le g) (RI.le g'))) (fun g g' z e=>by cases e;exact(fK (RI.le g) (RI.le g')).2.up (by decide))) ?_;rintro _ h3 _ hr3;obtain⟨_,_,_,_,_,_,_,_,_,_,_,_,_,_,_,_,_,rfl,hr3⟩:=hr3.sa
 try simp(maxSteps:=999999) (disch:=omega) only[go_sem,ξ,ζ,Int.toNat_one,Nat.zero_mul,qBm,Nat.zero_add,List.set_cons_zero,List.set_cons_succ]
 exact hr3
def invO:Option Rat→Rat
 |none=>((0:Int):Rat)
 |some q=>q⁻¹
def NS.inv:NS→NS
 |.e=>.e
 |.i a b=>.i (some (invO b)) (some (invO a))
theorem Ad {a b:Option Rat} (h:(NS.i a b).zero=false) (ho:(NS.i a b).ok):(∀q,a=some q→q≠0)∧∀q,b=some q→q≠0:=by
 have h1:¬((NS.i a b).slo≤0∧0≤(NS.i a b).shi):=by
  intro k
  simp[NS.zero,NS.void,k.1,k.2] at h
 refine⟨fun q e k=>h1 ?_,fun q e k=>h1 ?_⟩
 ·subst e k
  refine⟨by show sgn3 0≤0;decide,?_⟩
  cases b with
  |none=>show(0:Int)≤1;decide
  | some b=>
   have:¬b < 0:=by simpa[NS.ok,ordO] using ho
   show 0≤sgn3 b
   unfold sgn3;grind
 ·subst e k
  refine⟨?_,by show 0≤sgn3 0;decide⟩
  cases a with
  |none=>show(-1:Int)≤0;decide
  | some a=>
   have:¬(0:Rat) < a:=by simpa[NS.ok,ordO] using ho
   show sgn3 a≤0
   unfold sgn3;grind
theorem rp {h0 h:PH} [Le h0 h] {v:Value} {a b:Option Rat} (hv:Sn h0 v (.i a b)) (ha:∀q,a=some q→q≠0) (hb:∀q,b=some q→q≠0):Spec mach 180 #[v] h (fun v h'=>Sn h' v (NS.i a b).inv) NP:=by
 obtain⟨b1,a1,m1,c1,a2,m2,c2,b2,a3,m3,c3,a4,m4,c4,rfl,e1,e2⟩:=hv.ie
 cases a<;>cases b<;>
 ·dsimp only[Option.isNone]
  refine Spec.go [] Tryz.func180 rfl rfl (by kernel_rfl) fun C _=>?_
  try simp(maxSteps:=999999) (disch:=omega) only[go_sem,ξ,ζ]
  refine caN (by exact cB (n:=0) (by decide) (by decide)) ?_;rintro _ h1 _ f1;obtain⟨_,_,_,_,_,_,_,rfl,f1⟩:=f1.sa
  try simp(maxSteps:=999999) (disch:=omega) only[go_sem,ξ,ζ]
  refine caN (by exact cB (n:=0) (by decide) (by decide)) ?_;rintro _ h2 _ f2;obtain⟨_,_,_,_,_,_,_,rfl,f2⟩:=f2.sa
  try simp(maxSteps:=999999) (disch:=omega) only[go_sem,ξ,ζ]
  try (refine caN (by exact mu (e2.num.to (h':=h2)) (hb _ rfl)) ?_;rintro _ h3 _ f3;obtain⟨_,_,_,_,_,_,_,rfl,f3⟩:=f3.sa;(try simp(maxSteps:=999999) (disch:=omega) only[go_sem,ξ,ζ]))
  try (refine caN (by exact mu e1.num (ha _ rfl)) ?_;rintro _ h4 _ f4;obtain⟨_,_,_,_,_,_,_,rfl,f4⟩:=f4.sa;(try simp(maxSteps:=999999) (disch:=omega) only[go_sem,ξ,ζ]))
  try simp(maxSteps:=999999) (disch:=omega) only[go_sem,ξ,ζ]
  exact⟨_,_,_,_,_,_,rfl,by first |exact En.of f3.to |exact En.of f1.to,by first |exact En.of f4.to |exact En.of f2.to⟩
theorem jw {x:NS} {k:Nat} (h:x.le k) (hk:1≤k):x.inv.le k:=by
 cases x with
 |e=>exact h
 | i a b=>
  rw[NS.le_i] at h
  show NS.le k (.i (some (invO b)) (some (invO a)))
  rw[NS.le_i]
  have h0:sz ((0:Int):Rat)≤k:=χ (by decide) hk
  refine⟨fun q e=>?_,fun q e=>?_⟩
  ·cases e
   cases b with
   |none=>exact h0
   |some b=>exact χ (iQ b) (h.2 _ rfl)
  ·cases e
   cases a with
   |none=>exact h0
   |some a=>exact χ (iQ a) (h.1 _ rfl)
def divO (x y:NS):Out:=bif y.zero then .error 10 else .ok (x.prod y.inv)
theorem Div1 {h0 h:PH} [Le h0 h] {s t:Value} {x y:NS} (hs:Sn h0 s x) (ht:Sn h0 t y) (gx:x.void=false) (gy:y.void=false) (lx:x.le 2048) (ly:y.le 2048) (oy:y.ok):Does 178 #[s,t] h (divO x y):=by
 unfold divO
 have kZ:=fun {h} [Le h0 h]=>Ei (h:=h) ht
 have kI:y.zero=false→∀{h:PH} [Le h0 h],Spec mach 180 #[t] h (fun v h'=>Sn h' v y.inv) NP:=by
  intro hz h _
  cases y with
  |e=>cases gy
  | i c d=>
   obtain⟨n1,n2⟩:=Ad hz oy
   exact rp ht n1 n2
 have hs0:=hs
 have ht0:=ht
 obtain⟨_,_,_,_,_,_,_,_,_,_,_,_,_,_,_,_,rfl,_⟩:=hs.sa
 obtain⟨_,_,_,_,_,_,_,_,_,_,_,_,_,_,_,_,rfl,_⟩:=ht.sa
 cases hz:y.zero with
 | true=>
  rw[hz] at kZ
  show Spec _ _ _ _ NR (fail 10)
  refine Spec.go [] Tryz.func178 rfl rfl (by kernel_rfl) fun C _=>?_
  try simp(maxSteps:=999999) (disch:=omega) only[go_sem,ξ,ζ]
  refine caN (by exact kZ) ?_;rintro v1 h1 s1 rfl
  try simp(maxSteps:=999999) (disch:=omega) only[go_sem,ξ,ζ]
  exact caF (by exact jm (by decide)) (fun _ _ h=>h)
 | false=>
  rw[hz] at kZ
  show Spec _ _ _ _ (fun v h'=>Sn h' v (x.prod y.inv)) NP
  have kI:=fun {h} [Le h0 h]=>kI hz (h:=h)
  have gi:y.inv.void=false:=by cases y with
   |e=>cases gy
   |i c d=>rfl
  refine Spec.go [] Tryz.func178 rfl rfl (by kernel_rfl) fun C _=>?_
  try simp(maxSteps:=999999) (disch:=omega) only[go_sem,ξ,ζ]
  refine caN (by exact kZ) ?_;rintro v1 h1 s1 rfl
  try simp(maxSteps:=999999) (disch:=omega) only[go_sem,ξ,ζ]
  refine caN (by exact kI) ?_;rintro _ h2 _ q2;obtain⟨_,_,_,_,_,_,_,_,_,_,_,_,_,_,_,_,rfl,q2⟩:=q2.sa
  try simp(maxSteps:=999999) (disch:=omega) only[go_sem,ξ,ζ]
  refine caN (by exact Prod1 (hs0.to (h':=h2)) q2 gx gi lx (jw ly (by decide))) ?_;rintro _ h3 _ q3;obtain⟨_,_,_,_,_,_,_,_,_,_,_,_,_,_,_,_,rfl,q3⟩:=q3.sa
  try simp(maxSteps:=999999) (disch:=omega) only[go_sem,ξ,ζ]
  exact q3
theorem mH {h0 h:PH} [Le h0 h] {v w:Value} {x y:RI} {p:Int} (hv:Iv h0 v x) (hw:Iv h0 w y):Spec mach 107 #[v,w,.int .i64 p] h (fun r h'=>Ir h' r (x.fin2 y (rnd p x.set y.set (divO x.set y.set)))) NP:=by
 have hv0:=hv
 have hw0:=hw
 obtain⟨a1,m1,c1,a2,m2,c2,a3,m3,c3,a4,m4,c4,rfl,_,_⟩:=hv.sa
 obtain⟨a1',m1',c1',a2',m2',c2',a3',m3',c3',a4',m4',c4',rfl,_,_⟩:=hw.sa
 have kL:x.big=false→y.big=false→∀z,divO x.set y.set=.ok z→z.le (2^30):=by
  intro g g' z e
  unfold divO at e
  cases hz:y.set.zero with
  |true=>rw[hz] at e;cases e
  |false=>rw[hz] at e;cases e;exact(fK (RI.le g) (jw (RI.le g') (by decide))).2.up (by decide)
 refine Spec.go [] Tryz.func107 rfl rfl (by kernel_rfl) fun C _=>?_
 try simp(maxSteps:=999999) (disch:=omega) only[go_sem,ξ,ζ]
 refine caN (by exact mC hv0 hw0 (fun g g' k k' h' _ s t hs ht=>Div1 hs.sn ht.sn k k' (RI.le g) (RI.le g') (RI.set_ok y)) kL) ?_;rintro _ h3 _ hr3;obtain⟨_,_,_,_,_,_,_,_,_,_,_,_,_,_,_,_,_,rfl,hr3⟩:=hr3.sa
 try simp(maxSteps:=999999) (disch:=omega) only[go_sem,ξ,ζ]
 exact hr3
def NS.hasP:NS→Pt→Bool
 |x,.fin q=>x.has q
 |.i _ b,.inf true=>b.isNone
 |.i a _,.inf false=>a.isNone
 |.e,.inf _=>false
def cov (o:NS×Bool×Bool):Pt→Bool
 |.fin q=>o.1.has q
 |.inf true=>o.2.2
 |.inf false=>o.2.1
theorem te {x y:NS} {q:Rat} (h:x.has q=true):(x.joined y).has q=true:=by
 cases x with
 |e=>cases h
 | i a b =>
  cases y with
  |e=>exact h
  | i c d=>
   show(NS.i (jmin a c) (jmax b d)).has q=true
   rw[NS.has_i] at h ⊢
   refine⟨fun z e=>?_,fun z e=>?_⟩
   ·cases a with
    |none=>cases e
    | some a=>cases c with
     |none=>cases e
     |some c=>cases e;have:=h.1 _ rfl;grind
   ·cases b with
    |none=>cases e
    | some b=>cases d with
     |none=>cases e
     |some d=>cases e;have:=h.2 _ rfl;grind
theorem has_pt {q:Rat}:(NS.i (some q) (some q)).has q=true:=by
 rw[NS.has_i];exact⟨fun _ e=>by cases e;grind,fun _ e=>by cases e;grind⟩
theorem qG {o:NS×Bool×Bool} {z w:Pt} (h:cov o z=true):cov (stp o w) z=true:=by
 obtain⟨s,l,u⟩:=o
 cases w with
 | fin p=>cases z with
  |fin q=>exact te h
  |inf v=>cases v<;>exact h
 | inf p=>cases z with
  |fin q=>cases p<;>exact h
  |inf v=>cases v<;>cases p<;>first |exact h |rfl
theorem vU {o:NS×Bool×Bool} {z:Pt}:cov (stp o z) z=true:=by
 obtain⟨s,l,u⟩:=o
 cases z with
 |fin q=>show(s.joined _).has q=true;rw[NS.joined_comm];exact te has_pt
 |inf v=>cases v<;>rfl
theorem cov_fin3 {o:NS×Bool×Bool} {z:Pt} (h:cov o z=true):(fin3 o).hasP z=true:=by
 obtain⟨s,l,u⟩:=o
 cases z with
 |inf v=>cases v<;>(have h:_=true:=h;simp only[cov] at h;subst h;cases s<;>rfl)
 | fin q=>
  cases s with
  |e=>cases h
  | i a b=>
   have k:(NS.i a b).has q=true:=h
   show(NS.i _ _).has q=true
   rw[NS.has_i] at k ⊢
   refine⟨fun z e=>?_,fun z e=>?_⟩
   ·cases l with
    |true=>cases e
    |false=>exact k.1 _ e
   ·cases u with
    |true=>cases e
    |false=>exact k.2 _ e
theorem jl {x y p:NS} (hx:x.within p=true) (hy:y.within p=true):(x.joined y).within p=true:=by
 cases x with
 |e=>cases y<;>exact hy
 | i a b =>
  cases y with
  |e=>exact hx
  | i c d =>
   cases p with
   |e=>cases hx
   | i l u =>
    have hx:(NS.lowIn l a && NS.highIn u b)=true:=hx
    have hy:(NS.lowIn l c && NS.highIn u d)=true:=hy
    show(NS.lowIn l (jmin a c) && NS.highIn u (jmax b d))=true
    simp only[φ] at hx hy ⊢
    refine⟨?_,?_⟩
    ·cases l with
     |none=>rfl
     | some l=>cases a with
      |none=>cases hx.1
      | some a=>cases c with
       |none=>cases hy.1
       | some c=>
        have h1:¬a < l:=by simpa[NS.lowIn] using hx.1
        have h2:¬c < l:=by simpa[NS.lowIn] using hy.1
        have h3:¬min a c < l:=by grind
        simp[NS.lowIn,jmin,h3]
    ·cases u with
     |none=>rfl
     | some u=>cases b with
      |none=>cases hx.2
      | some b=>cases d with
       |none=>cases hy.2
       | some d=>
        have h1:¬u < b:=by simpa[NS.highIn] using hx.2
        have h2:¬u < d:=by simpa[NS.highIn] using hy.2
        have h3:¬u < max b d:=by grind
        simp[NS.highIn,jmax,h3]
def insd (o:NS×Bool×Bool) (p:NS):Prop:=o.1.within p=true∧(o.2.1=true→p.hasP (.inf false)=true)∧(o.2.2=true→p.hasP (.inf true)=true)
theorem JK {p:NS} {q:Rat} (h:p.has q=true):(NS.i (some q) (some q)).within p=true:=by
  cases p with
  |e=>cases h
  | i l u=>
    rw[NS.has_i] at h
    show(NS.lowIn l (some q) && NS.highIn u (some q))=true
    simp only[φ]
    refine⟨?_,?_⟩
    · cases l with
      |none=>rfl
      | some l => have:=h.1 _ rfl;have h3:¬q < l:=by grind
                  simp[NS.lowIn,h3]
    · cases u with
      |none=>rfl
      | some u => have:=h.2 _ rfl;have h3:¬u < q:=by grind
                  simp[NS.highIn,h3]
theorem lF {o:NS×Bool×Bool} {p:NS} {z:Pt} (h:insd o p) (hz:p.hasP z=true):insd (stp o z) p:=by
 obtain⟨s,l,u⟩:=o
 cases z with
 |fin q=>exact⟨jl h.1 (JK (by cases p<;>exact hz)),h.2.1,h.2.2⟩
 | inf v=>cases v with
  |true=>exact⟨h.1,h.2.1,fun _=>hz⟩
  |false=>exact⟨h.1,fun _=>hz,h.2.2⟩
theorem vE {o:NS×Bool×Bool} {p:NS} (h:insd o p) (he:o.1=.e→o.2=(true,true)):(fin3 o).within p=true:=by
 obtain⟨s,l,u⟩:=o
 cases s with
 | e =>
  have:=he rfl
  cases this
  have h1:=h.2.1 rfl
  have h2:=h.2.2 rfl
  cases p with
  |e=>cases h1
  | i a b=>cases a with
   |some a=>cases h1
   | none=>cases b with
    |some b=>cases h2
    |none=>rfl
 | i x y =>
  cases p with
  |e=>cases h.1
  | i a b=>
   have h0:(NS.lowIn a x && NS.highIn b y)=true:=h.1
   show(NS.lowIn a (bif l then none else x) && NS.highIn b (bif u then none else y))=true
   simp only[φ] at h0 ⊢
   refine⟨?_,?_⟩
   ·cases l with
    |false=>exact h0.1
    | true=>have:=h.2.1 rfl;cases a with
     |none=>rfl
     |some a=>cases this
   ·cases u with
    |false=>exact h0.2
    | true=>have:=h.2.2 rfl;cases b with
     |none=>rfl
     |some b=>cases this
theorem om {a b c d:Option Rat} {x y:Pt} (hx:x=lowP a∨x=highP b) (hy:y=lowP c∨y=highP d):((NS.i a b).prod (.i c d)).hasP (x.mul y)=true:=by
 show(fin3 (stp (stp (stp (stp (.e,false,false) ((lowP a).mul (lowP c))) ((lowP a).mul (highP d))) ((highP b).mul (lowP c))) ((highP b).mul (highP d)))).hasP _=true
 refine cov_fin3 ?_
 rcases hx with rfl |rfl<;>rcases hy with rfl |rfl
 ·exact qG (qG (qG vU))
 ·exact qG (qG vU)
 ·exact qG vU
 ·exact vU
theorem Jo {p:NS} {q r s:Rat} (h1:p.has q=true) (h2:p.has r=true) (h3:(q≤s∧s≤r)∨(r≤s∧s≤q)):p.has s=true:=by
 cases p with
 |e=>cases h1
 | i a b=>
  rw[NS.has_i] at*
  refine⟨fun z e=>?_,fun z e=>?_⟩
  ·have:=h1.1 z e;have:=h2.1 z e;grind
  ·have:=h1.2 z e;have:=h2.2 z e;grind
theorem Dt {p l u q:Rat} (h1:l≤q) (h2:q≤u):(p*l≤p*q∧p*q≤p*u)∨(p*u≤p*q∧p*q≤p*l):=by
 by_cases hp:0≤p
 ·exact .inl ⟨mll h1 hp,mll h2 hp⟩
 ·have hn:0≤ -p:=by grind
  have k1:=mll h1 hn
  have k2:=mll h2 hn
  right
  grind
theorem mul_in {p:NS} {e:Pt} {l u q:Rat} (h1:l≤q) (h2:q≤u) (k1:p.hasP (e.mul (.fin l))=true) (k2:p.hasP (e.mul (.fin u))=true):p.hasP (e.mul (.fin q))=true:=by
  cases e with
  | fin r=>
    have k1:p.has (r*l)=true:=by cases p<;>exact k1
    have k2:p.has (r*u)=true:=by cases p<;>exact k2
    have:=Jo k1 k2 (Dt (p:=r) h1 h2)
    cases p<;>exact this
  | inf up=>
    simp only[Pt.mul] at k1 k2 ⊢
    by_cases hq:q=0
    · rw[if_pos hq]
      by_cases hl:l=0
      · rwa[if_pos hl] at k1
      · by_cases hu:u=0
        · rwa[if_pos hu] at k2
        · rw[if_neg hl,decide_eq_false (by grind)] at k1
          rw[if_neg hu,decide_eq_true (by grind)] at k2
          cases p with
          |e=>cases up<;>cases k1
          | i a b=>
            cases up with
            | true=>
              have j1:a.isNone=true:=k1
              have j2:b.isNone=true:=k2
              cases a<;>cases b<;>first |rfl |(cases j1;done) |(cases j2;done)
            | false=>
              have j1:b.isNone=true:=k1
              have j2:a.isNone=true:=k2
              cases a<;>cases b<;>first |rfl |(cases j1;done) |(cases j2;done)
    · rw[if_neg hq]
      by_cases hp:0 < q
      · have hu:0 < u:=by grind
        rw[if_neg (by grind),decide_eq_true hu] at k2
        rw[decide_eq_true hp];exact k2
      · have hl:¬0 < l:=by grind
        rw[if_neg (by grind),decide_eq_false hl] at k1
        rw[decide_eq_false hp];exact k1
def NS.powr (n:Nat):NS→NS
 |.e=>.e
 |.i a b=>.i (a.map (· ^n)) (b.map (· ^n))
def NS.pow (n:Nat):NS→NS
 |.e=>.e
 |.i a b=>if n=0 then .i (some ((1:Int):Rat)) (some ((1:Int):Rat)) else if n % 2=0 then (NS.i a b).size.powr n else (NS.i a b).powr n
theorem NS.powr_le {x:NS} {n k:Nat} (h:x.le k):(x.powr n).le (n*k+1):=by
 cases x with
 |e=>exact h
 | i a b=>
  rw[NS.le_i] at h
  show NS.le _ (.i _ _)
  rw[NS.le_i]
  refine⟨fun q e=>?_,fun q e=>?_⟩
  ·cases a with
   |none=>cases e
   | some a=>
    cases e
    have h1:=FX a n
    have:=ω n (h.1 a rfl)
    exact χ h1 (by omega)
  ·cases b with
   |none=>cases e
   | some b=>
    cases e
    have h1:=FX b n
    have:=ω n (h.2 b rfl)
    exact χ h1 (by omega)
theorem NS.pow_le {x:NS} {n k:Nat} (h:x.le k) (hk:1≤k):(x.pow n).le (n*k+1):=by
 cases x with
 |e=>exact h
 | i a b=>
  show NS.le _ (if n=0 then _ else if n % 2=0 then _ else _)
  split
  ·rw[NS.le_i]
   have:sz ((1:Int):Rat)≤n*k+1:=χ (by decide) (Nat.le_add_left 1 _)
   exact⟨fun q e=>by cases e;exact this,fun q e=>by cases e;exact this⟩
  ·split
   ·exact NS.powr_le (NS.le.size hk h)
   ·exact NS.powr_le h
theorem NS.size_low {x:NS} {a b:Option Rat} (hx:x.ok) (h:x.size=.i a b):∃p,a=some p∧0≤p:=by
 have sg:∀{q:Rat},0≤sgn3 q→0≤q:=fun {q} k=>by unfold sgn3 at k;grind
 have sg':∀{q:Rat},sgn3 q≤0→q≤0:=fun {q} k=>by unfold sgn3 at k;grind
 cases x with
 |e=>cases h
 | i c d =>
  rw[NS.size_i] at h
  split at h
  ·rename_i h1
   cases h
   cases a with
   |none=>exact absurd h1 (by show ¬(0:Int)≤ -1;decide)
   |some a=>exact⟨a,rfl,sg h1⟩
  ·split at h
   ·rename_i h1
    cases d with
    |none=>exact absurd h1 (by show ¬(1:Int)≤0;decide)
    | some d=>
     have h2:=sg' (show sgn3 d≤0 from h1)
     cases h
     exact⟨-d,rfl,by grind⟩
   ·cases h
    exact⟨_,rfl,by decide⟩
theorem fh {p:NS} {q:Rat}:p.hasP (.fin q)=p.has q:=by cases p<;>rfl
theorem Fo {z:Pt}:NS.e.hasP z=false:=by
 cases z with
 |fin q=>rfl
 |inf v=>cases v<;>rfl
theorem wj {p q u:Rat} (hp:0≤p) (h:q≤u):p*q≤p*u:=mll h hp
theorem HA {p q u:Rat} (hp:p≤0) (h:q≤u):p*u≤p*q:=by
 have:=mll h (show 0≤ -p by grind)
 grind
theorem G1 {p:NS} {q r:Rat} (h:p.hasP (.inf false)=true) (h1:p.has q=true) (hr:r≤q):p.has r=true:=by
 cases p with
 |e=>cases h1
 | i a b=>
  cases a with
  |some a=>cases h
  | none=>
   rw[NS.has_i] at*
   exact⟨fun z e=>(by cases e),fun z e=>qAq hr (h1.2 z e)⟩
theorem G0 {p:NS} {q r:Rat} (h:p.hasP (.inf true)=true) (h1:p.has q=true) (hr:q≤r):p.has r=true:=by
 cases p with
 |e=>cases h1
 | i a b=>
  cases b with
  |some b=>cases h
  | none=>
   rw[NS.has_i] at*
   exact⟨fun z e=>qAq (h1.1 z e) hr,fun z e=>(by cases e)⟩
theorem lE {p:NS} (h:p.hasP (.inf false)=true) (h1:p.hasP (.inf true)=true) (q:Rat):p.has q=true:=by
 cases p with
 |e=>cases h
 | i a b=>
  cases a with
  |some a=>cases h
  | none=>cases b with
   |some b=>cases h1
   |none=>rfl
theorem mul_inP {p:NS} {e:Pt} {c d:Option Rat} {q:Rat} (hq:(NS.i c d).has q=true) (k1:p.hasP (e.mul (lowP c))=true) (k2:p.hasP (e.mul (highP d))=true):p.hasP (e.mul (.fin q))=true:=by
 rw[NS.has_i] at hq
 cases c with
 | some c=>
  cases d with
  |some d=>exact mul_in (hq.1 _ rfl) (hq.2 _ rfl) k1 k2
  | none=>
   have hc:c≤q:=hq.1 _ rfl
   cases e with
   | fin r=>
    have k1:p.has (r*c)=true:=by rw[←fh];exact k1
    have k2:p.hasP (if r=0 then .fin 0 else .inf (true == decide (0 < r)))=true:=k2
    show p.hasP (.fin (r*q))=true
    rw[fh]
    by_cases hr:r=0
    ·subst hr;rw[Rat.zero_mul] at k1 ⊢;exact k1
    ·rw[if_neg hr] at k2
     by_cases hp:0 < r
     ·rw[decide_eq_true hp] at k2
      exact G0 k2 k1 (wj (by grind) hc)
     ·rw[decide_eq_false hp] at k2
      exact G1 k2 k1 (HA (by grind) hc)
   | inf v=>
    have k2:p.hasP (.inf (v == true))=true:=k2
    have k1:p.hasP (if c=0 then .fin 0 else .inf (v == decide (0 < c)))=true:=k1
    show p.hasP (if q=0 then .fin 0 else .inf (v == decide (0 < q)))=true
    by_cases h0:q=0
    ·rw[if_pos h0]
     by_cases c0:c=0
     ·rwa[if_pos c0] at k1
     ·rw[if_neg c0,decide_eq_false (by grind)] at k1
      rw[fh]
      cases v
      ·exact lE k2 k1 0
      ·exact lE k1 k2 0
    ·rw[if_neg h0]
     by_cases hp:0 < q
     ·rw[decide_eq_true hp];exact k2
     ·rw[decide_eq_false hp]
      rw[if_neg (by grind),decide_eq_false (by grind)] at k1
      exact k1
 | none=>
  cases d with
  | some d=>
   have hd:q≤d:=hq.2 _ rfl
   cases e with
   | fin r=>
    have k2:p.has (r*d)=true:=by rw[←fh];exact k2
    have k1:p.hasP (if r=0 then .fin 0 else .inf (false == decide (0 < r)))=true:=k1
    show p.hasP (.fin (r*q))=true
    rw[fh]
    by_cases hr:r=0
    ·subst hr;rw[Rat.zero_mul] at k2 ⊢;exact k2
    ·rw[if_neg hr] at k1
     by_cases hp:0 < r
     ·rw[decide_eq_true hp] at k1
      exact G1 k1 k2 (wj (by grind) hd)
     ·rw[decide_eq_false hp] at k1
      exact G0 k1 k2 (HA (by grind) hd)
   | inf v=>
    have k1:p.hasP (.inf (v == false))=true:=k1
    have k2:p.hasP (if d=0 then .fin 0 else .inf (v == decide (0 < d)))=true:=k2
    show p.hasP (if q=0 then .fin 0 else .inf (v == decide (0 < q)))=true
    by_cases h0:q=0
    ·rw[if_pos h0]
     by_cases d0:d=0
     ·rwa[if_pos d0] at k2
     ·rw[if_neg d0,decide_eq_true (by grind)] at k2
      rw[fh]
      cases v
      ·exact lE k2 k1 0
      ·exact lE k1 k2 0
    ·rw[if_neg h0]
     by_cases hp:0 < q
     ·rw[decide_eq_true hp]
      rw[if_neg (by grind),decide_eq_true (by grind)] at k2
      exact k2
     ·rw[decide_eq_false hp];exact k1
  | none=>
   cases e with
   | fin r=>
    have k1:p.hasP (if r=0 then .fin 0 else .inf (false == decide (0 < r)))=true:=k1
    have k2:p.hasP (if r=0 then .fin 0 else .inf (true == decide (0 < r)))=true:=k2
    show p.hasP (.fin (r*q))=true
    by_cases hr:r=0
    ·rw[if_pos hr] at k1;subst hr;rw[Rat.zero_mul];exact k1
    ·rw[if_neg hr] at k1 k2
     rw[fh]
     cases hp:decide (0 < r)<;>rw[hp] at k1 k2
     ·exact lE k2 k1 _
     ·exact lE k1 k2 _
   | inf v=>
    have k1:p.hasP (.inf (v == false))=true:=k1
    have k2:p.hasP (.inf (v == true))=true:=k2
    show p.hasP (if q=0 then .fin 0 else .inf (v == decide (0 < q)))=true
    split
    ·rw[fh]
     cases v
     ·exact lE k2 k1 0
     ·exact lE k1 k2 0
    ·cases decide (0 < q)
     ·exact k1
     ·exact k2
theorem hasP_end {c d:Option Rat} {z:Pt} (h:(NS.i c d).hasP z=true):z=lowP c∨z=highP d∨∃q,z=.fin q∧(NS.i c d).has q=true:=by
 cases z with
 |fin q=>exact .inr (.inr ⟨q,rfl,h⟩)
 | inf v=>cases v with
  | false=>cases c with
   |none=>exact .inl rfl
   |some c=>cases h
  | true=>cases d with
   |none=>exact .inr (.inl rfl)
   |some d=>cases h
theorem yi {p:NS} {e z:Pt} {c d:Option Rat} (hz:(NS.i c d).hasP z=true) (k1:p.hasP (e.mul (lowP c))=true) (k2:p.hasP (e.mul (highP d))=true):p.hasP (e.mul z)=true:=by
 rcases hasP_end hz with rfl |rfl |⟨q,rfl,hq⟩
 ·exact k1
 ·exact k2
 ·exact mul_inP hq k1 k2
theorem mN {x y:NS} {z w:Pt} (hz:x.hasP z=true) (hw:y.hasP w=true):(x.prod y).hasP (z.mul w)=true:=by
 cases x with
 |e=>rw[Fo] at hz;cases hz
 | i a b=>
  cases y with
  |e=>rw[Fo] at hw;cases hw
  | i c d=>
   have k1:=yi hw (om (a:=a) (b:=b) (x:=lowP a) (.inl rfl) (.inl rfl)) (om (a:=a) (b:=b) (x:=lowP a) (.inl rfl) (.inr rfl))
   have k2:=yi hw (om (a:=a) (b:=b) (x:=highP b) (.inr rfl) (.inl rfl)) (om (a:=a) (b:=b) (x:=highP b) (.inr rfl) (.inr rfl))
   rw[Pt.mul_comm] at k1 k2 ⊢
   exact yi hz k1 k2
theorem iX {a b:Option Rat} (h:(NS.i a b).ok):(NS.i a b).hasP (lowP a)=true:=by
 cases a with
 |none=>rfl
 |some a=>exact NS.lo_has h
theorem gJ {a b:Option Rat} (h:(NS.i a b).ok):(NS.i a b).hasP (highP b)=true:=by
 cases b with
 |none=>rfl
 |some b=>exact NS.hi_has h
theorem eJ {x y:NS} {z:Pt} (hx:x.ok) (h:x.within y=true) (hz:x.hasP z=true):y.hasP z=true:=by
 cases z with
 |fin q=>rw[fh] at hz ⊢;exact(NS.within_iff hx).1 h q hz
 | inf v =>
  cases x with
  |e=>rw[Fo] at hz;cases hz
  | i a b =>
   cases y with
   |e=>cases h
   | i c d=>
    have h:(NS.lowIn c a && NS.highIn d b)=true:=h
    simp only[φ] at h
    cases v with
    | false=>cases a with
     |some a=>cases hz
     | none=>cases c with
      |none=>rfl
      |some c=>cases h.1
    | true=>cases b with
     |some b=>cases hz
     | none=>cases d with
      |none=>rfl
      |some d=>cases h.2
theorem yn {a b c d:Option Rat} {p:NS} (h:∀x y:Pt,(x=lowP a∨x=highP b)→(y=lowP c∨y=highP d)→p.hasP (x.mul y)=true):((NS.i a b).prod (.i c d)).within p=true:=
 vE (lF (lF (lF (lF ⟨rfl,fun k=>(by cases k),fun k=>(by cases k)⟩ (h _ _ (.inl rfl) (.inl rfl))) (h _ _ (.inl rfl) (.inr rfl))) (h _ _ (.inr rfl) (.inl rfl))) (h _ _ (.inr rfl) (.inr rfl))) wr
theorem tH {x y x' y':NS} (hx:x.ok) (hy:y.ok) (h1:x.within x'=true) (h2:y.within y'=true):(x.prod y).within (x'.prod y')=true:=by
 cases x with
 |e=>cases y<;>rfl
 | i a b=>
  cases y with
  |e=>rfl
  | i c d=>
   refine yn fun z w hz hw=>mN ?_ ?_
   ·rcases hz with rfl |rfl
    ·exact eJ hx h1 (iX hx)
    ·exact eJ hx h1 (gJ hx)
   ·rcases hw with rfl |rfl
    ·exact eJ hy h2 (iX hy)
    ·exact eJ hy h2 (gJ hy)
theorem tv {q:Rat} (h:0 < q):0 < q⁻¹:=by
 have h1:q*q⁻¹=1:=qBf q (by grind)
 rcases(Rat.le_total:q⁻¹≤0∨0≤q⁻¹) with k |k
 ·have:=mll k (show 0≤q by grind)
  grind
 ·by_cases h0:q⁻¹=0
  ·rw[h0] at h1;grind
  ·grind
theorem tm {q:Rat} (h:q < 0):q⁻¹ < 0:=by
 have h1:q*q⁻¹=1:=qBf q (by grind)
 rcases(Rat.le_total:0≤q⁻¹∨q⁻¹≤0) with k |k
 ·have:=mll k (show 0≤ -q by grind)
  grind
 ·by_cases h0:q⁻¹=0
  ·rw[h0] at h1;grind
  ·grind
theorem xY {c d:Rat} (h:c≤d) (hs:0 < c∨d < 0):d⁻¹≤c⁻¹:=by
 have hc:c*c⁻¹=1:=qBf c (by grind)
 have hd:d*d⁻¹=1:=qBf d (by grind)
 have hn:0≤c⁻¹*d⁻¹:=by
  rcases hs with k |k
  ·have h1:=tv k
   have h2:=tv (show 0 < d by grind)
   have:=mll (show 0≤d⁻¹ by grind) (show 0≤c⁻¹ by grind)
   grind
  ·have h1:=tm k
   have h2:=tm (show c < 0 by grind)
   have:=mll (show 0≤ -d⁻¹ by grind) (show 0≤ -c⁻¹ by grind)
   grind
 have h3:=mll h hn
 have e1:c⁻¹*d⁻¹*c=d⁻¹:=by
  have:c⁻¹*d⁻¹*c=(c*c⁻¹)*d⁻¹:=by grind
  rw[this,hc,Rat.one_mul]
 have e2:c⁻¹*d⁻¹*d=c⁻¹:=by
  have:c⁻¹*d⁻¹*d=(d*d⁻¹)*c⁻¹:=by grind
  rw[this,hd,Rat.one_mul]
 rwa[e1,e2] at h3
theorem qN {c d:Option Rat} (hz:(NS.i c d).zero=false) (ho:(NS.i c d).ok):invO d≤invO c:=by
 have h1:¬((NS.i c d).slo≤0∧0≤(NS.i c d).shi):=by
  intro k
  simp[NS.zero,NS.void,k.1,k.2] at hz
 have z0:((0:Int):Rat)=0:=rfl
 cases c with
 | none=>
  cases d with
  |none=>exact(h1 ⟨by decide,by decide⟩).elim
  | some d=>
   have h2:¬0≤sgn3 d:=fun k=>h1 ⟨by show(-1:Int)≤0;decide,k⟩
   have h3:d < 0:=by unfold sgn3 at h2;grind
   have:=tm h3
   show d⁻¹≤((0:Int):Rat)
   grind
 | some c=>
  cases d with
  | none=>
   have h2:¬sgn3 c≤0:=fun k=>h1 ⟨k,by show(0:Int)≤1;decide⟩
   have h3:0 < c:=by unfold sgn3 at h2;grind
   have:=tv h3
   show((0:Int):Rat)≤c⁻¹
   grind
  | some d=>
   have h2:¬(sgn3 c≤0∧0≤sgn3 d):=h1
   have h3:¬d < c:=by simpa[NS.ok,ordO] using ho
   have h4:0 < c∨d < 0:=by unfold sgn3 at h2;grind
   exact xY (by grind) h4
theorem cK {a b c d:Option Rat}:(NS.i a b).within (.i c d)=true↔NS.lowIn c a=true∧NS.highIn d b=true:=by
 show(NS.lowIn c a && NS.highIn d b)=true↔_
 rw[φ]
theorem dp {c a:Option Rat}:NS.lowIn c a=true↔∀z,c=some z→∃w,a=some w∧z≤w:=by
  cases c with
  |none=>exact⟨fun _ z e=>(by cases e),fun _=>rfl⟩
  | some c=>
    cases a with
    |none=>exact⟨fun h=>(by cases h),fun h=>by obtain⟨w,e,_⟩:=h c rfl;cases e⟩
    | some a=>
      constructor
      · intro h z e
        cases e
        exact ⟨a, rfl, by have:¬a < c:=by simpa[NS.lowIn] using h
                          grind⟩
      · intro h
        obtain⟨w,e,k⟩:=h c rfl
        cases e
        have:¬a < c:=by grind
        simp[NS.lowIn,this]
theorem cJ {d b:Option Rat}:NS.highIn d b=true↔∀z,d=some z→∃w,b=some w∧w≤z:=by
  cases d with
  |none=>exact⟨fun _ z e=>(by cases e),fun _=>rfl⟩
  | some d=>
    cases b with
    |none=>exact⟨fun h=>(by cases h),fun h=>by obtain⟨w,e,_⟩:=h d rfl;cases e⟩
    | some b=>
      constructor
      · intro h z e
        cases e
        exact ⟨b, rfl, by have:¬d < b:=by simpa[NS.highIn] using h
                          grind⟩
      · intro h
        obtain⟨w,e,k⟩:=h d rfl
        cases e
        have:¬d < b:=by grind
        simp[NS.highIn,this]
theorem gK {x y:NS} (h:x.within y=true):x.minus.within y.minus=true:=by
 cases x with
 |e=>rfl
 | i a b=>
  cases y with
  |e=>cases h
  | i c d=>
   rw[cK,dp,cJ] at h
   show(NS.i (b.map (-·)) (a.map (-·))).within (.i (d.map (-·)) (c.map (-·)))=true
   rw[cK,dp,cJ]
   refine⟨fun z e=>?_,fun z e=>?_⟩
   ·cases d with
    |none=>cases e
    |some d=>obtain⟨w,e',k⟩:=h.2 d rfl;subst e';cases e;exact⟨-w,rfl,by grind⟩
   ·cases c with
    |none=>cases e
    |some c=>obtain⟨w,e',k⟩:=h.1 c rfl;subst e';cases e;exact⟨-w,rfl,by grind⟩
theorem wG {x y x' y':NS} (h1:x.within x'=true) (h2:y.within y'=true):(x.sum y).within (x'.sum y')=true:=by
 cases x with
 |e=>rfl
 | i a b =>
  cases y with
  |e=>rfl
  | i c d =>
   cases x' with
   |e=>cases h1
   | i a' b' =>
    cases y' with
    |e=>cases h2
    | i c' d'=>
     rw[cK,dp,cJ] at h1 h2
     show(NS.i (oadd a c) (oadd b d)).within (.i (oadd a' c') (oadd b' d'))=true
     rw[cK,dp,cJ]
     refine⟨fun z e=>?_,fun z e=>?_⟩
     ·cases a' with
      |none=>cases e
      | some a'=>cases c' with
       |none=>cases e
       | some c'=>
        obtain⟨w,e1,k1⟩:=h1.1 a' rfl
        obtain⟨v,e2,k2⟩:=h2.1 c' rfl
        subst e1 e2;cases e
        exact⟨w+v,rfl,by grind⟩
     ·cases b' with
      |none=>cases e
      | some b'=>cases d' with
       |none=>cases e
       | some d'=>
        obtain⟨w,e1,k1⟩:=h1.2 b' rfl
        obtain⟨v,e2,k2⟩:=h2.2 d' rfl
        subst e1 e2;cases e
        exact⟨w+v,rfl,by grind⟩
theorem pm {x y x' y':NS} (h1:x.within x'=true) (h2:y.within y'=true):(x.lesser y).within (x'.lesser y')=true:=by
 cases x with
 |e=>rfl
 | i a b =>
  cases y with
  |e=>rfl
  | i c d =>
   cases x' with
   |e=>cases h1
   | i a' b' =>
    cases y' with
    |e=>cases h2
    | i c' d'=>
     rw[cK,dp,cJ] at h1 h2
     show(NS.i (jmin a c) (omin b d)).within (.i (jmin a' c') (omin b' d'))=true
     rw[cK,dp,cJ]
     refine⟨fun z e=>?_,fun z e=>?_⟩
     ·cases a' with
      |none=>cases e
      | some a'=>cases c' with
       |none=>cases e
       | some c'=>
        obtain⟨w,e1,k1⟩:=h1.1 a' rfl
        obtain⟨v,e2,k2⟩:=h2.1 c' rfl
        subst e1 e2;cases e
        exact⟨min w v,rfl,by grind⟩
     ·cases b' with
      | none=>
       cases d' with
       |none=>cases e
       | some d'=>
        obtain⟨v,e2,k2⟩:=h2.2 d' rfl
        subst e2;cases e
        cases b with
        |none=>exact⟨v,rfl,k2⟩
        |some b=>exact⟨min b v,rfl,by grind⟩
      | some b'=>
       obtain⟨w,e1,k1⟩:=h1.2 b' rfl
       subst e1
       cases d' with
       | none=>
        cases e
        cases d with
        |none=>exact⟨w,rfl,k1⟩
        |some d=>exact⟨min w d,rfl,by grind⟩
       | some d'=>
        obtain⟨v,e2,k2⟩:=h2.2 d' rfl
        subst e2;cases e
        exact⟨min w v,rfl,by grind⟩
theorem ud {x:NS}:x.has 0=x.zero:=by
 have k1:∀q:Rat,(!decide ((0:Rat) < q))=decide (sgn3 q≤0):=fun q=>by unfold sgn3;by_cases h:(0:Rat) < q<;>simp[h]<;>grind
 have k2:∀q:Rat,(!decide (q < (0:Rat)))=decide (0≤sgn3 q):=fun q=>by unfold sgn3;by_cases h:q < (0:Rat)<;>simp[h]<;>grind
 cases x with
 |e=>rfl
 | i a b=>
  cases a<;>cases b<;>simp[NS.has,NS.zero,NS.void,NS.slo,NS.shi,k1,k2]<;>rfl
theorem jE {x y:NS} (hx:x.ok) (h:x.within y=true) (hz:y.zero=false):x.zero=false:=by
 rw[←ud] at hz ⊢
 cases hx0:x.has 0 with
 |false=>rfl
 |true=>rw[(NS.within_iff hx).1 h 0 hx0] at hz;cases hz
theorem Ha {x y:NS} (hx:x.ok) (hy:y.ok) (h:x.within y=true) (hz:y.zero=false):x.inv.within y.inv=true:=by
 have hz':=jE hx h hz
 have z0:((0:Int):Rat)=0:=rfl
 cases x with
 |e=>rfl
 | i a b =>
  cases y with
  |e=>cases h
  | i c d =>
   have hxz:(NS.i a b).has 0=false:=by rw[ud];exact hz'
   have hyz:(NS.i c d).has 0=false:=by rw[ud];exact hz
   have hx0:¬((∀q,a=some q→q≤0)∧∀q,b=some q→0≤q):=fun k=>by rw[NS.has_i.2 k] at hxz;cases hxz
   have hy0:¬((∀q,c=some q→q≤0)∧∀q,d=some q→0≤q):=fun k=>by rw[NS.has_i.2 k] at hyz;cases hyz
   rw[cK,dp,cJ] at h
   show(NS.i (some (invO b)) (some (invO a))).within (.i (some (invO d)) (some (invO c)))=true
   rw[cK,dp,cJ]
   have ordy:∀p q,c=some p→d=some q→p≤q:=fun p q e1 e2=>by
    subst e1 e2
    have:¬q < p:=by simpa[NS.ok,ordO] using hy
    grind
   have ordx:∀p q,a=some p→b=some q→p≤q:=fun p q e1 e2=>by
    subst e1 e2
    have:¬q < p:=by simpa[NS.ok,ordO] using hx
    grind
   refine⟨fun z e=>⟨_,rfl,?_⟩,fun z e=>⟨_,rfl,?_⟩⟩<;>(have e:=Option.some.inj e;subst e)
   ·-- the upper ends' inverses
    cases d with
    | none=>
     show((0:Int):Rat)≤invO b
     cases b with
     |none=>exact qBk
     | some b=>
      obtain⟨p,e1,hp⟩:∃p,c=some p∧0 < p:=Decidable.byContradiction fun k=>hy0 ⟨fun q e=>by refine Decidable.byContradiction fun j=>k ⟨q,e,by grind⟩,fun q e=>(by cases e)⟩
      obtain⟨w,e2,k2⟩:=h.1 p e1
      have:=ordx w b e2 rfl
      have:=tv (q:=b) (by grind)
      show((0:Int):Rat)≤b⁻¹
      grind
    | some d=>
     obtain⟨w,e1,k1⟩:=h.2 d rfl
     subst e1
     show d⁻¹≤w⁻¹
     refine xY k1 ?_
     by_cases hd:d < 0
     ·exact .inr hd
     ·left
      obtain⟨p,e1,hp⟩:∃p,c=some p∧0 < p:=Decidable.byContradiction fun k=>hy0 ⟨fun q e=>by refine Decidable.byContradiction fun j=>k ⟨q,e,by grind⟩,fun q e=>by cases e;grind⟩
      obtain⟨v,e2,k2⟩:=h.1 p e1
      have:=ordx v w e2 rfl
      grind
   ·cases c with
    | none=>
     show invO a≤((0:Int):Rat)
     cases a with
     |none=>exact qBk
     | some a=>
      obtain⟨p,e1,hp⟩:∃p,d=some p∧p < 0:=Decidable.byContradiction fun k=>hy0 ⟨fun q e=>(by cases e),fun q e=>by refine Decidable.byContradiction fun j=>k ⟨q,e,by grind⟩⟩
      obtain⟨w,e2,k2⟩:=h.2 p e1
      have:=ordx a w rfl e2
      have:=tm (q:=a) (by grind)
      show a⁻¹≤((0:Int):Rat)
      grind
    | some c=>
     obtain⟨w,e1,k1⟩:=h.1 c rfl
     subst e1
     show w⁻¹≤c⁻¹
     refine xY k1 ?_
     by_cases hc:0 < c
     ·exact .inl hc
     ·right
      obtain⟨p,e1,hp⟩:∃p,d=some p∧p < 0:=Decidable.byContradiction fun k=>hy0 ⟨fun q e=>by cases e;grind,fun q e=>by refine Decidable.byContradiction fun j=>k ⟨q,e,by grind⟩⟩
      obtain⟨v,e2,k2⟩:=h.2 p e1
      have:=ordx w v rfl e2
      grind
def rtw (q:Rat) (n p:Nat):Nat:=q.num.natAbs*2^(p*n) / q.den
def rtx (q:Rat) (n p:Nat):Bool:=decide (irt n (rtw q n p)^n=rtw q n p) && decide (q.num.natAbs*2^(p*n) % q.den=0)
def rtm (up:Bool) (q:Rat) (n p:Nat):Nat:=if (up != decide (q.num < 0))=true∧rtx q n p=false then irt n (rtw q n p)+1 else irt n (rtw q n p)
def rootg (up:Bool) (q:Rat) (n p:Nat):Rat:=sgn (decide (q.num < 0)) (rtm up q n p) (2^p)
theorem qj (m:Nat) {d:Nat} (hd:d≠0):sgn false m d*(d:Rat)=(m:Rat):=by
 show mkRat (m:Int) d*(d:Rat)=_
 have h1:(d:Rat)≠0:=by exact_mod_cast hd
 rw[qBb]
 exact Rat.div_mul_cancel h1
theorem sg_nn {q:Rat}:0≤sgn3 q↔0≤q:=by unfold sgn3;grind
theorem sg_np {q:Rat}:sgn3 q≤0↔q≤0:=by unfold sgn3;grind
theorem jU {a b:Option Rat} (hx:(NS.i a b).ok):
  (∃p,a=some p∧0≤p∧(NS.i a b).size=.i a b)∨(∃q,b=some q∧q≤0∧(NS.i a b).size=(NS.i a b).minus)∨
   ((∀p,a=some p→p < 0)∧(∀q,b=some q→0 < q)∧(NS.i a b).size=.i (some ((0:Int):Rat)) (jmax (a.map (-·)) b)):=by
 rw[NS.size_i]
 by_cases h1:0≤(NS.i a b).slo
 ·rw[if_pos h1]
  cases a with
  |none=>exact absurd h1 (by show ¬(0:Int)≤ -1;decide)
  |some a=>exact .inl ⟨a,rfl,sg_nn.1 h1,rfl⟩
 ·rw[if_neg h1]
  by_cases h2:(NS.i a b).shi≤0
  ·rw[if_pos h2]
   cases b with
   |none=>exact absurd h2 (by show ¬(1:Int)≤0;decide)
   |some b=>exact .inr (.inl ⟨b,rfl,sg_np.1 h2,rfl⟩)
  ·rw[if_neg h2]
   refine .inr (.inr ⟨fun p e=>?_,fun q e=>?_,rfl⟩)
   ·subst e
    have:¬0≤p:=fun k=>h1 (sg_nn.2 k)
    grind
   ·subst e
    have:¬q≤0:=fun k=>h2 (sg_np.2 k)
    grind
theorem JX {a b:Option Rat} (hx:(NS.i a b).ok) (h:(NS.i a b).shi≤0):(NS.i a b).size=(NS.i a b).minus:=by
 rw[NS.size_i]
 by_cases h1:0≤(NS.i a b).slo
 ·rw[if_pos h1]
  cases a with
  |none=>exact absurd h1 (by show ¬(0:Int)≤ -1;decide)
  | some a=>cases b with
   |none=>exact absurd h (by show ¬(1:Int)≤0;decide)
   | some b=>
    have k1:0≤sgn3 a:=h1
    have k2:sgn3 b≤0:=h
    have k3:¬b < a:=by simpa[NS.ok,ordO] using hx
    have ea:a=0:=by unfold sgn3 at k1 k2;grind
    have eb:b=0:=by unfold sgn3 at k1 k2;grind
    subst ea eb
    show NS.i (some 0) (some 0)=.i (some (-0)) (some (-0))
    rw[Rat.neg_zero]
 ·rw[if_neg h1,if_pos h]
theorem size_iso {x y:NS} (hx:x.ok) (hy:y.ok) (h:x.within y=true):x.size.within y.size=true:=by
 cases x with
 |e=>rfl
 | i a b =>
  cases y with
  |e=>cases h
  | i c d =>
   have h0:=h
   have hm:=gK h
   rw[cK,dp,cJ] at h
   have ordx:∀p q,a=some p→b=some q→p≤q:=fun p q e1 e2=>by
    subst e1 e2
    have:¬q < p:=by simpa[NS.ok,ordO] using hx
    grind
   have ordy:∀p q,c=some p→d=some q→p≤q:=fun p q e1 e2=>by
    subst e1 e2
    have:¬q < p:=by simpa[NS.ok,ordO] using hy
    grind
   rcases jU hy with⟨p,e1,hp,es⟩ |⟨q,e1,hq,es⟩ |⟨hp,hq,es⟩
   ·-- both hold no negative numbers
    obtain⟨w,ew,kw⟩:=h.1 p e1
    have:(NS.i a b).size=.i a b:=by
     rw[NS.size_i,if_pos]
     subst ew
     exact sg_nn.2 (by grind)
    rw[es,this];exact h0
   ·obtain⟨w,ew,kw⟩:=h.2 q e1
    have:(NS.i a b).size=(NS.i a b).minus:=JX hx (by subst ew;exact sg_np.2 (by grind))
    rw[es,this];exact hm
   ·rw[es]
    obtain⟨c',d',ec⟩:∃c' d',(NS.i a b).size=.i c' d':=by
     rcases jU hx with⟨_,_,_,e⟩ |⟨_,_,_,e⟩ |⟨_,_,e⟩
     ·exact⟨_,_,e⟩
     ·exact⟨_,_,e⟩
     ·exact⟨_,_,e⟩
    obtain⟨p0,ep0,hp0⟩:=NS.size_low hx ec
    have key:∀z,jmax (c.map (-·)) d=some z→∃w,d'=some w∧w≤z:=by
     intro z e
     cases c with
     |none=>cases e
     | some c=>cases d with
      |none=>cases e
      | some d=>
       cases e
       obtain⟨w,ew,kw⟩:=h.1 c rfl
       obtain⟨v,ev,kv⟩:=h.2 d rfl
       subst ew ev
       rcases jU hx with⟨_,_,_,e⟩ |⟨_,_,_,e⟩ |⟨_,_,e⟩
       ·rw[ec] at e;cases e;exact⟨v,rfl,by grind⟩
       ·rw[ec] at e;cases e;exact⟨-w,rfl,by grind⟩
       ·rw[ec] at e;cases e;exact⟨max (-w) v,rfl,by grind⟩
    rw[ec,cK,dp,cJ]
    refine⟨fun z e=>⟨p0,ep0,?_⟩,key⟩
    cases e
    exact hp0
theorem DC {x y:NS} {n:Nat} (h:x.within y=true) (hn:n % 2=1∨(∀a b,y=.i a b→∃p,a=some p∧0≤p)) (hx:x.ok):(x.powr n).within (y.powr n)=true:=by
 cases x with
 |e=>rfl
 | i a b =>
  cases y with
  |e=>cases h
  | i c d =>
   rw[cK,dp,cJ] at h
   show(NS.i (a.map (· ^n)) (b.map (· ^n))).within (.i (c.map (· ^n)) (d.map (· ^n)))=true
   rw[cK,dp,cJ]
   have mono:∀p q:Rat,p≤q→(n % 2=1∨0≤p)→p^n≤q^n:=fun p q k j=>by
    rcases j with j |j
    ·exact tM j k
    ·exact gO n j k
   refine⟨fun z e=>?_,fun z e=>?_⟩
   ·cases c with
    |none=>cases e
    | some c=>
     obtain⟨w,ew,kw⟩:=h.1 c rfl
     subst ew;cases e
     refine⟨w^n,rfl,mono c w kw ?_⟩
     rcases hn with k |k
     ·exact .inl k
     ·obtain⟨p,e,hp⟩:=k _ _ rfl
      cases e;exact .inr hp
   ·cases d with
    |none=>cases e
    | some d=>
     obtain⟨w,ew,kw⟩:=h.2 d rfl
     subst ew;cases e
     refine⟨w^n,rfl,mono w d kw ?_⟩
     rcases hn with k |k
     ·exact .inl k
     ·obtain⟨p,e,hp⟩:=k _ _ rfl
      subst e
      obtain⟨v,ev,kv⟩:=h.1 p rfl
      subst ev
      have:¬w < v:=by simpa[NS.ok,ordO] using hx
      exact .inr (by grind)
theorem wv {x y:NS} (n:Nat) (hx:x.ok) (hy:y.ok) (h:x.within y=true):(x.pow n).within (y.pow n)=true:=by
 cases x with
 |e=>rfl
 | i a b=>
  cases y with
  |e=>cases h
  | i c d=>
   show(if n=0 then _ else if n % 2=0 then _ else _:NS).within (if n=0 then _ else if n % 2=0 then _ else _:NS)=true
   split
   ·rw[cK,dp,cJ]
    exact⟨fun z e=>⟨_,rfl,by cases e;exact qBk⟩,fun z e=>⟨_,rfl,by cases e;exact qBk⟩⟩
   ·split
    ·exact DC (size_iso hx hy h) (.inr fun a b e=>NS.size_low hy e) (NS.ok_size hx)
    ·exact DC h (.inl (by omega)) hx
theorem DU {m k d:Nat} (hd:d≠0) (h:m≤k):sgn false m d≤sgn false k d:=by
 have h1:=qj m hd
 have h2:=qj k hd
 have hp:(0:Rat) < (d:Rat):=by
  have:0 < d:=τ hd
  exact_mod_cast this
 refine lmm (c:=(d:Rat)) ?_ hp
 rw[h1,h2]
 exact_mod_cast h
end Go.Q
