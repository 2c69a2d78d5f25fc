/-
  Contracts of the reference's rational numbers, and what stands on it. Conditions: each theorem's own.
-/
import Derived.Test.YtdhfkmaejkgceaaGreatDoorKd61942PkG
import Derived.Test.YtdhfkmaejkgceaaGreatDoorK874e94PkK
import Derived.Test.YtdhfkmaejkgceaaGreatDoorK2b21c9PkI
import Derived.Test.YtdhfkmaejkgceaaGreatDoorKd2ac1dPkD
import Derived.Test.YtdhfkmaejkgceaaGreatDoorCards
import Derived.Test.YtdhfkmaejkgceaaGreatDoorTie
import Derived.WalkKit
import Derived.ProofKit
import Derived.OpenShut
import Derived.Deep.DeepHandedRow
import Derived.Lib.LaidTab
set_option linter.unusedVariables false
set_option linter.unusedSimpArgs false
open Nat renaming reduceBEq→ξ,reduceAdd→ζ,le_trans→χ,le_refl→η,mul_comm→ρ,pos_of_ne_zero→τ,pow_le_pow_right→qAv,zero_le→qBh,lt_or_ge→qBj
open Bool renaming and_eq_true→φ
open Rat renaming le_trans→qAq,le_refl→qBk
open List renaming all_eq_true→qBd
namespace Go.Q
open Go.Proofs
set_option maxRecDepth 100000
set_option maxHeartbeats 4000000
theorem EN {n k:Nat}:(W 65536 n).length≤k↔bl n≤16*k:=by
 rw[bl_le,vO]
 refine⟨fun h=>?_,fun h=>cV (by decide) h⟩
 exact Nat.lt_of_lt_of_le (cW (by decide) n) (qAv (by decide) h)
theorem N16.len {h:PH} {a:Option Addr} {l c n k:Nat} (r:N16 h (.slice a l c) n):l≤k↔bl n≤16*k:=by
 obtain⟨a',c',h1,_⟩:=r
 cases h1
 exact EN
theorem bl_e {e d:Nat} (he:dz e=d):(bl e≤2048↔bl d≤2048)∧bl e≤bl d:=by
 unfold dz at he
 split at he
 ·subst he;rename_i h;subst h;decide
 ·subst he;exact⟨Iff.rfl,η _⟩
theorem dh {h0 h:PH} [Le h0 h] {v:Value} {x:Rat} (hx:Qr h0 v x):Spec mach 106 #[v] h (fun v _=>v=.bool (decide (2048 < sz x))) NP:=by
  obtain⟨na,nl,nc,da,dl,dc,e,rfl,hn,hd,he⟩:=hx.sl
  have l1:=hn.len (k:=128)
  have l2:=hd.len (k:=128)
  have he':=bl_e he
  have hsz:sz x=max (bl x.num.natAbs) (bl x.den):=rfl
  refine Spec.go [] Tryz.func106 rfl rfl (by kernel_rfl) fun C _=>?_
  try simp(maxSteps:=999999) (disch:=omega) only[go_sem,ξ,ζ]
  by_cases h1:nl≤128
  · by_cases h2:dl≤128
    · have e1:¬2048 < sz x:=by omega
      try simp(maxSteps:=999999) (disch:=omega) only[go_sem,ξ,ζ]
      all_goals simp[e1]
    · have e1:2048 < sz x:=by omega
      try simp(maxSteps:=999999) (disch:=omega) only[go_sem,ξ,ζ]
      all_goals simp[e1]
  · have e1:2048 < sz x:=by omega
    try simp(maxSteps:=999999) (disch:=omega) only[go_sem,ξ,ζ]
    all_goals simp[e1]
theorem jJ {h0 h:PH} [Le h0 h] {v:Value} {neg:Bool} {n d:Nat} (hv:Rw h0 v neg n d):Spec mach 59 #[v] h (fun r _=>r=.bool (decide (lg neg n d))) NP:=by
  have hv0:=hv
  obtain⟨a,c,xs,a',c',ys,rfl,ha,ha',hn,hd,hsx,hsy⟩:=hv
  refine Spec.go [] Tryz.func59 rfl rfl (by kernel_rfl) fun C _=>?_
  try simp(maxSteps:=999999) (disch:=omega) only[go_sem,ξ,ζ]
  by_cases hb1:bl n≤8192
  · by_cases hb2:bl d≤8192
    · try simp(maxSteps:=999999) (disch:=omega) only[go_sem,ξ,ζ]
      refine caN (by exact jD ha rfl (by omega) hn) ?_;rintro v1 h1 s1 hv1;obtain⟨va1,vl1,vc1,rfl,hv1⟩:=hv1.sl;have e1:vl1≤512:=(hv1.len (k:=512)).2 (by omega)
      try simp(maxSteps:=999999) (disch:=omega) only[go_sem,ξ,ζ]
      refine caN (by exact jD ha' rfl (by omega) hd) ?_;rintro v2 h2 s2 hv2;obtain⟨va2,vl2,vc2,rfl,hv2⟩:=hv2.sl;have e2:vl2≤512:=(hv2.len (k:=512)).2 (by omega)
      try simp(maxSteps:=999999) (disch:=omega) only[go_sem,ξ,ζ]
      refine caN (by exact bM hv0) ?_;rintro _ h3 _ hv3;obtain⟨_,_,_,_,_,_,_,rfl,hv3⟩:=hv3.sa
      try simp(maxSteps:=999999) (disch:=omega) only[go_sem,ξ,ζ]
      refine caN (by exact dh hv3) ?_;rintro v4 h4 s4 rfl
      try simp(maxSteps:=999999) (disch:=omega) only[go_sem,ξ,ζ]
      have:lg neg n d↔2048 < sz (qof neg n d):=by unfold lg;omega
      simp[this]
    · have e3:lg neg n d:=by unfold lg;omega
      try simp(maxSteps:=999999) (disch:=omega) only[go_sem,ξ,ζ]
      refine caN (by exact jD ha rfl (by omega) hn) ?_;rintro v1 h1 s1 hv1;obtain⟨va1,vl1,vc1,rfl,hv1⟩:=hv1.sl;have e1:vl1≤512:=(hv1.len (k:=512)).2 (by omega)
      try simp(maxSteps:=999999) (disch:=omega) only[go_sem,ξ,ζ]
      refine caN (by exact jD ha' rfl (by omega) hd) ?_;rintro v2 h2 s2 hv2;obtain⟨va2,vl2,vc2,rfl,hv2⟩:=hv2.sl;have e2:¬vl2≤512:=fun e=>absurd ((hv2.len (k:=512)).1 e) (by omega)
      try simp(maxSteps:=999999) (disch:=omega) only[go_sem,ξ,ζ]
      all_goals simp[e3]
  · have e3:lg neg n d:=by unfold lg;omega
    try simp(maxSteps:=999999) (disch:=omega) only[go_sem,ξ,ζ]
    refine caN (by exact jD ha rfl (by omega) hn) ?_;rintro v1 h1 s1 hv1;obtain⟨va1,vl1,vc1,rfl,hv1⟩:=hv1.sl;have e1:¬vl1≤512:=fun e=>absurd ((hv1.len (k:=512)).1 e) (by omega)
    try simp(maxSteps:=999999) (disch:=omega) only[go_sem,ξ,ζ]
    all_goals simp[e3]
theorem bS {h0 h:PH} [Le h0 h] {v:Value} {x:Rat} (hx:Qr h0 v x):Spec mach 19 #[v] h (fun v _=>v=.int .i64 (sgn3 x)) NP:=by
  obtain⟨na,nl,nc,da,dl,dc,e,rfl,hn,hd,he⟩:=hx.sl
  have ln:=hn.len0
  refine Spec.go [] Tryz.func19 rfl rfl (by kernel_rfl) fun C _=>?_
  try simp(maxSteps:=999999) (disch:=omega) only[go_sem,ξ,ζ]
  by_cases h0:x.num=0
  · have e1:x=0:=Rat.num_eq_zero.1 h0
    try simp(maxSteps:=999999) (disch:=omega) only[go_sem,ξ,ζ]
    subst e1;simp[sgn3]
  · by_cases h1:x.num < 0
    · have e1:decide (x.num < 0)=true:=decide_eq_true h1
      try simp(maxSteps:=999999) (disch:=omega) only[go_sem,ξ,ζ,e1]
      rw[sgn3,if_pos (num_neg.1 h1)]
    · have e1:decide (x.num < 0)=false:=decide_eq_false h1
      have e2:0 < x.num:=by omega
      try simp(maxSteps:=999999) (disch:=omega) only[go_sem,ξ,ζ,e1]
      rw[sgn3,if_neg (fun h=>h1 (num_neg.2 h)),if_pos (num_pos.1 e2)]
theorem aW {h0 h:PH} [Le h0 h] {v w:Value} {x y:Rat} (hx:Qr h0 v x) (hy:Qr h0 w y) (bx:sz x≤2^35) (by_:sz y≤2^35):
  Spec mach 16 #[v,w] h (fun v h'=>Qr h' v (x+y)) NP:=by
 have hx0:=hx
 have hy0:=hy
 obtain⟨na,nl,nc,da,dl,dc,e,rfl,hn,hd,he⟩:=hx.sl
 obtain⟨na',nl',nc',da',dl',dc',e',rfl,hn',hd',he'⟩:=hy.sl
 have b1:=bG x;have b2:=bB x;have b3:=bG y;have b4:=bB y
 have b5:=aG x.num.natAbs y.den
 have b6:=aG y.num.natAbs x.den
 have b7:=aG x.den y.den
 have b8:=cY (x.num.natAbs*y.den) (y.num.natAbs*x.den)
 have b9:=aR (Nat.sub_le (x.num.natAbs*y.den) (y.num.natAbs*x.den))
 have b10:=aR (Nat.sub_le (y.num.natAbs*x.den) (x.num.natAbs*y.den))
 obtain⟨n1,en1⟩:∃b,decide (x.num < 0)=b:=⟨_,rfl⟩
 obtain⟨n2,en2⟩:∃b,decide (y.num < 0)=b:=⟨_,rfl⟩
 rw[en1] at hx0 ⊢
 rw[en2] at hy0 ⊢
 refine Spec.go [(1,.o [0,1,2,5,6,7,3,4,8,9,10,11]),(2,.o [0,2,1,3,4,5]),(4,.o [0,1,2,3,5,4,6,7]),(6,.o [0,1,2,3,5,4,6,7]),(7,.o [0,1,2,3,5,4,6,7])] Tryz.func16 rfl rfl (by kernel_rfl) fun C _=>?_
 try simp(maxSteps:=999999) (disch:=omega) only[go_sem,ξ,ζ]
 refine caN (by exact dU hy0) ?_;rintro _ g1 _ hd1;obtain⟨_,_,_,rfl,hd1⟩:=hd1.sl
 try simp(maxSteps:=999999) (disch:=omega) only[go_sem,ξ,ζ]
 refine caN (by exact aV (hn.to (h':=g1)) hd1 (by omega) (by omega)) ?_;rintro _ h1 _ hv1;obtain⟨v1,_,_,rfl,hv1⟩:=hv1.sl
 try simp(maxSteps:=999999) (disch:=omega) only[go_sem,ξ,ζ]
 refine caN (by exact dU hx0) ?_;rintro _ g2 _ hd2;obtain⟨_,_,_,rfl,hd2⟩:=hd2.sl
 try simp(maxSteps:=999999) (disch:=omega) only[go_sem,ξ,ζ]
 refine caN (by exact aV (hn'.to (h':=g2)) hd2 (by omega) (by omega)) ?_;rintro _ h2 _ hv2;obtain⟨v2,_,_,rfl,hv2⟩:=hv2.sl
 try simp(maxSteps:=999999) (disch:=omega) only[go_sem,ξ,ζ]
 refine caN (by exact dU hx0) ?_;rintro _ g3 _ hd3;obtain⟨_,_,_,rfl,hd3⟩:=hd3.sl
 try simp(maxSteps:=999999) (disch:=omega) only[go_sem,ξ,ζ]
 refine caN (by exact dU hy0) ?_;rintro _ g4 _ hd4;obtain⟨_,_,_,rfl,hd4⟩:=hd4.sl
 try simp(maxSteps:=999999) (disch:=omega) only[go_sem,ξ,ζ]
 refine caN (by exact aV (hd3.to (h':=g4)) hd4 (by omega) (by omega)) ?_;rintro _ h3 _ hv3;obtain⟨v3,_,_,rfl,hv3⟩:=hv3.sl
 try simp(maxSteps:=999999) (disch:=omega) only[go_sem,ξ,ζ]
 by_cases hee:n1=n2
 ·subst hee
  try simp(maxSteps:=999999) (disch:=omega) only[go_sem,ξ,ζ]
  refine caN (by exact nr (hv1.to (h':=h2)) hv2 (by omega) (by omega)) ?_;rintro _ h4 _ hv4;obtain⟨v4,_,_,rfl,hv4⟩:=hv4.sl
  try simp(maxSteps:=999999) (disch:=omega) only[go_sem,ξ,ζ]
  refine caN (by exact fQ (hv4.to (h':=h4)) hv3.to (by omega) (by omega)) ?_;rintro _ h5 _ hv5;obtain⟨_,_,_,_,_,_,_,rfl,hv5⟩:=hv5.sa
  try simp(maxSteps:=999999) (disch:=omega) only[go_sem,ξ,ζ]
  rw[DV en1 en2] at hv5
  exact hv5
 ·have hb:(n1 == n2)=false:=by cases n1<;>cases n2<;>simp_all
  have hb':n2=!n1:=by cases n1<;>cases n2<;>simp_all
  try simp(maxSteps:=999999) (disch:=omega) only[go_sem,ξ,ζ,hb]
  refine caN (by exact eI (hv1.to (h':=h2)) hv2) ?_;rintro v4 h4 s4 rfl
  try simp(maxSteps:=999999) (disch:=omega) only[go_sem,ξ,ζ]
  by_cases hle:y.num.natAbs*x.den≤x.num.natAbs*y.den
  ·have hc:0≤cmp3 (x.num.natAbs*y.den) (y.num.natAbs*x.den):=by simp only[cmp3,if_neg (Nat.not_lt.2 hle)];split<;>decide
   try simp(maxSteps:=999999) (disch:=omega) only[go_sem,ξ,ζ]
   refine caN (by exact lj (hv1.to (h':=h2)) hv2 hle (by omega)) ?_;rintro _ h5 _ hv5;obtain⟨v5,_,_,rfl,hv5⟩:=hv5.sl
   try simp(maxSteps:=999999) (disch:=omega) only[go_sem,ξ,ζ]
   refine caN (by exact fQ (hv5.to (h':=h5)) hv3.to (by omega) (by omega)) ?_;rintro _ h6 _ hv6;obtain⟨_,_,_,_,_,_,_,rfl,hv6⟩:=hv6.sa
   try simp(maxSteps:=999999) (disch:=omega) only[go_sem,ξ,ζ]
   rw[tP en1 (by rw[en2,hb']) hle] at hv6
   exact hv6
  ·have hc:¬0≤cmp3 (x.num.natAbs*y.den) (y.num.natAbs*x.den):=by simp only[cmp3,if_pos (Nat.not_le.1 hle)];decide
   try simp(maxSteps:=999999) (disch:=omega) only[go_sem,ξ,ζ]
   refine caN (by exact lj (hv2.to (h':=h2)) (hv1.to (h':=h2)) (Nat.le_of_lt (Nat.not_le.1 hle)) (by omega)) ?_;rintro _ h5 _ hv5;obtain⟨v5,_,_,rfl,hv5⟩:=hv5.sl
   try simp(maxSteps:=999999) (disch:=omega) only[go_sem,ξ,ζ]
   refine caN (by exact fQ (hv5.to (h':=h5)) hv3.to (by omega) (by omega)) ?_;rintro _ h6 _ hv6;obtain⟨_,_,_,_,_,_,_,rfl,hv6⟩:=hv6.sa
   try simp(maxSteps:=999999) (disch:=omega) only[go_sem,ξ,ζ]
   rw[ρ x.den,tP en2 (by rw[en1,hb',Bool.not_not]) (Nat.le_of_lt (Nat.not_le.1 hle)),Rat.add_comm] at hv6
   exact hv6


theorem gO {a b:Rat} (n:Nat) (h0:0≤a) (h:a≤b):a^n≤b^n:=by
 induction n with
 |zero=>rw[Rat.pow_zero,Rat.pow_zero];exact qBk
 | succ n ih=>
  rw[Rat.pow_succ,Rat.pow_succ]
  have h1:=mll h (Rat.pow_nonneg (n:=n) h0)
  have h2:=mlr ih (show 0≤b by grind)
  exact qAq h1 h2
theorem tK (a:Rat) (n:Nat):(-a)^n=if n % 2=0 then a^n else -(a^n):=by
 induction n with
 |zero=>simp
 | succ n ih=>
  rw[Rat.pow_succ,ih,Rat.pow_succ]
  by_cases h:n % 2=0
  ·rw[if_pos h,if_neg (by omega)];grind
  ·rw[if_neg h,if_pos (by omega)];grind
theorem tM {a b:Rat} {n:Nat} (hn:n % 2=1) (h:a≤b):a^n≤b^n:=by
 by_cases ha:0≤a
 ·exact gO n ha h
 ·have e1:=tK (-a) n
  rw[Rat.neg_neg,if_neg (by omega)] at e1
  by_cases hb:0≤b
  ·have h1:=Rat.pow_nonneg (n:=n) hb
   have h2:=Rat.pow_nonneg (n:=n) (show 0≤ -a by grind)
   grind
  ·have e2:=tK (-b) n
   rw[Rat.neg_neg,if_neg (by omega)] at e2
   have h1:=gO n (show 0≤ -b by grind) (show -b≤ -a by grind)
   grind
def irtTo (n a:Nat):Nat→Nat
 |0=>0
 |k+1=>if (k+1)^n≤a then k+1 else irtTo n a k
def irt (n a:Nat):Nat:=irtTo n a a
theorem irtTo_le (n a k:Nat) (hn:n≠0):irtTo n a k^n≤a:=by
 induction k with
 |zero=>show 0^n≤a;rw[Nat.zero_pow (τ hn)];exact qBh _
 | succ k ih=>
  show(if _ then _ else _)^n≤a
  split
  ·assumption
  ·exact ih
theorem jS {n a:Nat} (hn:n≠0):irt n a^n≤a:=irtTo_le n a a hn
theorem tz {n:Nat} (hn:n≠0):irt n 0=0:=by
 have:=jS (n:=n) (a:=0) hn
 have h1:irt n 0≤irt n 0^n:=Nat.le_self_pow hn _
 omega
theorem xZ {n a k:Nat} (hn:n≠0) (h:a < 2^(n*k)):irt n a < 2^k:=by
 refine Decidable.byContradiction fun c=>?_
 have h1:2^k≤irt n a:=by omega
 have h2:=Nat.pow_le_pow_left h1 n
 rw[←Nat.pow_mul,ρ k n] at h2
 have:=jS (n:=n) (a:=a) hn
 omega

theorem N32.len0 {h:PH} {a:Option Addr} {l c n:Nat} (r:N32 h (.slice a l c) n):l=0↔n=0:=by
 obtain⟨_,_,_,e,_,h2,_⟩:=r.out
 cases e
 have:=nP B32 (n:=n)
 rw[h2] at this
 exact this
@[go_sem] theorem wrap_div {x y:Nat} (h:x < 4611686018427387904):IntKind.i64.wrap ((x / y:Nat):Int)=((x / y:Nat):Int):=by
 have:=Nat.div_le_self x y
 generalize x / y=z at*
 exact wi64 (by omega) (by omega)
@[go_sem] theorem wrap_div1 {x y c:Nat} (h:x+c < 4611686018427387904):IntKind.i64.wrap ((x / y+c:Nat):Int)=((x / y+c:Nat):Int):=by
 have:=Nat.div_le_self x y
 generalize x / y=z at*
 exact wi64 (by omega) (by omega)

def fail (e:Int):List PanicEntry→PH→Prop:=fun ch _=>ch=[{v:=.iface 130 (.agg #[.int .i64 e]),recovered:=false}]
def NR:Value→PH→Prop:=fun _ _=>False
theorem must_ok {h:PH}:Spec mach 98 #[.int .i64 0] h (fun _ _=>True) NP:=by
 refine Spec.enter (args:=[_]) (n:=7) Tryz.func98 rfl (by kernel_rfl) rfl (by simp) [] rfl (fun C _=>?_)
 repeat (first |(refine rg rfl rfl (fun K hK=>?_);(repeat (first |(refine wo rfl (fun k hk=>?_);simp(disch:=omega) only[go_sem,ξ,ζ];apply hk;clear hk k) |refine wkt rfl ?_));(try refine wk0 ?_);apply hK;clear hK K;(try dsimp only[ag,qs,qb])) |((first |refine ae ?_ |refine ac ?_);simp(disch:=decide) only[qs,qb,if_true,if_false,reduceIte]) |refine ah rfl (fun K hK=>?_) |refine ct rfl ?_ |((first |refine hK _ _ ?_ |(clear hK;refine hK _ _ ?_) |(clear hK;clear hK;refine hK _ _ ?_));clear hK;(try clear K)))
 refine ac ?_
 simp(disch:=omega) only[go_sem,ξ,ζ]
theorem jm {h:PH} {e:Int} (he:e≠0):Spec mach 98 #[.int .i64 e] h NR (fail e):=by
 refine Spec.enter (args:=[_]) (n:=7) Tryz.func98 rfl (by kernel_rfl) rfl (by simp) [] rfl (fun C _=>?_)
 repeat (first |(refine wo rfl (fun k hk=>?_);simp(disch:=omega) only[go_sem,ξ,ζ];apply hk;clear hk k) |refine wkt rfl ?_ |refine wk0 ?_ |refine rg rfl rfl (fun K hK=>?_) |((first |refine ae ?_ |refine ac ?_);simp(disch:=decide) only[qs,qb,if_true,if_false,reduceIte]) |refine ah rfl (fun K hK=>?_) |refine ct rfl ?_ |((try simp(disch:=omega) only[go_sem,ξ,ζ]);(first |apply hK |(clear hK;apply hK) |(clear hK;clear hK;apply hK));clear hK;(try clear K);(try dsimp only[ag,qs,qb])))
 refine wo rfl (fun k hk=>?_);simp(disch:=omega) only[go_sem,ξ,ζ]
 refine⟨by kernel_rfl,?_⟩
 apply hk;clear hk k
 refine wo rfl (fun k hk=>?_);simp(disch:=omega) only[go_sem,ξ,ζ]
 all_goals exact rfl
theorem aU {h:PH} {n a b:Int} (h1:a≤n) (h2:n≤b):Spec mach 158 #[.int .i64 n,.int .i64 a,.int .i64 b] h (fun _ _=>True) NP:=by
 refine Spec.enter (args:=[_,_,_]) (n:=15) Tryz.func158 rfl (by kernel_rfl) rfl (by simp) [] rfl (fun C _=>?_)
 repeat (first |(refine rg rfl rfl (fun K hK=>?_);(repeat (first |(refine wo rfl (fun k hk=>?_);simp(disch:=omega) only[go_sem,ξ,ζ];apply hk;clear hk k) |refine wkt rfl ?_));(try refine wk0 ?_);apply hK;clear hK K;(try dsimp only[ag,qs,qb])) |((first |refine ae ?_ |refine ac ?_);simp(disch:=decide) only[qs,qb,if_true,if_false,reduceIte]) |refine ah rfl (fun K hK=>?_) |refine ct rfl ?_ |((first |refine hK _ _ ?_ |(clear hK;refine hK _ _ ?_) |(clear hK;clear hK;refine hK _ _ ?_));clear hK;(try clear K)))
 refine ac ?_
 simp(disch:=omega) only[go_sem,ξ,ζ]
theorem iN {h:PH} {n a b:Int} (h1:n < a∨b < n):Spec mach 158 #[.int .i64 n,.int .i64 a,.int .i64 b] h NR (fail 2):=by
 refine Spec.go [] Tryz.func158 rfl rfl (by kernel_rfl) fun C _=>?_
 try simp(maxSteps:=999999) (disch:=omega) only[go_sem,ξ,ζ]
 by_cases h2:n < a
 ·try simp(maxSteps:=999999) (disch:=omega) only[go_sem,ξ,ζ]
  exact caF (by exact jm (by decide)) (fun _ _ h=>h)
 ·have h3:b < n:=h1.resolve_left h2
  try simp(maxSteps:=999999) (disch:=omega) only[go_sem,ξ,ζ]
  exact caF (by exact jm (by decide)) (fun _ _ h=>h)
theorem iM {h0 h:PH} [Le h0 h] {v:Value} {neg:Bool} {n d:Nat} (hv:Rw h0 v neg n d) (hl:¬lg neg n d):Spec mach 50 #[v] h (fun v h'=>Fr h' v (qof neg n d)) NP:=by
 obtain⟨_,_,_,_,_,_,_,rfl,hv⟩:=hv.sa
 refine Spec.go [] Tryz.func50 rfl rfl (by kernel_rfl) fun C _=>?_
 try simp(maxSteps:=999999) (disch:=omega) only[go_sem,ξ,ζ]
 refine caN (by exact sN hv hl) ?_;rintro v1 h1 s1 ⟨f,rfl,hf⟩;obtain⟨_,_,_,_,_,_,_,rfl,hf⟩:=hf.sa
 try simp(maxSteps:=999999) (disch:=omega) only[go_sem,ξ,ζ]
 exact hf.to
theorem jn {h0 h:PH} [Le h0 h] {v:Value} {neg:Bool} {n d:Nat} (hv:Rw h0 v neg n d) (hl:lg neg n d):Spec mach 50 #[v] h NR (fail 1):=by
 obtain⟨_,_,_,_,_,_,_,rfl,hv⟩:=hv.sa
 refine Spec.go [] Tryz.func50 rfl rfl (by kernel_rfl) fun C _=>?_
 try simp(maxSteps:=999999) (disch:=omega) only[go_sem,ξ,ζ]
 refine caN (by exact Gm hv hl) ?_;rintro v1 h1 s1 ⟨b,a,l,c,a',l',c',rfl⟩
 try simp(maxSteps:=999999) (disch:=omega) only[go_sem,ξ,ζ]
 exact caF (by exact jm (by decide)) (fun _ _ h=>h)
theorem fm {h0 h:PH} [Le h0 h] {v:Value} {x:Rat} (hv:Cn h0 v x):Spec mach 215 #[v,.int .i64 0] h (fun w _=>w=v) NP:=by
 obtain⟨_,_,_,_,_,_,_,rfl,hv⟩:=hv.sa
 refine Spec.go [] Tryz.func215 rfl rfl (by kernel_rfl) fun C _=>?_
 try simp(maxSteps:=999999) (disch:=omega) only[go_sem,ξ,ζ]
 refine caN (by exact must_ok) ?_;rintro v1 h1 s1 _
 try simp(maxSteps:=999999) (disch:=omega) only[go_sem,ξ,ζ]
 all_goals exact rfl
theorem jj {h:PH} {e:Int} (he:e≠0):Spec mach 215 #[zRat,.int .i64 e] h NR (fail e):=by
 unfold zRat
 refine Spec.go [] Tryz.func215 rfl rfl (by kernel_rfl) fun C _=>?_
 try simp(maxSteps:=999999) (disch:=omega) only[go_sem,ξ,ζ]
 exact caF (by exact jm he) (fun _ _ h=>h)
structure PS where
 lo:Rat
 hi:Rat
 l:Bool
 u:Bool
 e:Bool
def Iw (h:PH) (v:Value) (n1:Bool) (a1 d1:Nat) (n2:Bool) (a2 d2:Nat) (l u:Bool):Prop:=
 ∃x1 y1 x2 y2,v=.agg #[.bool n1,x1,y1,.bool n2,x2,y2,.bool l,.bool u]∧Rw h (.agg #[.bool n1,x1,y1]) n1 a1 d1∧Rw h (.agg #[.bool n2,x2,y2]) n2 a2 d2
def Sr (h:PH) (v:Value) (s:PS):Prop:=∃b1 x1 y1 b2 x2 y2,v=.agg #[.bool b1,x1,y1,.bool b2,x2,y2,.bool s.l,.bool s.u,.bool s.e]∧(∃n d,Jk h b1 x1 y1 n d)∧(∃n d,Jk h b2 x2 y2 n d)∧
 (s.l=false→s.e=false→Fr h (.agg #[.bool b1,x1,y1]) s.lo)∧(s.u=false→s.e=false→Fr h (.agg #[.bool b2,x2,y2]) s.hi)
def Sf (h:PH) (v:Value) (s:PS):Prop:=∃b1 x1 y1 b2 x2 y2,v=.agg #[.bool b1,x1,y1,.bool b2,x2,y2,.bool s.l,.bool s.u,.bool s.e]∧Fr h (.agg #[.bool b1,x1,y1]) s.lo∧Fr h (.agg #[.bool b2,x2,y2]) s.hi
theorem Sf.to {h h':PH} {v:Value} {s:PS} (r:Sf h v s) [Le h h']:Sf h' v s:=let ⟨a,b,c,d,e,f,h1,h2,h3⟩:=r;⟨a,b,c,d,e,f,h1,h2.to,h3.to⟩
theorem Sr.to {h h':PH} {v:Value} {s:PS} (r:Sr h v s) [Le h h']:Sr h' v s:=let ⟨a,b,c,d,e,f,h1,⟨m,n,h2⟩,⟨m',n',h3⟩,h4,h5⟩:=r;⟨a,b,c,d,e,f,h1,⟨m,n,h2.to⟩,⟨m',n',h3.to⟩,fun x y=>(h4 x y).to,fun x y=>(h5 x y).to⟩
theorem Fr.jk' {h:PH} {b:Bool} {x y:Value} {q:Rat} (r:Fr h (.agg #[.bool b,x,y]) q):Jk h b x y q.num.natAbs q.den:=by
 obtain⟨sn,sd,h1,h2,h3⟩:=r
 simp only[Value.agg.injEq,Array.mk.injEq,List.cons.injEq,and_true] at h1
 obtain⟨_,rfl,rfl⟩:=h1
 exact⟨h2,h3⟩
theorem Sf.sr {h:PH} {v:Value} {s:PS} (r:Sf h v s):Sr h v s:=let ⟨a,b,c,d,e,f,h1,h2,h3⟩:=r;⟨a,b,c,d,e,f,h1,⟨_,_,h2.jk'⟩,⟨_,_,h3.jk'⟩,fun _ _=>h2,fun _ _=>h3⟩
def rdS (q1 q2:Rat) (l u:Bool):PS:=⟨q1,q2,l,u,!l && !u && decide (q2 < q1)⟩
theorem wy {h0 h:PH} [Le h0 h] {v:Value} {n1 n2:Bool} {a1 d1 a2 d2:Nat} {l u:Bool} (hv:Iw h0 v n1 a1 d1 n2 a2 d2 l u) (g1:¬lg n1 a1 d1) (g2:¬lg n2 a2 d2):
  Spec mach 47 #[v] h (fun v h'=>Sf h' v (rdS (qof n1 a1 d1) (qof n2 a2 d2) l u)) NP:=by
 obtain⟨x1,y1,x2,y2,rfl,hx,hy⟩:=hv
 have hx0:=hx
 have hy0:=hy
 obtain⟨_,_,_,_,_,_,e1,_⟩:=hx
 obtain⟨_,_,_,_,_,_,e2,_⟩:=hy
 simp only[Value.agg.injEq,Array.mk.injEq,List.cons.injEq,and_true,true_and] at e1 e2
 obtain⟨rfl,rfl⟩:=e1
 obtain⟨rfl,rfl⟩:=e2
 refine Spec.enter (args:=[_]) (n:=33) Tryz.func47 rfl (by kernel_rfl) rfl (by simp) [.cell 2 94] rfl (fun C _=>?_)
 repeat (first |(refine rg rfl rfl (fun K hK=>?_);(repeat (first |(refine wo rfl (fun k hk=>?_);simp(disch:=omega) only[go_sem,ξ,ζ];apply hk;clear hk k) |refine wkt rfl ?_));(try refine wk0 ?_);apply hK;clear hK K;(try dsimp only[ag,qs,qb])) |((first |refine ae ?_ |refine ac ?_);simp(disch:=decide) only[qs,qb,if_true,if_false,reduceIte]) |refine ah rfl (fun K hK=>?_) |refine ct rfl ?_ |((first |refine hK _ _ ?_ |(clear hK;refine hK _ _ ?_) |(clear hK;clear hK;refine hK _ _ ?_));clear hK;(try clear K)))
 have z1:sz (qof n1 a1 d1)≤2048:=by unfold lg at g1;omega
 have z2:sz (qof n2 a2 d2)≤2048:=by unfold lg at g2;omega
 obtain⟨q1,hq1⟩:∃q,qof n1 a1 d1=q:=⟨_,rfl⟩
 obtain⟨q2,hq2⟩:∃q,qof n2 a2 d2=q:=⟨_,rfl⟩
 rw[hq1] at z1 ⊢
 rw[hq2] at z2 ⊢
 (first |refine AWP_t (.seg [.o 0,.o 1,.o 3,.o 4,.o 6,.o 7,.o 8,.o 9] (.alt 2 (.alt 5 (.seg [.o 10] (.alt 11 (.alt 12 .done .no) .no)) (.alt 11 (.alt 5 (.seg [.o 10] (.alt 12 .done .no)) .no) .no)) (.alt 11 (.alt 2 (.alt 5 (.seg [.o 10] (.alt 12 .done .no)) .no) .no) .no))) (by decide+kernel) rfl (fun K hK=>?_) |refine mR (.seg [.o 0,.o 1,.o 3,.o 4,.o 6,.o 7,.o 8,.o 9] (.alt 2 (.alt 5 (.seg [.o 10] (.alt 11 (.alt 12 .done .no) .no)) (.alt 11 (.alt 5 (.seg [.o 10] (.alt 12 .done .no)) .no) .no)) (.alt 11 (.alt 2 (.alt 5 (.seg [.o 10] (.alt 12 .done .no)) .no) .no) .no))) (by decide+kernel) rfl (fun K hK=>?_))
 have rest:∀(b1:Bool) (xa:Option Addr) (xl xc:Nat) (ya:Option Addr) (yl yc:Nat) (b2:Bool) (xa':Option Addr) (xl' xc':Nat) (ya':Option Addr) (yl' yc':Nat) (h':PH) (S:AS),Fr h' (.agg #[.bool b1,.slice xa xl xc,.slice ya yl yc]) q1→Fr h' (.agg #[.bool b2,.slice xa' xl' xc',.slice ya' yl' yc']) q2→
   S.le ⟨[(2,.p 1 0),(3,.p 2 0)],[[],[.bool false,.slice none 0 0,.slice none 0 0,.bool false,.slice none 0 0,.slice none 0 0,.bool false,.bool false,.bool false],[.bool b1,.slice xa xl xc,.slice ya yl yc,.bool b2,.slice xa' xl' xc',.slice ya' yl' yc',.bool l,.bool u,.bool false]]⟩→K S h':=by
  intro b1 xa xl xc ya yl yc b2 xa' xl' xc' ya' yl' yc' h' S hf1 hf2 hS
  refine hK _ _ (fq _ hS ?_);clear hK K
  cases l with
  | true=>
   (repeat (first |(refine rg rfl rfl (fun K hK=>?_);(repeat (first |(refine wo rfl (fun k hk=>?_);simp(disch:=omega) only[go_sem,ξ,ζ];apply hk;clear hk k) |refine wkt rfl ?_));(try refine wk0 ?_);apply hK;clear hK K;(try dsimp only[ag,qs,qb])) |((first |refine ae ?_ |refine ac ?_);simp(disch:=decide) only[qs,qb,if_true,if_false,reduceIte]) |refine ah rfl (fun K hK=>?_) |refine ct rfl ?_ |((first |refine hK _ _ ?_ |(clear hK;refine hK _ _ ?_) |(clear hK;clear hK;refine hK _ _ ?_));clear hK;(try clear K))))
   refine ai ?_;simp(disch:=omega) only[go_sem,ξ,ζ]
   exact⟨_,_,_,_,_,_,rfl,hf1.to,hf2.to⟩
  | false=>
   cases u with
   | true=>
    (repeat (first |(refine rg rfl rfl (fun K hK=>?_);(repeat (first |(refine wo rfl (fun k hk=>?_);simp(disch:=omega) only[go_sem,ξ,ζ];apply hk;clear hk k) |refine wkt rfl ?_));(try refine wk0 ?_);apply hK;clear hK K;(try dsimp only[ag,qs,qb])) |((first |refine ae ?_ |refine ac ?_);simp(disch:=decide) only[qs,qb,if_true,if_false,reduceIte]) |refine ah rfl (fun K hK=>?_) |refine ct rfl ?_ |((first |refine hK _ _ ?_ |(clear hK;refine hK _ _ ?_) |(clear hK;clear hK;refine hK _ _ ?_));clear hK;(try clear K))))
    refine ai ?_;simp(disch:=omega) only[go_sem,ξ,ζ]
    exact⟨_,_,_,_,_,_,rfl,hf1.to,hf2.to⟩
   | false=>
    by_cases hc:q2 < q1
    ·have e1:0 < cmpQ q1 q2:=by unfold cmpQ;grind
     have e2:rdS q1 q2 false false=⟨q1,q2,false,false,true⟩:=by simp[rdS,hc]
     rw[e2]
     (repeat (first |(refine rg rfl rfl (fun K hK=>?_);(repeat (first |(refine wo rfl (fun k hk=>?_);simp(disch:=omega) only[go_sem,ξ,ζ];apply hk;clear hk k) |refine wkt rfl ?_));(try refine wk0 ?_);apply hK;clear hK K;(try dsimp only[ag,qs,qb])) |((first |refine ae ?_ |refine ac ?_);simp(disch:=decide) only[qs,qb,if_true,if_false,reduceIte]) |refine ah rfl (fun K hK=>?_) |refine ct rfl ?_ |((first |refine hK _ _ ?_ |(clear hK;refine hK _ _ ?_) |(clear hK;clear hK;refine hK _ _ ?_));clear hK;(try clear K))));(refine rg rfl rfl (fun K hK=>?_);(repeat (first |(refine wo rfl (fun k hk=>?_);simp(disch:=omega) only[go_sem,ξ,ζ];apply hk;clear hk k) |refine wkt rfl ?_ |with_reducible refine wk0 ?_ |with_reducible refine ao ?_ |with_reducible refine aj ?_ wt_no |with_reducible refine ak ?_)))
     refine cN rfl rfl rfl rfl (by exact dq hf1 hf2 (by omega) (by omega)) ?_;rintro v1 h1 s1 rfl;(repeat (first |(refine wo rfl (fun k hk=>?_);simp(disch:=omega) only[go_sem,ξ,ζ];apply hk;clear hk k) |refine wkt rfl ?_ |with_reducible refine wk0 ?_ |with_reducible refine ao ?_ |with_reducible refine aj ?_ wt_no |with_reducible refine ak ?_))
     ((try (simp(disch:=omega) only[go_sem,ξ,ζ]));apply hK;clear hK;(try clear K);(try dsimp only[ag,qs]));(repeat (first |(refine rg rfl rfl (fun K hK=>?_);(repeat (first |(refine wo rfl (fun k hk=>?_);simp(disch:=omega) only[go_sem,ξ,ζ];apply hk;clear hk k) |refine wkt rfl ?_));(try refine wk0 ?_);apply hK;clear hK K;(try dsimp only[ag,qs,qb])) |((first |refine ae ?_ |refine ac ?_);simp(disch:=decide) only[qs,qb,if_true,if_false,reduceIte]) |refine ah rfl (fun K hK=>?_) |refine ct rfl ?_ |((first |refine hK _ _ ?_ |(clear hK;refine hK _ _ ?_) |(clear hK;clear hK;refine hK _ _ ?_));clear hK;(try clear K))))
     refine ai ?_;simp(disch:=omega) only[go_sem,ξ,ζ]
     exact⟨_,_,_,_,_,_,rfl,hf1.to,hf2.to⟩
    ·have e1:¬0 < cmpQ q1 q2:=by unfold cmpQ;grind
     have e2:rdS q1 q2 false false=⟨q1,q2,false,false,false⟩:=by simp[rdS,hc]
     rw[e2]
     (repeat (first |(refine rg rfl rfl (fun K hK=>?_);(repeat (first |(refine wo rfl (fun k hk=>?_);simp(disch:=omega) only[go_sem,ξ,ζ];apply hk;clear hk k) |refine wkt rfl ?_));(try refine wk0 ?_);apply hK;clear hK K;(try dsimp only[ag,qs,qb])) |((first |refine ae ?_ |refine ac ?_);simp(disch:=decide) only[qs,qb,if_true,if_false,reduceIte]) |refine ah rfl (fun K hK=>?_) |refine ct rfl ?_ |((first |refine hK _ _ ?_ |(clear hK;refine hK _ _ ?_) |(clear hK;clear hK;refine hK _ _ ?_));clear hK;(try clear K))));(refine rg rfl rfl (fun K hK=>?_);(repeat (first |(refine wo rfl (fun k hk=>?_);simp(disch:=omega) only[go_sem,ξ,ζ];apply hk;clear hk k) |refine wkt rfl ?_ |with_reducible refine wk0 ?_ |with_reducible refine ao ?_ |with_reducible refine aj ?_ wt_no |with_reducible refine ak ?_)))
     refine cN rfl rfl rfl rfl (by exact dq hf1 hf2 (by omega) (by omega)) ?_;rintro v1 h1 s1 rfl;(repeat (first |(refine wo rfl (fun k hk=>?_);simp(disch:=omega) only[go_sem,ξ,ζ];apply hk;clear hk k) |refine wkt rfl ?_ |with_reducible refine wk0 ?_ |with_reducible refine ao ?_ |with_reducible refine aj ?_ wt_no |with_reducible refine ak ?_))
     ((try (simp(disch:=omega) only[go_sem,ξ,ζ]));apply hK;clear hK;(try clear K);(try dsimp only[ag,qs]));(repeat (first |(refine rg rfl rfl (fun K hK=>?_);(repeat (first |(refine wo rfl (fun k hk=>?_);simp(disch:=omega) only[go_sem,ξ,ζ];apply hk;clear hk k) |refine wkt rfl ?_));(try refine wk0 ?_);apply hK;clear hK K;(try dsimp only[ag,qs,qb])) |((first |refine ae ?_ |refine ac ?_);simp(disch:=decide) only[qs,qb,if_true,if_false,reduceIte]) |refine ah rfl (fun K hK=>?_) |refine ct rfl ?_ |((first |refine hK _ _ ?_ |(clear hK;refine hK _ _ ?_) |(clear hK;clear hK;refine hK _ _ ?_));clear hK;(try clear K))))
     refine ai ?_;simp(disch:=omega) only[go_sem,ξ,ζ]
     exact⟨_,_,_,_,_,_,rfl,hf1.to,hf2.to⟩
 (repeat (first |(refine wo rfl (fun k hk=>?_);simp(disch:=omega) only[go_sem,ξ,ζ];apply hk;clear hk k) |refine wkt rfl ?_ |with_reducible refine wk0 ?_ |with_reducible refine ao ?_ |with_reducible refine aj ?_ wt_no |with_reducible refine ak ?_))
 refine aj ?_ (aj ?_ wt_no)
 ·refine cN rfl rfl rfl rfl (by exact iM hx0 g1) ?_;rintro v1 h1 _ hv1;obtain⟨v1_0,v1_1,v1_2,v1_3,v1_4,v1_5,v1_6,rfl,hv1⟩:=hv1.sa;(repeat (first |(refine wo rfl (fun k hk=>?_);simp(disch:=omega) only[go_sem,ξ,ζ];apply hk;clear hk k) |refine wkt rfl ?_ |with_reducible refine wk0 ?_ |with_reducible refine ao ?_ |with_reducible refine aj ?_ wt_no |with_reducible refine ak ?_))
  refine aj ?_ (aj ?_ wt_no)
  ·refine cN rfl rfl rfl rfl (by exact iM hy0 g2) ?_;rintro v2 h2 _ hv2;obtain⟨v2_0,v2_1,v2_2,v2_3,v2_4,v2_5,v2_6,rfl,hv2⟩:=hv2.sa;(repeat (first |(refine wo rfl (fun k hk=>?_);simp(disch:=omega) only[go_sem,ξ,ζ];apply hk;clear hk k) |refine wkt rfl ?_ |with_reducible refine wk0 ?_ |with_reducible refine ao ?_ |with_reducible refine aj ?_ wt_no |with_reducible refine ak ?_))
   rw[hq1] at hv1
   rw[hq2] at hv2
   refine rest _ _ _ _ _ _ _ _ _ _ _ _ _ _ _ _ hv1.to hv2 ?_
   simp(disch:=omega) only[go_sem,ξ,ζ,true_or]
  ·(repeat (first |(refine wo rfl (fun k hk=>?_);simp(disch:=omega) only[go_sem,ξ,ζ];apply hk;clear hk k) |refine wkt rfl ?_ |with_reducible refine wk0 ?_ |with_reducible refine ao ?_ |with_reducible refine aj ?_ wt_no |with_reducible refine ak ?_))
   refine cN rfl rfl rfl rfl (by exact iM hy0 g2) ?_;rintro v2 h2 _ hv2;obtain⟨v2_0,v2_1,v2_2,v2_3,v2_4,v2_5,v2_6,rfl,hv2⟩:=hv2.sa;(repeat (first |(refine wo rfl (fun k hk=>?_);simp(disch:=omega) only[go_sem,ξ,ζ];apply hk;clear hk k) |refine wkt rfl ?_ |with_reducible refine wk0 ?_ |with_reducible refine ao ?_ |with_reducible refine aj ?_ wt_no |with_reducible refine ak ?_))
   rw[hq1] at hv1
   rw[hq2] at hv2
   refine rest _ _ _ _ _ _ _ _ _ _ _ _ _ _ _ _ hv1.to hv2 ?_
   simp(disch:=omega) only[go_sem,ξ,ζ,true_or]
 ·(repeat (first |(refine wo rfl (fun k hk=>?_);simp(disch:=omega) only[go_sem,ξ,ζ];apply hk;clear hk k) |refine wkt rfl ?_ |with_reducible refine wk0 ?_ |with_reducible refine ao ?_ |with_reducible refine aj ?_ wt_no |with_reducible refine ak ?_))
  refine cN rfl rfl rfl rfl (by exact iM hx0 g1) ?_;rintro v1 h1 _ hv1;obtain⟨v1_0,v1_1,v1_2,v1_3,v1_4,v1_5,v1_6,rfl,hv1⟩:=hv1.sa;(repeat (first |(refine wo rfl (fun k hk=>?_);simp(disch:=omega) only[go_sem,ξ,ζ];apply hk;clear hk k) |refine wkt rfl ?_ |with_reducible refine wk0 ?_ |with_reducible refine ao ?_ |with_reducible refine aj ?_ wt_no |with_reducible refine ak ?_))
  refine cN rfl rfl rfl rfl (by exact iM hy0 g2) ?_;rintro v2 h2 _ hv2;obtain⟨v2_0,v2_1,v2_2,v2_3,v2_4,v2_5,v2_6,rfl,hv2⟩:=hv2.sa;(repeat (first |(refine wo rfl (fun k hk=>?_);simp(disch:=omega) only[go_sem,ξ,ζ];apply hk;clear hk k) |refine wkt rfl ?_ |with_reducible refine wk0 ?_ |with_reducible refine ao ?_ |with_reducible refine aj ?_ wt_no |with_reducible refine ak ?_))
  rw[hq1] at hv1
  rw[hq2] at hv2
  refine rest _ _ _ _ _ _ _ _ _ _ _ _ _ _ _ _ hv1.to hv2 ?_
  simp(disch:=omega) only[go_sem,ξ,ζ,true_or]
theorem JL {h0 h:PH} [Le h0 h] {v:Value} {n1 n2:Bool} {a1 d1 a2 d2:Nat} {l u:Bool} (hv:Iw h0 v n1 a1 d1 n2 a2 d2 l u) (g:lg n1 a1 d1∨lg n2 a2 d2):
  Spec mach 47 #[v] h NR (fail 1):=by
 obtain⟨x1,y1,x2,y2,rfl,hx,hy⟩:=hv
 have hx0:=hx
 have hy0:=hy
 obtain⟨_,_,_,_,_,_,e1,_⟩:=hx
 obtain⟨_,_,_,_,_,_,e2,_⟩:=hy
 simp only[Value.agg.injEq,Array.mk.injEq,List.cons.injEq,and_true,true_and] at e1 e2
 obtain⟨rfl,rfl⟩:=e1
 obtain⟨rfl,rfl⟩:=e2
 refine Spec.enter (args:=[_]) (n:=33) Tryz.func47 rfl (by kernel_rfl) rfl (by simp) [.cell 2 94] rfl (fun C _=>?_)
 repeat (first |(refine rg rfl rfl (fun K hK=>?_);(repeat (first |(refine wo rfl (fun k hk=>?_);simp(disch:=omega) only[go_sem,ξ,ζ];apply hk;clear hk k) |refine wkt rfl ?_));(try refine wk0 ?_);apply hK;clear hK K;(try dsimp only[ag,qs,qb])) |((first |refine ae ?_ |refine ac ?_);simp(disch:=decide) only[qs,qb,if_true,if_false,reduceIte]) |refine ah rfl (fun K hK=>?_) |refine ct rfl ?_ |((first |refine hK _ _ ?_ |(clear hK;refine hK _ _ ?_) |(clear hK;clear hK;refine hK _ _ ?_));clear hK;(try clear K)))
 (first |refine AWP_t (.seg [.o 0,.o 1,.o 3,.o 4,.o 6,.o 7,.o 8,.o 9] (.alt 2 (.alt 5 (.seg [.o 10] (.alt 11 (.alt 12 .done .no) .no)) (.alt 11 (.alt 5 (.seg [.o 10] (.alt 12 .done .no)) .no) .no)) (.alt 11 (.alt 2 (.alt 5 (.seg [.o 10] (.alt 12 .done .no)) .no) .no) .no))) (by decide+kernel) rfl (fun K hK=>?_) |refine mR (.seg [.o 0,.o 1,.o 3,.o 4,.o 6,.o 7,.o 8,.o 9] (.alt 2 (.alt 5 (.seg [.o 10] (.alt 11 (.alt 12 .done .no) .no)) (.alt 11 (.alt 5 (.seg [.o 10] (.alt 12 .done .no)) .no) .no)) (.alt 11 (.alt 2 (.alt 5 (.seg [.o 10] (.alt 12 .done .no)) .no) .no) .no))) (by decide+kernel) rfl (fun K hK=>?_))
 (repeat (first |(refine wo rfl (fun k hk=>?_);simp(disch:=omega) only[go_sem,ξ,ζ];apply hk;clear hk k) |refine wkt rfl ?_ |with_reducible refine wk0 ?_ |with_reducible refine ao ?_ |with_reducible refine aj ?_ wt_no |with_reducible refine ak ?_))
 by_cases g1:lg n1 a1 d1
 ·refine aj ?_ (aj ?_ wt_no)
  ·exact cF rfl rfl rfl rfl (by exact jn hx0 g1) (fun _ _ h=>h)
  ·(repeat (first |(refine wo rfl (fun k hk=>?_);simp(disch:=omega) only[go_sem,ξ,ζ];apply hk;clear hk k) |refine wkt rfl ?_ |with_reducible refine wk0 ?_ |with_reducible refine ao ?_ |with_reducible refine aj ?_ wt_no |with_reducible refine ak ?_))
   exact cF rfl rfl rfl rfl (by exact jn hx0 g1) (fun _ _ h=>h)
 ·have g2:=g.resolve_left g1
  refine aj ?_ (aj ?_ wt_no)
  ·refine cN rfl rfl rfl rfl (by exact iM hx0 g1) ?_;rintro v1 h1 _ hv1;obtain⟨v1_0,v1_1,v1_2,v1_3,v1_4,v1_5,v1_6,rfl,hv1⟩:=hv1.sa;(repeat (first |(refine wo rfl (fun k hk=>?_);simp(disch:=omega) only[go_sem,ξ,ζ];apply hk;clear hk k) |refine wkt rfl ?_ |with_reducible refine wk0 ?_ |with_reducible refine ao ?_ |with_reducible refine aj ?_ wt_no |with_reducible refine ak ?_))
   refine aj ?_ (aj ?_ wt_no)
   ·exact cF rfl rfl rfl rfl (by exact jn hy0 g2) (fun _ _ h=>h)
   ·(repeat (first |(refine wo rfl (fun k hk=>?_);simp(disch:=omega) only[go_sem,ξ,ζ];apply hk;clear hk k) |refine wkt rfl ?_ |with_reducible refine wk0 ?_ |with_reducible refine ao ?_ |with_reducible refine aj ?_ wt_no |with_reducible refine ak ?_))
    exact cF rfl rfl rfl rfl (by exact jn hy0 g2) (fun _ _ h=>h)
  ·(repeat (first |(refine wo rfl (fun k hk=>?_);simp(disch:=omega) only[go_sem,ξ,ζ];apply hk;clear hk k) |refine wkt rfl ?_ |with_reducible refine wk0 ?_ |with_reducible refine ao ?_ |with_reducible refine aj ?_ wt_no |with_reducible refine ak ?_))
   refine cN rfl rfl rfl rfl (by exact iM hx0 g1) ?_;rintro v1 h1 _ hv1;obtain⟨v1_0,v1_1,v1_2,v1_3,v1_4,v1_5,v1_6,rfl,hv1⟩:=hv1.sa;(repeat (first |(refine wo rfl (fun k hk=>?_);simp(disch:=omega) only[go_sem,ξ,ζ];apply hk;clear hk k) |refine wkt rfl ?_ |with_reducible refine wk0 ?_ |with_reducible refine ao ?_ |with_reducible refine aj ?_ wt_no |with_reducible refine ak ?_))
   exact cF rfl rfl rfl rfl (by exact jn hy0 g2) (fun _ _ h=>h)
theorem Jk.sl {h:PH} {b:Bool} {x y:Value} {n d:Nat} (r:Jk h b x y n d):∃na nl nc da dl dc,x=.slice na nl nc∧y=.slice da dl dc:=by
 obtain⟨_,_,_,rfl,_⟩:=r.num.sl
 obtain⟨_,_,_,rfl,_⟩:=r.den.sl
 exact⟨_,_,_,_,_,_,rfl,rfl⟩
def PS.fin (s:PS) (k:Nat):Prop:=(s.l=false→s.e=false→sz s.lo≤k)∧(s.u=false→s.e=false→sz s.hi≤k)
theorem Sr.parts {h:PH} {v:Value} {s:PS} (r:Sr h v s):∃b1 a1 m1 c1 a2 m2 c2 b2 a3 m3 c3 a4 m4 c4,v=.agg #[.bool b1,.slice a1 m1 c1,.slice a2 m2 c2,.bool b2,.slice a3 m3 c3,.slice a4 m4 c4,.bool s.l,.bool s.u,.bool s.e]∧
  (∃n d,Jk h b1 (.slice a1 m1 c1) (.slice a2 m2 c2) n d)∧(∃n d,Jk h b2 (.slice a3 m3 c3) (.slice a4 m4 c4) n d)∧
  (s.l=false→s.e=false→Fr h (.agg #[.bool b1,.slice a1 m1 c1,.slice a2 m2 c2]) s.lo)∧(s.u=false→s.e=false→Fr h (.agg #[.bool b2,.slice a3 m3 c3,.slice a4 m4 c4]) s.hi):=by
 obtain⟨b1,x1,y1,b2,x2,y2,rfl,⟨n,d,j1⟩,⟨n',d',j2⟩,f1,f2⟩:=r
 obtain⟨_,_,_,_,_,_,rfl,rfl⟩:=j1.sl
 obtain⟨_,_,_,_,_,_,rfl,rfl⟩:=j2.sl
 exact⟨_,_,_,_,_,_,_,_,_,_,_,_,_,_,rfl,⟨n,d,j1⟩,⟨n',d',j2⟩,f1,f2⟩
def hullS (s:PS) (p:Nat):PS:=⟨gdown s.lo p,gup s.hi p,s.l,s.u,s.e⟩
theorem Jq {h0 h:PH} [Le h0 h] {v:Value} {s:PS} {p:Nat} (hv:Sr h0 v s) (hf:s.fin (2^30)) (hp:p≤2^30):
  Spec mach 159 #[v,.int .i64 p] h (fun v h'=>Sr h' v (hullS s p)) NP:=by
 obtain⟨lo,hi,l,u,e⟩:=s
 obtain⟨b1,a1,m1,c1,a2,m2,c2,b2,a3,m3,c3,a4,m4,c4,rfl,⟨n,d,j1⟩,⟨n',d',j2⟩,f1,f2⟩:=hv.parts
 obtain⟨k1,k2⟩:=hf
 dsimp only at f1 f2 k1 k2 ⊢
 refine Spec.go [] Tryz.func159 rfl rfl (by kernel_rfl) fun C _=>?_
 try simp(maxSteps:=999999) (disch:=omega) only[go_sem,ξ,ζ]
 cases e with
 | true=>
  try simp(maxSteps:=999999) (disch:=omega) only[go_sem,ξ,ζ]
  exact⟨_,_,_,_,_,_,rfl,⟨n,d,j1.to⟩,⟨n',d',j2.to⟩,(fun _ e=>by cases e),(fun _ e=>by cases e)⟩
 | false=>
  cases l with
  | true=>
   cases u with
   | true=>
    try simp(maxSteps:=999999) (disch:=omega) only[go_sem,ξ,ζ]
    exact⟨_,_,_,_,_,_,rfl,⟨n,d,j1.to⟩,⟨n',d',j2.to⟩,(fun e _=>by cases e),(fun e _=>by cases e)⟩
   | false=>
    have g2:=f2 rfl rfl
    have z2:=k2 rfl rfl
    try simp(maxSteps:=999999) (disch:=omega) only[go_sem,ξ,ζ]
    refine caN (by exact jG (p:=p) (u:=true) g2 (by omega) (by omega)) ?_;rintro _ h1 _ hv1;obtain⟨_,_,_,_,_,_,_,rfl,hv1⟩:=hv1.sa
    try simp(maxSteps:=999999) (disch:=omega) only[go_sem,ξ,ζ]
    exact⟨_,_,_,_,_,_,rfl,⟨n,d,j1.to⟩,⟨_,_,hv1.jk'⟩,(fun e _=>by cases e),fun _ _=>hv1⟩
  | false=>
   have g1:=f1 rfl rfl
   have z1:=k1 rfl rfl
   cases u with
   | true=>
    try simp(maxSteps:=999999) (disch:=omega) only[go_sem,ξ,ζ]
    refine caN (by exact jG (p:=p) (u:=false) g1 (by omega) (by omega)) ?_;rintro _ h1 _ hv1;obtain⟨_,_,_,_,_,_,_,rfl,hv1⟩:=hv1.sa
    try simp(maxSteps:=999999) (disch:=omega) only[go_sem,ξ,ζ]
    exact⟨_,_,_,_,_,_,rfl,⟨_,_,hv1.jk'⟩,⟨n',d',j2.to⟩,fun _ _=>hv1,(fun e _=>by cases e)⟩
   | false=>
    have g2:=f2 rfl rfl
    have z2:=k2 rfl rfl
    try simp(maxSteps:=999999) (disch:=omega) only[go_sem,ξ,ζ]
    refine caN (by exact jG (p:=p) (u:=false) g1 (by omega) (by omega)) ?_;rintro _ h1 _ hv1;obtain⟨_,_,_,_,_,_,_,rfl,hv1⟩:=hv1.sa
    try simp(maxSteps:=999999) (disch:=omega) only[go_sem,ξ,ζ]
    refine caN (by exact jG (p:=p) (u:=true) g2 (by omega) (by omega)) ?_;rintro _ h2 _ hv2;obtain⟨_,_,_,_,_,_,_,rfl,hv2⟩:=hv2.sa
    try simp(maxSteps:=999999) (disch:=omega) only[go_sem,ξ,ζ]
    exact⟨_,_,_,_,_,_,rfl,⟨_,_,hv1.to.jk'⟩,⟨_,_,hv2.jk'⟩,fun _ _=>hv1.to,fun _ _=>hv2⟩
theorem N32.inj {h:PH} {v:Value} {m n:Nat} (r:N32 h v m) (q:N32 h v n):m=n:=by
 obtain⟨a,c,rfl,A⟩:=r
 obtain⟨a',c',h2,A'⟩:=q
 simp only[Value.slice.injEq] at h2
 obtain⟨rfl,hl,rfl⟩:=h2
 have:W 4294967296 m=W 4294967296 n:=by
  refine List.ext_getElem hl (fun i h1 h2=>?_)
  obtain⟨ad,e1,e2⟩:=A.at_ i _ (List.getElem?_eq_getElem h1)
  obtain⟨ad',e3,e4⟩:=A'.at_ i _ (List.getElem?_eq_getElem h2)
  obtain rfl:ad=ad':=by rw[e1] at e3;exact Option.some.inj e3
  rw[e2] at e4
  simp only[Option.some.injEq,Value.int.injEq,true_and] at e4
  omega
 rw[←val_W B32 m,this,val_W B32]
theorem Fr.neg {h:PH} {b:Bool} {x y:Value} {n d:Nat} {q:Rat} (r:Fr h (.agg #[.bool b,x,y]) q) (j:Jk h b x y n d):Fr h (.agg #[.bool (!b && !decide (n=0)),x,y]) (-q):=by
 obtain⟨sn,sd,h1,h2,h3⟩:=r
 simp only[Value.agg.injEq,Array.mk.injEq,List.cons.injEq,and_true,Value.bool.injEq] at h1
 obtain⟨rfl,rfl,rfl⟩:=h1
 obtain rfl:=j.num.inj h2
 refine⟨x,y,?_,by simpa using h2,by simpa using h3⟩
 have:(!decide (q.num < 0) && !decide (q.num.natAbs=0))=decide ((-q).num < 0):=by
  rw[Bool.eq_iff_iff];simp only[φ,Bool.not_eq_true',decide_eq_false_iff_not,decide_eq_true_eq,Rat.neg_num];omega
 rw[this]
def minusS (s:PS):PS:=⟨-s.hi,-s.lo,s.u,s.l,s.e⟩
theorem Fu {h0 h:PH} [Le h0 h] {v:Value} {s:PS} (hv:Sr h0 v s):
  Spec mach 132 #[v] h (fun v h'=>Sr h' v (minusS s)) NP:=by
 obtain⟨lo,hi,l,u,e⟩:=s
 obtain⟨b1,a1,m1,c1,a2,m2,c2,b2,a3,m3,c3,a4,m4,c4,rfl,⟨n,d,j1⟩,⟨n',d',j2⟩,f1,f2⟩:=hv.parts
 dsimp only at f1 f2 ⊢
 refine Spec.go [(1,.o [0,1,3,4,6,7,8,9,10,11,2,5,12,13])] Tryz.func132 rfl rfl (by kernel_rfl) fun C _=>?_
 try simp(maxSteps:=999999) (disch:=omega) only[go_sem,ξ,ζ]
 refine caN (by exact o7 j2) ?_;rintro v1 h1 s1 rfl
 try simp(maxSteps:=999999) (disch:=omega) only[go_sem,ξ,ζ]
 refine caN (by exact o7 j1) ?_;rintro v2 h2 s2 rfl
 try simp(maxSteps:=999999) (disch:=omega) only[go_sem,ξ,ζ]
 exact⟨_,_,_,_,_,_,rfl,⟨n',d',j2.num.to,j2.den.to⟩,⟨n,d,j1.num.to,j1.den.to⟩,fun x y=>((f2 x y).neg j2).to,fun x y=>((f1 x y).neg j1).to⟩
theorem Cn.zero (h:PH):Cn h (.agg #[.bool false,.slice none 0 0,.slice none 0 0]) 0:=⟨.slice none 0 0,.slice none 0 0,by simp,by simpa using N32.zero h,by simpa using N32.zero h⟩
def canS (s:PS):PS:=if s.e then ⟨1,0,false,false,true⟩ else ⟨if s.l then 0 else s.lo,if s.u then 0 else s.hi,s.l,s.u,false⟩
def Ci (h:PH) (v:Value) (c:PS):Prop:=∃b1 x1 y1 b2 x2 y2,v=.agg #[.bool b1,x1,y1,.bool b2,x2,y2,.bool c.l,.bool c.u]∧Cn h (.agg #[.bool b1,x1,y1]) c.lo∧Cn h (.agg #[.bool b2,x2,y2]) c.hi
theorem Ci.to {h h':PH} {v:Value} {s:PS} (r:Ci h v s) [Le h h']:Ci h' v s:=let ⟨a,b,c,d,e,f,h1,h2,h3⟩:=r;⟨a,b,c,d,e,f,h1,h2.to,h3.to⟩
theorem give_ok {h0 h:PH} [Le h0 h] {v:Value} {s:PS} (hv:Sr h0 v s) (hf:s.fin 2048):
  Spec mach 219 #[v] h (fun v h'=>Ci h' v (canS s)) NP:=by
 obtain⟨lo,hi,l,u,e⟩:=s
 obtain⟨b1,a1,m1,c1,a2,m2,c2,b2,a3,m3,c3,a4,m4,c4,rfl,⟨n,d,j1⟩,⟨n',d',j2⟩,f1,f2⟩:=hv.parts
 obtain⟨k1,k2⟩:=hf
 dsimp only at f1 f2 k1 k2 ⊢
 refine Spec.go [] Tryz.func219 rfl rfl (by kernel_rfl) fun C _=>?_
 try simp(maxSteps:=999999) (disch:=omega) only[go_sem,ξ,ζ]
 cases e with
 | true=>
  try simp(maxSteps:=999999) (disch:=omega) only[go_sem,ξ,ζ]
  refine caN (by exact cB (n:=1) (by decide) (by decide)) ?_;rintro _ h1 _ hv1;obtain⟨_,_,_,_,_,_,_,rfl,hv1⟩:=hv1.sa
  try simp(maxSteps:=999999) (disch:=omega) only[go_sem,ξ,ζ]
  refine caN (by exact cO hv1 (by decide)) ?_;rintro v2 h2 s2 ⟨w,rfl,hw⟩;obtain⟨_,_,_,_,_,_,_,rfl,hw⟩:=hw.sa
  try simp(maxSteps:=999999) (disch:=omega) only[go_sem,ξ,ζ]
  refine caN (by exact fm hw) ?_;rintro v3 h3 s3 rfl
  try simp(maxSteps:=999999) (disch:=omega) only[go_sem,ξ,ζ]
  exact⟨_,_,_,_,_,_,rfl,hw.to,Cn.zero _⟩
 | false=>
  cases l with
  | true=>
   cases u with
   | true=>
    try simp(maxSteps:=999999) (disch:=omega) only[go_sem,ξ,ζ]
    exact⟨_,_,_,_,_,_,rfl,Cn.zero _,Cn.zero _⟩
   | false=>
    try simp(maxSteps:=999999) (disch:=omega) only[go_sem,ξ,ζ]
    refine caN (by exact cO (f2 rfl rfl) (k2 rfl rfl)) ?_;rintro v2 h2 s2 ⟨w,rfl,hw⟩;obtain⟨_,_,_,_,_,_,_,rfl,hw⟩:=hw.sa
    try simp(maxSteps:=999999) (disch:=omega) only[go_sem,ξ,ζ]
    refine caN (by exact fm hw) ?_;rintro v3 h3 s3 rfl
    try simp(maxSteps:=999999) (disch:=omega) only[go_sem,ξ,ζ]
    exact⟨_,_,_,_,_,_,rfl,Cn.zero _,hw.to⟩
  | false=>
   cases u with
   | true=>
    try simp(maxSteps:=999999) (disch:=omega) only[go_sem,ξ,ζ]
    refine caN (by exact cO (f1 rfl rfl) (k1 rfl rfl)) ?_;rintro v2 h2 s2 ⟨w,rfl,hw⟩;obtain⟨_,_,_,_,_,_,_,rfl,hw⟩:=hw.sa
    try simp(maxSteps:=999999) (disch:=omega) only[go_sem,ξ,ζ]
    refine caN (by exact fm hw) ?_;rintro v3 h3 s3 rfl
    try simp(maxSteps:=999999) (disch:=omega) only[go_sem,ξ,ζ]
    exact⟨_,_,_,_,_,_,rfl,hw.to,Cn.zero _⟩
   | false=>
    try simp(maxSteps:=999999) (disch:=omega) only[go_sem,ξ,ζ]
    refine caN (by exact cO (f1 rfl rfl) (k1 rfl rfl)) ?_;rintro v2 h2 s2 ⟨w,rfl,hw⟩;obtain⟨_,_,_,_,_,_,_,rfl,hw⟩:=hw.sa
    try simp(maxSteps:=999999) (disch:=omega) only[go_sem,ξ,ζ]
    refine caN (by exact fm hw) ?_;rintro v3 h3 s3 rfl
    try simp(maxSteps:=999999) (disch:=omega) only[go_sem,ξ,ζ]
    refine caN (by exact cO (f2 rfl rfl) (k2 rfl rfl)) ?_;rintro v4 h4 s4 ⟨w',rfl,hw'⟩;obtain⟨_,_,_,_,_,_,_,rfl,hw'⟩:=hw'.sa
    try simp(maxSteps:=999999) (disch:=omega) only[go_sem,ξ,ζ]
    refine caN (by exact fm hw') ?_;rintro v5 h5 s5 rfl
    try simp(maxSteps:=999999) (disch:=omega) only[go_sem,ξ,ζ]
    exact⟨_,_,_,_,_,_,rfl,hw.to,hw'.to⟩
theorem Jj {h0 h:PH} [Le h0 h] {v:Value} {s:PS} (hv:Sr h0 v s) (hf:¬s.fin 2048):
  Spec mach 219 #[v] h NR (fail 1):=by
 obtain⟨lo,hi,l,u,e⟩:=s
 obtain⟨b1,a1,m1,c1,a2,m2,c2,b2,a3,m3,c3,a4,m4,c4,rfl,⟨n,d,j1⟩,⟨n',d',j2⟩,f1,f2⟩:=hv.parts
 unfold PS.fin at hf
 dsimp only at f1 f2 hf ⊢
 refine Spec.go [] Tryz.func219 rfl rfl (by kernel_rfl) fun C _=>?_
 try simp(maxSteps:=999999) (disch:=omega) only[go_sem,ξ,ζ]
 cases e with
 |true=>exact(hf ⟨(fun _ e=>by cases e),(fun _ e=>by cases e)⟩).elim
 | false =>
  cases l with
  | true=>
   cases u with
   |true=>exact(hf ⟨(fun e _=>by cases e),(fun e _=>by cases e)⟩).elim
   | false=>
    have z2:¬sz hi≤2048:=fun k=>hf ⟨(fun e _=>by cases e),fun _ _=>k⟩
    try simp(maxSteps:=999999) (disch:=omega) only[go_sem,ξ,ζ]
    refine caN (by exact ms (f2 rfl rfl) z2) ?_;rintro v2 h2 s2 rfl
    try simp(maxSteps:=999999) (disch:=omega) only[go_sem,ξ,ζ]
    exact caF (by exact jj (by decide)) (fun _ _ h=>h)
  | false=>
   by_cases z1:sz lo≤2048
   ·cases u with
    |true=>exact(hf ⟨fun _ _=>z1,(fun e _=>by cases e)⟩).elim
    | false=>
     have z2:¬sz hi≤2048:=fun k=>hf ⟨fun _ _=>z1,fun _ _=>k⟩
     try simp(maxSteps:=999999) (disch:=omega) only[go_sem,ξ,ζ]
     refine caN (by exact cO (f1 rfl rfl) z1) ?_;rintro v2 h2 s2 ⟨w,rfl,hw⟩;obtain⟨_,_,_,_,_,_,_,rfl,hw⟩:=hw.sa
     try simp(maxSteps:=999999) (disch:=omega) only[go_sem,ξ,ζ]
     refine caN (by exact fm hw) ?_;rintro v3 h3 s3 rfl
     try simp(maxSteps:=999999) (disch:=omega) only[go_sem,ξ,ζ]
     refine caN (by exact ms (f2 rfl rfl) z2) ?_;rintro v4 h4 s4 rfl
     try simp(maxSteps:=999999) (disch:=omega) only[go_sem,ξ,ζ]
     exact caF (by exact jj (by decide)) (fun _ _ h=>h)
   ·cases u with
    | true=>
     try simp(maxSteps:=999999) (disch:=omega) only[go_sem,ξ,ζ]
     refine caN (by exact ms (f1 rfl rfl) z1) ?_;rintro v2 h2 s2 rfl
     try simp(maxSteps:=999999) (disch:=omega) only[go_sem,ξ,ζ]
     exact caF (by exact jj (by decide)) (fun _ _ h=>h)
    | false=>
     try simp(maxSteps:=999999) (disch:=omega) only[go_sem,ξ,ζ]
     refine caN (by exact ms (f1 rfl rfl) z1) ?_;rintro v2 h2 s2 rfl
     try simp(maxSteps:=999999) (disch:=omega) only[go_sem,ξ,ζ]
     exact caF (by exact jj (by decide)) (fun _ _ h=>h)
inductive NS where
 |e
 |i (lo hi:Option Rat)
def omax:Option Rat→Option Rat→Option Rat
 |none,b=>b
 |some x,none=>some x
 |some x,some y=>some (max x y)
def omin:Option Rat→Option Rat→Option Rat
 |none,b=>b
 |some x,none=>some x
 |some x,some y=>some (min x y)
def jmin:Option Rat→Option Rat→Option Rat
 |some x,some y=>some (min x y)
 |_,_=>none
def jmax:Option Rat→Option Rat→Option Rat
 |some x,some y=>some (max x y)
 |_,_=>none
def oadd:Option Rat→Option Rat→Option Rat
 |some x,some y=>some (x+y)
 |_,_=>none
def ordO:Option Rat→Option Rat→Bool
 |some x,some y=>!decide (y < x)
 |_,_=>true
namespace NS
def mk' (a b:Option Rat):NS:=bif ordO a b then .i a b else .e
def hull (p:Nat):NS→NS
 |.e=>.e
 |.i a b=>.i (a.map (gdown · p)) (b.map (gup · p))
def minus:NS→NS
 |.e=>.e
 |.i a b=>.i (b.map (-·)) (a.map (-·))
def met:NS→NS→NS
 |.i a b,.i c d=>mk' (omax a c) (omin b d)
 |_,_=>.e
def joined:NS→NS→NS
 |.e,y=>y
 |x,.e=>x
 |.i a b,.i c d=>.i (jmin a c) (jmax b d)
def lesser:NS→NS→NS
 |.i a b,.i c d=>.i (jmin a c) (omin b d)
 |_,_=>.e
def sum:NS→NS→NS
 |.i a b,.i c d=>.i (oadd a c) (oadd b d)
 |_,_=>.e
def void:NS→Bool
 |.e=>true
 |_=>false
def ok:NS→Prop
 |.e=>True
 |.i a b=>ordO a b=true
def all (f:Rat→Bool):NS→Bool
 |.e=>true
 |.i a b=>a.all f && b.all f
def le (k:Nat) (x:NS):Prop:=x.all (fun q=>decide (sz q≤k))=true
instance (k:Nat) (x:NS):Decidable (x.le k):=by unfold le;infer_instance
def slo:NS→Int
 |.e=>0
 | .i a _=>match a with
  |none=>-1
  |some q=>sgn3 q
def shi:NS→Int
 |.e=>0
 | .i _ b=>match b with
  |none=>1
  |some q=>sgn3 q
def zero (x:NS):Bool:=!x.void && decide (x.slo≤0) && decide (0≤x.shi)
def lowIn:Option Rat→Option Rat→Bool
 |none,_=>true
 |some _,none=>false
 |some c,some a=>!decide (a < c)
def highIn:Option Rat→Option Rat→Bool
 |none,_=>true
 |some _,none=>false
 |some d,some b=>!decide (d < b)
def within:NS→NS→Bool
 |.e,_=>true
 |_,.e=>false
 |.i a b,.i c d=>lowIn c a && highIn d b
def has:NS→Rat→Bool
 |.e,_=>false
 |.i a b,q=>a.all (fun x=>!decide (q < x)) && b.all (fun x=>!decide (x < q))
end NS
abbrev Out:=Except Int NS
def Out.fin:Out→Out
 |.error e=>.error e
 |.ok x=>bif decide (x.le 2048) then .ok x else .error 1
structure En (h:PH) (b:Bool) (x y:Value) (o:Option Rat):Prop where
 jk:∃n d,Jk h b x y n d
 fr:∀q,o=some q→Fr h (.agg #[.bool b,x,y]) q
theorem En.to {h h':PH} {b:Bool} {x y:Value} {o:Option Rat} (r:En h b x y o) [Le h h']:En h' b x y o:=⟨let ⟨n,d,j⟩:=r.jk;⟨n,d,j.to⟩,fun q e=>(r.fr q e).to⟩
theorem En.of {h:PH} {b:Bool} {x y:Value} {q:Rat} (r:Fr h (.agg #[.bool b,x,y]) q):En h b x y (some q):=⟨⟨_,_,r.jk'⟩,fun q' e=>by cases e;exact r⟩
theorem En.num {h:PH} {b:Bool} {x y:Value} {q:Rat} (r:En h b x y (some q)):Fr h (.agg #[.bool b,x,y]) q:=r.fr q rfl
theorem En.junk {h:PH} {b:Bool} {x y:Value} {o:Option Rat} (r:En h b x y o):En h b x y none:=⟨r.jk,fun _ e=>by cases e⟩
theorem En.nil (h:PH):En h false (.slice none 0 0) (.slice none 0 0) none:=⟨⟨0,0,N32.zero h,N32.zero h⟩,fun _ e=>by cases e⟩
theorem En.sl {h:PH} {b:Bool} {x y:Value} {o:Option Rat} (r:En h b x y o):∃na nl nc da dl dc,x=.slice na nl nc∧y=.slice da dl dc:=let ⟨_,_,j⟩:=r.jk;j.sl
def Sn (h:PH) (v:Value):NS→Prop
 |.e=>∃b1 x1 y1 b2 x2 y2 l u,v=.agg #[.bool b1,x1,y1,.bool b2,x2,y2,.bool l,.bool u,.bool true]∧En h b1 x1 y1 none∧En h b2 x2 y2 none
 |.i lo hi=>∃b1 x1 y1 b2 x2 y2,v=.agg #[.bool b1,x1,y1,.bool b2,x2,y2,.bool lo.isNone,.bool hi.isNone,.bool false]∧En h b1 x1 y1 lo∧En h b2 x2 y2 hi
theorem Sn.to {h h':PH} {v:Value} {x:NS} (r:Sn h v x) [Le h h']:Sn h' v x:=by
 cases x with
 |e=>obtain⟨b1,x1,y1,b2,x2,y2,l,u,hv,h1,h2⟩:=r;exact⟨b1,x1,y1,b2,x2,y2,l,u,hv,h1.to,h2.to⟩
 |i a b=>obtain⟨b1,x1,y1,b2,x2,y2,hv,h1,h2⟩:=r;exact⟨b1,x1,y1,b2,x2,y2,hv,h1.to,h2.to⟩
theorem Sn.ee {h:PH} {v:Value} (r:Sn h v .e):∃b1 a1 m1 c1 a2 m2 c2 b2 a3 m3 c3 a4 m4 c4 l u,v=.agg #[.bool b1,.slice a1 m1 c1,.slice a2 m2 c2,.bool b2,.slice a3 m3 c3,.slice a4 m4 c4,.bool l,.bool u,.bool true]∧
  En h b1 (.slice a1 m1 c1) (.slice a2 m2 c2) none∧En h b2 (.slice a3 m3 c3) (.slice a4 m4 c4) none:=by
 obtain⟨b1,x1,y1,b2,x2,y2,l,u,rfl,h1,h2⟩:=r
 obtain⟨_,_,_,_,_,_,rfl,rfl⟩:=h1.sl
 obtain⟨_,_,_,_,_,_,rfl,rfl⟩:=h2.sl
 exact⟨_,_,_,_,_,_,_,_,_,_,_,_,_,_,_,_,rfl,h1,h2⟩
theorem Sn.ie {h:PH} {v:Value} {lo hi:Option Rat} (r:Sn h v (.i lo hi)):∃b1 a1 m1 c1 a2 m2 c2 b2 a3 m3 c3 a4 m4 c4,v=.agg #[.bool b1,.slice a1 m1 c1,.slice a2 m2 c2,.bool b2,.slice a3 m3 c3,.slice a4 m4 c4,.bool lo.isNone,.bool hi.isNone,.bool false]∧
  En h b1 (.slice a1 m1 c1) (.slice a2 m2 c2) lo∧En h b2 (.slice a3 m3 c3) (.slice a4 m4 c4) hi:=by
 obtain⟨b1,x1,y1,b2,x2,y2,rfl,h1,h2⟩:=r
 obtain⟨_,_,_,_,_,_,rfl,rfl⟩:=h1.sl
 obtain⟨_,_,_,_,_,_,rfl,rfl⟩:=h2.sl
 exact⟨_,_,_,_,_,_,_,_,_,_,_,_,_,_,rfl,h1,h2⟩
theorem Sn.sa {h:PH} {v:Value} {x:NS} (r:Sn h v x):∃b1 a1 m1 c1 a2 m2 c2 b2 a3 m3 c3 a4 m4 c4 l u,v=.agg #[.bool b1,.slice a1 m1 c1,.slice a2 m2 c2,.bool b2,.slice a3 m3 c3,.slice a4 m4 c4,.bool l,.bool u,.bool x.void]∧
  Sn h (.agg #[.bool b1,.slice a1 m1 c1,.slice a2 m2 c2,.bool b2,.slice a3 m3 c3,.slice a4 m4 c4,.bool l,.bool u,.bool x.void]) x:=by
 cases x with
 |e=>obtain⟨b1,a1,m1,c1,a2,m2,c2,b2,a3,m3,c3,a4,m4,c4,l,u,rfl,h1,h2⟩:=r.ee;exact⟨_,_,_,_,_,_,_,_,_,_,_,_,_,_,_,_,rfl,_,_,_,_,_,_,_,_,rfl,h1,h2⟩
 |i a b=>obtain⟨b1,a1,m1,c1,a2,m2,c2,b2,a3,m3,c3,a4,m4,c4,rfl,h1,h2⟩:=r.ie;exact⟨_,_,_,_,_,_,_,_,_,_,_,_,_,_,_,_,rfl,_,_,_,_,_,_,rfl,h1,h2⟩
def PS.n (s:PS):NS:=bif s.e then .e else .i (bif s.l then none else some s.lo) (bif s.u then none else some s.hi)
theorem Sr.sn {h:PH} {v:Value} {s:PS} (r:Sr h v s):Sn h v s.n:=by
 obtain⟨lo,hi,l,u,e⟩:=s
 obtain⟨b1,x1,y1,b2,x2,y2,rfl,j1,j2,f1,f2⟩:=r
 dsimp only at*
 cases e with
 |true=>exact⟨b1,x1,y1,b2,x2,y2,l,u,rfl,⟨j1,(fun _ e=>by cases e)⟩,⟨j2,(fun _ e=>by cases e)⟩⟩
 | false=>
  cases l<;>cases u<;>refine⟨b1,x1,y1,b2,x2,y2,rfl,⟨j1,fun q e=>?_⟩,⟨j2,fun q e=>?_⟩⟩<;>simp at e
  ·subst e;exact f1 rfl rfl
  ·subst e;exact f2 rfl rfl
  ·subst e;exact f1 rfl rfl
  ·subst e;exact f2 rfl rfl
theorem Sn.sr {h:PH} {v:Value} {x:NS} (r:Sn h v x):∃s,Sr h v s∧s.n=x:=by
 cases x with
 | e=>
  obtain⟨b1,x1,y1,b2,x2,y2,l,u,rfl,h1,h2⟩:=r
  exact⟨⟨0,0,l,u,true⟩,⟨b1,x1,y1,b2,x2,y2,rfl,h1.jk,h2.jk,(fun _ e=>by cases e),(fun _ e=>by cases e)⟩,rfl⟩
 | i a b=>
  obtain⟨b1,x1,y1,b2,x2,y2,rfl,h1,h2⟩:=r
  refine⟨⟨a.getD 0,b.getD 0,a.isNone,b.isNone,false⟩,⟨b1,x1,y1,b2,x2,y2,rfl,h1.jk,h2.jk,fun e _=>?_,fun e _=>?_⟩,?_⟩
  ·cases a with
   |none=>cases e
   |some a=>exact h1.num
  ·cases b with
   |none=>cases e
   |some b=>exact h2.num
  ·cases a<;>cases b<;>rfl
structure RI where
 n1:Bool
 a1:Nat
 d1:Nat
 n2:Bool
 a2:Nat
 d2:Nat
 l:Bool
 u:Bool
def Iv (h:PH) (v:Value) (x:RI):Prop:=Iw h v x.n1 x.a1 x.d1 x.n2 x.a2 x.d2 x.l x.u
theorem Iv.to {h h':PH} {v:Value} {x:RI} (r:Iv h v x) [Le h h']:Iv h' v x:=let ⟨a,b,c,d,e,h1,h2⟩:=r;⟨a,b,c,d,e,h1.to,h2.to⟩
theorem Iv.sa {h:PH} {v:Value} {x:RI} (r:Iv h v x):∃a1 m1 c1 a2 m2 c2 a3 m3 c3 a4 m4 c4,v=.agg #[.bool x.n1,.slice a1 m1 c1,.slice a2 m2 c2,.bool x.n2,.slice a3 m3 c3,.slice a4 m4 c4,.bool x.l,.bool x.u]∧
  Rw h (.agg #[.bool x.n1,.slice a1 m1 c1,.slice a2 m2 c2]) x.n1 x.a1 x.d1∧Rw h (.agg #[.bool x.n2,.slice a3 m3 c3,.slice a4 m4 c4]) x.n2 x.a2 x.d2:=by
 obtain⟨x1,y1,x2,y2,rfl,h1,h2⟩:=r
 have e1:=h1
 have e2:=h2
 obtain⟨_,_,_,_,_,_,e1,_⟩:=e1
 obtain⟨_,_,_,_,_,_,e2,_⟩:=e2
 simp only[Value.agg.injEq,Array.mk.injEq,List.cons.injEq,and_true,true_and] at e1 e2
 obtain⟨rfl,rfl⟩:=e1
 obtain⟨rfl,rfl⟩:=e2
 exact⟨_,_,_,_,_,_,_,_,_,_,_,_,rfl,h1,h2⟩
namespace RI
def lo (x:RI):Option Rat:=bif x.l then none else some (qof x.n1 x.a1 x.d1)
def hi (x:RI):Option Rat:=bif x.u then none else some (qof x.n2 x.a2 x.d2)
def set (x:RI):NS:=NS.mk' x.lo x.hi
def big (x:RI):Bool:=decide (Go.Q.lg x.n1 x.a1 x.d1) || decide (Go.Q.lg x.n2 x.a2 x.d2)
theorem set_ok (x:RI):x.set.ok:=by
 unfold set NS.mk'
 cases h:ordO x.lo x.hi with
 |true=>exact h
 |false=>trivial
theorem small {x:RI} (h:x.big=false):¬Go.Q.lg x.n1 x.a1 x.d1∧¬Go.Q.lg x.n2 x.a2 x.d2:=by
 unfold big at h
 simpa using h
theorem large {x:RI} (h:x.big=true):Go.Q.lg x.n1 x.a1 x.d1∨Go.Q.lg x.n2 x.a2 x.d2:=by
 unfold big at h
 simpa using h
theorem set_eq (x:RI):(rdS (qof x.n1 x.a1 x.d1) (qof x.n2 x.a2 x.d2) x.l x.u).n=x.set:=by
 unfold set lo hi rdS PS.n NS.mk'
 generalize qof x.n1 x.a1 x.d1=a
 generalize qof x.n2 x.a2 x.d2=b
 cases x.l<;>cases x.u<;>simp[ordO]
theorem le {x:RI} (h:x.big=false):x.set.le 2048:=by
 obtain⟨h1,h2⟩:=small h
 have z1:sz (qof x.n1 x.a1 x.d1)≤2048:=by unfold Go.Q.lg at h1;omega
 have z2:sz (qof x.n2 x.a2 x.d2)≤2048:=by unfold Go.Q.lg at h2;omega
 unfold set lo hi NS.mk'
 cases x.l<;>cases x.u<;>simp[ordO]
 ·generalize qof x.n1 x.a1 x.d1=a at*
  generalize qof x.n2 x.a2 x.d2=b at*
  by_cases h:b < a<;>simp[h,NS.le,NS.all,z1,z2]
 ·simp[NS.le,NS.all,z1]
 ·simp[NS.le,NS.all,z2]
 ·simp[NS.le,NS.all]
end RI
theorem NS.le_i {k:Nat} {a b:Option Rat}:(NS.i a b).le k↔(∀q,a=some q→sz q≤k)∧(∀q,b=some q→sz q≤k):=by
 unfold NS.le NS.all
 cases a<;>cases b<;>simp
theorem NS.le.up {k m:Nat} {x:NS} (h:x.le k) (hm:k≤m):x.le m:=by
 cases x with
 |e=>rfl
 | i a b=>
  rw[NS.le_i] at h ⊢
  exact⟨fun q e=>χ (h.1 q e) hm,fun q e=>χ (h.2 q e) hm⟩
theorem PS.fin_n {s:PS} {k:Nat}:s.fin k↔s.n.le k:=by
 obtain⟨lo,hi,l,u,e⟩:=s
 unfold PS.fin PS.n
 cases e with
 |true=>simp[NS.le,NS.all]
 | false=>
  dsimp only[cond_false]
  rw[NS.le_i]
  cases l<;>cases u<;>simp
theorem fF {h0 h:PH} [Le h0 h] {v:Value} {x:RI} (hv:Iv h0 v x) (g:x.big=true):Spec mach 47 #[v] h NR (fail 1):=JL hv (RI.large g)
theorem Hull_set {h0 h:PH} [Le h0 h] {v:Value} {x:NS} {p:Nat} (hv:Sn h0 v x) (hf:x.le (2^30)) (hp:p≤2^30):
  Spec mach 159 #[v,.int .i64 p] h (fun v h'=>Sn h' v (x.hull p)) NP:=by
 obtain⟨s,hs,rfl⟩:=hv.sr
 refine(Jq hs (PS.fin_n.2 hf) hp).mono (fun v h' _ r=>?_) (fun _ _ _ e=>e)
 have:(hullS s p).n=s.n.hull p:=by
  obtain⟨lo,hi,l,u,e⟩:=s
  cases e<;>cases l<;>cases u<;>rfl
 rw[←this]
 exact r.sn
theorem jK {h0 h:PH} [Le h0 h] {v:Value} {x:NS} (hv:Sn h0 v x):Spec mach 132 #[v] h (fun v h'=>Sn h' v x.minus) NP:=by
 obtain⟨s,hs,rfl⟩:=hv.sr
 refine(Fu hs).mono (fun v h' _ r=>?_) (fun _ _ _ e=>e)
 have:(minusS s).n=s.n.minus:=by
  obtain⟨lo,hi,l,u,e⟩:=s
  cases e<;>cases l<;>cases u<;>rfl
 rw[←this]
 exact r.sn
def Cv (h:PH) (v:Value) (x:NS):Prop:=Ci h v (match x with |.e=>⟨1,0,false,false,true⟩ |.i a b=>⟨a.getD 0,b.getD 0,a.isNone,b.isNone,false⟩)
theorem Cv.to {h h':PH} {v:Value} {x:NS} (r:Cv h v x) [Le h h']:Cv h' v x:=Ci.to r
theorem canS_n (s:PS):canS s=(match s.n with |.e=>⟨1,0,false,false,true⟩ |.i a b=>⟨a.getD 0,b.getD 0,a.isNone,b.isNone,false⟩:PS):=by
 obtain⟨lo,hi,l,u,e⟩:=s
 cases e<;>cases l<;>cases u<;>rfl
theorem Ck {h0 h:PH} [Le h0 h] {v:Value} {x:NS} (hv:Sn h0 v x) (hf:x.le 2048):Spec mach 219 #[v] h (fun v h'=>Cv h' v x) NP:=by
 obtain⟨s,hs,rfl⟩:=hv.sr
 refine(give_ok hs (PS.fin_n.2 hf)).mono (fun v h' _ r=>?_) (fun _ _ _ e=>e)
 unfold Cv
 rw[←canS_n]
 exact r
theorem ze {h0 h:PH} [Le h0 h] {v:Value} {x:NS} (hv:Sn h0 v x) (hf:¬x.le 2048):Spec mach 219 #[v] h NR (fail 1):=by
 obtain⟨s,hs,rfl⟩:=hv.sr
 exact Jj hs (fun k=>hf (PS.fin_n.1 k))
open Go.Proofs Go.Proofs.YtdhfkmaejkgceaaGreatDoor
open Go.ChangeShapes Go.WideShapes Go.ChangeAt Go.RowKit
def pub (W:World):PH:=fun b=>match W.heap[b]? with
 |some (.cells cs _ _)=>some cs
 |_=>none
theorem pub_has (W:World):Has W (pub W):=fun b cs hb=>by
 unfold pub at hb
 split at hb
 ·rename_i hx;cases hb;exact⟨_,_,hx⟩
 ·cases hb
theorem pub_at (W:World) (a:Addr):(pub W).at a=W.cell? a:=by
 unfold PH.at pub World.cell?
 cases hx:W.heap[a.block]? with
 |none=>simp
 |some o=>cases o<;>simp
def flds (P:Program) (t:TypeId):Option (List (Nat×Nat)):=match P.underlying t with
 |some (.struct fs)=>some (fs.toList.map fun f=>(f.type,f.offset))
 |_=>none
theorem flds_some {P:Program} {t:TypeId} {l:List (Nat×Nat)} (h:flds P t=some l):∃fs,P.underlying t=some (.struct fs)∧fs.toList.map (fun f=>(f.type,f.offset))=l:=by
 unfold flds at h
 split at h
 ·rename_i fs hx;cases h;exact⟨fs,hx,rfl⟩
 ·cases h
theorem fl24:flds Tryz.prog 37=some [(4,0),(30,1),(30,2)]:=by kernel_rfl
theorem fl26:flds Tryz.prog 41=some [(37,0),(37,3),(4,6),(4,7)]:=by kernel_rfl
theorem un22:Tryz.prog.underlying 30=some (.slice 81):=by kernel_rfl
theorem un76:Tryz.prog.underlying 81=some (.int .u32):=by kernel_rfl
theorem un4:Tryz.prog.underlying 4=some .bool:=by kernel_rfl
theorem un3:Tryz.prog.underlying 3=some (.int .i64):=by kernel_rfl
theorem ce4:Tryz.prog.cellsOf 4=1:=by kernel_rfl
theorem ce22:Tryz.prog.cellsOf 30=1:=by kernel_rfl
theorem ce76:Tryz.prog.cellsOf 81=1:=by kernel_rfl
theorem ce24:Tryz.prog.cellsOf 37=3:=by kernel_rfl
theorem ce26:Tryz.prog.cellsOf 41=8:=by kernel_rfl
section
variable {H:Type} {enc:TypeId×Value→H} {W:World} {sp:Nat→Bool} {held:Bool}
theorem bulk_mem {d:DataW H} {l:List (DataW H)} (h:d∈l):Rows.uptoBulk d≤Rows.uptoBulkAll l:=by
 induction l with
 |nil=>cases h
 | cons x r ih=>
  simp only[Rows.uptoBulkAll]
  cases List.mem_cons.1 h with
  |inl e=>subst e;omega
  |inr e=>have:=ih e;omega
theorem bulk_len (l:List (DataW H)):l.length≤Rows.uptoBulkAll l:=by
 induction l with
 |nil=>simp[Rows.uptoBulkAll]
 | cons x r ih=>
  have:1≤Rows.uptoBulk x:=by
   cases x with
   |lit l=>cases l<;>simp[Rows.uptoBulk]
   |_=>simp[Rows.uptoBulk]
  simp only[Rows.uptoBulkAll,List.length_cons]
  omega
theorem open_words {fuel:Nat} {cs:List Value} {x:DataW H×List MemPlace} (h:DataW.trod enc Tryz.prog W 0 sp held fuel 30 cs=some x) {B:Nat} (hB:B≤1048576) (hk:Rows.uptoBulk x.1≤B):
  ∃a xs c,cs=[.slice a xs.length c]∧Arr (pub W) a c xs∧xs.length≤2^30:=by
 rcases open_ints un22 un76 ce76 h with⟨rfl,rfl⟩ |⟨a,len,cap,zs,rfl,_,hl,hm,hz,rfl,hcell,hwf⟩
 ·exact⟨none,[],0,rfl,Arr.nil _,by simp⟩
 ·have hzl:len≤zs.length:=by rw[hz];split<;>omega
  have hb:len≤1048576:=by
   simp only[Rows.uptoBulk] at hk
   have e:(lits (H:=H) .u32 (zs.take len)).length=len:=by simp[lits];omega
   have:=bulk_len (H:=H) (lits .u32 (zs.take len))
   rw[e] at this
   omega
  refine⟨some a,(zs.take len).map Int.toNat,cap,?_,⟨?_,?_,?_,?_⟩,?_⟩
  ·simp;omega
  ·simp;omega
  ·simp;omega
  ·intro y hy
   obtain⟨z,hz,rfl⟩:=List.mem_map.1 hy
   have:=bounds_u32 (hwf z (List.mem_of_mem_take hz))
   omega
  ·intro i y hy
   rw[List.getElem?_map,Option.map_eq_some_iff] at hy
   obtain⟨z,hz',rfl⟩:=hy
   rw[List.getElem?_take] at hz'
   split at hz'
   ·refine⟨a,rfl,?_⟩
    have hi:i < zs.length:=(List.getElem?_eq_some_iff.1 hz').1
    rw[pub_at,hcell i hi]
    have e:zs.getD i 0=z:=by simp[hz']
    have:=bounds_u32 (hwf z (List.mem_of_getElem? hz'))
    rw[e]
    congr 2
    omega
   ·cases hz'
  ·simp;omega
theorem open_rat {fuel:Nat} {cs:List Value} {x:DataW H×List MemPlace} (h:DataW.trod enc Tryz.prog W 0 sp held fuel 37 cs=some x) {B:Nat} (hB:B≤1048576) (hk:Rows.uptoBulk x.1≤B):
  ∃neg n d,Rw (pub W) (.agg cs.toArray) neg n d∧cs.length=3:=by
 obtain⟨fs,hu,hf⟩:=flds_some fl24
 obtain⟨xs,n,rfl,rfl,hl,hsz,hg⟩:=DataW.trod_struct hu h
 rw[ce24] at hl
 have hfs:fs.size=3:=by
  have:=congrArg List.length hf
  simpa using this
 match cs,hl with
 |[c0,c1,c2],_=>
 have get:∀(i t o:Nat),(fs.toList.map fun f=>(f.type,f.offset))[i]?=some (t,o)→∃f:Field,fs[i]?=some f∧f.type=t∧f.offset=o:=by
  intro i t o hi
  rw[List.getElem?_map,Option.map_eq_some_iff] at hi
  obtain⟨f,h1,h2⟩:=hi
  cases h2
  exact⟨f,by simpa using h1,rfl,rfl⟩
 obtain⟨f0,k0,e0,o0⟩:=get 0 4 0 (by rw[hf];rfl)
 obtain⟨f1,k1,e1,o1⟩:=get 1 30 1 (by rw[hf];rfl)
 obtain⟨f2,k2,e2,o2⟩:=get 2 30 2 (by rw[hf];rfl)
 have g0:=hg 0 f0 k0
 have g1:=hg 1 f1 k1
 have g2:=hg 2 f2 k2
 rw[e0,o0,ce4] at g0
 rw[e1,o1,ce22] at g1
 rw[e2,o2,ce22] at g2
 rw[hfs] at hsz
 match xs,hsz with
 |[y0,y1,y2],_=>
 simp only[List.drop_zero,List.take_succ_cons,List.take_zero,List.drop_succ_cons,List.getElem?_cons_zero,List.getElem?_cons_succ] at g0 g1 g2
 simp only[Rows.uptoBulk,List.map_cons,List.map_nil,Rows.uptoBulkAll] at hk
 obtain⟨b,e,_⟩:=DataW.trod_bool un4 g0
 obtain⟨a1,xs1,c1',e1,A1,l1⟩:=open_words g1 hB (by omega)
 obtain⟨a2,xs2,c2',e2,A2,l2⟩:=open_words g2 hB (by omega)
 cases e
 cases e1
 cases e2
 exact⟨b,_,_,⟨a1,c1',xs1,a2,c2',xs2,rfl,A1,A2,rfl,rfl,l1,l2⟩,rfl⟩
theorem open_iv {fuel:Nat} {cs:List Value} {x:DataW H×List MemPlace} (h:DataW.trod enc Tryz.prog W 0 sp held fuel 41 cs=some x) {B:Nat} (hB:B≤1048576) (hk:Rows.uptoBulk x.1≤B):
  ∃y:RI,Iv (pub W) (.agg cs.toArray) y:=by
 obtain⟨fs,hu,hf⟩:=flds_some fl26
 obtain⟨xs,n,rfl,rfl,hl,hsz,hg⟩:=DataW.trod_struct hu h
 rw[ce26] at hl
 have hfs:fs.size=4:=by
  have:=congrArg List.length hf
  simpa using this
 match cs,hl with
 |[c0,c1,c2,c3,c4,c5,c6,c7],_=>
 have get:∀(i t o:Nat),(fs.toList.map fun f=>(f.type,f.offset))[i]?=some (t,o)→∃f:Field,fs[i]?=some f∧f.type=t∧f.offset=o:=by
  intro i t o hi
  rw[List.getElem?_map,Option.map_eq_some_iff] at hi
  obtain⟨f,h1,h2⟩:=hi
  cases h2
  exact⟨f,by simpa using h1,rfl,rfl⟩
 obtain⟨f0,k0,e0,o0⟩:=get 0 37 0 (by rw[hf];rfl)
 obtain⟨f1,k1,e1,o1⟩:=get 1 37 3 (by rw[hf];rfl)
 obtain⟨f2,k2,e2,o2⟩:=get 2 4 6 (by rw[hf];rfl)
 obtain⟨f3,k3,e3,o3⟩:=get 3 4 7 (by rw[hf];rfl)
 have g0:=hg 0 f0 k0
 have g1:=hg 1 f1 k1
 have g2:=hg 2 f2 k2
 have g3:=hg 3 f3 k3
 rw[e0,o0,ce24] at g0
 rw[e1,o1,ce24] at g1
 rw[e2,o2,ce4] at g2
 rw[e3,o3,ce4] at g3
 rw[hfs] at hsz
 match xs,hsz with
 |[y0,y1,y2,y3],_=>
 simp only[List.drop_zero,List.take_succ_cons,List.take_zero,List.drop_succ_cons,List.getElem?_cons_zero,List.getElem?_cons_succ] at g0 g1 g2 g3
 simp only[Rows.uptoBulk,List.map_cons,List.map_nil,Rows.uptoBulkAll] at hk
 obtain⟨l,e2,_⟩:=DataW.trod_bool un4 g2
 obtain⟨u,e3,_⟩:=DataW.trod_bool un4 g3
 obtain⟨n1,a1,d1,r1,_⟩:=open_rat g0 hB (by omega)
 obtain⟨n2,a2,d2,r2,_⟩:=open_rat g1 hB (by omega)
 cases e2
 cases e3
 have q1:=r1
 have q2:=r2
 obtain⟨_,_,_,_,_,_,e1,_⟩:=q1
 obtain⟨_,_,_,_,_,_,e2,_⟩:=q2
 simp only[Value.agg.injEq,Array.mk.injEq,List.cons.injEq,and_true] at e1 e2
 obtain⟨rfl,rfl,rfl⟩:=e1
 obtain⟨rfl,rfl,rfl⟩:=e2
 exact⟨⟨n1,a1,d1,n2,a2,d2,l,u⟩,_,_,_,_,rfl,r1,r2⟩
theorem stays {P:Program} {W':World} {sp:Nat→Bool} (hl:laidOutB P=true) (hb:Below W.heap.size W W') (ts:List TypeId):∀(vs:List Value) (ds:List (DataW H)) (p:List MemPlace),(∀t∈ts,P.readableRec t=true∧t < P.types.size)→(∀x∈p,x.block < W.heap.size)→(∀x∈p,sp x.block=true)→
  DataW.TrodAll enc P W 0 (fun _=>true) true ts vs ds p→DataW.TrodAll enc P W' 0 sp true ts vs ds p:=by
 induction ts with
 | nil=>
  intro vs ds p _ _ _ h
  cases vs with
  | nil=>cases ds with
   |nil=>exact h
   |cons d ds=>exact h.elim
  |cons v vs=>exact h.elim
 | cons t ts ih=>
  intro vs ds p hr hlt hsp h
  cases vs with
  |nil=>exact h.elim
  | cons v vs=>
   cases ds with
   |nil=>exact h.elim
   | cons d ds=>
    obtain⟨p,q,h1,h2,rfl⟩:=h
    have ht:=hr t (by simp)
    exact⟨p,q,WideElems.Trod_stays hl ht.1 ht.2 h1 (fun x hx=>hb.same (hlt x (by simp[hx]))) (fun x hx=>hsp x (by simp[hx])),ih vs ds q (fun u hu=>hr u (by simp[hu])) (fun x hx=>hlt x (by simp[hx])) (fun x hx=>hsp x (by simp[hx])) h2,rfl⟩
theorem post_true {f:Func} {s:ChangeSpec} {W':World} {args:Array Value} {ds:List (DataW H)} {before:List MemPlace} (hl:laidOutB Tryz.prog=true) (hv:s.vars=[]) (hr:f.resultTypes=#[4]) (hs:s.fn H ds={results:=[.lit (.bool true)],args:=ds})
  (hrd:∀t∈f.params.toList,Tryz.prog.readableRec t=true∧t < Tryz.prog.types.size)
  (hW:DataW.Whole enc Tryz.prog f.params.toList s.vars false W args.toList ds [] before) (hb:Below W.heap.size W W'):s.post enc Tryz.prog f false true false false W args (.bool true) W':=by
 have hlt:∀p∈before,p.block < W.heap.size:=hW.lt
 have hW0:=hW
 rw[hv] at hW0
 obtain⟨p,q,hA,hV,rfl,hz,hn⟩:=hW0
 obtain rfl:q=[]:=hV
 rw[List.append_nil] at hlt hz
 have hold:∀x∈p,(fun b=>decide (b < W.heap.size)) x.block=true:=fun x hx=>by simpa using hlt x hx
 have hres:∀(b:Nat) (sp:Nat→Bool) (hd:Bool),DataW.TrodAll enc Tryz.prog W' b sp hd f.resultTypes.toList ((Value.bool true).resultList f.resultTypes.size) (s.fn H (ds ++[])).results []:=by
  intro b sp hd
  rw[List.append_nil,hs,hr]
  exact trodAll_cons_mk (shut_bool un4 _) trodAll_mk0
 have hargs:∀sp:Nat→Bool,(∀x∈p,sp x.block=true)→DataW.TrodAll enc Tryz.prog W' 0 sp true f.params.toList args.toList (s.fn H (ds ++[])).args p:=by
  intro sp hsp
  rw[List.append_nil,hs]
  exact stays hl hb _ _ _ _ hrd hlt hsp hA
 have hvars:∀sp:Nat→Bool,DataW.TrodVars enc Tryz.prog W' sp s.vars (s.fn H (ds ++[])).vars []:=by
  intro sp
  rw[List.append_nil,hs,hv]
  rfl
 refine⟨ds,[],p ++[],[],p,[],hW,hres _ _ _,hargs _ hold,hvars _,World.keptBut_mono (fun x hx=>⟨hx,?_⟩) (hb.frame (· ∈p ++[])),fun h=>by cases h⟩
 simpa using hx
theorem laid_gl {W:World} (h:laidMetH Tryz.prog [("math/bits.deBruijn32tab",Rows.laid_math_bits_deBruijn32tab)] W):Sub mach.gl (pub W):=by
 have ht:Lib.TabIs Tryz.prog W "math/bits.deBruijn32tab" .u8 debruijn:=
  Lib.tabIs_of_head (rest:=[]) (g:=0) (t:=281) (e:=5) (n:=32) (by kernel_rfl) (by kernel_rfl) (by kernel_rfl) (by kernel_rfl) (by kernel_rfl) (by kernel_rfl) h
 have hg:Tryz.prog.globalNamed "math/bits.deBruijn32tab"=some 0:=by kernel_rfl
 unfold Lib.TabIs World.var? at ht
 rw[hg] at ht
 intro b cs hb
 have hb':(if b=0 then some tabCells else none)=some cs:=hb
 split at hb'
 ·rename_i e
  subst e
  cases hb'
  unfold pub
  simp only[Option.bind_some] at ht
  split at ht
  ·rename_i hx
   rw[hx]
   simpa[tabCells] using ht
  ·cases ht
 ·cases hb'
end
set_option maxHeartbeats 8000000
def nmL:List ByteArray:=[⟨#[101,120,112]⟩,⟨#[108,111,103]⟩,⟨#[115,105,110]⟩,⟨#[99,111,115]⟩,⟨#[116,97,110]⟩,⟨#[97,115,105,110]⟩,⟨#[97,99,111,115]⟩,⟨#[97,116,97,110]⟩]
def nm (i:Nat):ByteArray:=nmL.getD i ⟨#[]⟩
def nmV:List Value:=nmL.map Value.string
def Fd (s:ByteArray) (n:Int) (b:Bool):Prop:=(b=true∧∃i:Nat,i < 8∧n=(i:Int)+1∧((nm i).toList == s.toList)=true∧∀j,j < i→((nm j).toList == s.toList)=false)∨(b=false∧n=0∧∀j,j < 8→((nm j).toList == s.toList)=false)
theorem Fd.one {s:ByteArray} {n n':Int} {b b':Bool} (h:Fd s n b) (h':Fd s n' b'):n=n'∧b=b':=by
 rcases h with⟨rfl,i,hi,rfl,e,l⟩ |⟨rfl,rfl,l⟩<;>rcases h' with⟨rfl,i',hi',rfl,e',l'⟩ |⟨rfl,rfl,l'⟩
 ·rcases Nat.lt_trichotomy i i' with k |k |k
  ·rw[l' i k] at e;cases e
  ·subst k;exact⟨rfl,rfl⟩
  ·rw[l i' k] at e';cases e'
 ·rw[l' i hi] at e;cases e
 ·rw[l i' hi'] at e';cases e'
 ·exact⟨rfl,rfl⟩
theorem nm_ne:((List.range 8).all fun i=>(List.range i).all fun j=>!((nm j).toList == (nm i).toList))=true:=by decide+kernel
theorem nm_em:((List.range 8).all fun j=>!((nm j).toList == (⟨#[]⟩:ByteArray).toList))=true:=by decide+kernel
theorem Fd.nm {i:Nat} (hi:i < 8):Fd (nm i) ((i:Int)+1) true:=by
 refine .inl ⟨rfl,i,hi,rfl,by simp,fun j hj=>?_⟩
 have:=qBd.1 (qBd.1 nm_ne i (List.mem_range.2 hi)) j (List.mem_range.2 hj)
 simpa using this
theorem Fd.em:Fd ⟨#[]⟩ 0 false:=by
 refine .inr ⟨rfl,rfl,fun j hj=>?_⟩
 have:=qBd.1 nm_em j (List.mem_range.2 hj)
 simpa using this
theorem nm_at {h:PH} {b:Nat} (hb:h b=some nmV.toArray) {i:Nat} (hi:i < 8):h.at ⟨b,i,none⟩=some (.string (nm i)):=by
 have:∀i,i < 8→(nmV.toArray)[i]?=some (.string (nm i)):=by
  intro i hi
  obtain rfl |rfl |rfl |rfl |rfl |rfl |rfl |rfl:i=0∨i=1∨i=2∨i=3∨i=4∨i=5∨i=6∨i=7:=by omega
  all_goals rfl
 have:=this i hi
 simpa[PH.at,hb] using this
theorem wV {h:PH}:Spec mach 284 #[] h (fun v h'=>∃b,v=.slice (some ⟨b,0,none⟩) 8 8∧h' b=some nmV.toArray) NP:=by
 refine Spec.go [(1,.t (.s [0] (.p 0 (.s [1] .d))))] Tryz.func284 rfl rfl (by kernel_rfl) fun C _=>?_
 try simp(disch:=omega) only[go_sem,ξ,ζ]
 intro b h1 st1 hb
 try simp(disch:=omega) only[go_sem,ξ,ζ]
 have hb:=hb (by simp)
 try simp(disch:=omega) only[go_sem,ξ,ζ]
 exact⟨_,rfl,hb⟩
theorem qw {h:PH} {s:ByteArray}:Spec mach 249 #[.string s] h (fun v _=>∃n b,v=.tuple #[.int .i64 n,.bool b]∧Fd s n b) NP:=by
 refine Spec.go [] Tryz.func249 rfl rfl (by kernel_rfl) fun C _=>?_
 try simp(disch:=omega) only[go_sem,ξ,ζ]
 refine caN (by exact wV) ?_;rintro v1 h1 s1 ⟨b,rfl,hb⟩
 try simp(disch:=omega) only[go_sem,ξ,ζ]
 refine lp [] (fun i:Nat=>⟨[(0,.v (.string s)),(6,.v (.slice (some ⟨b,0,none⟩) 8 8)),(7,.v (.int .i64 8)),(8,.v (.int .i64 i))],[]⟩) (fun i h'=>Le h1 h'∧i≤8∧∀j,j < i→((nm j).toList == s.toList)=false) (fun i=>8 - i) 0 ?_ ⟨inferInstance,by decide,fun j hj=>absurd hj (by omega)⟩ (by kernel_rfl) ?_
 ·try simp(disch:=omega) only[go_sem,ξ,ζ]
  all_goals rfl
 rintro i h2 ⟨le2,hi,hj⟩
 by_cases h8:i=8
 ·subst h8
  try simp(disch:=omega) only[go_sem,ξ,ζ]
  exact Exists.intro _ ⟨_,rfl,.inr ⟨rfl,rfl,hj⟩⟩
 ·have hi8:i < 8:=by omega
  have hb2:h2 b=some nmV.toArray:=le2.sub _ _ hb
  try simp(disch:=omega) only[go_sem,ξ,ζ]
  refine aE (nm_at hb2 hi8) ?_
  try simp(disch:=omega) only[go_sem,ξ,ζ]
  cases e:((nm i).toList == s.toList) with
  | true=>
   try simp(disch:=omega) only[go_sem,ξ,ζ,e]
   exact Exists.intro _ ⟨_,rfl,.inl ⟨rfl,i,hi8,by omega,e,hj⟩⟩
  | false=>
   try simp(disch:=omega) only[go_sem,ξ,ζ,e]
   dsimp only[lpE];refine⟨i+1,?_,⟨le2,by omega,fun j k=>?_⟩,by omega⟩
   ·try simp(disch:=omega) only[go_sem,ξ,ζ]
    all_goals rfl
   ·rcases qBj j i with g |g
    ·exact hj j g
    ·rw[show j=i by omega];exact e
end Go.Q
