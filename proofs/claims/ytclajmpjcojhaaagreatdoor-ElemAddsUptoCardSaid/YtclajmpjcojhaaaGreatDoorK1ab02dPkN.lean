/-
  What number.Down, Up, elem.rounded and elem.below return. Conditions: the numbers stay in range.
  The logarithm on a grid: exponent, remainder, bounds. Plain. Conditions: the number is above 0.
  What log returns. Conditions: the number is above 0 and of at most 1024 binary digits; the precision is at most 128.
  Contracts of package elem: whole parts of quotients; numbers of a remainder modulo 4 in a range; Turns. Conditions: the sizes are those that the program uses.
  Intervals as plain sets: two ends, each a number or infinite, or empty; the operations on them. Conditions: none.
  Plain laws of intervals: membership, meets, hulls, grids. Conditions: ends in order (ok).
  The remainder of a number by quarter turns, plain: bounds. Conditions: the number's absolute value is at most 2^32; the working precision is from 64 to 192.
  Roots of numbers on a grid, plain; what package number returns for them. Conditions: the number is not large, the index from 2 to 8, the precision at most 256.
  What package number returns for roots on a grid: positive numbers. Conditions: the number is not large, the index from 2 to 8, the precision at most 256. (Printed by a program.)
  What package number returns for roots on a grid: negative numbers. Conditions: the number is not large, the index from 2 to 8, the precision at most 256. (Printed by a program.)
  What number.root returns, of any number. Conditions: the number is not large, the index from 2 to 8, the precision at most 256; no even root of a number below 0.
  Contracts of package number: roots rounded down and up. Conditions: the values are numbers of at most 2048 binary digits.
  What arcsine, asin and acos return. Conditions: the number's absolute value is at most 1, of at most 1024 binary digits; the precision is at most 128.
  What sine and cosine return. Conditions: the numbers' absolute values are at most 1, of at most 2048 binary digits; the working precision is from 20 to 200.
  What modulo, rest and both return. Conditions: the number's absolute value is at most 2^32, of at most 1024 binary digits; the working precision is from 64 to 192.
-/
import Derived.Test.YtclajmpjcojhaaaGreatDoorK2204c2PkF
import Derived.Test.YtclajmpjcojhaaaGreatDoorK41d4d3PkM
import Derived.Test.YtclajmpjcojhaaaGreatDoorKb53593PkL
import Derived.Test.YtclajmpjcojhaaaGreatDoorK9fb0baPkH
import Derived.Test.YtclajmpjcojhaaaGreatDoorK4a72c8PkI
set_option linter.unusedVariables false
set_option linter.unusedSimpArgs false
namespace Go.Q
open Go.Proofs
set_option maxRecDepth 100000
set_option maxHeartbeats 8000000
theorem Bk.sp {h:PH} {v:Value} {x y:Rat} (r:Bk h v x y):∃b1 a1 m1 c1 a2 m2 c2 b2 a3 m3 c3 a4 m4 c4,v=.agg #[.bool b1,.slice a1 m1 c1,.slice a2 m2 c2,.bool b2,.slice a3 m3 c3,.slice a4 m4 c4]∧Bk h (.agg #[.bool b1,.slice a1 m1 c1,.slice a2 m2 c2,.bool b2,.slice a3 m3 c3,.slice a4 m4 c4]) x y:=by
  obtain⟨b1,a1,m1,c1,a2,m2,c2,b2,a3,m3,c3,a4,m4,c4,rfl,k1,k2⟩:=r
  exact⟨b1,a1,m1,c1,a2,m2,c2,b2,a3,m3,c3,a4,m4,c4,rfl,_,_,_,_,_,_,_,_,_,_,_,_,_,_,rfl,k1,k2⟩
theorem NumRnd {h0 h:PH} [Le h0 h] {v:Value} {x:Rat} {p:Nat} {u:Bool} (hx:Rv h0 v x) (hp:p≤256):Spec mach 132 #[v,.int .i64 p,.bool u] h (fun r h'=>Nc h' r (if u=true then gup x p else gdown x p)) NP:=by
  have kX:=fun {h} [Le h0 h]=>Read_rv (h:=h) hx
  have kG:=fun {h0 h:PH} [Le h0 h] {a:Value} (ha:Fr h0 a x)=>Grid_spec (h:=h) (p:=p) (u:=u) ha hx.up (by omega)
  obtain⟨_,_,_,_,_,_,_,rfl,_⟩:=hx.sa
  refine Spec.go [] Tryz.func132 rfl rfl (by kernel_rfl) fun C _=>?_
  try simp(disch:=omega) only[go_sem,Nat.reduceBEq,Nat.reduceAdd]
  refine caN (by exact kX) ?_;rintro v1 h1 s1 ⟨f,rfl,hf⟩;obtain⟨_,_,_,_,_,_,_,rfl,hf⟩:=hf.sa
  try simp(disch:=omega) only[go_sem,Nat.reduceBEq,Nat.reduceAdd]
  refine caN (by exact kG hf) ?_;rintro v3 h3 s3 hz;obtain⟨_,_,_,_,_,_,_,rfl,hz⟩:=hz.sa
  try simp(disch:=omega) only[go_sem,Nat.reduceBEq,Nat.reduceAdd]
  refine caN (by exact Give_nc hz) ?_;rintro v4 h4 s4 q4;obtain⟨_,_,_,_,_,_,_,_,rfl,w4⟩:=q4
  try simp(disch:=omega) only[go_sem,Nat.reduceBEq,Nat.reduceAdd]
  exact Nc.mk w4
theorem NumDn {h0 h:PH} [Le h0 h] {v:Value} {x:Rat} {p:Nat} (hx:Rv h0 v x) (hp:p≤256):Spec mach 97 #[v,.int .i64 p] h (fun r h'=>Nc h' r (gdown x p)) NP:=by
  have kR:=fun {h} [Le h0 h]=>NumRnd (h:=h) (u:=false) hx hp
  obtain⟨_,_,_,_,_,_,_,rfl,_⟩:=hx.sa
  refine Spec.go [] Tryz.func97 rfl rfl (by kernel_rfl) fun C _=>?_
  try simp(disch:=omega) only[go_sem,Nat.reduceBEq,Nat.reduceAdd]
  refine caN (by exact kR) ?_;rintro v1 h1 s1 q1;obtain⟨_,_,_,_,_,_,_,_,rfl,w1⟩:=q1
  try simp(disch:=omega) only[go_sem,Nat.reduceBEq,Nat.reduceAdd]
  exact Nc.mk w1
theorem NumUpw {h0 h:PH} [Le h0 h] {v:Value} {x:Rat} {p:Nat} (hx:Rv h0 v x) (hp:p≤256):Spec mach 98 #[v,.int .i64 p] h (fun r h'=>Nc h' r (gup x p)) NP:=by
  have kR:=fun {h} [Le h0 h]=>NumRnd (h:=h) (u:=true) hx hp
  obtain⟨_,_,_,_,_,_,_,rfl,_⟩:=hx.sa
  refine Spec.go [] Tryz.func98 rfl rfl (by kernel_rfl) fun C _=>?_
  try simp(disch:=omega) only[go_sem,Nat.reduceBEq,Nat.reduceAdd]
  refine caN (by exact kR) ?_;rintro v1 h1 s1 q1;obtain⟨_,_,_,_,_,_,_,_,rfl,w1⟩:=q1
  try simp(disch:=omega) only[go_sem,Nat.reduceBEq,Nat.reduceAdd]
  exact Nc.mk w1
theorem ERounded_spec {h0 h:PH} [Le h0 h] {v w:Value} {x y:Rat} {p:Nat} (hx:Cn h0 v x) (hy:Cn h0 w y) (hp:p≤256) (sx:sz x≤2048) (sy:sz y≤2048) (tx:sz (gdown x p)≤2048) (ty:sz (gup y p)≤2048):
    Spec mach 75 #[v,w,.int .i64 p] h (fun v h'=>Bk h' v (gdown x p) (gup y p)) NP:=by
  have kD:=fun {h} [Le h0 h]=>NumDn (h:=h) (Rv.of hx sx) hp
  have kU:=fun {h} [Le h0 h]=>NumUpw (h:=h) (Rv.of hy sy) hp
  obtain⟨_,_,_,_,_,_,_,rfl,hx⟩:=hx.sa
  obtain⟨_,_,_,_,_,_,_,rfl,hy⟩:=hy.sa
  refine Spec.go [] Tryz.func75 rfl rfl (by kernel_rfl) fun C _=>?_
  try simp(disch:=omega) only[go_sem,Nat.reduceBEq,Nat.reduceAdd]
  refine caN (by exact kD) ?_;rintro v1 h1 s1 q1;obtain⟨_,_,_,_,_,_,_,rfl,r1⟩:=q1.ok tx
  try simp(disch:=omega) only[go_sem,Nat.reduceBEq,Nat.reduceAdd]
  refine caN (by exact kU) ?_;rintro v2 h2 s2 q2;obtain⟨_,_,_,_,_,_,_,rfl,r2⟩:=q2.ok ty
  try simp(disch:=omega) only[go_sem,Nat.reduceBEq,Nat.reduceAdd]
  exact⟨_,_,_,_,_,_,_,_,_,_,_,_,_,_,rfl,r1.to,r2⟩
end Go.Q
namespace Go.Q
open Go.Proofs
set_option maxRecDepth 100000
def lge0 (n d:Nat):Int:=(bl n:Int) - bl d
def lgn (n:Nat) (e:Int):Nat:=n*2^(max 0 (-e)).toNat
def lgd (d:Nat) (e:Int):Nat:=d*2^(max 0 e).toNat
def lge (n d:Nat):Int:=if lgn n (lge0 n d) < lgd d (lge0 n d) then lge0 n d - 1 else lge0 n d
theorem lge_abs {n d k:Nat} (hn:bl n≤k) (hd:bl d≤k): -((k:Int)+1)≤lge n d∧lge n d≤k∧ -(k:Int)≤lge0 n d∧lge0 n d≤k:=by
  unfold lge lge0
  split<;>omega
def lgT (n d w:Nat):Nat:=(lgn n (lge n d) - lgd d (lge n d))*2^w
def lgB (n d:Nat):Nat:=lgn n (lge n d)+lgd d (lge n d)
theorem lgB_ne {n d:Nat} (hn:n≠0):lgB n d≠0:=by
  have:lgn n (lge n d)≠0:=Nat.mul_ne_zero hn (pow2_ne _)
  unfold lgB
  omega
theorem lgT_le {n d w:Nat}:lgT n d w≤lgB n d*2^w:=Nat.mul_le_mul_right _ (by unfold lgB;omega)
def lgmL (n d w:Nat):Nat:=logL (lgT n d w / lgB n d) (cdiv (lgT n d w) (lgB n d)) w
def lgmH (n d w:Nat):Nat:=logH (lgT n d w / lgB n d) (cdiv (lgT n d w) (lgB n d)) w
def lg2L (w:Nat):Nat:=logL (2^w / 3) (cdiv (2^w) 3) w
def lg2H (w:Nat):Nat:=logH (2^w / 3) (cdiv (2^w) 3) w
theorem lgm_arg {n d w:Nat} (hn:n≠0):lgT n d w / lgB n d≤2^w∧cdiv (lgT n d w) (lgB n d)≤2^w:=
  ⟨Nat.div_le_of_le_mul lgT_le,(cdiv_le_iff (lgB_ne hn)).2 lgT_le⟩
theorem lg2_arg (w:Nat):2^w / 3≤2^w∧cdiv (2^w) 3≤2^w:=fif_le 3 (by decide)
def lnLo (n d p:Nat):Rat:=
  if 0≤lge n d then sgn false ((lg2L (p+32)*(lge n d).toNat+lgmL n d (p+32)) / 2^32) (2^p)
  else gdown (sgn false (lgmL n d (p+32)) (2^(p+32))+ -sgn false (lg2H (p+32)*(0 - lge n d).toNat) (2^(p+32))) p
def lnHi (n d p:Nat):Rat:=
  if 0≤lge n d then sgn false (cdiv (lg2H (p+32)*(lge n d).toNat+lgmH n d (p+32)) (2^32)) (2^p)
  else gup (sgn false (lgmH n d (p+32)) (2^(p+32))+ -sgn false (lg2L (p+32)*(0 - lge n d).toNat) (2^(p+32))) p
theorem bl_112 {n w:Nat} (h:n≤112*2^w):bl n≤w+8:=bl_pow' (k:=w+7) (by rw[Nat.pow_add];omega)
theorem sz_dif {a b w k:Nat} (ha:bl a≤k) (hb:bl b≤k) (hk:w+1≤k):sz (sgn false a (2^w)+ -sgn false b (2^w))≤2*k+1:=by
  have h1:=sz_sgn false a (pow2_ne w)
  have h2:=sz_sgn false b (pow2_ne w)
  have h3:=bl_pow2 w
  have h4:=sz_add (sgn false a (2^w)) (-sgn false b (2^w))
  rw[sz_neg] at h4
  omega
end Go.Q
namespace Go.Q
open Go.Proofs
set_option maxRecDepth 100000
set_option maxHeartbeats 8000000
theorem sz_gd (x:Rat) (p:Nat):sz (gdown x p)≤sz x+2*p+2:=by
  have h1:=sz_unscale ((x*2^p).floor:Rat) p
  have h2:=sz_floor (x*2^p)
  have h3:=sz_scale x p
  unfold gdown
  omega
theorem gup_gdown (x:Rat) (p:Nat):gup x p= -gdown (-x) p:=by
  unfold gup gdown
  rw[Rat.ceil_eq_neg_floor_neg,Rat.neg_mul,Rat.intCast_neg,Rat.div_def,Rat.div_def,Rat.neg_mul]
theorem sz_gu (x:Rat) (p:Nat):sz (gup x p)≤sz x+2*p+2:=by
  rw[gup_gdown,sz_neg]
  have:=sz_gd (-x) p
  rw[sz_neg] at this
  exact this
end Go.Q
namespace Go.Q
open Go.Proofs
set_option maxRecDepth 100000
set_option maxHeartbeats 8000000
theorem W_1 {m:Nat} (h0:m≠0) (h:m < 4294967296):W 4294967296 m=[m]:=by
  rw[W_pos (by decide) h0,Nat.mod_eq_of_lt h,Nat.div_eq_of_lt h,W_zero]
theorem N32.one {h:PH} {a:Option Addr} {l c m:Nat} (r:N32 h (.slice a l c) m) (h0:m≠0) (hm:m < 4294967296):∃ad,a=some ad∧l=1∧h.at (ad.add 0)=some (.int .u32 m):=by
  obtain⟨a',c',e,r⟩:=r
  cases e
  rw[W_1 h0 hm] at r ⊢
  obtain⟨ad,rfl,e⟩:=r.get (i:=0) (by simp)
  exact⟨ad,rfl,rfl,e⟩
def mt (a b r:Int):Bool:=decide (a+(r - a) % 4≤b)
theorem num_bd {x:Rat} (h:¬x.den*4294967296 < x.num.natAbs): -4294967296≤x∧x≤4294967296:=by
  have e:x=mkRat x.num x.den:=(Rat.mkRat_self x).symm
  have hd:(0:Rat) < (x.den:Rat):=by exact_mod_cast x.den_pos
  have e2:x*(x.den:Rat)=(x.num:Rat):=by
    have key:∀(d n y:Rat),d≠0→y=n / d→y*d=n:=fun d n y hd hy=>by rw[hy];exact Rat.div_mul_cancel hd
    have:=Rat.mkRat_eq_div x.num x.den
    rw[←e] at this
    exact key _ _ _ (Rat.ne_of_gt hd) this
  have k1:(x.num:Rat)≤4294967296*(x.den:Rat):=by
    have h1:x.num≤4294967296*(x.den:Int):=by omega
    have h2:=Rat.intCast_le_intCast.2 h1
    rw[Rat.intCast_mul] at h2
    exact h2
  have k2: -(4294967296*(x.den:Rat))≤(x.num:Rat):=by
    have h1: -(4294967296*(x.den:Int))≤x.num:=by omega
    have h2:=Rat.intCast_le_intCast.2 h1
    rw[Rat.intCast_neg,Rat.intCast_mul] at h2
    exact h2
  rw[←e2] at k1 k2
  constructor
  · refine Decidable.byContradiction fun hc=>?_
    have:=Rat.mul_lt_mul_of_pos_right (show x < -4294967296 by grind) hd
    grind
  · refine Decidable.byContradiction fun hc=>?_
    have:=Rat.mul_lt_mul_of_pos_right (show 4294967296 < x by grind) hd
    grind
theorem quo_bd {x y:Rat} (hx: -4294967296≤x∧x≤4294967296) (hy:3 / 2≤y): -2863311531≤x*y⁻¹∧x*y⁻¹≤2863311531:=by
  have y0:y≠0:=by grind
  have e:x*y⁻¹*y=x:=by rw[Rat.mul_assoc,Rat.inv_mul_cancel _ y0,Rat.mul_one]
  generalize x*y⁻¹=q at*
  have key:∀p:Rat,2863311531 < p→¬p*y≤4294967296:=by
    intro p hp hc
    have h1:p*(3 / 2)≤p*y:=Rat.mul_le_mul_of_nonneg_left hy (by grind)
    have h2:2863311531*(3 / 2)≤p*(3 / 2):=Rat.mul_le_mul_of_nonneg_right (by grind) (by decide+kernel)
    grind
  constructor
  · refine Decidable.byContradiction fun hc=>key (-q) (by grind) (by rw[Rat.neg_mul,e];grind)
  · refine Decidable.byContradiction fun hc=>key q (by grind) (by rw[e];exact hx.2)
theorem floor_bd {q:Rat} {c:Int} (h: -(c:Rat)≤q∧q≤(c:Rat)): -c≤q.floor∧q.floor≤c:=by
  constructor
  · rw[Rat.le_floor_iff]
    exact_mod_cast h.1
  · have:=Rat.le_trans (Rat.floor_le q) h.2
    exact_mod_cast this
end Go.Q
namespace Go.Q
inductive NS where
  |e
  |i (lo hi:Option Rat)
def ordO:Option Rat→Option Rat→Bool
  |some x,some y=>!decide (y < x)
  |_,_=>true
namespace NS
def void:NS→Bool
  |.e=>true
  |_=>false
def ok:NS→Prop
  |.e=>True
  |.i a b=>ordO a b=true
def all (f:Rat→Bool):NS→Bool
  |.e=>true
  |.i a b=>a.all f && b.all f
def le (k:Nat) (x:NS):Prop:=x.all (fun q=>decide (sz q≤k))=true
instance (k:Nat) (x:NS):Decidable (x.le k):=by unfold le;infer_instance
def slo:NS→Int
  |.e=>0
  | .i a _=>match a with
    |none=>-1
    |some q=>sgn3 q
def shi:NS→Int
  |.e=>0
  | .i _ b=>match b with
    |none=>1
    |some q=>sgn3 q
def zero (x:NS):Bool:=!x.void && decide (x.slo≤0) && decide (0≤x.shi)
def lowIn:Option Rat→Option Rat→Bool
  |none,_=>true
  |some _,none=>false
  |some c,some a=>!decide (a < c)
def highIn:Option Rat→Option Rat→Bool
  |none,_=>true
  |some _,none=>false
  |some d,some b=>!decide (d < b)
def within:NS→NS→Bool
  |.e,_=>true
  |_,.e=>false
  |.i a b,.i c d=>lowIn c a && highIn d b
def has:NS→Rat→Bool
  |.e,_=>false
  |.i a b,q=>a.all (fun x=>!decide (q < x)) && b.all (fun x=>!decide (x < q))
end NS
end Go.Q
namespace Go.Q
namespace NS
theorem has_i {a b:Option Rat} {q:Rat}:(NS.i a b).has q=true↔(∀x,a=some x→x≤q)∧(∀x,b=some x→q≤x):=by
  cases a<;>cases b<;>simp[has]<;>grind
theorem ne_has {a b:Option Rat} (h:ordO a b=true):∃q,(NS.i a b).has q=true:=by
  cases a with
  | none=>cases b with
    |none=>exact⟨0,by simp[has]⟩
    |some b=>exact⟨b,by simp[has]<;>grind⟩
  | some a=>cases b with
    |none=>exact⟨a,by simp[has]<;>grind⟩
    |some b=>exact⟨a,by simp[ordO] at h;simp[has];grind⟩
theorem low_has {b:Option Rat} (c:Rat):∃q,q < c∧(NS.i none b).has q=true:=by
  cases b with
  |none=>exact⟨c - 1,by grind,by simp[has]⟩
  |some b=>exact⟨min (c - 1) b,by grind,by simp[has]<;>grind⟩
theorem high_has {a:Option Rat} (c:Rat):∃q,c < q∧(NS.i a none).has q=true:=by
  cases a with
  |none=>exact⟨c+1,by grind,by simp[has]⟩
  |some a=>exact⟨max (c+1) a,by grind,by simp[has]<;>grind⟩
theorem lo_has {a:Rat} {b:Option Rat} (h:ordO (some a) b=true):(NS.i (some a) b).has a=true:=by
  cases b with
  |none=>simp[has]<;>grind
  |some b=>simp[ordO] at h;simp[has];grind
theorem hi_has {a:Option Rat} {b:Rat} (h:ordO a (some b)=true):(NS.i a (some b)).has b=true:=by
  cases a with
  |none=>simp[has]<;>grind
  |some a=>simp[ordO] at h;simp[has];grind
theorem within_iff {x y:NS} (hx:x.ok):x.within y=true↔∀q,x.has q=true→y.has q=true:=by
  cases x with
  |e=>simp[within,has]
  | i a b =>
    cases y with
    | e=>
      obtain⟨q,hq⟩:=ne_has hx
      simp only[within,has,Bool.false_eq_true,false_iff]
      exact fun h=>h q hq
    | i c d =>
      constructor
      · intro h q hq
        rw[has_i] at hq ⊢
        cases a<;>cases b<;>cases c<;>cases d<;>simp[within,lowIn,highIn] at h hq ⊢<;>grind
      · intro h
        have h1:lowIn c a=true:=by
          cases c with
          |none=>rfl
          | some c=>cases a with
            | none=>
              obtain⟨q,hc,hq⟩:=low_has (b:=b) c
              have:=has_i.1 (h q hq)
              have:=this.1 c rfl
              grind
            | some a=>
              have:=has_i.1 (h a (lo_has hx))
              have:=this.1 c rfl
              simp[lowIn,highIn];grind
        have h2:highIn d b=true:=by
          cases d with
          |none=>rfl
          | some d=>cases b with
            | none=>
              obtain⟨q,hc,hq⟩:=high_has (a:=a) d
              have:=has_i.1 (h q hq)
              have:=this.2 d rfl
              grind
            | some b=>
              have:=has_i.1 (h b (hi_has hx))
              have:=this.2 d rfl
              simp[lowIn,highIn];grind
        simp only[within,h1,h2,Bool.and_self]
theorem anti {x y:NS} (hx:x.ok) (hy:y.ok) (h1:x.within y=true) (h2:y.within x=true):x=y:=by
  cases x with
  | e=>cases y with
    |e=>rfl
    |i c d=>cases h2
  | i a b=>cases y with
    |e=>cases h1
    | i c d=>
      cases a<;>cases b<;>cases c<;>cases d<;>simp[within,lowIn,highIn] at h1 h2 ⊢<;>grind
theorem ext {x y:NS} (hx:x.ok) (hy:y.ok) (h:∀q,x.has q=y.has q):x=y:=
  anti hx hy ((within_iff hx).2 fun q k=>by rw[←h];exact k) ((within_iff hy).2 fun q k=>by rw[h];exact k)
end NS
theorem pow2_pos (p:Nat):(0:Rat) < 2^p:=Rat.pow_pos (by decide)
theorem div_le' {a b c:Rat} (hb:0 < b):a / b≤c↔a≤c*b:=by
  have:=Rat.lt_div_iff (a:=c) (b:=a) hb
  grind
theorem gdown_le (x:Rat) (p:Nat):gdown x p≤x:=by
  unfold gdown
  have h:=Rat.floor_le (x*2^p)
  rw[div_le' (pow2_pos p)]
  exact h
theorem gdown_mono {x y:Rat} (p:Nat) (h:x≤y):gdown x p≤gdown y p:=by
  unfold gdown
  have h1:x*2^p≤y*2^p:=Rat.mul_le_mul_of_nonneg_right h (Rat.le_of_lt (pow2_pos p))
  have h2:(x*2^p).floor≤(y*2^p).floor:=Rat.le_floor_iff.2 (Rat.le_trans (Rat.floor_le _) h1)
  rw[div_le' (pow2_pos p),Rat.div_mul_cancel (by have:=pow2_pos p;grind)]
  exact_mod_cast h2
theorem gup_neg (x:Rat) (p:Nat):gup (-x) p= -gdown x p:=by
  unfold gup gdown
  rw[Rat.neg_mul,Rat.ceil_eq_neg_floor_neg,Rat.neg_neg,Rat.intCast_neg,Rat.div_def,Rat.neg_mul,←Rat.div_def]
theorem gdown_neg (x:Rat) (p:Nat):gdown (-x) p= -gup x p:=by
  have:=gup_neg (-x) p
  rw[Rat.neg_neg] at this
  rw[this,Rat.neg_neg]
theorem gup_eq (x:Rat) (p:Nat):gup x p= -gdown (-x) p:=by rw[gdown_neg,Rat.neg_neg]
theorem le_gup (x:Rat) (p:Nat):x≤gup x p:=by
  have:=gdown_le (-x) p
  rw[gup_eq];grind
namespace NS
end NS
end Go.Q
namespace Go.Q
open Go.Proofs
set_option maxRecDepth 100000
set_option maxHeartbeats 8000000
def piFine (w:Nat):Bool:=Nat.ble (piH w*5) (16*2^w) && Nat.ble (piH w) (piL w+1024)
theorem piFine_all:((List.range 129).all fun i=>piFine (i+64))=true:=by decide+kernel
theorem pi_fine {w:Nat} (h1:64≤w) (h2:w≤192):piH w*5≤16*2^w∧piH w≤piL w+1024:=by
  have h:=List.all_eq_true.1 piFine_all (w - 64) (List.mem_range.2 (by omega))
  rw[show w - 64+64=w by omega] at h
  simpa[piFine] using h
def fW (w:Nat):Rat:=sgn false (piL w) (2^(w+1))
def gW (w:Nat):Rat:=sgn false (piH w) (2^(w+1))
theorem sgn_u (n w:Nat):sgn false n (2^w)*((2^w:Nat):Rat)=(n:Rat):=by
  have hd:((2^w:Nat):Rat)≠0:=by exact_mod_cast pow2_ne w
  unfold sgn
  rw[Rat.mkRat_eq_div]
  show((n:Int):Rat) / ((2^w:Nat):Rat)*((2^w:Nat):Rat)=_
  rw[Rat.div_mul_cancel hd]
  rfl
theorem u_pos (w:Nat):(0:Rat) < ((2^w:Nat):Rat):=by exact_mod_cast Nat.pow_pos (by decide)
theorem fW_bd {w:Nat} (h1:64≤w) (h2:w≤192):3 / 2≤fW w∧fW w≤gW w∧gW w≤8 / 5∧(gW w - fW w)*18014398509481984≤1:=by
  obtain⟨a1,a2,a3⟩:=piL_ge (w:=w) (by omega) h2
  obtain⟨a4,a5⟩:=pi_fine h1 h2
  have e1:=sgn_u (piL w) (w+1)
  have e2:=sgn_u (piH w) (w+1)
  have hp:=u_pos (w+1)
  have eu:((2^(w+1):Nat):Rat)=((2^w:Nat):Rat)*2:=by rw[Nat.pow_succ];push_cast;rfl
  have b1:(3:Rat)*((2^w:Nat):Rat)≤(piL w:Rat):=by exact_mod_cast a1
  have b2:(piL w:Rat)≤(piH w:Rat):=by exact_mod_cast Nat.le_of_lt a2
  have b3:(piH w:Rat)*5≤16*((2^w:Nat):Rat):=by exact_mod_cast a4
  have b4:(piH w:Rat)≤(piL w:Rat)+1024:=by exact_mod_cast a5
  have b5:(18446744073709551616:Rat)≤((2^w:Nat):Rat):=by
    have:2^64≤2^w:=Nat.pow_le_pow_right (by decide) h1
    exact_mod_cast this
  unfold fW gW
  generalize sgn false (piL w) (2^(w+1))=f at*
  generalize sgn false (piH w) (2^(w+1))=g at*
  rw[←e1] at b1 b2 b4
  rw[←e2] at b2 b3 b4
  rw[eu] at e1 e2 b1 b2 b3 b4 hp
  generalize((2^w:Nat):Rat)=u at*
  clear e1 e2 eu a1 a2 a3 a4 a5
  have hu:(0:Rat) < u:=by grind
  refine⟨?_,?_,?_,?_⟩
  · exact Rat.le_of_mul_le_mul_right (by grind) hu
  · exact Rat.le_of_mul_le_mul_right (by grind) hp
  · exact Rat.le_of_mul_le_mul_right (by grind) hp
  · have:(g - f)*(u*2)≤1024:=by grind
    have h0:0≤g - f:=by
      have:f≤g:=Rat.le_of_mul_le_mul_right (by grind) hp
      grind
    have:=Rat.mul_le_mul_of_nonneg_left b5 h0
    grind
def rsK (x:Rat) (w:Nat):Int:=(x*(fW w)⁻¹+1 / 2).floor
def rsA (x:Rat) (w:Nat):Rat:=gdown (x+ -((rsK x w:Rat)*(if rsK x w < 0 then fW w else gW w))) w
def rsB (x:Rat) (w:Nat):Rat:=gup (x+ -((rsK x w:Rat)*(if rsK x w < 0 then gW w else fW w))) w
theorem rsK_bd {x:Rat} {w:Nat} (h1:64≤w) (h2:w≤192) (hx: -4294967296≤x∧x≤4294967296): -2863311532≤rsK x w∧rsK x w≤2863311532:=by
  obtain⟨a1,_,_,_⟩:=fW_bd h1 h2
  obtain⟨b1,b2⟩:=quo_bd hx a1
  have e:((2863311532:Int):Rat)=2863311532:=rfl
  exact floor_bd (c:=2863311532) (by rw[e];constructor<;>grind)
theorem gd_ge_int {x:Rat} {z:Int} {w:Nat} (h:(z:Rat)≤x):(z:Rat)≤gdown x w:=by
  have e:gdown (z:Rat) w=(z:Rat):=by
    unfold gdown
    have hp:=pow2_pos w
    rw[show(z:Rat)*2^w=((z*2^w:Int):Rat) by push_cast;rfl,Rat.floor_intCast]
    push_cast
    rw[Rat.div_def,Rat.mul_assoc,Rat.mul_inv_cancel _ (by grind),Rat.mul_one]
  rw[←e]
  exact gdown_mono w h
theorem gu_le_int {x:Rat} {z:Int} {w:Nat} (h:x≤(z:Rat)):gup x w≤(z:Rat):=by
  rw[gup_eq]
  have:=gd_ge_int (x:=-x) (z:=-z) (w:=w) (by push_cast;grind)
  push_cast at this
  grind
theorem rs_mid {x:Rat} {w:Nat} (h1:64≤w) (h2:w≤192) (hx: -4294967296≤x∧x≤4294967296):
    -1≤x+ -((rsK x w:Rat)*(if rsK x w < 0 then fW w else gW w))∧x+ -((rsK x w:Rat)*(if rsK x w < 0 then fW w else gW w))≤x+ -((rsK x w:Rat)*(if rsK x w < 0 then gW w else fW w))∧x+ -((rsK x w:Rat)*(if rsK x w < 0 then gW w else fW w))≤1:=by
  obtain⟨a1,a2,a3,a4⟩:=fW_bd h1 h2
  obtain⟨k1,k2⟩:=rsK_bd h1 h2 hx
  have l1:=Rat.floor_le (x*(fW w)⁻¹+1 / 2)
  have l2:=Rat.lt_floor_add_one (x*(fW w)⁻¹+1 / 2)
  have e:x*(fW w)⁻¹*fW w=x:=by rw[Rat.mul_assoc,Rat.inv_mul_cancel _ (by grind),Rat.mul_one]
  have k1':(-2863311532:Rat)≤(rsK x w:Rat):=Rat.intCast_le_intCast.2 k1
  have k2':(rsK x w:Rat)≤(2863311532:Rat):=Rat.intCast_le_intCast.2 k2
  have ks:rsK x w < 0↔(rsK x w:Rat) < 0:=by
    have:=@Rat.intCast_lt_intCast (rsK x w) 0
    simpa using this.symm
  unfold rsK at*
  generalize hk:(x*(fW w)⁻¹+1 / 2).floor=k at*
  clear hk
  generalize(fW w)⁻¹=i at*
  generalize fW w=f at*
  generalize gW w=g at*
  have m1:x≤((k:Rat)+1 / 2)*f:=by
    have:x*i≤(k:Rat)+1 / 2:=by grind
    have:=Rat.mul_le_mul_of_nonneg_right this (show 0≤f by grind)
    grind
  have m2:((k:Rat) - 1 / 2)*f≤x:=by
    have:(k:Rat) - 1 / 2≤x*i:=by grind
    have:=Rat.mul_le_mul_of_nonneg_right this (show 0≤f by grind)
    grind
  have d0:0≤g - f:=by grind
  clear e l1 l2
  by_cases hk:k < 0
  · have hk':=ks.1 hk
    simp only[if_pos hk]
    have n1:=Rat.mul_le_mul_of_nonneg_right k1' d0
    have n2:=Rat.mul_le_mul_of_nonneg_right (Rat.le_of_lt hk') d0
    clear ks k1 k2
    refine⟨?_,?_,?_⟩<;>grind
  · have hk':(0:Rat)≤(k:Rat):=Rat.not_lt.1 fun c=>hk (ks.2 c)
    simp only[if_neg hk]
    have n1:=Rat.mul_le_mul_of_nonneg_right k2' d0
    have n2:=Rat.mul_le_mul_of_nonneg_right hk' d0
    clear ks k1 k2
    refine⟨?_,?_,?_⟩<;>grind
theorem rs_bd {x:Rat} {w:Nat} (h1:64≤w) (h2:w≤192) (hx: -4294967296≤x∧x≤4294967296): -1≤rsA x w∧rsA x w≤rsB x w∧rsB x w≤1:=by
  obtain⟨a1,a2,a3⟩:=rs_mid h1 h2 hx
  unfold rsA rsB
  refine⟨?_,Rat.le_trans (gdown_le _ _) (Rat.le_trans a2 (le_gup _ _)),?_⟩
  · exact_mod_cast gd_ge_int (z:=-1) (w:=w) (by exact_mod_cast a1)
  · exact_mod_cast gu_le_int (z:=1) (w:=w) (by exact_mod_cast a3)
theorem q_den (q:Rat):q*(q.den:Rat)=(q.num:Rat):=by
  have hd:(q.den:Rat)≠0:=by exact_mod_cast q.den_nz
  have e:=Rat.mkRat_self q
  rw[Rat.mkRat_eq_div] at e
  generalize(q.den:Rat)=d at*
  generalize(q.num:Rat)=n at*
  rw[←e,Rat.div_mul_cancel hd]
theorem abs_num {q:Rat} (h1: -1≤q) (h2:q≤1):¬q.den < q.num.natAbs:=by
  have hd:(0:Rat) < (q.den:Rat):=by exact_mod_cast q.den_pos
  have e:=q_den q
  have m1:=Rat.mul_le_mul_of_nonneg_right h1 (Rat.le_of_lt hd)
  have m2:=Rat.mul_le_mul_of_nonneg_right h2 (Rat.le_of_lt hd)
  rw[e] at m1 m2
  have n1: -(q.den:Int)≤q.num:=by
    have:((-(q.den:Int):Int):Rat)≤(q.num:Rat):=by push_cast;grind
    exact_mod_cast this
  have n2:q.num≤(q.den:Int):=by
    have:(q.num:Rat)≤((q.den:Int):Rat):=by push_cast;grind
    exact_mod_cast this
  omega
end Go.Q
namespace Go.Q
open Go.Proofs
set_option maxRecDepth 100000
set_option maxHeartbeats 8000000
def rtw (q:Rat) (n p:Nat):Nat:=q.num.natAbs*2^(p*n) / q.den
def rtx (q:Rat) (n p:Nat):Bool:=decide (irt n (rtw q n p)^n=rtw q n p) && decide (q.num.natAbs*2^(p*n) % q.den=0)
def rtm (up:Bool) (q:Rat) (n p:Nat):Nat:=if (up != decide (q.num < 0))=true∧rtx q n p=false then irt n (rtw q n p)+1 else irt n (rtw q n p)
def rootg (up:Bool) (q:Rat) (n p:Nat):Rat:=sgn (decide (q.num < 0)) (rtm up q n p) (2^p)
end Go.Q
namespace Go.Q
open Go.Proofs
set_option maxRecDepth 100000
set_option maxHeartbeats 8000000
end Go.Q
namespace Go.Q
open Go.Proofs
set_option maxRecDepth 100000
set_option maxHeartbeats 8000000
end Go.Q
namespace Go.Q
open Go.Proofs
set_option maxRecDepth 100000
set_option maxHeartbeats 8000000
end Go.Q
namespace Go.Q
open Go.Proofs
set_option maxRecDepth 100000
set_option maxHeartbeats 8000000
end Go.Q
namespace Go.Q
open Go.Proofs
set_option maxRecDepth 100000
set_option maxHeartbeats 8000000
def abQ (x:Rat):Rat:=sgn false x.num.natAbs x.den
def asR (x:Rat):Rat:=1+ -(abQ x*abQ x)
def asG (u:Bool) (x:Rat) (w:Nat):Rat:=rootg u (asR x) 2 w
def asH (u:Bool) (x:Rat) (w:Nat):Rat:=abQ x*(1+asG u x w)⁻¹
def asL (x:Rat) (w:Nat):Nat:=anL (glo (asH true x w) w) (ghi (asH false x w) w) w*2^1
def asU (x:Rat) (w:Nat):Nat:=anH (glo (asH true x w) w) (ghi (asH false x w) w) w*2^1
theorem abQ_parts (x:Rat):(abQ x).num=(x.num.natAbs:Int)∧(abQ x).den=x.den:=by
  have:=sgn_num (neg:=false) (n:=x.num.natAbs) (d:=x.den) x.den_nz x.reduced
  simpa[abQ] using this
theorem abQ_bd {x:Rat} (h:x.num.natAbs≤x.den):0≤abQ x∧abQ x≤1:=by
  obtain⟨e1,e2⟩:=abQ_parts x
  have hd:(0:Rat) < (x.den:Rat):=by exact_mod_cast x.den_pos
  have e:abQ x*(x.den:Rat)=(x.num.natAbs:Rat):=by
    have:=q_den (abQ x)
    rw[e1,e2] at this
    exact_mod_cast this
  have h':(x.num.natAbs:Rat)≤(x.den:Rat):=by exact_mod_cast h
  have h0:(0:Rat)≤(x.num.natAbs:Rat):=by exact_mod_cast Nat.zero_le _
  generalize(x.num.natAbs:Rat)=n at*
  generalize(x.den:Rat)=d at*
  exact⟨Rat.le_of_mul_le_mul_right (by grind) hd,Rat.le_of_mul_le_mul_right (by grind) hd⟩
theorem asR_bd {x:Rat} (h:x.num.natAbs≤x.den):0≤asR x∧asR x≤1:=by
  obtain⟨h1,h2⟩:=abQ_bd h
  have m1:=Rat.mul_le_mul_of_nonneg_left h2 h1
  have m2:=Rat.mul_nonneg h1 h1
  unfold asR
  generalize abQ x=a at*
  constructor<;>grind
theorem rtw_le {q:Rat} {w:Nat} (h0:0≤q) (h1:q≤1):rtw q 2 w≤2^(w*2):=by
  have:=abs_num (q:=q) (by grind) h1
  unfold rtw
  exact Nat.div_le_of_le_mul (Nat.mul_le_mul_right _ (by omega))
theorem asG_m {u:Bool} {q:Rat} {w:Nat} (h0:0≤q) (h1:q≤1):∃m,rootg u q 2 w=sgn false m (2^w)∧m≤2^w+1:=by
  have hw:=rtw_le (w:=w) h0 h1
  have hi:irt 2 (rtw q 2 w)≤2^w:=by
    have h2:=irt_le (n:=2) (a:=rtw q 2 w) (by decide)
    have h3:irt 2 (rtw q 2 w)^2≤(2^w)^2:=by rw[←Nat.pow_mul];exact Nat.le_trans h2 hw
    exact(Nat.pow_le_pow_iff_left (by decide)).1 h3
  refine⟨rtm u q 2 w,?_,?_⟩
  · unfold rootg
    rw[show decide (q.num < 0)=false from decide_eq_false (by rw[num_neg];grind)]
  · unfold rtm
    split<;>omega
theorem one_sgn (m w:Nat):1+sgn false m (2^w)=sgn false (2^w+m) (2^w):=by
  have hd:((2^w:Nat):Rat)≠0:=by exact_mod_cast pow2_ne w
  have e1:=sgn_u m w
  have e2:=sgn_u (2^w+m) w
  have e3:((2^w+m:Nat):Rat)=((2^w:Nat):Rat)+(m:Rat):=by push_cast;rfl
  rw[e3] at e2
  generalize sgn false m (2^w)=a at*
  generalize sgn false (2^w+m) (2^w)=b at*
  generalize((2^w:Nat):Rat)=u at*
  have:(1+a)*u=b*u:=by grind
  grind
theorem asG_bd {u:Bool} {x:Rat} {w:Nat} (h:x.num.natAbs≤x.den):0≤asG u x w∧sz (1+asG u x w)≤w+3:=by
  obtain⟨h0,h1⟩:=asR_bd h
  obtain⟨m,e,hm⟩:=asG_m (u:=u) (w:=w) h0 h1
  unfold asG
  rw[e]
  constructor
  · have:=sgn_u m w
    have hp:=u_pos w
    have hm0:(0:Rat)≤(m:Rat):=by exact_mod_cast Nat.zero_le _
    exact Rat.le_of_mul_le_mul_right (by grind) hp
  · rw[one_sgn]
    have b1:=sz_sgn false (2^w+m) (pow2_ne w)
    have b2:bl (2^w+m)≤w+3:=bl_le.2 (by
      have:2^(w+3)=2^w*8:=Nat.pow_add _ _ _
      have:=Nat.pos_of_ne_zero (pow2_ne w)
      omega)
    have b3:=bl_pow2 w
    omega
theorem asH_bd {u:Bool} {x:Rat} {w:Nat} (h:x.num.natAbs≤x.den):0≤asH u x w∧asH u x w≤1:=by
  obtain⟨h0,h1⟩:=abQ_bd h
  obtain⟨g0,_⟩:=asG_bd (u:=u) (w:=w) h
  unfold asH
  generalize asG u x w=g at*
  generalize abQ x=a at*
  have hp:(0:Rat) < 1+g:=by grind
  have e:(1+g)*(1+g)⁻¹=1:=Rat.mul_inv_cancel _ (by grind)
  have hi:0≤(1+g)⁻¹:=Rat.le_of_lt (Rat.inv_pos.2 hp)
  constructor
  · exact Rat.mul_nonneg h0 hi
  · have:=Rat.mul_le_mul_of_nonneg_right (show a≤1+g by grind) hi
    grind
theorem as_arg {x:Rat} {w:Nat} (h:x.num.natAbs≤x.den):glo (asH true x w) w≤2^w∧ghi (asH false x w) w≤2^w:=by
  obtain⟨a1,a2⟩:=asH_bd (u:=true) (w:=w) h
  obtain⟨b1,b2⟩:=asH_bd (u:=false) (w:=w) h
  exact⟨(g_le (abs_num (by grind) a2)).1,(g_le (abs_num (by grind) b2)).2⟩
theorem at_rowB {h:PH} {b:Nat} {cs:List Value} (hb:h b=some cs.toArray) (j:Nat) (v:Value) (hj:cs[j]?=some v):h.at ((⟨b,0,none⟩:Addr).add j)=some v:=by
  cases j<;>simp[PH.at,Addr.add,hb,hj]
theorem pub_to {h h':PH} [l:Le h h'] {b:Nat} {cs:Array Value} (hb:h b=some cs):h' b=some cs:=l.sub _ _ hb
def asinLo (x:Rat) (p:Nat):Rat:=bkL (decide (x.num < 0)) (asL x (p+32)) (asU x (p+32)) 32 p
def asinHi (x:Rat) (p:Nat):Rat:=bkH (decide (x.num < 0)) (asL x (p+32)) (asU x (p+32)) 32 p
theorem bl_as {x:Rat} {w:Nat} (hw:2≤w) (h:x.num.natAbs≤x.den):bl (asL x w)≤w+4∧bl (asU x w)≤w+4:=by
  obtain⟨l1,l2⟩:=as_arg (w:=w) h
  obtain⟨m1,m2⟩:=an_le hw l1 l2
  have b1:=bl_w3 hw m1
  have b2:=bl_w3 hw m2
  have b3:=bl_shl (anL (glo (asH true x w) w) (ghi (asH false x w) w) w) 1
  have b4:=bl_shl (anH (glo (asH true x w) w) (ghi (asH false x w) w) w) 1
  unfold asL asU
  omega
def acLo (x:Rat) (p:Nat):Rat:=if x=0 then bkL false (piL (p+32)) (piH (p+32)) 33 p else if x.num < 0 then bkL false (piL (p+32)+asL x (p+32)*2^1) (piH (p+32)+asU x (p+32)*2^1) 33 p else gdown (sgn false (piL (p+32)) (2^(p+32+1))+ -sgn false (asU x (p+32)*2^1) (2^(p+32+1))) p
def acHi (x:Rat) (p:Nat):Rat:=if x=0 then bkH false (piL (p+32)) (piH (p+32)) 33 p else if x.num < 0 then bkH false (piL (p+32)+asL x (p+32)*2^1) (piH (p+32)+asU x (p+32)*2^1) 33 p else gup (sgn false (piH (p+32)) (2^(p+32+1))+ -sgn false (asL x (p+32)*2^1) (2^(p+32+1))) p
end Go.Q
namespace Go.Q
open Go.Proofs
set_option maxRecDepth 100000
set_option maxHeartbeats 8000000
theorem NumNeg {h0 h:PH} [Le h0 h] {v:Value} {x:Rat} (hx:Rv h0 v x):Spec mach 131 #[v] h (fun r h'=>Nc h' r (-x)) NP:=by
  have kO:=fun {h} [Le h0 h]=>NumOne_spec (h:=h) (g:=124) hx (fun a=>Opposite_spec a)
  obtain⟨_,_,_,_,_,_,_,rfl,_⟩:=hx.sa
  refine Spec.go [] Tryz.func131 rfl rfl (by kernel_rfl) fun C _=>?_
  try simp(maxSteps:=999999) (disch:=omega) only[go_sem,Nat.reduceBEq,Nat.reduceAdd]
  refine caN (by exact kO) ?_;rintro v1 h1 s1 q1;obtain⟨_,_,_,_,_,_,_,_,rfl,w1⟩:=q1
  try simp(maxSteps:=999999) (disch:=omega) only[go_sem,Nat.reduceBEq,Nat.reduceAdd]
  exact Nc.mk w1
theorem ENatural_spec {h0 h:PH} [Le h0 h] {v:Value} {x:Rat} {w:Nat} (hx:Cn h0 v x) (bx:sz x≤2048) (hw:w≤2048):Spec mach 129 #[v,.int .i64 w] h (fun r h'=>N32 h' r (glo x w)) NP:=by
  have kS:=fun {h} [Le h0 h]=>EScaled_spec (h:=h) (w:=w) hx (by omega) (by omega)
  obtain⟨_,_,_,_,_,_,_,rfl,_⟩:=hx.sa
  refine Spec.go [] Tryz.func129 rfl rfl (by kernel_rfl) fun C _=>?_
  try simp(maxSteps:=999999) (disch:=omega) only[go_sem,Nat.reduceBEq,Nat.reduceAdd]
  refine caN (by exact kS) ?_;rintro v1 h1 s1 ⟨_,_,_,_,_,_,rfl,q1,_⟩
  try simp(maxSteps:=999999) (disch:=omega) only[go_sem,Nat.reduceBEq,Nat.reduceAdd]
  exact q1
theorem EMinus_spec {h0 h:PH} [Le h0 h] {v:Value} {x y:Rat} (hv:Bk h0 v x y) (sx:sz x≤2048) (sy:sz y≤2048):Spec mach 96 #[v] h (fun r h'=>Bk h' r (-y) (-x)) NP:=by
  obtain⟨b1,a1,m1,c1,a2,m2,c2,b2,a3,m3,c3,a4,m4,c4,rfl,hx,hy⟩:=hv
  have tx:sz (-x)≤2048:=by rw[sz_neg];exact sx
  have ty:sz (-y)≤2048:=by rw[sz_neg];exact sy
  refine Spec.go [] Tryz.func96 rfl rfl (by kernel_rfl) fun C _=>?_
  try simp(maxSteps:=999999) (disch:=omega) only[go_sem,Nat.reduceBEq,Nat.reduceAdd]
  refine caN (by exact NumNeg (Rv.of hy sy)) ?_;rintro v1 h1 s1 p1;obtain⟨_,_,_,_,_,_,_,rfl,q1⟩:=p1.ok ty
  try simp(maxSteps:=999999) (disch:=omega) only[go_sem,Nat.reduceBEq,Nat.reduceAdd]
  refine caN (by exact NumNeg (Rv.of (hx.to (h':=h1)) sx)) ?_;rintro v2 h2 s2 p2;obtain⟨_,_,_,_,_,_,_,rfl,q2⟩:=p2.ok tx
  try simp(maxSteps:=999999) (disch:=omega) only[go_sem,Nat.reduceBEq,Nat.reduceAdd]
  exact⟨_,_,_,_,_,_,_,_,_,_,_,_,_,_,rfl,q1.to,q2⟩
def snAt (x:Rat) (w:Nat) (low:Bool):Rat:=if (!(low == decide (x.num < 0)))=true then sgn (decide (x.num < 0)) (glo x w*wvL (glo x w) w 2 / 2^w) (2^w) else sgn (decide (x.num < 0)) (cdiv (glo x w*wvH (glo x w) w 2) (2^w)) (2^w)
theorem sn_n {y w:Nat} (hy:y≤2^w):y*wvL y w 2 / 2^w≤2^w∧cdiv (y*wvH y w 2) (2^w)≤2^w:=by
  obtain⟨h1,h2⟩:=waV_le (w:=w) (f:=2) (s:=sqL y w) (t:=sqH y w) (by decide) 24
  exact⟨Nat.div_le_of_le_mul (Nat.mul_le_mul hy h2),(cdiv_le_iff (pow2_ne w)).2 (Nat.mul_le_mul hy h1)⟩
theorem snAt_sz {x:Rat} {w:Nat} {low:Bool} (hy:glo x w≤2^w):sz (snAt x w low)≤w+2:=by
  obtain⟨h1,h2⟩:=sn_n hy
  have b0:=bl_pow2 w
  unfold snAt
  split
  · have:=sz_sgn (decide (x.num < 0)) (glo x w*wvL (glo x w) w 2 / 2^w) (pow2_ne w)
    have:=bl_pow_le (n:=glo x w*wvL (glo x w) w 2 / 2^w) (w:=w) (by omega)
    omega
  · have:=sz_sgn (decide (x.num < 0)) (cdiv (glo x w*wvH (glo x w) w 2) (2^w)) (pow2_ne w)
    have:=bl_pow_le (n:=cdiv (glo x w*wvH (glo x w) w 2) (2^w)) (w:=w) (by omega)
    omega
theorem ESine1_spec {h0 h:PH} [Le h0 h] {v:Value} {x:Rat} {w b:Nat} {low:Bool} (hb:h0 b=some #[.int .i64 w]) (hx:Cn h0 v x) (bx:sz x≤2048) (hy:glo x w≤2^w) (hw:20≤w) (hw':w≤200):
    Spec mach 128 #[v,.bool low,.pointer (some ⟨b,0,none⟩)] h (fun r h'=>Cn h' r (snAt x w low)) NP:=by
  have kN:=fun {h} [Le h0 h]=>ENatural_spec (h:=h) (w:=w) hx bx (by omega)
  obtain⟨h1,h2⟩:=sn_n hy
  obtain⟨w1,w2⟩:=waV_le (w:=w) (f:=2) (s:=sqL (glo x w) w) (t:=sqH (glo x w) w) (by decide) 24
  have w1:wvH (glo x w) w 2≤2^w:=w1
  have w2:wvL (glo x w) w 2≤2^w:=w2
  unfold snAt
  obtain⟨na,nl,nc,da,dl,dc,rfl,_,_,_,_⟩:=hx.parts
  generalize decide (x.num < 0)=neg at*
  generalize glo x w=y at*
  have b1:=bl_pow_le (n:=y) (w:=w) (by omega)
  have b2:=bl_pow_le (n:=wvL y w 2) (w:=w) (by omega)
  have b3:=bl_pow_le (n:=wvH y w 2) (w:=w) (by omega)
  have b4:=bl_mul y (wvL y w 2)
  have b5:=bl_mul y (wvH y w 2)
  have b6:=bl_pow_le (n:=y*wvL y w 2 / 2^w) (w:=w) (by omega)
  have b7:=bl_pow_le (n:=cdiv (y*wvH y w 2) (2^w)) (w:=w) (by omega)
  have hy:=Hid.mk hy
  clear hx bx h1 h2 w1 w2
  have F:=Hid.mk (And.intro b1 (And.intro b2 (And.intro b3 (And.intro b4 (And.intro b5 (And.intro b6 b7))))));clear b1 b2 b3 b4 b5 b6 b7
  cases low<;>cases neg
  all_goals
    refine Spec.go [(4,.o [0,1,2,4,6,7,8,3,5,9,10]),(5,.o [0,1,2,4,6,7,8,3,5,9,10])] Tryz.func128 rfl rfl (by kernel_rfl) fun C _=>?_
    try simp(maxSteps:=999999) (disch:=omega) only[go_sem,Nat.reduceBEq,Nat.reduceAdd]
    refine ld1_of (at1 (pub_to hb)) ?_
    try simp(maxSteps:=999999) (disch:=omega) only[go_sem,Nat.reduceBEq,Nat.reduceAdd]
    refine caN (by exact kN) ?_;rintro _ h1 _ q1;obtain⟨v1,_,_,rfl,q1⟩:=q1.sl
    try simp(maxSteps:=999999) (disch:=omega) only[go_sem,Nat.reduceBEq,Nat.reduceAdd]
    refine ld1_of (at1 (pub_to hb)) ?_
    try simp(maxSteps:=999999) (disch:=omega) only[go_sem,Nat.reduceBEq,Nat.reduceAdd]
    refine caN (by exact EWaves_spec (f:=2) q1 hy.out (by decide) (by decide) hw (by have:=F.out;omega)) ?_;rintro v2 h2 s2 ⟨x2,m2,c2,y2,n2,d2,rfl,q2,q3⟩
    try simp(maxSteps:=999999) (disch:=omega) only[go_sem,Nat.reduceBEq,Nat.reduceAdd,show(true == false)=false from rfl,show(false == true)=false from rfl,Bool.not_false]
  · refine ld1_of (at1 (pub_to hb)) ?_
    try simp(maxSteps:=999999) (disch:=omega) only[go_sem,Nat.reduceBEq,Nat.reduceAdd]
    refine ld1_of (at1 (pub_to hb)) ?_
    try simp(maxSteps:=999999) (disch:=omega) only[go_sem,Nat.reduceBEq,Nat.reduceAdd]
    refine caN (by exact Mul_spec (q1.to (h':=h2)) (show N32 h2 _ (wvH y w 2) from q3) (by have:=F.out;omega) (by have:=F.out;omega)) ?_;rintro _ h3 _ q4;obtain⟨v3,_,_,rfl,q4⟩:=q4.sl
    try simp(maxSteps:=999999) (disch:=omega) only[go_sem,Nat.reduceBEq,Nat.reduceAdd]
    refine caN (by exact EUp_spec (n:=w) q4 (by have:=F.out;omega) (by have:=F.out;omega)) ?_;rintro _ h4 _ q5;obtain⟨v4,_,_,rfl,q5⟩:=q5.sl
    try simp(maxSteps:=999999) (disch:=omega) only[go_sem,Nat.reduceBEq,Nat.reduceAdd]
    refine caN (by exact Rational_spec (n:=w) q5 (by have:=F.out;omega) (by have:=F.out;omega)) ?_;rintro v5 h5 s5 q6;obtain⟨_,_,_,_,_,_,_,rfl,q6⟩:=q6.sa
    try simp(maxSteps:=999999) (disch:=omega) only[go_sem,Nat.reduceBEq,Nat.reduceAdd]
    exact q6
  · refine ld1_of (at1 (pub_to hb)) ?_
    try simp(maxSteps:=999999) (disch:=omega) only[go_sem,Nat.reduceBEq,Nat.reduceAdd]
    refine ld1_of (at1 (pub_to hb)) ?_
    try simp(maxSteps:=999999) (disch:=omega) only[go_sem,Nat.reduceBEq,Nat.reduceAdd]
    refine caN (by exact Mul_spec (q1.to (h':=h2)) (show N32 h2 _ (wvL y w 2) from q2) (by have:=F.out;omega) (by have:=F.out;omega)) ?_;rintro _ h3 _ q4;obtain⟨v3,_,_,rfl,q4⟩:=q4.sl
    try simp(maxSteps:=999999) (disch:=omega) only[go_sem,Nat.reduceBEq,Nat.reduceAdd]
    refine caN (by exact Shr_spec (n:=w) q4 (by have:=F.out;omega) (by have:=F.out;omega)) ?_;rintro _ h4 _ q5;obtain⟨v4,_,_,rfl,q5⟩:=q5.sl
    try simp(maxSteps:=999999) (disch:=omega) only[go_sem,Nat.reduceBEq,Nat.reduceAdd]
    refine caN (by exact Rational_spec (n:=w) q5 (by have:=F.out;omega) (by have:=F.out;omega)) ?_;rintro v5 h5 s5 q6;obtain⟨_,_,_,_,_,_,_,rfl,q6⟩:=q6.sa
    try simp(maxSteps:=999999) (disch:=omega) only[go_sem,Nat.reduceBEq,Nat.reduceAdd]
    exact q6
  · refine ld1_of (at1 (pub_to hb)) ?_
    try simp(maxSteps:=999999) (disch:=omega) only[go_sem,Nat.reduceBEq,Nat.reduceAdd]
    refine ld1_of (at1 (pub_to hb)) ?_
    try simp(maxSteps:=999999) (disch:=omega) only[go_sem,Nat.reduceBEq,Nat.reduceAdd]
    refine caN (by exact Mul_spec (q1.to (h':=h2)) (show N32 h2 _ (wvL y w 2) from q2) (by have:=F.out;omega) (by have:=F.out;omega)) ?_;rintro _ h3 _ q4;obtain⟨v3,_,_,rfl,q4⟩:=q4.sl
    try simp(maxSteps:=999999) (disch:=omega) only[go_sem,Nat.reduceBEq,Nat.reduceAdd]
    refine caN (by exact Shr_spec (n:=w) q4 (by have:=F.out;omega) (by have:=F.out;omega)) ?_;rintro _ h4 _ q5;obtain⟨v4,_,_,rfl,q5⟩:=q5.sl
    try simp(maxSteps:=999999) (disch:=omega) only[go_sem,Nat.reduceBEq,Nat.reduceAdd]
    refine caN (by exact Rational_spec (n:=w) q5 (by have:=F.out;omega) (by have:=F.out;omega)) ?_;rintro v5 h5 s5 q6;obtain⟨_,_,_,_,_,_,_,rfl,q6⟩:=q6.sa
    try simp(maxSteps:=999999) (disch:=omega) only[go_sem,Nat.reduceBEq,Nat.reduceAdd]
    exact q6
  · refine ld1_of (at1 (pub_to hb)) ?_
    try simp(maxSteps:=999999) (disch:=omega) only[go_sem,Nat.reduceBEq,Nat.reduceAdd]
    refine ld1_of (at1 (pub_to hb)) ?_
    try simp(maxSteps:=999999) (disch:=omega) only[go_sem,Nat.reduceBEq,Nat.reduceAdd]
    refine caN (by exact Mul_spec (q1.to (h':=h2)) (show N32 h2 _ (wvH y w 2) from q3) (by have:=F.out;omega) (by have:=F.out;omega)) ?_;rintro _ h3 _ q4;obtain⟨v3,_,_,rfl,q4⟩:=q4.sl
    try simp(maxSteps:=999999) (disch:=omega) only[go_sem,Nat.reduceBEq,Nat.reduceAdd]
    refine caN (by exact EUp_spec (n:=w) q4 (by have:=F.out;omega) (by have:=F.out;omega)) ?_;rintro _ h4 _ q5;obtain⟨v4,_,_,rfl,q5⟩:=q5.sl
    try simp(maxSteps:=999999) (disch:=omega) only[go_sem,Nat.reduceBEq,Nat.reduceAdd]
    refine caN (by exact Rational_spec (n:=w) q5 (by have:=F.out;omega) (by have:=F.out;omega)) ?_;rintro v5 h5 s5 q6;obtain⟨_,_,_,_,_,_,_,rfl,q6⟩:=q6.sa
    try simp(maxSteps:=999999) (disch:=omega) only[go_sem,Nat.reduceBEq,Nat.reduceAdd]
    exact q6
theorem ESine_spec {h0 h:PH} [Le h0 h] {v:Value} {x y:Rat} {w:Nat} (hv:Bk h0 v x y) (bx:sz x≤2048) (by_:sz y≤2048) (hx:glo x w≤2^w) (hy:glo y w≤2^w) (hw:20≤w) (hw':w≤200):Spec mach 94 #[v,.int .i64 w] h (fun r h'=>Bk h' r (snAt x w true) (snAt y w false)) NP:=by
  obtain⟨b1,a1,m1,c1,a2,m2,c2,b2,a3,m3,c3,a4,m4,c4,rfl,k1,k2⟩:=hv
  have hx:=Hid.mk hx
  have hy:=Hid.mk hy
  refine Spec.go [(2,.o [0,1,2,4,5,6,3,7,8,9]),(1,.t (.p 1 (.s [0,1] .d)))] Tryz.func94 rfl rfl (by kernel_rfl) fun C _=>?_
  try simp(maxSteps:=999999) (disch:=omega) only[go_sem,Nat.reduceBEq,Nat.reduceAdd]
  intro b h1 st1 hb
  try simp(maxSteps:=999999) (disch:=omega) only[go_sem,Nat.reduceBEq,Nat.reduceAdd]
  have hb:h1 b=some #[.int .i64 w]:=hb (by simp)
  try simp(maxSteps:=999999) (disch:=omega) only[go_sem,Nat.reduceBEq,Nat.reduceAdd]
  refine caN (by exact ESine1_spec (h0:=h1) (low:=true) hb k1.to bx hx.out hw hw') ?_;rintro v2 h2 s2 q2;obtain⟨_,_,_,_,_,_,_,rfl,q2⟩:=q2.sa
  try simp(maxSteps:=999999) (disch:=omega) only[go_sem,Nat.reduceBEq,Nat.reduceAdd]
  refine caN (by exact ESine1_spec (h0:=h2) (low:=false) (pub_to hb) k2.to by_ hy.out hw hw') ?_;rintro v3 h3 s3 q3;obtain⟨_,_,_,_,_,_,_,rfl,q3⟩:=q3.sa
  try simp(maxSteps:=999999) (disch:=omega) only[go_sem,Nat.reduceBEq,Nat.reduceAdd]
  exact⟨_,_,_,_,_,_,_,_,_,_,_,_,_,_,rfl,q2.to,q3⟩
def csX (x y:Rat) (w:Nat):Nat:=max (glo x w) (glo y w)
def csN (x y:Rat) (w:Nat):Nat:=if (x.num < 0∧¬y.num < 0)∨x=0∨y=0 then 0 else min (glo x w) (glo y w)
theorem ECosine_spec {h0 h:PH} [Le h0 h] {v:Value} {x y:Rat} {w:Nat} (hv:Bk h0 v x y) (bx:sz x≤2048) (by_:sz y≤2048) (hx:glo x w≤2^w) (hy:glo y w≤2^w) (hw:20≤w) (hw':w≤200):
    Spec mach 95 #[v,.int .i64 w] h (fun r h'=>Bk h' r (sgn false (wvL (csX x y w) w 1) (2^w)) (sgn false (wvH (csN x y w) w 1) (2^w))) NP:=by
  obtain⟨b1,a1,m1,c1,a2,m2,c2,b2,a3,m3,c3,a4,m4,c4,rfl,k1,k2⟩:=hv
  have kX:=fun {h} [Le h0 h]=>ENatural_spec (h:=h) (w:=w) k1 bx (by omega)
  have kY:=fun {h} [Le h0 h]=>ENatural_spec (h:=h) (w:=w) k2 by_ (by omega)
  obtain⟨_,_,_,_,_,_,e,_,_,ex,_⟩:=k1.parts
  cases e
  obtain⟨_,_,_,_,_,_,e,_,_,ey,_⟩:=k2.parts
  cases e
  have kW:∀{y:Nat},y≤2^w→bl (wvL y w 1)≤2048∧bl (wvH y w 1)≤2048:=fun {y} _=>by
    obtain⟨w1,w2⟩:=waV_le (w:=w) (f:=1) (s:=sqL y w) (t:=sqH y w) (by decide) 24
    have:=bl_pow_le (n:=wvL y w 1) (w:=w) (by unfold wvL;omega)
    have:=bl_pow_le (n:=wvH y w 1) (w:=w) (by unfold wvH;omega)
    omega
  have key:(decide (x.num < 0)=true∧decide (y.num < 0)=false∧csN x y w=0)∨(decide (x.num < 0)=false∧((m1:Int) == 0)=true∧csN x y w=0)∨(decide (x.num < 0)=false∧((m1:Int) == 0)=false∧((m3:Int) == 0)=true∧csN x y w=0)∨
      (decide (x.num < 0)=true∧decide (y.num < 0)=true∧((m1:Int) == 0)=false∧((m3:Int) == 0)=false∧csN x y w=min (glo x w) (glo y w))∨(decide (x.num < 0)=false∧((m1:Int) == 0)=false∧((m3:Int) == 0)=false∧csN x y w=min (glo x w) (glo y w)):=by
    have xX:x.num < 0→x≠0:=fun k e=>by rw[e] at k;exact absurd k (by decide)
    have yY:y.num < 0→y≠0:=fun k e=>by rw[e] at k;exact absurd k (by decide)
    have zX:((m1:Int) == 0)=decide (x=0):=by rw[Bool.eq_iff_iff];simp only[beq_iff_eq,decide_eq_true_eq,←ex];omega
    have zY:((m3:Int) == 0)=decide (y=0):=by rw[Bool.eq_iff_iff];simp only[beq_iff_eq,decide_eq_true_eq,←ey];omega
    rw[zX,zY]
    simp only[decide_eq_true_eq,decide_eq_false_iff_not]
    unfold csN
    by_cases h1:x.num < 0
    · by_cases h2:y.num < 0
      · refine .inr (.inr (.inr (.inl ⟨h1,h2,xX h1,yY h2,if_neg ?_⟩)))
        rintro(k |k |k)
        · exact k.2 h2
        · exact xX h1 k
        · exact yY h2 k
      · exact .inl ⟨h1,h2,if_pos (.inl ⟨h1,h2⟩)⟩
    · by_cases h2:x=0
      · exact .inr (.inl ⟨h1,h2,if_pos (.inr (.inl h2))⟩)
      · by_cases h3:y=0
        · exact .inr (.inr (.inl ⟨h1,h2,h3,if_pos (.inr (.inr h3))⟩))
        · refine .inr (.inr (.inr (.inr ⟨h1,h2,h3,if_neg ?_⟩)))
          rintro(k |k |k)
          · exact h1 k.1
          · exact h2 k
          · exact h3 k
  have cm:∀{a b:Nat},decide (cmp3 a b < 0)=decide (a < b):=fun {a b}=>by unfold cmp3;grind
  have eX:csX x y w=max (glo x w) (glo y w):=rfl
  rw[eX]
  clear k1 k2 ex ey bx by_ eX
  generalize glo x w=ga at*
  generalize glo y w=gb at*
  generalize csN x y w=N at*
  generalize decide (x.num < 0)=sx at*
  generalize decide (y.num < 0)=sy at*
  rcases key with⟨rfl,rfl,rfl⟩ |⟨rfl,e1,rfl⟩ |⟨rfl,e1,e2,rfl⟩ |⟨rfl,rfl,e1,e2,rfl⟩ |⟨rfl,e1,e2,rfl⟩
  · by_cases hab:ga < gb
    · have dc:decide (cmp3 ga gb < 0)=true:=by rw[cm];exact decide_eq_true hab
      rw[show max ga gb=gb by omega]
      obtain⟨kXL,_⟩:=kW (y:=gb) hy
      obtain⟨_,kNH⟩:=kW (y:=0) (by omega)
      have lX:Hid (gb≤2^w):=⟨hy⟩
      have lN:Hid (0≤2^w):=⟨by omega⟩
      clear hx hy hab cm
      refine Spec.go [(1,.o [0,1,2,4,5,6,3,7,8,9])] Tryz.func95 rfl rfl (by kernel_rfl) fun C _=>?_
      try simp(maxSteps:=999999) (disch:=omega) only[go_sem,Nat.reduceBEq,Nat.reduceAdd]
      refine caN (by exact kX) ?_;rintro _ h1 _ q1;obtain⟨v1,_,_,rfl,q1⟩:=q1.sl
      try simp(maxSteps:=999999) (disch:=omega) only[go_sem,Nat.reduceBEq,Nat.reduceAdd]
      refine caN (by exact kY) ?_;rintro _ h2 _ q2;obtain⟨v2,_,_,rfl,q2⟩:=q2.sl
      try simp(maxSteps:=999999) (disch:=omega) only[go_sem,Nat.reduceBEq,Nat.reduceAdd]
      refine caN (by exact Cmp_spec (q1.to (h':=h2)) q2) ?_;rintro v3 h3 s3 rfl
      try simp(maxSteps:=999999) (disch:=omega) only[go_sem,Nat.reduceBEq,Nat.reduceAdd,dc]
      refine caN (by exact EWaves_spec (f:=1) (q2.to (h':=h3)) lX.out (by decide) (by decide) hw (by omega)) ?_;rintro v4 h4 s4 ⟨x4,m4,c4,y4,n4,d4,rfl,q4,_⟩
      try simp(maxSteps:=999999) (disch:=omega) only[go_sem,Nat.reduceBEq,Nat.reduceAdd]
      refine caN (by exact Rational_spec (n:=w) (show N32 h4 _ (wvL gb w 1) from q4) kXL (by omega)) ?_;rintro v5 h5 s5 q5;obtain⟨_,_,_,_,_,_,_,rfl,q5⟩:=q5.sa
      try simp(maxSteps:=999999) (disch:=omega) only[go_sem,Nat.reduceBEq,Nat.reduceAdd]
      refine caN (by exact EWaves_spec (f:=1) (N32.zero h5) lN.out (by decide) (by decide) hw (by omega)) ?_;rintro v6 h6 s6 ⟨x6,m6,c6,y6,n6,d6,rfl,_,q6⟩
      try simp(maxSteps:=999999) (disch:=omega) only[go_sem,Nat.reduceBEq,Nat.reduceAdd]
      refine caN (by exact Rational_spec (n:=w) (show N32 h6 _ (wvH 0 w 1) from q6) kNH (by omega)) ?_;rintro v7 h7 s7 q7;obtain⟨_,_,_,_,_,_,_,rfl,q7⟩:=q7.sa
      try simp(maxSteps:=999999) (disch:=omega) only[go_sem,Nat.reduceBEq,Nat.reduceAdd]
      exact⟨_,_,_,_,_,_,_,_,_,_,_,_,_,_,rfl,q5.to,q7⟩
    · have dc:decide (cmp3 ga gb < 0)=false:=by rw[cm];exact decide_eq_false hab
      rw[show max ga gb=ga by omega]
      obtain⟨kXL,_⟩:=kW (y:=ga) hx
      obtain⟨_,kNH⟩:=kW (y:=0) (by omega)
      have lX:Hid (ga≤2^w):=⟨hx⟩
      have lN:Hid (0≤2^w):=⟨by omega⟩
      clear hx hy hab cm
      refine Spec.go [(1,.o [0,1,2,4,5,6,3,7,8,9])] Tryz.func95 rfl rfl (by kernel_rfl) fun C _=>?_
      try simp(maxSteps:=999999) (disch:=omega) only[go_sem,Nat.reduceBEq,Nat.reduceAdd]
      refine caN (by exact kX) ?_;rintro _ h1 _ q1;obtain⟨v1,_,_,rfl,q1⟩:=q1.sl
      try simp(maxSteps:=999999) (disch:=omega) only[go_sem,Nat.reduceBEq,Nat.reduceAdd]
      refine caN (by exact kY) ?_;rintro _ h2 _ q2;obtain⟨v2,_,_,rfl,q2⟩:=q2.sl
      try simp(maxSteps:=999999) (disch:=omega) only[go_sem,Nat.reduceBEq,Nat.reduceAdd]
      refine caN (by exact Cmp_spec (q1.to (h':=h2)) q2) ?_;rintro v3 h3 s3 rfl
      try simp(maxSteps:=999999) (disch:=omega) only[go_sem,Nat.reduceBEq,Nat.reduceAdd,dc]
      refine caN (by exact EWaves_spec (f:=1) (q1.to (h':=h3)) lX.out (by decide) (by decide) hw (by omega)) ?_;rintro v4 h4 s4 ⟨x4,m4,c4,y4,n4,d4,rfl,q4,_⟩
      try simp(maxSteps:=999999) (disch:=omega) only[go_sem,Nat.reduceBEq,Nat.reduceAdd]
      refine caN (by exact Rational_spec (n:=w) (show N32 h4 _ (wvL ga w 1) from q4) kXL (by omega)) ?_;rintro v5 h5 s5 q5;obtain⟨_,_,_,_,_,_,_,rfl,q5⟩:=q5.sa
      try simp(maxSteps:=999999) (disch:=omega) only[go_sem,Nat.reduceBEq,Nat.reduceAdd]
      refine caN (by exact EWaves_spec (f:=1) (N32.zero h5) lN.out (by decide) (by decide) hw (by omega)) ?_;rintro v6 h6 s6 ⟨x6,m6,c6,y6,n6,d6,rfl,_,q6⟩
      try simp(maxSteps:=999999) (disch:=omega) only[go_sem,Nat.reduceBEq,Nat.reduceAdd]
      refine caN (by exact Rational_spec (n:=w) (show N32 h6 _ (wvH 0 w 1) from q6) kNH (by omega)) ?_;rintro v7 h7 s7 q7;obtain⟨_,_,_,_,_,_,_,rfl,q7⟩:=q7.sa
      try simp(maxSteps:=999999) (disch:=omega) only[go_sem,Nat.reduceBEq,Nat.reduceAdd]
      exact⟨_,_,_,_,_,_,_,_,_,_,_,_,_,_,rfl,q5.to,q7⟩
  · by_cases hab:ga < gb
    · have dc:decide (cmp3 ga gb < 0)=true:=by rw[cm];exact decide_eq_true hab
      rw[show max ga gb=gb by omega]
      obtain⟨kXL,_⟩:=kW (y:=gb) hy
      obtain⟨_,kNH⟩:=kW (y:=0) (by omega)
      have lX:Hid (gb≤2^w):=⟨hy⟩
      have lN:Hid (0≤2^w):=⟨by omega⟩
      clear hx hy hab cm
      refine Spec.go [(1,.o [0,1,2,4,5,6,3,7,8,9])] Tryz.func95 rfl rfl (by kernel_rfl) fun C _=>?_
      try simp(maxSteps:=999999) (disch:=omega) only[go_sem,Nat.reduceBEq,Nat.reduceAdd]
      refine caN (by exact kX) ?_;rintro _ h1 _ q1;obtain⟨v1,_,_,rfl,q1⟩:=q1.sl
      try simp(maxSteps:=999999) (disch:=omega) only[go_sem,Nat.reduceBEq,Nat.reduceAdd]
      refine caN (by exact kY) ?_;rintro _ h2 _ q2;obtain⟨v2,_,_,rfl,q2⟩:=q2.sl
      try simp(maxSteps:=999999) (disch:=omega) only[go_sem,Nat.reduceBEq,Nat.reduceAdd]
      refine caN (by exact Cmp_spec (q1.to (h':=h2)) q2) ?_;rintro v3 h3 s3 rfl
      try simp(maxSteps:=999999) (disch:=omega) only[go_sem,Nat.reduceBEq,Nat.reduceAdd,dc,e1]
      refine caN (by exact EWaves_spec (f:=1) (q2.to (h':=h3)) lX.out (by decide) (by decide) hw (by omega)) ?_;rintro v4 h4 s4 ⟨x4,m4,c4,y4,n4,d4,rfl,q4,_⟩
      try simp(maxSteps:=999999) (disch:=omega) only[go_sem,Nat.reduceBEq,Nat.reduceAdd]
      refine caN (by exact Rational_spec (n:=w) (show N32 h4 _ (wvL gb w 1) from q4) kXL (by omega)) ?_;rintro v5 h5 s5 q5;obtain⟨_,_,_,_,_,_,_,rfl,q5⟩:=q5.sa
      try simp(maxSteps:=999999) (disch:=omega) only[go_sem,Nat.reduceBEq,Nat.reduceAdd]
      refine caN (by exact EWaves_spec (f:=1) (N32.zero h5) lN.out (by decide) (by decide) hw (by omega)) ?_;rintro v6 h6 s6 ⟨x6,m6,c6,y6,n6,d6,rfl,_,q6⟩
      try simp(maxSteps:=999999) (disch:=omega) only[go_sem,Nat.reduceBEq,Nat.reduceAdd]
      refine caN (by exact Rational_spec (n:=w) (show N32 h6 _ (wvH 0 w 1) from q6) kNH (by omega)) ?_;rintro v7 h7 s7 q7;obtain⟨_,_,_,_,_,_,_,rfl,q7⟩:=q7.sa
      try simp(maxSteps:=999999) (disch:=omega) only[go_sem,Nat.reduceBEq,Nat.reduceAdd]
      exact⟨_,_,_,_,_,_,_,_,_,_,_,_,_,_,rfl,q5.to,q7⟩
    · have dc:decide (cmp3 ga gb < 0)=false:=by rw[cm];exact decide_eq_false hab
      rw[show max ga gb=ga by omega]
      obtain⟨kXL,_⟩:=kW (y:=ga) hx
      obtain⟨_,kNH⟩:=kW (y:=0) (by omega)
      have lX:Hid (ga≤2^w):=⟨hx⟩
      have lN:Hid (0≤2^w):=⟨by omega⟩
      clear hx hy hab cm
      refine Spec.go [(1,.o [0,1,2,4,5,6,3,7,8,9])] Tryz.func95 rfl rfl (by kernel_rfl) fun C _=>?_
      try simp(maxSteps:=999999) (disch:=omega) only[go_sem,Nat.reduceBEq,Nat.reduceAdd]
      refine caN (by exact kX) ?_;rintro _ h1 _ q1;obtain⟨v1,_,_,rfl,q1⟩:=q1.sl
      try simp(maxSteps:=999999) (disch:=omega) only[go_sem,Nat.reduceBEq,Nat.reduceAdd]
      refine caN (by exact kY) ?_;rintro _ h2 _ q2;obtain⟨v2,_,_,rfl,q2⟩:=q2.sl
      try simp(maxSteps:=999999) (disch:=omega) only[go_sem,Nat.reduceBEq,Nat.reduceAdd]
      refine caN (by exact Cmp_spec (q1.to (h':=h2)) q2) ?_;rintro v3 h3 s3 rfl
      try simp(maxSteps:=999999) (disch:=omega) only[go_sem,Nat.reduceBEq,Nat.reduceAdd,dc,e1]
      refine caN (by exact EWaves_spec (f:=1) (q1.to (h':=h3)) lX.out (by decide) (by decide) hw (by omega)) ?_;rintro v4 h4 s4 ⟨x4,m4,c4,y4,n4,d4,rfl,q4,_⟩
      try simp(maxSteps:=999999) (disch:=omega) only[go_sem,Nat.reduceBEq,Nat.reduceAdd]
      refine caN (by exact Rational_spec (n:=w) (show N32 h4 _ (wvL ga w 1) from q4) kXL (by omega)) ?_;rintro v5 h5 s5 q5;obtain⟨_,_,_,_,_,_,_,rfl,q5⟩:=q5.sa
      try simp(maxSteps:=999999) (disch:=omega) only[go_sem,Nat.reduceBEq,Nat.reduceAdd]
      refine caN (by exact EWaves_spec (f:=1) (N32.zero h5) lN.out (by decide) (by decide) hw (by omega)) ?_;rintro v6 h6 s6 ⟨x6,m6,c6,y6,n6,d6,rfl,_,q6⟩
      try simp(maxSteps:=999999) (disch:=omega) only[go_sem,Nat.reduceBEq,Nat.reduceAdd]
      refine caN (by exact Rational_spec (n:=w) (show N32 h6 _ (wvH 0 w 1) from q6) kNH (by omega)) ?_;rintro v7 h7 s7 q7;obtain⟨_,_,_,_,_,_,_,rfl,q7⟩:=q7.sa
      try simp(maxSteps:=999999) (disch:=omega) only[go_sem,Nat.reduceBEq,Nat.reduceAdd]
      exact⟨_,_,_,_,_,_,_,_,_,_,_,_,_,_,rfl,q5.to,q7⟩
  · by_cases hab:ga < gb
    · have dc:decide (cmp3 ga gb < 0)=true:=by rw[cm];exact decide_eq_true hab
      rw[show max ga gb=gb by omega]
      obtain⟨kXL,_⟩:=kW (y:=gb) hy
      obtain⟨_,kNH⟩:=kW (y:=0) (by omega)
      have lX:Hid (gb≤2^w):=⟨hy⟩
      have lN:Hid (0≤2^w):=⟨by omega⟩
      clear hx hy hab cm
      refine Spec.go [(1,.o [0,1,2,4,5,6,3,7,8,9])] Tryz.func95 rfl rfl (by kernel_rfl) fun C _=>?_
      try simp(maxSteps:=999999) (disch:=omega) only[go_sem,Nat.reduceBEq,Nat.reduceAdd]
      refine caN (by exact kX) ?_;rintro _ h1 _ q1;obtain⟨v1,_,_,rfl,q1⟩:=q1.sl
      try simp(maxSteps:=999999) (disch:=omega) only[go_sem,Nat.reduceBEq,Nat.reduceAdd]
      refine caN (by exact kY) ?_;rintro _ h2 _ q2;obtain⟨v2,_,_,rfl,q2⟩:=q2.sl
      try simp(maxSteps:=999999) (disch:=omega) only[go_sem,Nat.reduceBEq,Nat.reduceAdd]
      refine caN (by exact Cmp_spec (q1.to (h':=h2)) q2) ?_;rintro v3 h3 s3 rfl
      try simp(maxSteps:=999999) (disch:=omega) only[go_sem,Nat.reduceBEq,Nat.reduceAdd,dc,e1,e2,Bool.not_true]
      refine caN (by exact EWaves_spec (f:=1) (q2.to (h':=h3)) lX.out (by decide) (by decide) hw (by omega)) ?_;rintro v4 h4 s4 ⟨x4,m4,c4,y4,n4,d4,rfl,q4,_⟩
      try simp(maxSteps:=999999) (disch:=omega) only[go_sem,Nat.reduceBEq,Nat.reduceAdd]
      refine caN (by exact Rational_spec (n:=w) (show N32 h4 _ (wvL gb w 1) from q4) kXL (by omega)) ?_;rintro v5 h5 s5 q5;obtain⟨_,_,_,_,_,_,_,rfl,q5⟩:=q5.sa
      try simp(maxSteps:=999999) (disch:=omega) only[go_sem,Nat.reduceBEq,Nat.reduceAdd]
      refine caN (by exact EWaves_spec (f:=1) (N32.zero h5) lN.out (by decide) (by decide) hw (by omega)) ?_;rintro v6 h6 s6 ⟨x6,m6,c6,y6,n6,d6,rfl,_,q6⟩
      try simp(maxSteps:=999999) (disch:=omega) only[go_sem,Nat.reduceBEq,Nat.reduceAdd]
      refine caN (by exact Rational_spec (n:=w) (show N32 h6 _ (wvH 0 w 1) from q6) kNH (by omega)) ?_;rintro v7 h7 s7 q7;obtain⟨_,_,_,_,_,_,_,rfl,q7⟩:=q7.sa
      try simp(maxSteps:=999999) (disch:=omega) only[go_sem,Nat.reduceBEq,Nat.reduceAdd]
      exact⟨_,_,_,_,_,_,_,_,_,_,_,_,_,_,rfl,q5.to,q7⟩
    · have dc:decide (cmp3 ga gb < 0)=false:=by rw[cm];exact decide_eq_false hab
      rw[show max ga gb=ga by omega]
      obtain⟨kXL,_⟩:=kW (y:=ga) hx
      obtain⟨_,kNH⟩:=kW (y:=0) (by omega)
      have lX:Hid (ga≤2^w):=⟨hx⟩
      have lN:Hid (0≤2^w):=⟨by omega⟩
      clear hx hy hab cm
      refine Spec.go [(1,.o [0,1,2,4,5,6,3,7,8,9])] Tryz.func95 rfl rfl (by kernel_rfl) fun C _=>?_
      try simp(maxSteps:=999999) (disch:=omega) only[go_sem,Nat.reduceBEq,Nat.reduceAdd]
      refine caN (by exact kX) ?_;rintro _ h1 _ q1;obtain⟨v1,_,_,rfl,q1⟩:=q1.sl
      try simp(maxSteps:=999999) (disch:=omega) only[go_sem,Nat.reduceBEq,Nat.reduceAdd]
      refine caN (by exact kY) ?_;rintro _ h2 _ q2;obtain⟨v2,_,_,rfl,q2⟩:=q2.sl
      try simp(maxSteps:=999999) (disch:=omega) only[go_sem,Nat.reduceBEq,Nat.reduceAdd]
      refine caN (by exact Cmp_spec (q1.to (h':=h2)) q2) ?_;rintro v3 h3 s3 rfl
      try simp(maxSteps:=999999) (disch:=omega) only[go_sem,Nat.reduceBEq,Nat.reduceAdd,dc,e1,e2,Bool.not_true]
      refine caN (by exact EWaves_spec (f:=1) (q1.to (h':=h3)) lX.out (by decide) (by decide) hw (by omega)) ?_;rintro v4 h4 s4 ⟨x4,m4,c4,y4,n4,d4,rfl,q4,_⟩
      try simp(maxSteps:=999999) (disch:=omega) only[go_sem,Nat.reduceBEq,Nat.reduceAdd]
      refine caN (by exact Rational_spec (n:=w) (show N32 h4 _ (wvL ga w 1) from q4) kXL (by omega)) ?_;rintro v5 h5 s5 q5;obtain⟨_,_,_,_,_,_,_,rfl,q5⟩:=q5.sa
      try simp(maxSteps:=999999) (disch:=omega) only[go_sem,Nat.reduceBEq,Nat.reduceAdd]
      refine caN (by exact EWaves_spec (f:=1) (N32.zero h5) lN.out (by decide) (by decide) hw (by omega)) ?_;rintro v6 h6 s6 ⟨x6,m6,c6,y6,n6,d6,rfl,_,q6⟩
      try simp(maxSteps:=999999) (disch:=omega) only[go_sem,Nat.reduceBEq,Nat.reduceAdd]
      refine caN (by exact Rational_spec (n:=w) (show N32 h6 _ (wvH 0 w 1) from q6) kNH (by omega)) ?_;rintro v7 h7 s7 q7;obtain⟨_,_,_,_,_,_,_,rfl,q7⟩:=q7.sa
      try simp(maxSteps:=999999) (disch:=omega) only[go_sem,Nat.reduceBEq,Nat.reduceAdd]
      exact⟨_,_,_,_,_,_,_,_,_,_,_,_,_,_,rfl,q5.to,q7⟩
  · by_cases hab:ga < gb
    · have dc:decide (cmp3 ga gb < 0)=true:=by rw[cm];exact decide_eq_true hab
      rw[show max ga gb=gb by omega]
      rw[show min ga gb=ga by omega]
      obtain⟨kXL,_⟩:=kW (y:=gb) hy
      obtain⟨_,kNH⟩:=kW (y:=ga) (by omega)
      have lX:Hid (gb≤2^w):=⟨hy⟩
      have lN:Hid (ga≤2^w):=⟨by omega⟩
      clear hx hy hab cm
      refine Spec.go [(1,.o [0,1,2,4,5,6,3,7,8,9])] Tryz.func95 rfl rfl (by kernel_rfl) fun C _=>?_
      try simp(maxSteps:=999999) (disch:=omega) only[go_sem,Nat.reduceBEq,Nat.reduceAdd]
      refine caN (by exact kX) ?_;rintro _ h1 _ q1;obtain⟨v1,_,_,rfl,q1⟩:=q1.sl
      try simp(maxSteps:=999999) (disch:=omega) only[go_sem,Nat.reduceBEq,Nat.reduceAdd]
      refine caN (by exact kY) ?_;rintro _ h2 _ q2;obtain⟨v2,_,_,rfl,q2⟩:=q2.sl
      try simp(maxSteps:=999999) (disch:=omega) only[go_sem,Nat.reduceBEq,Nat.reduceAdd]
      refine caN (by exact Cmp_spec (q1.to (h':=h2)) q2) ?_;rintro v3 h3 s3 rfl
      try simp(maxSteps:=999999) (disch:=omega) only[go_sem,Nat.reduceBEq,Nat.reduceAdd,dc,e1,e2,Bool.not_true]
      refine caN (by exact EWaves_spec (f:=1) (q2.to (h':=h3)) lX.out (by decide) (by decide) hw (by omega)) ?_;rintro v4 h4 s4 ⟨x4,m4,c4,y4,n4,d4,rfl,q4,_⟩
      try simp(maxSteps:=999999) (disch:=omega) only[go_sem,Nat.reduceBEq,Nat.reduceAdd]
      refine caN (by exact Rational_spec (n:=w) (show N32 h4 _ (wvL gb w 1) from q4) kXL (by omega)) ?_;rintro v5 h5 s5 q5;obtain⟨_,_,_,_,_,_,_,rfl,q5⟩:=q5.sa
      try simp(maxSteps:=999999) (disch:=omega) only[go_sem,Nat.reduceBEq,Nat.reduceAdd]
      refine caN (by exact EWaves_spec (f:=1) (q1.to (h':=h5)) lN.out (by decide) (by decide) hw (by omega)) ?_;rintro v6 h6 s6 ⟨x6,m6,c6,y6,n6,d6,rfl,_,q6⟩
      try simp(maxSteps:=999999) (disch:=omega) only[go_sem,Nat.reduceBEq,Nat.reduceAdd]
      refine caN (by exact Rational_spec (n:=w) (show N32 h6 _ (wvH ga w 1) from q6) kNH (by omega)) ?_;rintro v7 h7 s7 q7;obtain⟨_,_,_,_,_,_,_,rfl,q7⟩:=q7.sa
      try simp(maxSteps:=999999) (disch:=omega) only[go_sem,Nat.reduceBEq,Nat.reduceAdd]
      exact⟨_,_,_,_,_,_,_,_,_,_,_,_,_,_,rfl,q5.to,q7⟩
    · have dc:decide (cmp3 ga gb < 0)=false:=by rw[cm];exact decide_eq_false hab
      rw[show max ga gb=ga by omega]
      rw[show min ga gb=gb by omega]
      obtain⟨kXL,_⟩:=kW (y:=ga) hx
      obtain⟨_,kNH⟩:=kW (y:=gb) (by omega)
      have lX:Hid (ga≤2^w):=⟨hx⟩
      have lN:Hid (gb≤2^w):=⟨by omega⟩
      clear hx hy hab cm
      refine Spec.go [(1,.o [0,1,2,4,5,6,3,7,8,9])] Tryz.func95 rfl rfl (by kernel_rfl) fun C _=>?_
      try simp(maxSteps:=999999) (disch:=omega) only[go_sem,Nat.reduceBEq,Nat.reduceAdd]
      refine caN (by exact kX) ?_;rintro _ h1 _ q1;obtain⟨v1,_,_,rfl,q1⟩:=q1.sl
      try simp(maxSteps:=999999) (disch:=omega) only[go_sem,Nat.reduceBEq,Nat.reduceAdd]
      refine caN (by exact kY) ?_;rintro _ h2 _ q2;obtain⟨v2,_,_,rfl,q2⟩:=q2.sl
      try simp(maxSteps:=999999) (disch:=omega) only[go_sem,Nat.reduceBEq,Nat.reduceAdd]
      refine caN (by exact Cmp_spec (q1.to (h':=h2)) q2) ?_;rintro v3 h3 s3 rfl
      try simp(maxSteps:=999999) (disch:=omega) only[go_sem,Nat.reduceBEq,Nat.reduceAdd,dc,e1,e2,Bool.not_true]
      refine caN (by exact EWaves_spec (f:=1) (q1.to (h':=h3)) lX.out (by decide) (by decide) hw (by omega)) ?_;rintro v4 h4 s4 ⟨x4,m4,c4,y4,n4,d4,rfl,q4,_⟩
      try simp(maxSteps:=999999) (disch:=omega) only[go_sem,Nat.reduceBEq,Nat.reduceAdd]
      refine caN (by exact Rational_spec (n:=w) (show N32 h4 _ (wvL ga w 1) from q4) kXL (by omega)) ?_;rintro v5 h5 s5 q5;obtain⟨_,_,_,_,_,_,_,rfl,q5⟩:=q5.sa
      try simp(maxSteps:=999999) (disch:=omega) only[go_sem,Nat.reduceBEq,Nat.reduceAdd]
      refine caN (by exact EWaves_spec (f:=1) (q2.to (h':=h5)) lN.out (by decide) (by decide) hw (by omega)) ?_;rintro v6 h6 s6 ⟨x6,m6,c6,y6,n6,d6,rfl,_,q6⟩
      try simp(maxSteps:=999999) (disch:=omega) only[go_sem,Nat.reduceBEq,Nat.reduceAdd]
      refine caN (by exact Rational_spec (n:=w) (show N32 h6 _ (wvH gb w 1) from q6) kNH (by omega)) ?_;rintro v7 h7 s7 q7;obtain⟨_,_,_,_,_,_,_,rfl,q7⟩:=q7.sa
      try simp(maxSteps:=999999) (disch:=omega) only[go_sem,Nat.reduceBEq,Nat.reduceAdd]
      exact⟨_,_,_,_,_,_,_,_,_,_,_,_,_,_,rfl,q5.to,q7⟩
  · by_cases hab:ga < gb
    · have dc:decide (cmp3 ga gb < 0)=true:=by rw[cm];exact decide_eq_true hab
      rw[show max ga gb=gb by omega]
      rw[show min ga gb=ga by omega]
      obtain⟨kXL,_⟩:=kW (y:=gb) hy
      obtain⟨_,kNH⟩:=kW (y:=ga) (by omega)
      have lX:Hid (gb≤2^w):=⟨hy⟩
      have lN:Hid (ga≤2^w):=⟨by omega⟩
      clear hx hy hab cm
      refine Spec.go [(1,.o [0,1,2,4,5,6,3,7,8,9])] Tryz.func95 rfl rfl (by kernel_rfl) fun C _=>?_
      try simp(maxSteps:=999999) (disch:=omega) only[go_sem,Nat.reduceBEq,Nat.reduceAdd]
      refine caN (by exact kX) ?_;rintro _ h1 _ q1;obtain⟨v1,_,_,rfl,q1⟩:=q1.sl
      try simp(maxSteps:=999999) (disch:=omega) only[go_sem,Nat.reduceBEq,Nat.reduceAdd]
      refine caN (by exact kY) ?_;rintro _ h2 _ q2;obtain⟨v2,_,_,rfl,q2⟩:=q2.sl
      try simp(maxSteps:=999999) (disch:=omega) only[go_sem,Nat.reduceBEq,Nat.reduceAdd]
      refine caN (by exact Cmp_spec (q1.to (h':=h2)) q2) ?_;rintro v3 h3 s3 rfl
      try simp(maxSteps:=999999) (disch:=omega) only[go_sem,Nat.reduceBEq,Nat.reduceAdd,dc,e1,e2,Bool.not_true]
      refine caN (by exact EWaves_spec (f:=1) (q2.to (h':=h3)) lX.out (by decide) (by decide) hw (by omega)) ?_;rintro v4 h4 s4 ⟨x4,m4,c4,y4,n4,d4,rfl,q4,_⟩
      try simp(maxSteps:=999999) (disch:=omega) only[go_sem,Nat.reduceBEq,Nat.reduceAdd]
      refine caN (by exact Rational_spec (n:=w) (show N32 h4 _ (wvL gb w 1) from q4) kXL (by omega)) ?_;rintro v5 h5 s5 q5;obtain⟨_,_,_,_,_,_,_,rfl,q5⟩:=q5.sa
      try simp(maxSteps:=999999) (disch:=omega) only[go_sem,Nat.reduceBEq,Nat.reduceAdd]
      refine caN (by exact EWaves_spec (f:=1) (q1.to (h':=h5)) lN.out (by decide) (by decide) hw (by omega)) ?_;rintro v6 h6 s6 ⟨x6,m6,c6,y6,n6,d6,rfl,_,q6⟩
      try simp(maxSteps:=999999) (disch:=omega) only[go_sem,Nat.reduceBEq,Nat.reduceAdd]
      refine caN (by exact Rational_spec (n:=w) (show N32 h6 _ (wvH ga w 1) from q6) kNH (by omega)) ?_;rintro v7 h7 s7 q7;obtain⟨_,_,_,_,_,_,_,rfl,q7⟩:=q7.sa
      try simp(maxSteps:=999999) (disch:=omega) only[go_sem,Nat.reduceBEq,Nat.reduceAdd]
      exact⟨_,_,_,_,_,_,_,_,_,_,_,_,_,_,rfl,q5.to,q7⟩
    · have dc:decide (cmp3 ga gb < 0)=false:=by rw[cm];exact decide_eq_false hab
      rw[show max ga gb=ga by omega]
      rw[show min ga gb=gb by omega]
      obtain⟨kXL,_⟩:=kW (y:=ga) hx
      obtain⟨_,kNH⟩:=kW (y:=gb) (by omega)
      have lX:Hid (ga≤2^w):=⟨hx⟩
      have lN:Hid (gb≤2^w):=⟨by omega⟩
      clear hx hy hab cm
      refine Spec.go [(1,.o [0,1,2,4,5,6,3,7,8,9])] Tryz.func95 rfl rfl (by kernel_rfl) fun C _=>?_
      try simp(maxSteps:=999999) (disch:=omega) only[go_sem,Nat.reduceBEq,Nat.reduceAdd]
      refine caN (by exact kX) ?_;rintro _ h1 _ q1;obtain⟨v1,_,_,rfl,q1⟩:=q1.sl
      try simp(maxSteps:=999999) (disch:=omega) only[go_sem,Nat.reduceBEq,Nat.reduceAdd]
      refine caN (by exact kY) ?_;rintro _ h2 _ q2;obtain⟨v2,_,_,rfl,q2⟩:=q2.sl
      try simp(maxSteps:=999999) (disch:=omega) only[go_sem,Nat.reduceBEq,Nat.reduceAdd]
      refine caN (by exact Cmp_spec (q1.to (h':=h2)) q2) ?_;rintro v3 h3 s3 rfl
      try simp(maxSteps:=999999) (disch:=omega) only[go_sem,Nat.reduceBEq,Nat.reduceAdd,dc,e1,e2,Bool.not_true]
      refine caN (by exact EWaves_spec (f:=1) (q1.to (h':=h3)) lX.out (by decide) (by decide) hw (by omega)) ?_;rintro v4 h4 s4 ⟨x4,m4,c4,y4,n4,d4,rfl,q4,_⟩
      try simp(maxSteps:=999999) (disch:=omega) only[go_sem,Nat.reduceBEq,Nat.reduceAdd]
      refine caN (by exact Rational_spec (n:=w) (show N32 h4 _ (wvL ga w 1) from q4) kXL (by omega)) ?_;rintro v5 h5 s5 q5;obtain⟨_,_,_,_,_,_,_,rfl,q5⟩:=q5.sa
      try simp(maxSteps:=999999) (disch:=omega) only[go_sem,Nat.reduceBEq,Nat.reduceAdd]
      refine caN (by exact EWaves_spec (f:=1) (q2.to (h':=h5)) lN.out (by decide) (by decide) hw (by omega)) ?_;rintro v6 h6 s6 ⟨x6,m6,c6,y6,n6,d6,rfl,_,q6⟩
      try simp(maxSteps:=999999) (disch:=omega) only[go_sem,Nat.reduceBEq,Nat.reduceAdd]
      refine caN (by exact Rational_spec (n:=w) (show N32 h6 _ (wvH gb w 1) from q6) kNH (by omega)) ?_;rintro v7 h7 s7 q7;obtain⟨_,_,_,_,_,_,_,rfl,q7⟩:=q7.sa
      try simp(maxSteps:=999999) (disch:=omega) only[go_sem,Nat.reduceBEq,Nat.reduceAdd]
      exact⟨_,_,_,_,_,_,_,_,_,_,_,_,_,_,rfl,q5.to,q7⟩
end Go.Q
namespace Go.Q
open Go.Proofs
set_option maxRecDepth 100000
set_option maxHeartbeats 8000000
theorem EModulo_spec {h0 h:PH} [Le h0 h] {v:Value} {z:Int} (hv:Cn h0 v (z:Rat)) (hz:z.natAbs < 4294967296):Spec mach 127 #[v] h (fun r _=>r=.int .i64 (z % 4)) NP:=by
  have en:((z:Rat)).num=z:=Rat.num_intCast z
  obtain⟨na,nl,nc,da,dl,dc,rfl,hn,_,e1,_⟩:=hv.parts
  rw[en] at hn ⊢
  clear hv
  by_cases hz0:z=0
  · subst hz0
    have e3:((nl:Int) == 0)=true:=by simp[e1.2 rfl]
    refine Spec.go [] Tryz.func127 rfl rfl (by kernel_rfl) fun C _=>?_
    try simp(disch:=omega) only[go_sem,Nat.reduceBEq,Nat.reduceAdd,e3]
    all_goals rfl
  · have hnl:nl≠0:=fun c=>hz0 ((Rat.intCast_inj (a:=z) (b:=0)).1 (e1.1 c))
    have e3:((nl:Int) == 0)=false:=by simp;omega
    obtain⟨m,em⟩:∃m,z.natAbs=m:=⟨_,rfl⟩
    rw[em] at hn hz
    have m0:m≠0:=by omega
    obtain⟨ad,rfl,rfl,hat⟩:=hn.one m0 hz
    have hat:=Sub.at (Le.sub (a:=h0) (b:=h)) hat
    have m4:m % 4 < 4:=Nat.mod_lt _ (by decide)
    by_cases hs:z < 0
    · have em4:(4 - ((m % 4:Nat):Int)).tmod 4=z % 4:=by
        rw[Int.tmod_eq_emod_of_nonneg (by omega)]
        omega
      rw[decide_eq_true hs]
      clear em e1 hn hnl
      refine Spec.go [] Tryz.func127 rfl rfl (by kernel_rfl) fun C _=>?_
      try simp(disch:=omega) only[go_sem,Nat.reduceBEq,Nat.reduceAdd,e3]
      refine ld1_of hat ?_
      try simp(disch:=omega) only[go_sem,Nat.reduceBEq,Nat.reduceAdd]
      rw[em4]
    · have em4:((m % 4:Nat):Int)=z % 4:=by omega
      rw[decide_eq_false hs]
      clear em e1 hn hnl
      refine Spec.go [] Tryz.func127 rfl rfl (by kernel_rfl) fun C _=>?_
      try simp(disch:=omega) only[go_sem,Nat.reduceBEq,Nat.reduceAdd,e3]
      refine ld1_of hat ?_
      try simp(disch:=omega) only[go_sem,Nat.reduceBEq,Nat.reduceAdd]
      rw[em4]
theorem half_rv {h:PH} {b c:Nat} (hb:h b=some #[.int .u32 1]) (hc:h c=some #[.int .u32 2]):Rv h (.agg #[.bool false,.slice (some ⟨b,0,none⟩) 1 1,.slice (some ⟨c,0,none⟩) 1 1]) (1 / 2):=by
  have e:qof false 1 2=1 / 2:=by decide+kernel
  refine⟨false,1,2,⟨some ⟨b,0,none⟩,1,[1],some ⟨c,0,none⟩,1,[2],rfl,Arr.of_row (fun _=>hb) (by decide) (by decide) (by decide),Arr.of_row (fun _=>hc) (by decide) (by decide) (by decide),rfl,rfl,by decide,by decide⟩,?_,e⟩
  unfold lg
  rw[e]
  decide+kernel
theorem ERest1_spec {h0 h:PH} [Le h0 h] {bk bx:Nat} {n1 n2:Bool} {na da nb db:Option Addr} {nl nc dl dc ml mc el ec:Nat} {v:Value} {k x c:Rat} (hk:h0 bk=some #[.bool n1,.slice na nl nc,.slice da dl dc]) (hx:h0 bx=some #[.bool n2,.slice nb ml mc,.slice db el ec])
    (ck:Cn h0 (.agg #[.bool n1,.slice na nl nc,.slice da dl dc]) k) (cx:Cn h0 (.agg #[.bool n2,.slice nb ml mc,.slice db el ec]) x) (cc:Cn h0 v c) (sk:sz k≤2048) (sx:sz x≤2048) (sc:sz c≤2048) (s1:sz (k*c)≤2048) (s2:sz (x+ -(k*c))≤2048):
    Spec mach 126 #[v,.pointer (some ⟨bk,0,none⟩),.pointer (some ⟨bx,0,none⟩)] h (fun r h'=>Cn h' r (x+ -(k*c))) NP:=by
  obtain⟨_,_,_,_,_,_,_,rfl,cc⟩:=cc.sa
  refine Spec.go [] Tryz.func126 rfl rfl (by kernel_rfl) fun C _=>?_
  try simp(disch:=omega) only[go_sem,Nat.reduceBEq,Nat.reduceAdd]
  refine ldm_of [.bool n1,.slice na nl nc,.slice da dl dc] rfl (at_rowB (pub_to hk)) ?_
  try simp(disch:=omega) only[go_sem,Nat.reduceBEq,Nat.reduceAdd]
  refine caN (by exact NumMul (Rv.of (ck.to (h':=h)) sk) (Rv.of cc.to sc)) ?_;rintro v1 h1 s1' p1;obtain⟨_,_,_,_,_,_,_,rfl,q1⟩:=p1.ok s1
  try simp(disch:=omega) only[go_sem,Nat.reduceBEq,Nat.reduceAdd]
  refine ldm_of [.bool n2,.slice nb ml mc,.slice db el ec] rfl (at_rowB (pub_to hx)) ?_
  try simp(disch:=omega) only[go_sem,Nat.reduceBEq,Nat.reduceAdd]
  refine caN (by exact NumSub (Rv.of (cx.to (h':=h1)) sx) (Rv.of q1 s1)) ?_;rintro v2 h2 s2' p2;obtain⟨_,_,_,_,_,_,_,rfl,q2⟩:=p2.ok s2
  try simp(disch:=omega) only[go_sem,Nat.reduceBEq,Nat.reduceAdd]
  exact q2
theorem fW_sz {w:Nat}:sz (fW w)≤w+6∧sz (gW w)≤w+6:=by
  obtain⟨b1,b2⟩:=bl_pi (w:=w)
  have h1:=sz_sgn false (piL w) (pow2_ne (w+1))
  have h2:=sz_sgn false (piH w) (pow2_ne (w+1))
  have h3:=bl_pow2 (w+1)
  unfold fW gW
  omega
theorem sz_k {z:Int} (h:z.natAbs < 4294967296):sz (z:Rat)≤32:=by
  have:=sz_int z
  have:bl z.natAbs≤32:=bl_le.2 (by omega)
  omega
theorem ERest_spec {h0 h:PH} [Le h0 h] {v:Value} {x:Rat} {w:Nat} (hx:Cn h0 v x) (bx:sz x≤1024) (hb:¬x.den*4294967296 < x.num.natAbs) (hw:64≤w) (hw':w≤192):
    Spec mach 93 #[v,.int .i64 w] h (fun r h'=>∃s,r=.tuple #[s,.int .i64 (rsK x w % 4)]∧Bk h' s (rsA x w) (rsB x w)) NP:=by
  obtain⟨a1,a2,a3,_⟩:=fW_bd hw hw'
  have f0:fW w≠0:=by grind
  obtain⟨k1,k2⟩:=rsK_bd hw hw' (num_bd hb)
  obtain⟨sf,sg⟩:=fW_sz (w:=w)
  have hK:rsK x w=(x*(fW w)⁻¹+1 / 2).floor:=rfl
  have s1:sz (x*(fW w)⁻¹)≤2048:=by have:=sz_mul x (fW w)⁻¹;have:=sz_inv (fW w);omega
  have s2:sz (x*(fW w)⁻¹+1 / 2)≤2048:=by
    have:=sz_add (x*(fW w)⁻¹) (1 / 2)
    have:sz (1 / 2)≤2:=by decide+kernel
    have:=sz_mul x (fW w)⁻¹
    have:=sz_inv (fW w)
    omega
  have hz:(rsK x w).natAbs < 4294967296:=by omega
  have sk:=sz_k hz
  have m1:=sz_mul (rsK x w:Rat) (fW w)
  have m2:=sz_mul (rsK x w:Rat) (gW w)
  have m3:=sz_add x (-((rsK x w:Rat)*fW w))
  have m4:=sz_add x (-((rsK x w:Rat)*gW w))
  rw[sz_neg] at m3 m4
  have m5:=sz_gd (x+ -((rsK x w:Rat)*fW w)) w
  have m6:=sz_gd (x+ -((rsK x w:Rat)*gW w)) w
  have m7:=sz_gu (x+ -((rsK x w:Rat)*fW w)) w
  have m8:=sz_gu (x+ -((rsK x w:Rat)*gW w)) w
  have eA:rsA x w=gdown (x+ -((rsK x w:Rat)*(if rsK x w < 0 then fW w else gW w))) w:=rfl
  have eB:rsB x w=gup (x+ -((rsK x w:Rat)*(if rsK x w < 0 then gW w else fW w))) w:=rfl
  rw[eA,eB]
  have en:((rsK x w:Rat)).num=rsK x w:=Rat.num_intCast _
  rw[←hK] at*
  have kF:∀{h1 h:PH} {q:Value} [Le h1 h],Cn h1 q (x*(fW w)⁻¹+1 / 2)→Spec mach 125 #[q] h (fun r h'=>∃b na nl nc da dl dc,r=.tuple #[.agg #[.bool b,.slice na nl nc,.slice da dl dc],.int .i64 0]∧Cn h' (.agg #[.bool b,.slice na nl nc,.slice da dl dc]) ((rsK x w:Int):Rat)) NP:=by
    intro h1 h q _ hq
    exact(NumFloor (Rv.of hq s2)).mono (fun r h' _ k=>Nc.ok k (show sz (rsK x w:Rat)≤2048 by omega)) (fun _ _ _ k=>k)
  clear eA eB hK a1 a2 a3 k1 k2 hb
  generalize rsK x w=z at*
  obtain⟨na,nl,nc,da,dl,dc,rfl,_,_,_,_⟩:=hx.parts
  have sq1:=Hid.mk s1
  have sq2:=Hid.mk s2
  have hz:=Hid.mk hz
  clear s1 s2
  generalize decide (x.num < 0)=nx at*
  have hbig:¬z < 0∨z < 0:=by omega
  have F:=Hid.mk (And.intro bx (And.intro sf (And.intro sg (And.intro sk (And.intro m1 (And.intro m2 (And.intro m3 (And.intro m4 (And.intro m5 (And.intro m6 (And.intro m7 m8)))))))))));clear bx sf sg sk m1 m2 m3 m4 m5 m6 m7 m8
  rcases hbig with hs |hs
  · simp only[if_neg hs]
    refine Spec.go [(2,.h [] [] [10,11] [10,11,0,1,2,3,5,6,7,8,4,9,12,13]),(6,.h [] [(7,11)] [2,3] [2,3,0,1,4,5]),(8,.h [(8,11)] [] [] [0,1,2,3]),(4,.t (.s [0,1,2] (.p 6 (.p 7 (.s [3,4,5,6,7,8] .d))))),(9,.t (.p 5 (.p 0 (.s [0,1] .d))))] Tryz.func93 rfl rfl (by kernel_rfl) fun C _=>?_
    try simp(disch:=omega) only[go_sem,Nat.reduceBEq,Nat.reduceAdd]
    refine caN (by exact EPi_spec (w:=w) (by have:=F.out;omega) (by have:=F.out;omega)) ?_;rintro v1 h1 s1 ⟨x1,n1,c1,y1,l1,d1,rfl,q1,q2⟩
    try simp(disch:=omega) only[go_sem,Nat.reduceBEq,Nat.reduceAdd]
    refine caN (by exact Rational_spec (n:=w+1) q1 (by have:=(bl_pi (w:=w)).1;omega) (by have:=F.out;omega)) ?_;rintro v2 h2 s2 q3;obtain⟨f1,f2,f3,f4,f5,f6,f7,rfl,q3⟩:=q3.sa
    try simp(disch:=omega) only[go_sem,Nat.reduceBEq,Nat.reduceAdd]
    refine caN (by exact Rational_spec (n:=w+1) (q2.to (h':=h2)) (by have:=(bl_pi (w:=w)).2;omega) (by have:=F.out;omega)) ?_;rintro v3 h3 s3 q4;obtain⟨g1,g2,g3,g4,g5,g6,g7,rfl,q4⟩:=q4.sa
    try simp(disch:=omega) only[go_sem,Nat.reduceBEq,Nat.reduceAdd]
    have q3:Cn h2 _ (fW w):=q3
    have q4:Cn h3 _ (gW w):=q4
    refine caN (by exact NumDiv (Rv.of (hx.to (h':=h3)) (by have:=F.out;omega)) (Rv.of (q3.to (h':=h3)) (by have:=F.out;omega)) f0) ?_;rintro v4 h4 s4 p4;obtain⟨_,_,_,_,_,_,_,rfl,q5⟩:=p4.ok sq1.out
    try simp(disch:=omega) only[go_sem,Nat.reduceBEq,Nat.reduceAdd]
    intro b5 h5 s5 hb5
    try simp(disch:=omega) only[go_sem,Nat.reduceBEq,Nat.reduceAdd]
    have hb5:h5 b5=some #[.int .u32 1]:=hb5 (by simp[uw])
    try simp(disch:=omega) only[go_sem,Nat.reduceBEq,Nat.reduceAdd]
    intro b6 h6 s6 hb6
    try simp(disch:=omega) only[go_sem,Nat.reduceBEq,Nat.reduceAdd]
    have hb6:h6 b6=some #[.int .u32 2]:=hb6 (by simp[uw])
    try simp(disch:=omega) only[go_sem,Nat.reduceBEq,Nat.reduceAdd]
    refine caN (by exact NumAdd (Rv.of (q5.to (h':=h6)) sq1.out) (half_rv (pub_to hb5) hb6)) ?_;rintro v7 h7 s7 p7;obtain⟨_,_,_,_,_,_,_,rfl,q7⟩:=p7.ok sq2.out
    try simp(disch:=omega) only[go_sem,Nat.reduceBEq,Nat.reduceAdd]
    refine caN (by exact kF q7) ?_;rintro v8 h8 s8 ⟨k1,k2,k3,k4,k5,k6,k7,rfl,q8⟩
    try simp(disch:=omega) only[go_sem,Nat.reduceBEq,Nat.reduceAdd]
    obtain⟨_,_,_,_,_,_,e,_,_,_,_⟩:=q8.parts
    cases e
    rw[en,decide_eq_false hs] at q8
    try simp(disch:=omega) only[go_sem,Nat.reduceBEq,Nat.reduceAdd,en,decide_eq_false hs]
    intro bk h9 s9 hbk
    try simp(disch:=omega) only[go_sem,Nat.reduceBEq,Nat.reduceAdd]
    have hbk:h9 bk=some #[.bool false,.slice k2 k3 k4,.slice k5 k6 k7]:=hbk (by simp)
    try simp(disch:=omega) only[go_sem,Nat.reduceBEq,Nat.reduceAdd]
    intro bx h10 s10 hbx
    try simp(disch:=omega) only[go_sem,Nat.reduceBEq,Nat.reduceAdd]
    have hbx:h10 bx=some #[.bool nx,.slice na nl nc,.slice da dl dc]:=hbx (by simp)
    try simp(disch:=omega) only[go_sem,Nat.reduceBEq,Nat.reduceAdd]
    refine caN (by exact ERest1_spec (h0:=h10) (pub_to hbk) hbx q8.to hx.to (q4.to (h':=h10)) (by have:=F.out;omega) (by have:=F.out;omega) (by have:=F.out;omega) (by have:=F.out;omega) (by have:=F.out;omega)) ?_;rintro v11 h11 s11 q11;obtain⟨_,_,_,_,_,_,_,rfl,q11⟩:=q11.sa
    try simp(disch:=omega) only[go_sem,Nat.reduceBEq,Nat.reduceAdd]
    refine caN (by exact NumDn (p:=w) (Rv.of q11 (by have:=F.out;omega)) (by have:=F.out;omega)) ?_;rintro v12 h12 s12 p12;obtain⟨_,_,_,_,_,_,_,rfl,q12⟩:=p12.ok (by have:=F.out;omega)
    try simp(disch:=omega) only[go_sem,Nat.reduceBEq,Nat.reduceAdd]
    refine caN (by exact ERest1_spec (h0:=h12) (pub_to hbk) (pub_to hbx) q8.to hx.to (q3.to (h':=h12)) (by have:=F.out;omega) (by have:=F.out;omega) (by have:=F.out;omega) (by have:=F.out;omega) (by have:=F.out;omega)) ?_;rintro v13 h13 s13 q13;obtain⟨_,_,_,_,_,_,_,rfl,q13⟩:=q13.sa
    try simp(disch:=omega) only[go_sem,Nat.reduceBEq,Nat.reduceAdd]
    refine caN (by exact NumUpw (p:=w) (Rv.of q13 (by have:=F.out;omega)) (by have:=F.out;omega)) ?_;rintro v14 h14 s14 p14;obtain⟨_,_,_,_,_,_,_,rfl,q14⟩:=p14.ok (by have:=F.out;omega)
    try simp(disch:=omega) only[go_sem,Nat.reduceBEq,Nat.reduceAdd]
    refine ldm_of [.bool false,.slice k2 k3 k4,.slice k5 k6 k7] rfl (at_rowB (pub_to hbk)) ?_
    try simp(disch:=omega) only[go_sem,Nat.reduceBEq,Nat.reduceAdd]
    refine caN (by exact EModulo_spec (q8.to (h':=h14)) hz.out) ?_;rintro v15 h15 s15 rfl
    try simp(disch:=omega) only[go_sem,Nat.reduceBEq,Nat.reduceAdd]
    exact⟨_,rfl,_,_,_,_,_,_,_,_,_,_,_,_,_,_,rfl,q12.to,q14.to⟩
  · simp only[if_pos hs]
    refine Spec.go [(2,.h [] [] [10,11] [10,11,0,1,2,3,5,6,7,8,4,9,12,13]),(6,.h [] [(7,11)] [2,3] [2,3,0,1,4,5]),(8,.h [(8,11)] [] [] [0,1,2,3]),(4,.t (.s [0,1,2] (.p 6 (.p 7 (.s [3,4,5,6,7,8] .d))))),(9,.t (.p 5 (.p 0 (.s [0,1] .d))))] Tryz.func93 rfl rfl (by kernel_rfl) fun C _=>?_
    try simp(disch:=omega) only[go_sem,Nat.reduceBEq,Nat.reduceAdd]
    refine caN (by exact EPi_spec (w:=w) (by have:=F.out;omega) (by have:=F.out;omega)) ?_;rintro v1 h1 s1 ⟨x1,n1,c1,y1,l1,d1,rfl,q1,q2⟩
    try simp(disch:=omega) only[go_sem,Nat.reduceBEq,Nat.reduceAdd]
    refine caN (by exact Rational_spec (n:=w+1) q1 (by have:=(bl_pi (w:=w)).1;omega) (by have:=F.out;omega)) ?_;rintro v2 h2 s2 q3;obtain⟨f1,f2,f3,f4,f5,f6,f7,rfl,q3⟩:=q3.sa
    try simp(disch:=omega) only[go_sem,Nat.reduceBEq,Nat.reduceAdd]
    refine caN (by exact Rational_spec (n:=w+1) (q2.to (h':=h2)) (by have:=(bl_pi (w:=w)).2;omega) (by have:=F.out;omega)) ?_;rintro v3 h3 s3 q4;obtain⟨g1,g2,g3,g4,g5,g6,g7,rfl,q4⟩:=q4.sa
    try simp(disch:=omega) only[go_sem,Nat.reduceBEq,Nat.reduceAdd]
    have q3:Cn h2 _ (fW w):=q3
    have q4:Cn h3 _ (gW w):=q4
    refine caN (by exact NumDiv (Rv.of (hx.to (h':=h3)) (by have:=F.out;omega)) (Rv.of (q3.to (h':=h3)) (by have:=F.out;omega)) f0) ?_;rintro v4 h4 s4 p4;obtain⟨_,_,_,_,_,_,_,rfl,q5⟩:=p4.ok sq1.out
    try simp(disch:=omega) only[go_sem,Nat.reduceBEq,Nat.reduceAdd]
    intro b5 h5 s5 hb5
    try simp(disch:=omega) only[go_sem,Nat.reduceBEq,Nat.reduceAdd]
    have hb5:h5 b5=some #[.int .u32 1]:=hb5 (by simp[uw])
    try simp(disch:=omega) only[go_sem,Nat.reduceBEq,Nat.reduceAdd]
    intro b6 h6 s6 hb6
    try simp(disch:=omega) only[go_sem,Nat.reduceBEq,Nat.reduceAdd]
    have hb6:h6 b6=some #[.int .u32 2]:=hb6 (by simp[uw])
    try simp(disch:=omega) only[go_sem,Nat.reduceBEq,Nat.reduceAdd]
    refine caN (by exact NumAdd (Rv.of (q5.to (h':=h6)) sq1.out) (half_rv (pub_to hb5) hb6)) ?_;rintro v7 h7 s7 p7;obtain⟨_,_,_,_,_,_,_,rfl,q7⟩:=p7.ok sq2.out
    try simp(disch:=omega) only[go_sem,Nat.reduceBEq,Nat.reduceAdd]
    refine caN (by exact kF q7) ?_;rintro v8 h8 s8 ⟨k1,k2,k3,k4,k5,k6,k7,rfl,q8⟩
    try simp(disch:=omega) only[go_sem,Nat.reduceBEq,Nat.reduceAdd]
    obtain⟨_,_,_,_,_,_,e,_,_,_,_⟩:=q8.parts
    cases e
    rw[en,decide_eq_true hs] at q8
    try simp(disch:=omega) only[go_sem,Nat.reduceBEq,Nat.reduceAdd,en,decide_eq_true hs]
    intro bk h9 s9 hbk
    try simp(disch:=omega) only[go_sem,Nat.reduceBEq,Nat.reduceAdd]
    have hbk:h9 bk=some #[.bool true,.slice k2 k3 k4,.slice k5 k6 k7]:=hbk (by simp)
    try simp(disch:=omega) only[go_sem,Nat.reduceBEq,Nat.reduceAdd]
    intro bx h10 s10 hbx
    try simp(disch:=omega) only[go_sem,Nat.reduceBEq,Nat.reduceAdd]
    have hbx:h10 bx=some #[.bool nx,.slice na nl nc,.slice da dl dc]:=hbx (by simp)
    try simp(disch:=omega) only[go_sem,Nat.reduceBEq,Nat.reduceAdd]
    refine caN (by exact ERest1_spec (h0:=h10) (pub_to hbk) hbx q8.to hx.to (q3.to (h':=h10)) (by have:=F.out;omega) (by have:=F.out;omega) (by have:=F.out;omega) (by have:=F.out;omega) (by have:=F.out;omega)) ?_;rintro v11 h11 s11 q11;obtain⟨_,_,_,_,_,_,_,rfl,q11⟩:=q11.sa
    try simp(disch:=omega) only[go_sem,Nat.reduceBEq,Nat.reduceAdd]
    refine caN (by exact NumDn (p:=w) (Rv.of q11 (by have:=F.out;omega)) (by have:=F.out;omega)) ?_;rintro v12 h12 s12 p12;obtain⟨_,_,_,_,_,_,_,rfl,q12⟩:=p12.ok (by have:=F.out;omega)
    try simp(disch:=omega) only[go_sem,Nat.reduceBEq,Nat.reduceAdd]
    refine caN (by exact ERest1_spec (h0:=h12) (pub_to hbk) (pub_to hbx) q8.to hx.to (q4.to (h':=h12)) (by have:=F.out;omega) (by have:=F.out;omega) (by have:=F.out;omega) (by have:=F.out;omega) (by have:=F.out;omega)) ?_;rintro v13 h13 s13 q13;obtain⟨_,_,_,_,_,_,_,rfl,q13⟩:=q13.sa
    try simp(disch:=omega) only[go_sem,Nat.reduceBEq,Nat.reduceAdd]
    refine caN (by exact NumUpw (p:=w) (Rv.of q13 (by have:=F.out;omega)) (by have:=F.out;omega)) ?_;rintro v14 h14 s14 p14;obtain⟨_,_,_,_,_,_,_,rfl,q14⟩:=p14.ok (by have:=F.out;omega)
    try simp(disch:=omega) only[go_sem,Nat.reduceBEq,Nat.reduceAdd]
    refine ldm_of [.bool true,.slice k2 k3 k4,.slice k5 k6 k7] rfl (at_rowB (pub_to hbk)) ?_
    try simp(disch:=omega) only[go_sem,Nat.reduceBEq,Nat.reduceAdd]
    refine caN (by exact EModulo_spec (q8.to (h':=h14)) hz.out) ?_;rintro v15 h15 s15 rfl
    try simp(disch:=omega) only[go_sem,Nat.reduceBEq,Nat.reduceAdd]
    exact⟨_,rfl,_,_,_,_,_,_,_,_,_,_,_,_,_,_,rfl,q12.to,q14.to⟩
end Go.Q
