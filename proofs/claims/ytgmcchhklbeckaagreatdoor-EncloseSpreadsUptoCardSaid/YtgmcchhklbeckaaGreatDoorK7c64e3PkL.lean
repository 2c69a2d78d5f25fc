/-
  Contracts of the reference's rational numbers, and what stands on it. Conditions: each theorem's own.
-/
import Derived.Test.YtgmcchhklbeckaaGreatDoorK3550acPkG
import Derived.Test.YtgmcchhklbeckaaGreatDoorK31829ePkK
import Derived.Test.YtgmcchhklbeckaaGreatDoorKf062ebPkI
import Derived.Test.YtgmcchhklbeckaaGreatDoorKa16a35PkD
set_option linter.unusedVariables false
set_option linter.unusedSimpArgs false
open Nat renaming reduceBEq→ξ,reduceAdd→ζ,le_refl→η,mul_comm→ρ,pos_of_ne_zero→τ,pow_pos→qAo,pow_le_pow_right→qAv,mul_one→qAz,one_mul→qBm
open Bool renaming and_eq_true→φ
open Rat renaming div_def→qAx,mkRat_eq_div→qBb
namespace Go.Q
open Go.Proofs
set_option maxRecDepth 100000
set_option maxHeartbeats 4000000
theorem EN {n k:Nat}:(W 65536 n).length≤k↔bl n≤16*k:=by
 rw[bl_le,vO]
 refine⟨fun h=>?_,fun h=>cV (by decide) h⟩
 exact Nat.lt_of_lt_of_le (cW (by decide) n) (qAv (by decide) h)
theorem N16.len {h:PH} {a:Option Addr} {l c n k:Nat} (r:N16 h (.slice a l c) n):l≤k↔bl n≤16*k:=by
 obtain⟨a',c',h1,_⟩:=r
 cases h1
 exact EN
theorem bl_e {e d:Nat} (he:dz e=d):(bl e≤2048↔bl d≤2048)∧bl e≤bl d:=by
 unfold dz at he
 split at he
 ·subst he;rename_i h;subst h;decide
 ·subst he;exact⟨Iff.rfl,η _⟩
theorem dh {h0 h:PH} [Le h0 h] {v:Value} {x:Rat} (hx:Qr h0 v x):Spec mach 73 #[v] h (fun v _=>v=.bool (decide (2048 < sz x))) NP:=by
  obtain⟨na,nl,nc,da,dl,dc,e,rfl,hn,hd,he⟩:=hx.sl
  have l1:=hn.len (k:=128)
  have l2:=hd.len (k:=128)
  have he':=bl_e he
  have hsz:sz x=max (bl x.num.natAbs) (bl x.den):=rfl
  refine Spec.go [] Tryz.func73 rfl rfl (by kernel_rfl) fun C _=>?_
  try simp(disch:=omega) only[go_sem,ξ,ζ]
  by_cases h1:nl≤128
  · by_cases h2:dl≤128
    · have e1:¬2048 < sz x:=by omega
      try simp(disch:=omega) only[go_sem,ξ,ζ]
      all_goals simp[e1]
    · have e1:2048 < sz x:=by omega
      try simp(disch:=omega) only[go_sem,ξ,ζ]
      all_goals simp[e1]
  · have e1:2048 < sz x:=by omega
    try simp(disch:=omega) only[go_sem,ξ,ζ]
    all_goals simp[e1]
theorem jJ {h0 h:PH} [Le h0 h] {v:Value} {neg:Bool} {n d:Nat} (hv:Rw h0 v neg n d):Spec mach 36 #[v] h (fun r _=>r=.bool (decide (lg neg n d))) NP:=by
  have hv0:=hv
  obtain⟨a,c,xs,a',c',ys,rfl,ha,ha',hn,hd,hsx,hsy⟩:=hv
  refine Spec.go [] Tryz.func36 rfl rfl (by kernel_rfl) fun C _=>?_
  try simp(disch:=omega) only[go_sem,ξ,ζ]
  by_cases hb1:bl n≤8192
  · by_cases hb2:bl d≤8192
    · try simp(disch:=omega) only[go_sem,ξ,ζ]
      refine caN (by exact jD ha rfl (by omega) hn) ?_;rintro v1 h1 s1 hv1;obtain⟨va1,vl1,vc1,rfl,hv1⟩:=hv1.sl;have e1:vl1≤512:=(hv1.len (k:=512)).2 (by omega)
      try simp(disch:=omega) only[go_sem,ξ,ζ]
      refine caN (by exact jD ha' rfl (by omega) hd) ?_;rintro v2 h2 s2 hv2;obtain⟨va2,vl2,vc2,rfl,hv2⟩:=hv2.sl;have e2:vl2≤512:=(hv2.len (k:=512)).2 (by omega)
      try simp(disch:=omega) only[go_sem,ξ,ζ]
      refine caN (by exact bM hv0) ?_;rintro _ h3 _ hv3;obtain⟨_,_,_,_,_,_,_,rfl,hv3⟩:=hv3.sa
      try simp(disch:=omega) only[go_sem,ξ,ζ]
      refine caN (by exact dh hv3) ?_;rintro v4 h4 s4 rfl
      try simp(disch:=omega) only[go_sem,ξ,ζ]
      have:lg neg n d↔2048 < sz (qof neg n d):=by unfold lg;omega
      simp[this]
    · have e3:lg neg n d:=by unfold lg;omega
      try simp(disch:=omega) only[go_sem,ξ,ζ]
      refine caN (by exact jD ha rfl (by omega) hn) ?_;rintro v1 h1 s1 hv1;obtain⟨va1,vl1,vc1,rfl,hv1⟩:=hv1.sl;have e1:vl1≤512:=(hv1.len (k:=512)).2 (by omega)
      try simp(disch:=omega) only[go_sem,ξ,ζ]
      refine caN (by exact jD ha' rfl (by omega) hd) ?_;rintro v2 h2 s2 hv2;obtain⟨va2,vl2,vc2,rfl,hv2⟩:=hv2.sl;have e2:¬vl2≤512:=fun e=>absurd ((hv2.len (k:=512)).1 e) (by omega)
      try simp(disch:=omega) only[go_sem,ξ,ζ]
      all_goals simp[e3]
  · have e3:lg neg n d:=by unfold lg;omega
    try simp(disch:=omega) only[go_sem,ξ,ζ]
    refine caN (by exact jD ha rfl (by omega) hn) ?_;rintro v1 h1 s1 hv1;obtain⟨va1,vl1,vc1,rfl,hv1⟩:=hv1.sl;have e1:¬vl1≤512:=fun e=>absurd ((hv1.len (k:=512)).1 e) (by omega)
    try simp(disch:=omega) only[go_sem,ξ,ζ]
    all_goals simp[e3]
theorem bS {h0 h:PH} [Le h0 h] {v:Value} {x:Rat} (hx:Qr h0 v x):Spec mach 131 #[v] h (fun v _=>v=.int .i64 (sgn3 x)) NP:=by
  obtain⟨na,nl,nc,da,dl,dc,e,rfl,hn,hd,he⟩:=hx.sl
  have ln:=hn.len0
  refine Spec.go [] Tryz.func131 rfl rfl (by kernel_rfl) fun C _=>?_
  try simp(disch:=omega) only[go_sem,ξ,ζ]
  by_cases h0:x.num=0
  · have e1:x=0:=Rat.num_eq_zero.1 h0
    try simp(disch:=omega) only[go_sem,ξ,ζ]
    subst e1;simp[sgn3]
  · by_cases h1:x.num < 0
    · have e1:decide (x.num < 0)=true:=decide_eq_true h1
      try simp(disch:=omega) only[go_sem,ξ,ζ,e1]
      rw[sgn3,if_pos (num_neg.1 h1)]
    · have e1:decide (x.num < 0)=false:=decide_eq_false h1
      have e2:0 < x.num:=by omega
      try simp(disch:=omega) only[go_sem,ξ,ζ,e1]
      rw[sgn3,if_neg (fun h=>h1 (num_neg.2 h)),if_pos (num_pos.1 e2)]
theorem bK {h0 h:PH} [Le h0 h] {v:Value} {x:Rat} (hx:Qr h0 v x):Spec mach 210 #[v] h (fun v h'=>Qr h' v (-x)) NP:=by
 obtain⟨na,nl,nc,da,dl,dc,e,rfl,hn,hd,he⟩:=hx.sl
 have ln:=hn.len0
 have hn2:N16 h0 (.slice na nl nc) (-x).num.natAbs:=by simpa using hn
 refine Spec.go [] Tryz.func210 rfl rfl (by kernel_rfl) fun C _=>?_
 try simp(disch:=omega) only[go_sem,ξ,ζ]
 by_cases h1:x.num < 0
 ·have e1:decide (x.num < 0)=true:=decide_eq_true h1
  have e2:decide ((-x).num < 0)=false:=by rw[Rat.neg_num,decide_eq_false_iff_not];omega
  try simp(disch:=omega) only[go_sem,ξ,ζ,e1]
  exact⟨_,_,e,by rw[e2],hn2.to,hd.to,he⟩
 ·have e1:decide (x.num < 0)=false:=decide_eq_false h1
  by_cases h0:x.num=0
  ·have e2:decide ((-x).num < 0)=false:=by rw[Rat.neg_num,decide_eq_false_iff_not];omega
   try simp(disch:=omega) only[go_sem,ξ,ζ,e1]
   exact⟨_,_,e,by rw[e2],hn2.to,hd.to,he⟩
  ·have e2:decide ((-x).num < 0)=true:=by rw[Rat.neg_num,decide_eq_true_eq];omega
   have e3:0 < nl:=by omega
   try simp(disch:=omega) only[go_sem,ξ,ζ,e1]
   exact⟨_,_,e,by rw[e2],hn2.to,hd.to,he⟩
theorem aW {h0 h:PH} [Le h0 h] {v w:Value} {x y:Rat} (hx:Qr h0 v x) (hy:Qr h0 w y) (bx:sz x≤2^35) (by_:sz y≤2^35):
  Spec mach 209 #[v,w] h (fun v h'=>Qr h' v (x+y)) NP:=by
 have hx0:=hx
 have hy0:=hy
 obtain⟨na,nl,nc,da,dl,dc,e,rfl,hn,hd,he⟩:=hx.sl
 obtain⟨na',nl',nc',da',dl',dc',e',rfl,hn',hd',he'⟩:=hy.sl
 have b1:=bG x;have b2:=bB x;have b3:=bG y;have b4:=bB y
 have b5:=aG x.num.natAbs y.den
 have b6:=aG y.num.natAbs x.den
 have b7:=aG x.den y.den
 have b8:=cY (x.num.natAbs*y.den) (y.num.natAbs*x.den)
 have b9:=aR (Nat.sub_le (x.num.natAbs*y.den) (y.num.natAbs*x.den))
 have b10:=aR (Nat.sub_le (y.num.natAbs*x.den) (x.num.natAbs*y.den))
 obtain⟨n1,en1⟩:∃b,decide (x.num < 0)=b:=⟨_,rfl⟩
 obtain⟨n2,en2⟩:∃b,decide (y.num < 0)=b:=⟨_,rfl⟩
 rw[en1] at hx0 ⊢
 rw[en2] at hy0 ⊢
 refine Spec.go [(1,.o [0,1,2,5,6,7,3,4,8,9,10,11]),(2,.o [0,2,1,3,4,5]),(4,.o [0,1,2,3,5,4,6,7]),(6,.o [0,1,2,3,5,4,6,7]),(7,.o [0,1,2,3,5,4,6,7])] Tryz.func209 rfl rfl (by kernel_rfl) fun C _=>?_
 try simp(disch:=omega) only[go_sem,ξ,ζ]
 refine caN (by exact dU hy0) ?_;rintro _ g1 _ hd1;obtain⟨_,_,_,rfl,hd1⟩:=hd1.sl
 try simp(disch:=omega) only[go_sem,ξ,ζ]
 refine caN (by exact aV (hn.to (h':=g1)) hd1 (by omega) (by omega)) ?_;rintro _ h1 _ hv1;obtain⟨v1,_,_,rfl,hv1⟩:=hv1.sl
 try simp(disch:=omega) only[go_sem,ξ,ζ]
 refine caN (by exact dU hx0) ?_;rintro _ g2 _ hd2;obtain⟨_,_,_,rfl,hd2⟩:=hd2.sl
 try simp(disch:=omega) only[go_sem,ξ,ζ]
 refine caN (by exact aV (hn'.to (h':=g2)) hd2 (by omega) (by omega)) ?_;rintro _ h2 _ hv2;obtain⟨v2,_,_,rfl,hv2⟩:=hv2.sl
 try simp(disch:=omega) only[go_sem,ξ,ζ]
 refine caN (by exact dU hx0) ?_;rintro _ g3 _ hd3;obtain⟨_,_,_,rfl,hd3⟩:=hd3.sl
 try simp(disch:=omega) only[go_sem,ξ,ζ]
 refine caN (by exact dU hy0) ?_;rintro _ g4 _ hd4;obtain⟨_,_,_,rfl,hd4⟩:=hd4.sl
 try simp(disch:=omega) only[go_sem,ξ,ζ]
 refine caN (by exact aV (hd3.to (h':=g4)) hd4 (by omega) (by omega)) ?_;rintro _ h3 _ hv3;obtain⟨v3,_,_,rfl,hv3⟩:=hv3.sl
 try simp(disch:=omega) only[go_sem,ξ,ζ]
 by_cases hee:n1=n2
 ·subst hee
  try simp(disch:=omega) only[go_sem,ξ,ζ]
  refine caN (by exact nr (hv1.to (h':=h2)) hv2 (by omega) (by omega)) ?_;rintro _ h4 _ hv4;obtain⟨v4,_,_,rfl,hv4⟩:=hv4.sl
  try simp(disch:=omega) only[go_sem,ξ,ζ]
  refine caN (by exact fQ (hv4.to (h':=h4)) hv3.to (by omega) (by omega)) ?_;rintro _ h5 _ hv5;obtain⟨_,_,_,_,_,_,_,rfl,hv5⟩:=hv5.sa
  try simp(disch:=omega) only[go_sem,ξ,ζ]
  rw[DV en1 en2] at hv5
  exact hv5
 ·have hb:(n1 == n2)=false:=by cases n1<;>cases n2<;>simp_all
  have hb':n2=!n1:=by cases n1<;>cases n2<;>simp_all
  try simp(disch:=omega) only[go_sem,ξ,ζ,hb]
  refine caN (by exact eI (hv1.to (h':=h2)) hv2) ?_;rintro v4 h4 s4 rfl
  try simp(disch:=omega) only[go_sem,ξ,ζ]
  by_cases hle:y.num.natAbs*x.den≤x.num.natAbs*y.den
  ·have hc:0≤cmp3 (x.num.natAbs*y.den) (y.num.natAbs*x.den):=by simp only[cmp3,if_neg (Nat.not_lt.2 hle)];split<;>decide
   try simp(disch:=omega) only[go_sem,ξ,ζ]
   refine caN (by exact lj (hv1.to (h':=h2)) hv2 hle (by omega)) ?_;rintro _ h5 _ hv5;obtain⟨v5,_,_,rfl,hv5⟩:=hv5.sl
   try simp(disch:=omega) only[go_sem,ξ,ζ]
   refine caN (by exact fQ (hv5.to (h':=h5)) hv3.to (by omega) (by omega)) ?_;rintro _ h6 _ hv6;obtain⟨_,_,_,_,_,_,_,rfl,hv6⟩:=hv6.sa
   try simp(disch:=omega) only[go_sem,ξ,ζ]
   rw[tP en1 (by rw[en2,hb']) hle] at hv6
   exact hv6
  ·have hc:¬0≤cmp3 (x.num.natAbs*y.den) (y.num.natAbs*x.den):=by simp only[cmp3,if_pos (Nat.not_le.1 hle)];decide
   try simp(disch:=omega) only[go_sem,ξ,ζ]
   refine caN (by exact lj (hv2.to (h':=h2)) (hv1.to (h':=h2)) (Nat.le_of_lt (Nat.not_le.1 hle)) (by omega)) ?_;rintro _ h5 _ hv5;obtain⟨v5,_,_,rfl,hv5⟩:=hv5.sl
   try simp(disch:=omega) only[go_sem,ξ,ζ]
   refine caN (by exact fQ (hv5.to (h':=h5)) hv3.to (by omega) (by omega)) ?_;rintro _ h6 _ hv6;obtain⟨_,_,_,_,_,_,_,rfl,hv6⟩:=hv6.sa
   try simp(disch:=omega) only[go_sem,ξ,ζ]
   rw[ρ x.den,tP en2 (by rw[en1,hb',Bool.not_not]) (Nat.le_of_lt (Nat.not_le.1 hle)),Rat.add_comm] at hv6
   exact hv6
theorem cR {h0 h:PH} [Le h0 h] {v w:Value} {x y:Rat} (hx:Qr h0 v x) (hy:Qr h0 w y) (bx:sz x≤2^35) (by_:sz y≤2^35):
  Spec mach 132 #[v,w] h (fun v h'=>Qr h' v (x - y)) NP:=by
 obtain⟨_,_,_,_,_,_,_,rfl,hx⟩:=hx.sa
 obtain⟨_,_,_,_,_,_,_,rfl,hy⟩:=hy.sa
 refine Spec.go [] Tryz.func132 rfl rfl (by kernel_rfl) fun C _=>?_
 try simp(disch:=omega) only[go_sem,ξ,ζ]
 refine caN (by exact bK hy) ?_;rintro _ h1 _ hv1;obtain⟨_,_,_,_,_,_,_,rfl,hv1⟩:=hv1.sa
 try simp(disch:=omega) only[go_sem,ξ,ζ]
 refine caN (by exact aW (hx.to (h':=h1)) hv1 bx (by rw[cz];exact by_)) ?_;rintro _ h2 _ hv2;obtain⟨_,_,_,_,_,_,_,rfl,hv2⟩:=hv2.sa
 try simp(disch:=omega) only[go_sem,ξ,ζ]
 rw[Rat.sub_eq_add_neg];exact hv2
theorem DR (x y:Rat):sgn3 (x - y)=cmpQ x y:=by
 unfold sgn3 cmpQ;grind
theorem av {h0 h:PH} [Le h0 h] {v w:Value} {x y:Rat} (hx:Qr h0 v x) (hy:Qr h0 w y) (bx:sz x≤2^34) (by_:sz y≤2^34):
  Spec mach 70 #[v,w] h (fun v _=>v=.int .i64 (cmpQ x y)) NP:=by
 obtain⟨_,_,_,_,_,_,_,rfl,hx⟩:=hx.sa
 obtain⟨_,_,_,_,_,_,_,rfl,hy⟩:=hy.sa
 refine Spec.go [] Tryz.func70 rfl rfl (by kernel_rfl) fun C _=>?_
 try simp(disch:=omega) only[go_sem,ξ,ζ]
 refine caN (by exact cR hx hy (by omega) (by omega)) ?_;rintro _ h1 _ hv1;obtain⟨_,_,_,_,_,_,_,rfl,hv1⟩:=hv1.sa
 try simp(disch:=omega) only[go_sem,ξ,ζ]
 refine caN (by exact bS hv1) ?_;rintro v2 h2 s2 rfl
 try simp(disch:=omega) only[go_sem,ξ,ζ]
 rw[DR]
theorem yG (x:Rat) (k:Nat):(if decide (x.num < 0)=true then -((x.num.natAbs*k:Nat):Int) else ((x.num.natAbs*k:Nat):Int))=x.num*k:=by
 generalize x.num=a
 by_cases h:a < 0
 ·obtain⟨m,rfl⟩:∃m:Nat,a= -(m:Int):=⟨a.natAbs,by omega⟩
  rw[decide_eq_true h,if_pos rfl];simp[Int.neg_mul]
 ·obtain⟨m,rfl⟩:∃m:Nat,a=(m:Int):=⟨a.natAbs,by omega⟩
  rw[decide_eq_false h,if_neg (by simp)];simp
theorem JV (x:Rat) (p:Nat):sgn (decide (x.num < 0)) (x.num.natAbs*2^p) x.den=x*2^p:=by
 rw[scaled]
 unfold sgn
 rw[yG]
 congr 1
theorem D7 (p:Nat):(0:Rat) < 2^p:=Rat.pow_pos (by decide)
theorem DX (x:Rat) (p:Nat):sgn (decide (x.num < 0)) x.num.natAbs (x.den*2^p)=x / 2^p:=by
 have h2:(2^p:Nat)≠0:=Nat.ne_of_gt (qAo (by decide))
 have e:sgn (decide (x.num < 0)) x.num.natAbs (x.den*2^p)*2^p=x:=by
  unfold sgn
  have h1:=yG x 1
  simp only[qAz] at h1
  rw[h1,show(2:Rat)^p=mkRat (2^p:Nat) 1 from by rw[qBb,qAx];simp[tp],Rat.mkRat_mul_mkRat]
  have:mkRat (x.num*((1:Nat):Int)*((2^p:Nat):Int)) (x.den*2^p*1)=mkRat x.num x.den:=by
   rw[qAz]
   simp only[Int.natCast_one,Int.mul_one]
   exact Rat.mkRat_mul_right h2
  rw[this,Rat.mkRat_self]
 have hp:=D7 p
 have h3:=Rat.mul_div_cancel (a:=sgn (decide (x.num < 0)) x.num.natAbs (x.den*2^p)) (Rat.ne_of_gt hp)
 rw[e] at h3
 exact h3.symm
theorem sz_two (p:Nat):sz ((2:Rat)^p)≤p+1:=by
 unfold sz
 have h1:((2:Rat)^p).num.natAbs=2^p:=by simp[Int.natAbs_pow]
 have h2:((2:Rat)^p).den=1:=by simp
 rw[h1,h2]
 have:=bC p
 have h3:bl 1=1:=by decide
 omega
theorem yH (x:Rat) (p:Nat):sz (x*2^p)≤sz x+p+1:=by
 have:=bV x (2^p);have:=sz_two p;omega
theorem sz_pos (x:Rat):1≤sz x:=by
 have h1:bl 1≤bl x.den:=aR (τ x.den_nz)
 have h2:bl 1=1:=by decide
 have:=bB x;omega
theorem FW (n:Int):sz (n:Rat)≤max (bl n.natAbs) 1:=by
 unfold sz
 rw[Rat.num_intCast,Rat.den_intCast,show bl 1=1 from by decide]
 exact η _
theorem oz (x:Rat):sz (x.floor:Rat)≤sz x:=by
 have h1:=FW x.floor
 have h2:x.floor.natAbs≤x.num.natAbs:=by rw[Rat.floor_def];exact Int.natAbs_ediv_le_natAbs _ _
 have h3:=aR h2
 have:=bG x;have:=sz_pos x;omega
theorem ll {h0 h:PH} [Le h0 h] {v:Value} {x:Rat} {p:Nat} (hx:Qr h0 v x) (bx:sz x≤2^34) (hp:p≤2^34):
  Spec mach 261 #[v,.int .i64 p] h (fun v h'=>Qr h' v (x*2^p)) NP:=by
 have hx0:=hx
 obtain⟨na,nl,nc,da,dl,dc,e,rfl,hn,hd,he⟩:=hx.sl
 have b1:=bG x;have b2:=bB x;have b3:=cu x.num.natAbs p
 have hs:=JV x p
 obtain⟨n1,en1⟩:∃b,decide (x.num < 0)=b:=⟨_,rfl⟩
 rw[en1] at hx0 hs ⊢
 refine Spec.go [(2,.o [0,1,2,3,4,6,7,5,8,9,10]),(3,.o [0,1,2,3,4,6,5,7,8,9])] Tryz.func261 rfl rfl (by kernel_rfl) fun C _=>?_
 try simp(maxSteps:=999999) (disch:=omega) only[go_sem,ξ,ζ]
 refine caN (by exact gf (n:=p) hn (by omega)) ?_;rintro _ h1 _ hv1;obtain⟨_,_,_,rfl,hv1⟩:=hv1.sl
 try simp(maxSteps:=999999) (disch:=omega) only[go_sem,ξ,ζ]
 refine caN (by exact dU hx0) ?_;rintro _ h2 _ hv2;obtain⟨_,_,_,rfl,hv2⟩:=hv2.sl
 try simp(maxSteps:=999999) (disch:=omega) only[go_sem,ξ,ζ]
 refine caN (by exact fQ (neg:=n1) (hv1.to (h':=h2)) hv2 (by omega) (by omega)) ?_;rintro _ h3 _ hv3;obtain⟨_,_,_,_,_,_,_,rfl,hv3⟩:=hv3.sa
 try simp(maxSteps:=999999) (disch:=omega) only[go_sem,ξ,ζ]
 rw[hs] at hv3;exact hv3
theorem gI {h0 h:PH} [Le h0 h] {v:Value} {x:Rat} {p:Nat} {i:Int} (hx:Qr h0 v x) (hi:i= -(p:Int)) (bx:sz x≤2^34) (hp:p≤2^34):
  Spec mach 261 #[v,.int .i64 i] h (fun v h'=>Qr h' v (x / 2^p)) NP:=by
 by_cases h0':p=0
 ·subst h0'
  have:i=((0:Nat):Int):=by omega
  subst this
  have e:x / 2^0=x*2^0:=by simp[qAx,tp]
  rw[e];exact ll hx bx (by decide)
 subst hi
 have hx0:=hx
 obtain⟨na,nl,nc,da,dl,dc,e,rfl,hn,hd,he⟩:=hx.sl
 have b1:=bG x;have b2:=bB x;have b3:=cu x.den p
 have hs:=DX x p
 obtain⟨n1,en1⟩:∃b,decide (x.num < 0)=b:=⟨_,rfl⟩
 rw[en1] at hx0 hs ⊢
 have e1:IntKind.i64.wrap (0 - -(p:Int))=(p:Int):=by rw[wi64 (by omega) (by omega)];omega
 refine Spec.go [(2,.o [0,1,2,3,4,6,7,5,8,9,10]),(3,.o [0,1,2,3,4,6,5,7,8,9])] Tryz.func261 rfl rfl (by kernel_rfl) fun C _=>?_
 try simp(maxSteps:=999999) (disch:=omega) only[go_sem,ξ,ζ,e1]
 refine caN (by exact dU hx0) ?_;rintro v2 h2 s2 hv2;obtain⟨va2,vl2,vc2,rfl,hv2⟩:=hv2.sl
 try simp(maxSteps:=999999) (disch:=omega) only[go_sem,ξ,ζ,e1]
 refine caN (by exact gf (n:=p) hv2 (by omega)) ?_;rintro _ h1 _ hv1;obtain⟨_,_,_,rfl,hv1⟩:=hv1.sl
 try simp(maxSteps:=999999) (disch:=omega) only[go_sem,ξ,ζ]
 refine caN (by exact fQ (neg:=n1) (hn.to (h':=h1)) hv1 (by omega) (by omega)) ?_;rintro _ h3 _ hv3;obtain⟨_,_,_,_,_,_,_,rfl,hv3⟩:=hv3.sa
 try simp(maxSteps:=999999) (disch:=omega) only[go_sem,ξ,ζ]
 rw[hs] at hv3;exact hv3
theorem Jd (x:Rat):sgn (decide (x.num < 0)) (x.num.natAbs / x.den+(if decide (x.num < 0)=true∧x.num.natAbs % x.den≠0 then 1 else 0)) 1=(x.floor:Rat):=by
 rw[tQ,Rat.floor_def]
 have hd:=x.den_nz
 congr 1
 generalize x.num=a at*
 generalize x.den=d at*
 by_cases h:a < 0
 ·obtain⟨m,rfl⟩:∃m:Nat,a= -(m:Int):=⟨a.natAbs,by omega⟩
  rw[decide_eq_true h,yj m hd]
  simp only[Int.natAbs_neg,Int.natAbs_natCast,if_true]
  by_cases hr:m % d=0<;>simp[hr]
 ·obtain⟨m,rfl⟩:∃m:Nat,a=(m:Int):=⟨a.natAbs,by omega⟩
  rw[decide_eq_false h]
  simp
theorem ko {h0 h:PH} [Le h0 h] {v:Value} {x:Rat} (hx:Qr h0 v x) (bx:sz x≤2^35):
  Spec mach 262 #[v] h (fun v h'=>Qr h' v (x.floor:Rat)) NP:=by
 have hx0:=hx
 obtain⟨na,nl,nc,da,dl,dc,e,rfl,hn,hd,he⟩:=hx.sl
 have b1:=bG x;have b2:=bB x
 have b3:=aZ x.num.natAbs x.den
 have b4:=cY (x.num.natAbs / x.den) 1
 have b5:=fI
 have hs:=Jd x
 obtain⟨neg,en⟩:∃b,decide (x.num < 0)=b:=⟨_,rfl⟩
 rw[en] at hx0 hs ⊢
 refine Spec.enter (args:=[_]) (n:=28) Tryz.func262 rfl (by kernel_rfl) rfl (by simp) [.cell 2 60] rfl (fun C _=>?_)
 repeat (first |(refine wo rfl (fun k hk=>?_);simp(disch:=omega) only[go_sem,ξ,ζ];apply hk;clear hk k) |refine wkt rfl ?_ |refine wk0 ?_ |refine rg rfl rfl (fun K hK=>?_) |refine rd [.o 0,.o 1,.o 2,.o 3,.o 4,.o 5,.o 6,.o 7,.o 8,.o 9] rfl (by decide+kernel) rfl (fun K hK=>?_) |refine rd [.o 0,.o 1,.o 2,.o 3,.o 4,.o 5] rfl (by decide+kernel) rfl (fun K hK=>?_) |((first |refine ae ?_ |refine ac ?_);simp(disch:=decide) only[qs,qb,if_true,if_false,reduceIte]) |refine ah rfl (fun K hK=>?_) |refine ct rfl ?_ |((try simp(disch:=omega) only[go_sem,ξ,ζ]);(first |apply hK |(clear hK;apply hK) |(clear hK;clear hK;apply hK));clear hK;(try clear K);(try dsimp only[ag,qs,qb])))
 refine cN rfl rfl rfl rfl (by exact dU hx0) ?_;rintro d1 g1 _ hd1;obtain⟨d1,d1_l,d1_c,rfl,hd1⟩:=hd1.sl;(repeat (first |(refine wo rfl (fun k hk=>?_);simp(disch:=omega) only[go_sem,ξ,ζ];apply hk;clear hk k) |refine wkt rfl ?_));(try refine wk0 ?_)
 refine cN rfl rfl rfl rfl (by exact dJ (hn.to (h':=g1)) hd1 x.den_nz (by omega) (by omega)) ?_;rintro v2 h2 s2 ⟨q,r,rfl,hq,hr⟩;(repeat (first |(refine wo rfl (fun k hk=>?_);simp(disch:=omega) only[go_sem,ξ,ζ];apply hk;clear hk k) |refine wkt rfl ?_));(try refine wk0 ?_)
 obtain⟨qa,ql,qc,rfl,hq⟩:=hq.sl
 obtain⟨ra,rl,rc,rfl,hr⟩:=hr.sl
 have lr:=hr.len0
 (try (simp(disch:=omega) only[go_sem,ξ,ζ]));apply hK;clear hK;(try clear K);(try dsimp only[ag,qs])
 refine oJ (fun K hK=>?_)
 have rest:∀(v:Value) (q':Nat) (S:AS) (h:PH),Le h0 h→N16 h v q'→bl q'≤2^37→sgn neg q' 1=(x.floor:Rat)→S.le ⟨[(1,.p 0 0),(2,.p 1 0),(3,.v v)],[[.bool neg,.slice na nl nc,.slice da dl dc],[.bool false,.slice none 0 0,.slice none 0 0]]⟩→K S h:=by
  intro v q' S h _ hv bq hs hS
  refine hK _ _ (fq _ hS ?_);clear hK K
  obtain⟨va,vl,vc,rfl,hv⟩:=hv.sl
  (first |refine rg rfl rfl (fun K hK=>?_) |refine rd [.o 0,.o 1,.o 2,.o 3,.o 4,.o 5,.o 6,.o 7,.o 8,.o 9] rfl (by decide+kernel) rfl (fun K hK=>?_) |refine rd [.o 0,.o 1,.o 2,.o 3,.o 4,.o 5] rfl (by decide+kernel) rfl (fun K hK=>?_));(repeat (first |(refine wo rfl (fun k hk=>?_);simp(disch:=omega) only[go_sem,ξ,ζ];apply hk;clear hk k) |refine wkt rfl ?_));(try refine wk0 ?_)
  refine cN rfl rfl rfl rfl (by exact bQ (n:=1) (by decide)) ?_;rintro w1 h3 _ hw1;obtain⟨w1,w1_l,w1_c,rfl,hw1⟩:=hw1.sl;(repeat (first |(refine wo rfl (fun k hk=>?_);simp(disch:=omega) only[go_sem,ξ,ζ];apply hk;clear hk k) |refine wkt rfl ?_));(try refine wk0 ?_)
  refine cN rfl rfl rfl rfl (by exact fQ (neg:=neg) (hv.to (h':=h3)) hw1 (by omega) (by decide)) ?_;rintro w3 h5 _ hw3;obtain⟨w3_0,w3_1,w3_2,w3_3,w3_4,w3_5,w3_6,rfl,hw3⟩:=hw3.sa;(repeat (first |(refine wo rfl (fun k hk=>?_);simp(disch:=omega) only[go_sem,ξ,ζ];apply hk;clear hk k) |refine wkt rfl ?_));(try refine wk0 ?_)
  (try (simp(disch:=omega) only[go_sem,ξ,ζ]));apply hK;clear hK;(try clear K);(try dsimp only[ag,qs])
  refine ai ?_;simp(disch:=omega) only[go_sem,ξ,ζ]
  rw[hs] at hw3
  exact hw3
 cases neg with
 | false=>
  rw[if_neg (by simp),Nat.add_zero] at hs
  refine uf rfl (fun K hK=>?_);(repeat (first |(refine wo rfl (fun k hk=>?_);simp(disch:=omega) only[go_sem,ξ,ζ];apply hk;clear hk k) |refine wkt rfl ?_));(try refine wk0 ?_);(first |refine hK _ _ ?_ |(clear hK;refine hK _ _ ?_) |(clear hK;clear hK;refine hK _ _ ?_));clear hK;(try clear K)
  refine je rfl ?_
  refine ac ?_;simp only[qs,qb,if_true,if_false,reduceIte]
  refine rest _ _ _ _ inferInstance hq (by omega) hs ?_
  simp(disch:=omega) only[go_sem,ξ,ζ]
 | true=>
  by_cases hr0:x.num.natAbs % x.den=0
  ·rw[if_neg (by simp[hr0]),Nat.add_zero] at hs
   refine uf rfl (fun K hK=>?_);(repeat (first |(refine wo rfl (fun k hk=>?_);simp(disch:=omega) only[go_sem,ξ,ζ];apply hk;clear hk k) |refine wkt rfl ?_));(try refine wk0 ?_);(first |refine hK _ _ ?_ |(clear hK;refine hK _ _ ?_) |(clear hK;clear hK;refine hK _ _ ?_));clear hK;(try clear K)
   refine je rfl ?_
   refine ac ?_;simp only[qs,qb,if_true,if_false,reduceIte]
   refine rest _ _ _ _ inferInstance hq (by omega) hs ?_
   simp(disch:=omega) only[go_sem,ξ,ζ]
  ·rw[if_pos ⟨rfl,hr0⟩] at hs
   have e3:0 < rl:=by omega
   refine uf rfl (fun K hK=>?_);(repeat (first |(refine wo rfl (fun k hk=>?_);simp(disch:=omega) only[go_sem,ξ,ζ];apply hk;clear hk k) |refine wkt rfl ?_));(try refine wk0 ?_);(first |refine hK _ _ ?_ |(clear hK;refine hK _ _ ?_) |(clear hK;clear hK;refine hK _ _ ?_));clear hK;(try clear K)
   refine mE rfl ?_
   (first |refine rg rfl rfl (fun K hK=>?_) |refine rd [.o 0,.o 1,.o 2,.o 3,.o 4,.o 5,.o 6,.o 7,.o 8,.o 9] rfl (by decide+kernel) rfl (fun K hK=>?_) |refine rd [.o 0,.o 1,.o 2,.o 3,.o 4,.o 5] rfl (by decide+kernel) rfl (fun K hK=>?_));(repeat (first |(refine wo rfl (fun k hk=>?_);simp(disch:=omega) only[go_sem,ξ,ζ];apply hk;clear hk k) |refine wkt rfl ?_));(try refine wk0 ?_)
   refine cN rfl rfl rfl rfl (by exact bQ (n:=1) (by decide)) ?_;rintro w1 h4 _ hw1;obtain⟨w1,w1_l,w1_c,rfl,hw1⟩:=hw1.sl;(repeat (first |(refine wo rfl (fun k hk=>?_);simp(disch:=omega) only[go_sem,ξ,ζ];apply hk;clear hk k) |refine wkt rfl ?_));(try refine wk0 ?_)
   refine cN rfl rfl rfl rfl (by exact nr (hq.to (h':=h4)) hw1 (by omega) (by decide)) ?_;rintro w2 h5 _ hw2;obtain⟨w2,w2_l,w2_c,rfl,hw2⟩:=hw2.sl;(repeat (first |(refine wo rfl (fun k hk=>?_);simp(disch:=omega) only[go_sem,ξ,ζ];apply hk;clear hk k) |refine wkt rfl ?_));(try refine wk0 ?_)
   (try (simp(disch:=omega) only[go_sem,ξ,ζ]));apply hK;clear hK;(try clear K);(try dsimp only[ag,qs])
   refine rest _ _ _ _ inferInstance hw2 (by omega) hs ?_
   simp(disch:=omega) only[go_sem,ξ,ζ]
theorem Top_spec {h0 h:PH} [Le h0 h] {v:Value} {x:Rat} (hx:Qr h0 v x) (bx:sz x≤2^34):
  Spec mach 263 #[v] h (fun v h'=>Qr h' v (x.ceil:Rat)) NP:=by
 obtain⟨_,_,_,_,_,_,_,rfl,hx⟩:=hx.sa
 refine Spec.go [] Tryz.func263 rfl rfl (by kernel_rfl) fun C _=>?_
 try simp(maxSteps:=999999) (disch:=omega) only[go_sem,ξ,ζ]
 refine caN (by exact bK hx) ?_;rintro _ h1 _ hv1;obtain⟨_,_,_,_,_,_,_,rfl,hv1⟩:=hv1.sa
 try simp(maxSteps:=999999) (disch:=omega) only[go_sem,ξ,ζ]
 refine caN (by exact ko hv1 (by rw[cz];omega)) ?_;rintro _ h2 _ hv2;obtain⟨_,_,_,_,_,_,_,rfl,hv2⟩:=hv2.sa
 try simp(maxSteps:=999999) (disch:=omega) only[go_sem,ξ,ζ]
 refine caN (by exact bK hv2) ?_;rintro _ h3 _ hv3;obtain⟨_,_,_,_,_,_,_,rfl,hv3⟩:=hv3.sa
 try simp(maxSteps:=999999) (disch:=omega) only[go_sem,ξ,ζ]
 have: -(((-x).floor:Int):Rat)=((x.ceil:Int):Rat):=by rw[Rat.ceil_eq_neg_floor_neg];simp
 rw[this] at hv3;exact hv3
theorem sz_ceil (x:Rat):sz (x.ceil:Rat)≤sz x:=by
 rw[Rat.ceil_eq_neg_floor_neg,Rat.intCast_neg,cz]
 have:=oz (-x)
 rw[cz] at this;exact this
theorem neg_i {p:Nat} (hp:p≤2^30):IntKind.i64.wrap (0 - (p:Int))= -(p:Int):=by rw[wi64 (by omega) (by omega)];omega
theorem j9 {h0 h:PH} [Le h0 h] {v:Value} {x:Rat} {p:Nat} (hx:Qr h0 v x) (bx:sz x≤2^30) (hp:p≤2^30):
  Spec mach 214 #[v,.int .i64 p] h (fun v h'=>Qr h' v (gdown x p)) NP:=by
 obtain⟨_,_,_,_,_,_,_,rfl,hx⟩:=hx.sa
 have b1:=yH x p
 have b2:=oz (x*2^p)
 have e1:=neg_i hp
 refine Spec.go [] Tryz.func214 rfl rfl (by kernel_rfl) fun C _=>?_
 try simp(maxSteps:=999999) (disch:=omega) only[go_sem,ξ,ζ]
 refine caN (by exact ll (p:=p) hx (by omega) (by omega)) ?_;rintro _ h1 _ hv1;obtain⟨_,_,_,_,_,_,_,rfl,hv1⟩:=hv1.sa
 try simp(maxSteps:=999999) (disch:=omega) only[go_sem,ξ,ζ]
 refine caN (by exact ko hv1 (by omega)) ?_;rintro v2 h2 s2 hv2;obtain⟨_,_,_,_,_,_,_,rfl,hv2⟩:=hv2.sa
 try simp(maxSteps:=999999) (disch:=omega) only[go_sem,ξ,ζ,e1]
 refine caN (by exact gI (p:=p) hv2 (by omega) (by omega) (by omega)) ?_;rintro _ h3 _ hv3;obtain⟨_,_,_,_,_,_,_,rfl,hv3⟩:=hv3.sa
 try simp(maxSteps:=999999) (disch:=omega) only[go_sem,ξ,ζ]
 exact hv3
theorem np {h0 h:PH} [Le h0 h] {v:Value} {x:Rat} {p:Nat} (hx:Qr h0 v x) (bx:sz x≤2^30) (hp:p≤2^30):
  Spec mach 215 #[v,.int .i64 p] h (fun v h'=>Qr h' v (gup x p)) NP:=by
 obtain⟨_,_,_,_,_,_,_,rfl,hx⟩:=hx.sa
 have b1:=yH x p
 have b2:=sz_ceil (x*2^p)
 have e1:=neg_i hp
 refine Spec.go [] Tryz.func215 rfl rfl (by kernel_rfl) fun C _=>?_
 try simp(maxSteps:=999999) (disch:=omega) only[go_sem,ξ,ζ]
 refine caN (by exact ll (p:=p) hx (by omega) (by omega)) ?_;rintro _ h1 _ hv1;obtain⟨_,_,_,_,_,_,_,rfl,hv1⟩:=hv1.sa
 try simp(maxSteps:=999999) (disch:=omega) only[go_sem,ξ,ζ]
 refine caN (by exact Top_spec hv1 (by omega)) ?_;rintro v2 h2 s2 hv2;obtain⟨_,_,_,_,_,_,_,rfl,hv2⟩:=hv2.sa
 try simp(maxSteps:=999999) (disch:=omega) only[go_sem,ξ,ζ,e1]
 refine caN (by exact gI (p:=p) hv2 (by omega) (by omega) (by omega)) ?_;rintro _ h3 _ hv3;obtain⟨_,_,_,_,_,_,_,rfl,hv3⟩:=hv3.sa
 try simp(maxSteps:=999999) (disch:=omega) only[go_sem,ξ,ζ]
 exact hv3
theorem sgn_quo (x y:Rat):sgn (!(decide (x.num < 0) == decide (y.num < 0))) (x.num.natAbs*y.den) (x.den*y.num.natAbs)=x / y:=by
 by_cases hy:y=0
 ·subst hy
  simp[sgn,qAx]
 ·have hn0:y.num≠0:=fun e=>hy (Rat.num_eq_zero.1 e)
  have hp:=y.den_nz
  have e1:decide ((y⁻¹).num < 0)=decide (y.num < 0):=by
   rw[Rat.num_inv]
   rcases Int.lt_trichotomy y.num 0 with h |h |h
   ·rw[Int.sign_eq_neg_one_of_neg h,decide_eq_decide];omega
   ·exact(hn0 h).elim
   ·rw[Int.sign_eq_one_of_pos h,decide_eq_decide];omega
  have e2:(y⁻¹).num.natAbs=y.den:=by rw[Rat.num_inv,Int.natAbs_mul,Int.natAbs_sign_of_ne_zero hn0,qBm,Int.natAbs_natCast]
  have e3:(y⁻¹).den=y.num.natAbs:=by rw[Rat.den_inv,if_neg hn0]
  have:=qZ x y⁻¹
  rw[e1,e2,e3] at this
  rw[this,qAx]
theorem cU {h0 h:PH} [Le h0 h] {v w:Value} {x y:Rat} (hx:Qr h0 v x) (hy:Qr h0 w y) (bx:sz x≤2^35) (by_:sz y≤2^35):
  Spec mach 288 #[v,w] h (fun v h'=>Qr h' v (x / y)) NP:=by
 have hx0:=hx
 have hy0:=hy
 obtain⟨na,nl,nc,da,dl,dc,e,rfl,hn,hd,he⟩:=hx.sl
 obtain⟨na',nl',nc',da',dl',dc',e',rfl,hn',hd',he'⟩:=hy.sl
 have b1:=bG x;have b2:=bB x;have b3:=bG y;have b4:=bB y
 have b5:=aG x.num.natAbs y.den
 have b6:=aG x.den y.num.natAbs
 refine Spec.go [(1,.o [0,1,2,3,4,5,6,7,10,12,13,8,9,11,14,15,16])] Tryz.func288 rfl rfl (by kernel_rfl) fun C _=>?_
 try simp(maxSteps:=999999) (disch:=omega) only[go_sem,ξ,ζ]
 refine caN (by exact dU hy0) ?_;rintro _ g1 _ hd1;obtain⟨_,_,_,rfl,hd1⟩:=hd1.sl
 try simp(maxSteps:=999999) (disch:=omega) only[go_sem,ξ,ζ]
 refine caN (by exact aV (hn.to (h':=g1)) hd1 (by omega) (by omega)) ?_;rintro _ h1 _ hv1;obtain⟨_,_,_,rfl,hv1⟩:=hv1.sl
 try simp(maxSteps:=999999) (disch:=omega) only[go_sem,ξ,ζ]
 refine caN (by exact dU hx0) ?_;rintro _ g2 _ hd2;obtain⟨_,_,_,rfl,hd2⟩:=hd2.sl
 try simp(maxSteps:=999999) (disch:=omega) only[go_sem,ξ,ζ]
 refine caN (by exact aV hd2 (hn'.to (h':=g2)) (by omega) (by omega)) ?_;rintro _ h2 _ hv2;obtain⟨_,_,_,rfl,hv2⟩:=hv2.sl
 try simp(maxSteps:=999999) (disch:=omega) only[go_sem,ξ,ζ]
 refine caN (by exact fQ (hv1.to (h':=h2)) hv2 (by omega) (by omega)) ?_;rintro _ h3 _ hv3;obtain⟨_,_,_,_,_,_,_,rfl,hv3⟩:=hv3.sa
 try simp(maxSteps:=999999) (disch:=omega) only[go_sem,ξ,ζ]
 rw[sgn_quo] at hv3
 exact hv3
theorem cT {h0 h:PH} [Le h0 h] {v w:Value} {x y:Rat} (hx:Qr h0 v x) (hy:Qr h0 w y) (bx:sz x≤2^33) (by_:sz y≤2^33):
  Spec mach 260 #[v,w] h (fun v h'=>Qr h' v ((x+y) / 2)) NP:=by
 obtain⟨_,_,_,_,_,_,_,rfl,hx⟩:=hx.sa
 obtain⟨_,_,_,_,_,_,_,rfl,hy⟩:=hy.sa
 have b1:=dA x y
 have b2:sz ((2:Int):Rat)≤2:=by decide
 refine Spec.go [] Tryz.func260 rfl rfl (by kernel_rfl) fun C _=>?_
 try simp(maxSteps:=999999) (disch:=omega) only[go_sem,ξ,ζ]
 refine caN (by exact aW hx hy (by omega) (by omega)) ?_;rintro _ h1 _ hv1;obtain⟨_,_,_,_,_,_,_,rfl,hv1⟩:=hv1.sa
 try simp(maxSteps:=999999) (disch:=omega) only[go_sem,ξ,ζ]
 refine caN (by exact aF (n:=2) (by decide) (by decide)) ?_;rintro _ h2 _ hv2;obtain⟨_,_,_,_,_,_,_,rfl,hv2⟩:=hv2.sa
 try simp(maxSteps:=999999) (disch:=omega) only[go_sem,ξ,ζ]
 refine caN (by exact cU (hv1.to (h':=h2)) hv2 (by omega) (by omega)) ?_;rintro _ h3 _ hv3;obtain⟨_,_,_,_,_,_,_,rfl,hv3⟩:=hv3.sa
 try simp(maxSteps:=999999) (disch:=omega) only[go_sem,ξ,ζ]
 exact hv3
theorem Done_ok {h0 h:PH} [Le h0 h] {v:Value} {x:Rat} (hx:Qr h0 v x) (hs:sz x≤2048):Spec mach 211 #[v] h (fun r h'=>∃u,r=.tuple #[u,.int .i64 0]∧Cn h' u x) NP:=by
 obtain⟨_,_,_,_,_,_,_,rfl,hx⟩:=hx.sa
 refine Spec.go [] Tryz.func211 rfl rfl (by kernel_rfl) fun C _=>?_
 try simp(maxSteps:=999999) (disch:=omega) only[go_sem,ξ,ζ]
 refine caN (by exact dh hx) ?_;rintro v1 h1 s1 rfl
 try simp(maxSteps:=999999) (disch:=omega) only[go_sem,ξ,ζ]
 refine caN (by exact cA hx (by omega)) ?_;rintro _ h2 _ hv2;obtain⟨_,_,_,_,_,_,_,rfl,hv2⟩:=hv2.sa
 try simp(maxSteps:=999999) (disch:=omega) only[go_sem,ξ,ζ]
 exact⟨_,rfl,hv2⟩
theorem Done_no {h0 h:PH} [Le h0 h] {v:Value} {x:Rat} (hx:Qr h0 v x) (hs:¬sz x≤2048):Spec mach 211 #[v] h (fun r _=>r=.tuple #[zRat,.int .i64 1]) NP:=by
 obtain⟨_,_,_,_,_,_,_,rfl,hx⟩:=hx.sa
 refine Spec.go [] Tryz.func211 rfl rfl (by kernel_rfl) fun C _=>?_
 try simp(maxSteps:=999999) (disch:=omega) only[go_sem,ξ,ζ]
 refine caN (by exact dh hx) ?_;rintro v1 h1 s1 rfl
 try simp(maxSteps:=999999) (disch:=omega) only[go_sem,ξ,ζ]
 rfl
theorem zv {h0 h:PH} [Le h0 h] {v w:Value} {neg neg':Bool} {n d n' d':Nat} (hx:Rw h0 v neg n d) (hy:Rw h0 w neg' n' d') (bx:sz (qof neg n d)≤2^34) (by_:sz (qof neg' n' d')≤2^34):
  Spec mach 82 #[v,w] h (fun v _=>v=.bool (decide (qof neg n d=qof neg' n' d'))) NP:=by
 obtain⟨_,_,_,_,_,_,_,rfl,hx⟩:=hx.sa
 obtain⟨_,_,_,_,_,_,_,rfl,hy⟩:=hy.sa
 refine Spec.go [(1,.o [0,2,1,3,4,5,6])] Tryz.func82 rfl rfl (by kernel_rfl) fun C _=>?_
 try simp(maxSteps:=999999) (disch:=omega) only[go_sem,ξ,ζ]
 refine caN (by exact bM hx) ?_;rintro _ h1 _ hv1;obtain⟨_,_,_,_,_,_,_,rfl,hv1⟩:=hv1.sa
 try simp(maxSteps:=999999) (disch:=omega) only[go_sem,ξ,ζ]
 refine caN (by exact bM hy) ?_;rintro _ h2 _ hv2;obtain⟨_,_,_,_,_,_,_,rfl,hv2⟩:=hv2.sa
 try simp(maxSteps:=999999) (disch:=omega) only[go_sem,ξ,ζ]
 refine caN (by exact av (hv1.to (h':=h2)) hv2 bx by_) ?_;rintro v3 h3 s3 rfl
 try simp(maxSteps:=999999) (disch:=omega) only[go_sem,ξ,ζ]
 by_cases he:qof neg n d=qof neg' n' d'
 ·have e1:cmpQ (qof neg n d) (qof neg' n' d')=0:=by rw[he];unfold cmpQ;grind
  try simp(maxSteps:=999999) (disch:=omega) only[go_sem,ξ,ζ]
  all_goals simp[he,e1]
 ·have e1:cmpQ (qof neg n d) (qof neg' n' d')≠0:=by unfold cmpQ;grind
  try simp(maxSteps:=999999) (disch:=omega) only[go_sem,ξ,ζ]
  all_goals simp[he,e1]
theorem mq {h0 h:PH} [Le h0 h] {v:Value} {x:Rat} (hx:Cn h0 v x) (bx:sz x≤2^30):Spec mach 80 #[v] h (fun v _=>v=.bool true) NP:=by
 have hrw:=hx.rw bx
 have hq:=jA x
 obtain⟨sn,sd,rfl,h2,h3⟩:=hx
 obtain⟨a,c,xs,rfl,ha,hxs,hxm⟩:=h2.out
 obtain⟨a',c',ys,rfl,ha',hys,hym⟩:=h3.out
 have sx:=ha.small
 have sy:=ha'.small
 obtain⟨neg,en⟩:∃b,decide (x.num < 0)=b:=⟨_,rfl⟩
 rw[en] at hrw hq ⊢
 refine Spec.enter (args:=[_]) (n:=68) Tryz.func80 rfl (by kernel_rfl) rfl (by simp) [.tmp 2] rfl (fun C _=>?_)
 repeat (first |(refine wo rfl (fun k hk=>?_);simp(disch:=omega) only[go_sem,ξ,ζ];apply hk;clear hk k) |refine wkt rfl ?_ |refine wk0 ?_ |refine rg rfl rfl (fun K hK=>?_) |refine rd [.o 0,.o 1,.o 2,.o 3,.o 4,.o 5,.o 6,.o 7,.o 8,.o 9,.o 10] rfl (by decide+kernel) rfl (fun K hK=>?_) |((first |refine ae ?_ |refine ac ?_);simp(disch:=decide) only[qs,qb,if_true,if_false,reduceIte]) |refine ah rfl (fun K hK=>?_) |refine ct rfl ?_ |((try simp(disch:=omega) only[go_sem,ξ,ζ]);(first |apply hK |(clear hK;apply hK) |(clear hK;clear hK;apply hK));clear hK;(try clear K);(try dsimp only[ag,qs,qb])))
 refine cN rfl rfl rfl rfl (by exact bM hrw) ?_;rintro v1 h1 _ hv1;obtain⟨v1_0,v1_1,v1_2,v1_3,v1_4,v1_5,v1_6,rfl,hv1⟩:=hv1.sa;(repeat (first |(refine wo rfl (fun k hk=>?_);simp(disch:=omega) only[go_sem,ξ,ζ];apply hk;clear hk k) |refine wkt rfl ?_));(try refine wk0 ?_)
 rw[hq] at hv1
 refine cN rfl rfl rfl rfl (by exact cA hv1 (by omega)) ?_;rintro v2 h2' s2 hv2;(repeat (first |(refine wo rfl (fun k hk=>?_);simp(disch:=omega) only[go_sem,ξ,ζ];apply hk;clear hk k) |refine wkt rfl ?_));(try refine wk0 ?_)
 obtain⟨tn,td,rfl,t2,t3⟩:=hv2
 rw[en]
 obtain⟨ta,tc,ts,rfl,hta,hts,_⟩:=t2.out
 obtain rfl:xs=ts:=hxs.symm.trans hts
 obtain⟨ta',tc',ts',rfl,hta',hts',_⟩:=t3.out
 obtain rfl:ys=ts':=hys.symm.trans hts'
 (repeat (first |(refine wo rfl (fun k hk=>?_);simp(disch:=omega) only[go_sem,ξ,ζ];apply hk;clear hk k) |refine wkt rfl ?_));(try refine wk0 ?_)
 have e0:(neg == neg)=true:=by simp
 repeat (first |(refine wo rfl (fun k hk=>?_);simp(disch:=omega) only[go_sem,ξ,ζ,e0];apply hk;clear hk k) |refine wkt rfl ?_ |refine wk0 ?_ |refine rg rfl rfl (fun K hK=>?_) |refine rd [.o 0,.o 1,.o 2,.o 3,.o 4,.o 5,.o 6,.o 7,.o 8,.o 9,.o 10] rfl (by decide+kernel) rfl (fun K hK=>?_) |((first |refine ae ?_ |refine ac ?_);simp(disch:=decide) only[qs,qb,if_true,if_false,reduceIte]) |refine ah rfl (fun K hK=>?_) |refine ct rfl ?_ |((try simp(disch:=omega) only[go_sem,ξ,ζ]);(first |apply hK |(clear hK;apply hK) |(clear hK;clear hK;apply hK));clear hK;(try clear K);(try dsimp only[ag,qs,qb])))
 refine cg (fun i:Nat=>⟨[(1,.p 0 0),(3,.p 1 0),(34,.v (.int .i64 xs.length)),(35,.v (.int .i64 i))],[[.bool neg,.slice a xs.length c,.slice a' ys.length c'],[.bool neg,.slice ta xs.length tc,.slice ta' ys.length tc']]⟩)
  (fun i h'=>Le h2' h'∧Le h0 h'∧i≤xs.length) (fun i=>xs.length - i) 0 ?_ ⟨inferInstance,inferInstance,by omega⟩ ?_
 ·simp(disch:=omega) only[go_sem,ξ,ζ]
 rintro i g1 ⟨hle,hle0,hi⟩
 by_cases hil:i < xs.length
 ·obtain⟨ad,rfl,hat⟩:=ha.rd g1 (i:=i) (by omega)
  obtain⟨ad',rfl,hat'⟩:=hta.rd g1 (i:=i) (by omega)
  repeat (first |(refine wo rfl (fun k hk=>?_);simp(disch:=omega) only[go_sem,ξ,ζ,hat,hat'];apply hk;clear hk k) |refine wkt rfl ?_ |refine wk0 ?_ |refine rg rfl rfl (fun K hK=>?_) |refine rd [.o 0,.o 1,.o 2,.o 3,.o 4,.o 5,.o 6,.o 7,.o 8,.o 9,.o 10] rfl (by decide+kernel) rfl (fun K hK=>?_) |((first |refine ae ?_ |refine ac ?_);simp(disch:=decide) only[qs,qb,if_true,if_false,reduceIte]) |refine ah rfl (fun K hK=>?_) |refine ct rfl ?_ |((try simp(disch:=omega) only[go_sem,ξ,ζ]);(first |apply hK |(clear hK;apply hK) |(clear hK;clear hK;apply hK));clear hK;(try clear K);(try dsimp only[ag,qs,qb])))
  refine⟨i+1,?_,⟨hle,hle0,by omega⟩,by omega⟩
  simp(disch:=omega) only[go_sem,ξ,ζ]
 ·repeat (first |(refine wo rfl (fun k hk=>?_);simp(disch:=omega) only[go_sem,ξ,ζ];apply hk;clear hk k) |refine wkt rfl ?_ |refine wk0 ?_ |refine rg rfl rfl (fun K hK=>?_) |refine rd [.o 0,.o 1,.o 2,.o 3,.o 4,.o 5,.o 6,.o 7,.o 8,.o 9,.o 10] rfl (by decide+kernel) rfl (fun K hK=>?_) |((first |refine ae ?_ |refine ac ?_);simp(disch:=decide) only[qs,qb,if_true,if_false,reduceIte]) |refine ah rfl (fun K hK=>?_) |refine ct rfl ?_ |((try simp(disch:=omega) only[go_sem,ξ,ζ]);(first |apply hK |(clear hK;apply hK) |(clear hK;clear hK;apply hK));clear hK;(try clear K);(try dsimp only[ag,qs,qb])))
  refine cg (fun i:Nat=>⟨[(1,.p 0 0),(3,.p 1 0),(52,.v (.int .i64 ys.length)),(53,.v (.int .i64 i))],[[.bool neg,.slice a xs.length c,.slice a' ys.length c'],[.bool neg,.slice ta xs.length tc,.slice ta' ys.length tc']]⟩)
   (fun i h'=>Le h2' h'∧Le h0 h'∧i≤ys.length) (fun i=>ys.length - i) 0 ?_ ⟨hle,hle0,by omega⟩ ?_
  ·simp(disch:=omega) only[go_sem,ξ,ζ]
  rintro i g2 ⟨hle,hle0,hi⟩
  by_cases hil:i < ys.length
  ·obtain⟨ad,rfl,hat⟩:=ha'.rd g2 (i:=i) (by omega)
   obtain⟨ad',rfl,hat'⟩:=hta'.rd g2 (i:=i) (by omega)
   repeat (first |(refine wo rfl (fun k hk=>?_);simp(disch:=omega) only[go_sem,ξ,ζ,hat,hat'];apply hk;clear hk k) |refine wkt rfl ?_ |refine wk0 ?_ |refine rg rfl rfl (fun K hK=>?_) |refine rd [.o 0,.o 1,.o 2,.o 3,.o 4,.o 5,.o 6,.o 7,.o 8,.o 9,.o 10] rfl (by decide+kernel) rfl (fun K hK=>?_) |((first |refine ae ?_ |refine ac ?_);simp(disch:=decide) only[qs,qb,if_true,if_false,reduceIte]) |refine ah rfl (fun K hK=>?_) |refine ct rfl ?_ |((try simp(disch:=omega) only[go_sem,ξ,ζ]);(first |apply hK |(clear hK;apply hK) |(clear hK;clear hK;apply hK));clear hK;(try clear K);(try dsimp only[ag,qs,qb])))
   refine⟨i+1,?_,⟨hle,hle0,by omega⟩,by omega⟩
   simp(disch:=omega) only[go_sem,ξ,ζ]
  ·repeat (first |(refine wo rfl (fun k hk=>?_);simp(disch:=omega) only[go_sem,ξ,ζ];apply hk;clear hk k) |refine wkt rfl ?_ |refine wk0 ?_ |refine rg rfl rfl (fun K hK=>?_) |refine rd [.o 0,.o 1,.o 2,.o 3,.o 4,.o 5,.o 6,.o 7,.o 8,.o 9,.o 10] rfl (by decide+kernel) rfl (fun K hK=>?_) |((first |refine ae ?_ |refine ac ?_);simp(disch:=decide) only[qs,qb,if_true,if_false,reduceIte]) |refine ah rfl (fun K hK=>?_) |refine ct rfl ?_ |((try simp(disch:=omega) only[go_sem,ξ,ζ]);(first |apply hK |(clear hK;apply hK) |(clear hK;clear hK;apply hK));clear hK;(try clear K);(try dsimp only[ag,qs,qb])))
   refine ai ?_;simp(disch:=omega) only[go_sem,ξ,ζ]


theorem N32.len0 {h:PH} {a:Option Addr} {l c n:Nat} (r:N32 h (.slice a l c) n):l=0↔n=0:=by
 obtain⟨_,_,_,e,_,h2,_⟩:=r.out
 cases e
 have:=nP B32 (n:=n)
 rw[h2] at this
 exact this
@[go_sem] theorem wrap_div {x y:Nat} (h:x < 4611686018427387904):IntKind.i64.wrap ((x / y:Nat):Int)=((x / y:Nat):Int):=by
 have:=Nat.div_le_self x y
 generalize x / y=z at*
 exact wi64 (by omega) (by omega)
@[go_sem] theorem wrap_div1 {x y c:Nat} (h:x+c < 4611686018427387904):IntKind.i64.wrap ((x / y+c:Nat):Int)=((x / y+c:Nat):Int):=by
 have:=Nat.div_le_self x y
 generalize x / y=z at*
 exact wi64 (by omega) (by omega)

def fail (e:Int):List PanicEntry→PH→Prop:=fun ch _=>ch=[{v:=.iface 133 (.agg #[.int .i64 e]),recovered:=false}]
def NR:Value→PH→Prop:=fun _ _=>False
theorem must_ok {h:PH}:Spec mach 147 #[.int .i64 0] h (fun _ _=>True) NP:=by
 refine Spec.enter (args:=[_]) (n:=7) Tryz.func147 rfl (by kernel_rfl) rfl (by simp) [] rfl (fun C _=>?_)
 repeat (first |(refine rg rfl rfl (fun K hK=>?_);(repeat (first |(refine wo rfl (fun k hk=>?_);simp(disch:=omega) only[go_sem,ξ,ζ];apply hk;clear hk k) |refine wkt rfl ?_));(try refine wk0 ?_);apply hK;clear hK K;(try dsimp only[ag,qs,qb])) |((first |refine ae ?_ |refine ac ?_);simp(disch:=decide) only[qs,qb,if_true,if_false,reduceIte]) |refine ah rfl (fun K hK=>?_) |refine ct rfl ?_ |((first |refine hK _ _ ?_ |(clear hK;refine hK _ _ ?_) |(clear hK;clear hK;refine hK _ _ ?_));clear hK;(try clear K)))
 refine ac ?_
 simp(disch:=omega) only[go_sem,ξ,ζ]
theorem jm {h:PH} {e:Int} (he:e≠0):Spec mach 147 #[.int .i64 e] h NR (fail e):=by
 refine Spec.enter (args:=[_]) (n:=7) Tryz.func147 rfl (by kernel_rfl) rfl (by simp) [] rfl (fun C _=>?_)
 repeat (first |(refine wo rfl (fun k hk=>?_);simp(disch:=omega) only[go_sem,ξ,ζ];apply hk;clear hk k) |refine wkt rfl ?_ |refine wk0 ?_ |refine rg rfl rfl (fun K hK=>?_) |((first |refine ae ?_ |refine ac ?_);simp(disch:=decide) only[qs,qb,if_true,if_false,reduceIte]) |refine ah rfl (fun K hK=>?_) |refine ct rfl ?_ |((try simp(disch:=omega) only[go_sem,ξ,ζ]);(first |apply hK |(clear hK;apply hK) |(clear hK;clear hK;apply hK));clear hK;(try clear K);(try dsimp only[ag,qs,qb])))
 refine wo rfl (fun k hk=>?_);simp(disch:=omega) only[go_sem,ξ,ζ]
 refine⟨by kernel_rfl,?_⟩
 apply hk;clear hk k
 refine wo rfl (fun k hk=>?_);simp(disch:=omega) only[go_sem,ξ,ζ]
 all_goals exact rfl
theorem aU {h:PH} {n a b:Int} (h1:a≤n) (h2:n≤b):Spec mach 126 #[.int .i64 n,.int .i64 a,.int .i64 b] h (fun _ _=>True) NP:=by
 refine Spec.enter (args:=[_,_,_]) (n:=15) Tryz.func126 rfl (by kernel_rfl) rfl (by simp) [] rfl (fun C _=>?_)
 repeat (first |(refine rg rfl rfl (fun K hK=>?_);(repeat (first |(refine wo rfl (fun k hk=>?_);simp(disch:=omega) only[go_sem,ξ,ζ];apply hk;clear hk k) |refine wkt rfl ?_));(try refine wk0 ?_);apply hK;clear hK K;(try dsimp only[ag,qs,qb])) |((first |refine ae ?_ |refine ac ?_);simp(disch:=decide) only[qs,qb,if_true,if_false,reduceIte]) |refine ah rfl (fun K hK=>?_) |refine ct rfl ?_ |((first |refine hK _ _ ?_ |(clear hK;refine hK _ _ ?_) |(clear hK;clear hK;refine hK _ _ ?_));clear hK;(try clear K)))
 refine ac ?_
 simp(disch:=omega) only[go_sem,ξ,ζ]
theorem iN {h:PH} {n a b:Int} (h1:n < a∨b < n):Spec mach 126 #[.int .i64 n,.int .i64 a,.int .i64 b] h NR (fail 2):=by
 refine Spec.go [] Tryz.func126 rfl rfl (by kernel_rfl) fun C _=>?_
 try simp(maxSteps:=999999) (disch:=omega) only[go_sem,ξ,ζ]
 by_cases h2:n < a
 ·try simp(maxSteps:=999999) (disch:=omega) only[go_sem,ξ,ζ]
  exact caF (by exact jm (by decide)) (fun _ _ h=>h)
 ·have h3:b < n:=h1.resolve_left h2
  try simp(maxSteps:=999999) (disch:=omega) only[go_sem,ξ,ζ]
  exact caF (by exact jm (by decide)) (fun _ _ h=>h)
theorem iM {h0 h:PH} [Le h0 h] {v:Value} {neg:Bool} {n d:Nat} (hv:Rw h0 v neg n d) (hl:¬lg neg n d):Spec mach 86 #[v] h (fun v h'=>Fr h' v (qof neg n d)) NP:=by
 obtain⟨_,_,_,_,_,_,_,rfl,hv⟩:=hv.sa
 refine Spec.go [] Tryz.func86 rfl rfl (by kernel_rfl) fun C _=>?_
 try simp(maxSteps:=999999) (disch:=omega) only[go_sem,ξ,ζ]
 refine caN (by exact sN hv hl) ?_;rintro v1 h1 s1 ⟨f,rfl,hf⟩;obtain⟨_,_,_,_,_,_,_,rfl,hf⟩:=hf.sa
 try simp(maxSteps:=999999) (disch:=omega) only[go_sem,ξ,ζ]
 exact hf.to
theorem jn {h0 h:PH} [Le h0 h] {v:Value} {neg:Bool} {n d:Nat} (hv:Rw h0 v neg n d) (hl:lg neg n d):Spec mach 86 #[v] h NR (fail 1):=by
 obtain⟨_,_,_,_,_,_,_,rfl,hv⟩:=hv.sa
 refine Spec.go [] Tryz.func86 rfl rfl (by kernel_rfl) fun C _=>?_
 try simp(maxSteps:=999999) (disch:=omega) only[go_sem,ξ,ζ]
 refine caN (by exact Gm hv hl) ?_;rintro v1 h1 s1 ⟨b,a,l,c,a',l',c',rfl⟩
 try simp(maxSteps:=999999) (disch:=omega) only[go_sem,ξ,ζ]
 exact caF (by exact jm (by decide)) (fun _ _ h=>h)
theorem fm {h0 h:PH} [Le h0 h] {v:Value} {x:Rat} (hv:Cn h0 v x):Spec mach 184 #[v,.int .i64 0] h (fun w _=>w=v) NP:=by
 obtain⟨_,_,_,_,_,_,_,rfl,hv⟩:=hv.sa
 refine Spec.go [] Tryz.func184 rfl rfl (by kernel_rfl) fun C _=>?_
 try simp(maxSteps:=999999) (disch:=omega) only[go_sem,ξ,ζ]
 refine caN (by exact must_ok) ?_;rintro v1 h1 s1 _
 try simp(maxSteps:=999999) (disch:=omega) only[go_sem,ξ,ζ]
 all_goals exact rfl
theorem jj {h:PH} {e:Int} (he:e≠0):Spec mach 184 #[zRat,.int .i64 e] h NR (fail e):=by
 unfold zRat
 refine Spec.go [] Tryz.func184 rfl rfl (by kernel_rfl) fun C _=>?_
 try simp(maxSteps:=999999) (disch:=omega) only[go_sem,ξ,ζ]
 exact caF (by exact jm he) (fun _ _ h=>h)
structure PS where
 lo:Rat
 hi:Rat
 l:Bool
 u:Bool
 e:Bool
def Iw (h:PH) (v:Value) (n1:Bool) (a1 d1:Nat) (n2:Bool) (a2 d2:Nat) (l u:Bool):Prop:=
 ∃x1 y1 x2 y2,v=.agg #[.bool n1,x1,y1,.bool n2,x2,y2,.bool l,.bool u]∧Rw h (.agg #[.bool n1,x1,y1]) n1 a1 d1∧Rw h (.agg #[.bool n2,x2,y2]) n2 a2 d2
def Sr (h:PH) (v:Value) (s:PS):Prop:=∃b1 x1 y1 b2 x2 y2,v=.agg #[.bool b1,x1,y1,.bool b2,x2,y2,.bool s.l,.bool s.u,.bool s.e]∧(∃n d,Jk h b1 x1 y1 n d)∧(∃n d,Jk h b2 x2 y2 n d)∧
 (s.l=false→s.e=false→Fr h (.agg #[.bool b1,x1,y1]) s.lo)∧(s.u=false→s.e=false→Fr h (.agg #[.bool b2,x2,y2]) s.hi)
def Sf (h:PH) (v:Value) (s:PS):Prop:=∃b1 x1 y1 b2 x2 y2,v=.agg #[.bool b1,x1,y1,.bool b2,x2,y2,.bool s.l,.bool s.u,.bool s.e]∧Fr h (.agg #[.bool b1,x1,y1]) s.lo∧Fr h (.agg #[.bool b2,x2,y2]) s.hi
theorem Sf.to {h h':PH} {v:Value} {s:PS} (r:Sf h v s) [Le h h']:Sf h' v s:=let ⟨a,b,c,d,e,f,h1,h2,h3⟩:=r;⟨a,b,c,d,e,f,h1,h2.to,h3.to⟩
theorem Sr.to {h h':PH} {v:Value} {s:PS} (r:Sr h v s) [Le h h']:Sr h' v s:=let ⟨a,b,c,d,e,f,h1,⟨m,n,h2⟩,⟨m',n',h3⟩,h4,h5⟩:=r;⟨a,b,c,d,e,f,h1,⟨m,n,h2.to⟩,⟨m',n',h3.to⟩,fun x y=>(h4 x y).to,fun x y=>(h5 x y).to⟩
theorem Fr.jk' {h:PH} {b:Bool} {x y:Value} {q:Rat} (r:Fr h (.agg #[.bool b,x,y]) q):Jk h b x y q.num.natAbs q.den:=by
 obtain⟨sn,sd,h1,h2,h3⟩:=r
 simp only[Value.agg.injEq,Array.mk.injEq,List.cons.injEq,and_true] at h1
 obtain⟨_,rfl,rfl⟩:=h1
 exact⟨h2,h3⟩
theorem Sf.sr {h:PH} {v:Value} {s:PS} (r:Sf h v s):Sr h v s:=let ⟨a,b,c,d,e,f,h1,h2,h3⟩:=r;⟨a,b,c,d,e,f,h1,⟨_,_,h2.jk'⟩,⟨_,_,h3.jk'⟩,fun _ _=>h2,fun _ _=>h3⟩
def rdS (q1 q2:Rat) (l u:Bool):PS:=⟨q1,q2,l,u,!l && !u && decide (q2 < q1)⟩
theorem wy {h0 h:PH} [Le h0 h] {v:Value} {n1 n2:Bool} {a1 d1 a2 d2:Nat} {l u:Bool} (hv:Iw h0 v n1 a1 d1 n2 a2 d2 l u) (g1:¬lg n1 a1 d1) (g2:¬lg n2 a2 d2):
  Spec mach 47 #[v] h (fun v h'=>Sf h' v (rdS (qof n1 a1 d1) (qof n2 a2 d2) l u)) NP:=by
 obtain⟨x1,y1,x2,y2,rfl,hx,hy⟩:=hv
 have hx0:=hx
 have hy0:=hy
 obtain⟨_,_,_,_,_,_,e1,_⟩:=hx
 obtain⟨_,_,_,_,_,_,e2,_⟩:=hy
 simp only[Value.agg.injEq,Array.mk.injEq,List.cons.injEq,and_true,true_and] at e1 e2
 obtain⟨rfl,rfl⟩:=e1
 obtain⟨rfl,rfl⟩:=e2
 refine Spec.enter (args:=[_]) (n:=33) Tryz.func47 rfl (by kernel_rfl) rfl (by simp) [.cell 2 91] rfl (fun C _=>?_)
 repeat (first |(refine rg rfl rfl (fun K hK=>?_);(repeat (first |(refine wo rfl (fun k hk=>?_);simp(disch:=omega) only[go_sem,ξ,ζ];apply hk;clear hk k) |refine wkt rfl ?_));(try refine wk0 ?_);apply hK;clear hK K;(try dsimp only[ag,qs,qb])) |((first |refine ae ?_ |refine ac ?_);simp(disch:=decide) only[qs,qb,if_true,if_false,reduceIte]) |refine ah rfl (fun K hK=>?_) |refine ct rfl ?_ |((first |refine hK _ _ ?_ |(clear hK;refine hK _ _ ?_) |(clear hK;clear hK;refine hK _ _ ?_));clear hK;(try clear K)))
 have z1:sz (qof n1 a1 d1)≤2048:=by unfold lg at g1;omega
 have z2:sz (qof n2 a2 d2)≤2048:=by unfold lg at g2;omega
 obtain⟨q1,hq1⟩:∃q,qof n1 a1 d1=q:=⟨_,rfl⟩
 obtain⟨q2,hq2⟩:∃q,qof n2 a2 d2=q:=⟨_,rfl⟩
 rw[hq1] at z1 ⊢
 rw[hq2] at z2 ⊢
 (first |refine AWP_t (.seg [.o 0,.o 1,.o 3,.o 4,.o 6,.o 7,.o 8,.o 9] (.alt 2 (.alt 5 (.seg [.o 10] (.alt 11 (.alt 12 .done .no) .no)) (.alt 11 (.alt 5 (.seg [.o 10] (.alt 12 .done .no)) .no) .no)) (.alt 11 (.alt 2 (.alt 5 (.seg [.o 10] (.alt 12 .done .no)) .no) .no) .no))) (by decide+kernel) rfl (fun K hK=>?_) |refine mR (.seg [.o 0,.o 1,.o 3,.o 4,.o 6,.o 7,.o 8,.o 9] (.alt 2 (.alt 5 (.seg [.o 10] (.alt 11 (.alt 12 .done .no) .no)) (.alt 11 (.alt 5 (.seg [.o 10] (.alt 12 .done .no)) .no) .no)) (.alt 11 (.alt 2 (.alt 5 (.seg [.o 10] (.alt 12 .done .no)) .no) .no) .no))) (by decide+kernel) rfl (fun K hK=>?_))
 have rest:∀(b1:Bool) (xa:Option Addr) (xl xc:Nat) (ya:Option Addr) (yl yc:Nat) (b2:Bool) (xa':Option Addr) (xl' xc':Nat) (ya':Option Addr) (yl' yc':Nat) (h':PH) (S:AS),Fr h' (.agg #[.bool b1,.slice xa xl xc,.slice ya yl yc]) q1→Fr h' (.agg #[.bool b2,.slice xa' xl' xc',.slice ya' yl' yc']) q2→
   S.le ⟨[(2,.p 1 0),(3,.p 2 0)],[[],[.bool false,.slice none 0 0,.slice none 0 0,.bool false,.slice none 0 0,.slice none 0 0,.bool false,.bool false,.bool false],[.bool b1,.slice xa xl xc,.slice ya yl yc,.bool b2,.slice xa' xl' xc',.slice ya' yl' yc',.bool l,.bool u,.bool false]]⟩→K S h':=by
  intro b1 xa xl xc ya yl yc b2 xa' xl' xc' ya' yl' yc' h' S hf1 hf2 hS
  refine hK _ _ (fq _ hS ?_);clear hK K
  cases l with
  | true=>
   (repeat (first |(refine rg rfl rfl (fun K hK=>?_);(repeat (first |(refine wo rfl (fun k hk=>?_);simp(disch:=omega) only[go_sem,ξ,ζ];apply hk;clear hk k) |refine wkt rfl ?_));(try refine wk0 ?_);apply hK;clear hK K;(try dsimp only[ag,qs,qb])) |((first |refine ae ?_ |refine ac ?_);simp(disch:=decide) only[qs,qb,if_true,if_false,reduceIte]) |refine ah rfl (fun K hK=>?_) |refine ct rfl ?_ |((first |refine hK _ _ ?_ |(clear hK;refine hK _ _ ?_) |(clear hK;clear hK;refine hK _ _ ?_));clear hK;(try clear K))))
   refine ai ?_;simp(disch:=omega) only[go_sem,ξ,ζ]
   exact⟨_,_,_,_,_,_,rfl,hf1.to,hf2.to⟩
  | false=>
   cases u with
   | true=>
    (repeat (first |(refine rg rfl rfl (fun K hK=>?_);(repeat (first |(refine wo rfl (fun k hk=>?_);simp(disch:=omega) only[go_sem,ξ,ζ];apply hk;clear hk k) |refine wkt rfl ?_));(try refine wk0 ?_);apply hK;clear hK K;(try dsimp only[ag,qs,qb])) |((first |refine ae ?_ |refine ac ?_);simp(disch:=decide) only[qs,qb,if_true,if_false,reduceIte]) |refine ah rfl (fun K hK=>?_) |refine ct rfl ?_ |((first |refine hK _ _ ?_ |(clear hK;refine hK _ _ ?_) |(clear hK;clear hK;refine hK _ _ ?_));clear hK;(try clear K))))
    refine ai ?_;simp(disch:=omega) only[go_sem,ξ,ζ]
    exact⟨_,_,_,_,_,_,rfl,hf1.to,hf2.to⟩
   | false=>
    by_cases hc:q2 < q1
    ·have e1:0 < cmpQ q1 q2:=by unfold cmpQ;grind
     have e2:rdS q1 q2 false false=⟨q1,q2,false,false,true⟩:=by simp[rdS,hc]
     rw[e2]
     (repeat (first |(refine rg rfl rfl (fun K hK=>?_);(repeat (first |(refine wo rfl (fun k hk=>?_);simp(disch:=omega) only[go_sem,ξ,ζ];apply hk;clear hk k) |refine wkt rfl ?_));(try refine wk0 ?_);apply hK;clear hK K;(try dsimp only[ag,qs,qb])) |((first |refine ae ?_ |refine ac ?_);simp(disch:=decide) only[qs,qb,if_true,if_false,reduceIte]) |refine ah rfl (fun K hK=>?_) |refine ct rfl ?_ |((first |refine hK _ _ ?_ |(clear hK;refine hK _ _ ?_) |(clear hK;clear hK;refine hK _ _ ?_));clear hK;(try clear K))));(refine rg rfl rfl (fun K hK=>?_);(repeat (first |(refine wo rfl (fun k hk=>?_);simp(disch:=omega) only[go_sem,ξ,ζ];apply hk;clear hk k) |refine wkt rfl ?_ |with_reducible refine wk0 ?_ |with_reducible refine ao ?_ |with_reducible refine aj ?_ wt_no |with_reducible refine ak ?_)))
     refine cN rfl rfl rfl rfl (by exact dq hf1 hf2 (by omega) (by omega)) ?_;rintro v1 h1 s1 rfl;(repeat (first |(refine wo rfl (fun k hk=>?_);simp(disch:=omega) only[go_sem,ξ,ζ];apply hk;clear hk k) |refine wkt rfl ?_ |with_reducible refine wk0 ?_ |with_reducible refine ao ?_ |with_reducible refine aj ?_ wt_no |with_reducible refine ak ?_))
     ((try (simp(disch:=omega) only[go_sem,ξ,ζ]));apply hK;clear hK;(try clear K);(try dsimp only[ag,qs]));(repeat (first |(refine rg rfl rfl (fun K hK=>?_);(repeat (first |(refine wo rfl (fun k hk=>?_);simp(disch:=omega) only[go_sem,ξ,ζ];apply hk;clear hk k) |refine wkt rfl ?_));(try refine wk0 ?_);apply hK;clear hK K;(try dsimp only[ag,qs,qb])) |((first |refine ae ?_ |refine ac ?_);simp(disch:=decide) only[qs,qb,if_true,if_false,reduceIte]) |refine ah rfl (fun K hK=>?_) |refine ct rfl ?_ |((first |refine hK _ _ ?_ |(clear hK;refine hK _ _ ?_) |(clear hK;clear hK;refine hK _ _ ?_));clear hK;(try clear K))))
     refine ai ?_;simp(disch:=omega) only[go_sem,ξ,ζ]
     exact⟨_,_,_,_,_,_,rfl,hf1.to,hf2.to⟩
    ·have e1:¬0 < cmpQ q1 q2:=by unfold cmpQ;grind
     have e2:rdS q1 q2 false false=⟨q1,q2,false,false,false⟩:=by simp[rdS,hc]
     rw[e2]
     (repeat (first |(refine rg rfl rfl (fun K hK=>?_);(repeat (first |(refine wo rfl (fun k hk=>?_);simp(disch:=omega) only[go_sem,ξ,ζ];apply hk;clear hk k) |refine wkt rfl ?_));(try refine wk0 ?_);apply hK;clear hK K;(try dsimp only[ag,qs,qb])) |((first |refine ae ?_ |refine ac ?_);simp(disch:=decide) only[qs,qb,if_true,if_false,reduceIte]) |refine ah rfl (fun K hK=>?_) |refine ct rfl ?_ |((first |refine hK _ _ ?_ |(clear hK;refine hK _ _ ?_) |(clear hK;clear hK;refine hK _ _ ?_));clear hK;(try clear K))));(refine rg rfl rfl (fun K hK=>?_);(repeat (first |(refine wo rfl (fun k hk=>?_);simp(disch:=omega) only[go_sem,ξ,ζ];apply hk;clear hk k) |refine wkt rfl ?_ |with_reducible refine wk0 ?_ |with_reducible refine ao ?_ |with_reducible refine aj ?_ wt_no |with_reducible refine ak ?_)))
     refine cN rfl rfl rfl rfl (by exact dq hf1 hf2 (by omega) (by omega)) ?_;rintro v1 h1 s1 rfl;(repeat (first |(refine wo rfl (fun k hk=>?_);simp(disch:=omega) only[go_sem,ξ,ζ];apply hk;clear hk k) |refine wkt rfl ?_ |with_reducible refine wk0 ?_ |with_reducible refine ao ?_ |with_reducible refine aj ?_ wt_no |with_reducible refine ak ?_))
     ((try (simp(disch:=omega) only[go_sem,ξ,ζ]));apply hK;clear hK;(try clear K);(try dsimp only[ag,qs]));(repeat (first |(refine rg rfl rfl (fun K hK=>?_);(repeat (first |(refine wo rfl (fun k hk=>?_);simp(disch:=omega) only[go_sem,ξ,ζ];apply hk;clear hk k) |refine wkt rfl ?_));(try refine wk0 ?_);apply hK;clear hK K;(try dsimp only[ag,qs,qb])) |((first |refine ae ?_ |refine ac ?_);simp(disch:=decide) only[qs,qb,if_true,if_false,reduceIte]) |refine ah rfl (fun K hK=>?_) |refine ct rfl ?_ |((first |refine hK _ _ ?_ |(clear hK;refine hK _ _ ?_) |(clear hK;clear hK;refine hK _ _ ?_));clear hK;(try clear K))))
     refine ai ?_;simp(disch:=omega) only[go_sem,ξ,ζ]
     exact⟨_,_,_,_,_,_,rfl,hf1.to,hf2.to⟩
 (repeat (first |(refine wo rfl (fun k hk=>?_);simp(disch:=omega) only[go_sem,ξ,ζ];apply hk;clear hk k) |refine wkt rfl ?_ |with_reducible refine wk0 ?_ |with_reducible refine ao ?_ |with_reducible refine aj ?_ wt_no |with_reducible refine ak ?_))
 refine aj ?_ (aj ?_ wt_no)
 ·refine cN rfl rfl rfl rfl (by exact iM hx0 g1) ?_;rintro v1 h1 _ hv1;obtain⟨v1_0,v1_1,v1_2,v1_3,v1_4,v1_5,v1_6,rfl,hv1⟩:=hv1.sa;(repeat (first |(refine wo rfl (fun k hk=>?_);simp(disch:=omega) only[go_sem,ξ,ζ];apply hk;clear hk k) |refine wkt rfl ?_ |with_reducible refine wk0 ?_ |with_reducible refine ao ?_ |with_reducible refine aj ?_ wt_no |with_reducible refine ak ?_))
  refine aj ?_ (aj ?_ wt_no)
  ·refine cN rfl rfl rfl rfl (by exact iM hy0 g2) ?_;rintro v2 h2 _ hv2;obtain⟨v2_0,v2_1,v2_2,v2_3,v2_4,v2_5,v2_6,rfl,hv2⟩:=hv2.sa;(repeat (first |(refine wo rfl (fun k hk=>?_);simp(disch:=omega) only[go_sem,ξ,ζ];apply hk;clear hk k) |refine wkt rfl ?_ |with_reducible refine wk0 ?_ |with_reducible refine ao ?_ |with_reducible refine aj ?_ wt_no |with_reducible refine ak ?_))
   rw[hq1] at hv1
   rw[hq2] at hv2
   refine rest _ _ _ _ _ _ _ _ _ _ _ _ _ _ _ _ hv1.to hv2 ?_
   simp(disch:=omega) only[go_sem,ξ,ζ,true_or]
  ·(repeat (first |(refine wo rfl (fun k hk=>?_);simp(disch:=omega) only[go_sem,ξ,ζ];apply hk;clear hk k) |refine wkt rfl ?_ |with_reducible refine wk0 ?_ |with_reducible refine ao ?_ |with_reducible refine aj ?_ wt_no |with_reducible refine ak ?_))
   refine cN rfl rfl rfl rfl (by exact iM hy0 g2) ?_;rintro v2 h2 _ hv2;obtain⟨v2_0,v2_1,v2_2,v2_3,v2_4,v2_5,v2_6,rfl,hv2⟩:=hv2.sa;(repeat (first |(refine wo rfl (fun k hk=>?_);simp(disch:=omega) only[go_sem,ξ,ζ];apply hk;clear hk k) |refine wkt rfl ?_ |with_reducible refine wk0 ?_ |with_reducible refine ao ?_ |with_reducible refine aj ?_ wt_no |with_reducible refine ak ?_))
   rw[hq1] at hv1
   rw[hq2] at hv2
   refine rest _ _ _ _ _ _ _ _ _ _ _ _ _ _ _ _ hv1.to hv2 ?_
   simp(disch:=omega) only[go_sem,ξ,ζ,true_or]
 ·(repeat (first |(refine wo rfl (fun k hk=>?_);simp(disch:=omega) only[go_sem,ξ,ζ];apply hk;clear hk k) |refine wkt rfl ?_ |with_reducible refine wk0 ?_ |with_reducible refine ao ?_ |with_reducible refine aj ?_ wt_no |with_reducible refine ak ?_))
  refine cN rfl rfl rfl rfl (by exact iM hx0 g1) ?_;rintro v1 h1 _ hv1;obtain⟨v1_0,v1_1,v1_2,v1_3,v1_4,v1_5,v1_6,rfl,hv1⟩:=hv1.sa;(repeat (first |(refine wo rfl (fun k hk=>?_);simp(disch:=omega) only[go_sem,ξ,ζ];apply hk;clear hk k) |refine wkt rfl ?_ |with_reducible refine wk0 ?_ |with_reducible refine ao ?_ |with_reducible refine aj ?_ wt_no |with_reducible refine ak ?_))
  refine cN rfl rfl rfl rfl (by exact iM hy0 g2) ?_;rintro v2 h2 _ hv2;obtain⟨v2_0,v2_1,v2_2,v2_3,v2_4,v2_5,v2_6,rfl,hv2⟩:=hv2.sa;(repeat (first |(refine wo rfl (fun k hk=>?_);simp(disch:=omega) only[go_sem,ξ,ζ];apply hk;clear hk k) |refine wkt rfl ?_ |with_reducible refine wk0 ?_ |with_reducible refine ao ?_ |with_reducible refine aj ?_ wt_no |with_reducible refine ak ?_))
  rw[hq1] at hv1
  rw[hq2] at hv2
  refine rest _ _ _ _ _ _ _ _ _ _ _ _ _ _ _ _ hv1.to hv2 ?_
  simp(disch:=omega) only[go_sem,ξ,ζ,true_or]
theorem JL {h0 h:PH} [Le h0 h] {v:Value} {n1 n2:Bool} {a1 d1 a2 d2:Nat} {l u:Bool} (hv:Iw h0 v n1 a1 d1 n2 a2 d2 l u) (g:lg n1 a1 d1∨lg n2 a2 d2):
  Spec mach 47 #[v] h NR (fail 1):=by
 obtain⟨x1,y1,x2,y2,rfl,hx,hy⟩:=hv
 have hx0:=hx
 have hy0:=hy
 obtain⟨_,_,_,_,_,_,e1,_⟩:=hx
 obtain⟨_,_,_,_,_,_,e2,_⟩:=hy
 simp only[Value.agg.injEq,Array.mk.injEq,List.cons.injEq,and_true,true_and] at e1 e2
 obtain⟨rfl,rfl⟩:=e1
 obtain⟨rfl,rfl⟩:=e2
 refine Spec.enter (args:=[_]) (n:=33) Tryz.func47 rfl (by kernel_rfl) rfl (by simp) [.cell 2 91] rfl (fun C _=>?_)
 repeat (first |(refine rg rfl rfl (fun K hK=>?_);(repeat (first |(refine wo rfl (fun k hk=>?_);simp(disch:=omega) only[go_sem,ξ,ζ];apply hk;clear hk k) |refine wkt rfl ?_));(try refine wk0 ?_);apply hK;clear hK K;(try dsimp only[ag,qs,qb])) |((first |refine ae ?_ |refine ac ?_);simp(disch:=decide) only[qs,qb,if_true,if_false,reduceIte]) |refine ah rfl (fun K hK=>?_) |refine ct rfl ?_ |((first |refine hK _ _ ?_ |(clear hK;refine hK _ _ ?_) |(clear hK;clear hK;refine hK _ _ ?_));clear hK;(try clear K)))
 (first |refine AWP_t (.seg [.o 0,.o 1,.o 3,.o 4,.o 6,.o 7,.o 8,.o 9] (.alt 2 (.alt 5 (.seg [.o 10] (.alt 11 (.alt 12 .done .no) .no)) (.alt 11 (.alt 5 (.seg [.o 10] (.alt 12 .done .no)) .no) .no)) (.alt 11 (.alt 2 (.alt 5 (.seg [.o 10] (.alt 12 .done .no)) .no) .no) .no))) (by decide+kernel) rfl (fun K hK=>?_) |refine mR (.seg [.o 0,.o 1,.o 3,.o 4,.o 6,.o 7,.o 8,.o 9] (.alt 2 (.alt 5 (.seg [.o 10] (.alt 11 (.alt 12 .done .no) .no)) (.alt 11 (.alt 5 (.seg [.o 10] (.alt 12 .done .no)) .no) .no)) (.alt 11 (.alt 2 (.alt 5 (.seg [.o 10] (.alt 12 .done .no)) .no) .no) .no))) (by decide+kernel) rfl (fun K hK=>?_))
 (repeat (first |(refine wo rfl (fun k hk=>?_);simp(disch:=omega) only[go_sem,ξ,ζ];apply hk;clear hk k) |refine wkt rfl ?_ |with_reducible refine wk0 ?_ |with_reducible refine ao ?_ |with_reducible refine aj ?_ wt_no |with_reducible refine ak ?_))
 by_cases g1:lg n1 a1 d1
 ·refine aj ?_ (aj ?_ wt_no)
  ·exact cF rfl rfl rfl rfl (by exact jn hx0 g1) (fun _ _ h=>h)
  ·(repeat (first |(refine wo rfl (fun k hk=>?_);simp(disch:=omega) only[go_sem,ξ,ζ];apply hk;clear hk k) |refine wkt rfl ?_ |with_reducible refine wk0 ?_ |with_reducible refine ao ?_ |with_reducible refine aj ?_ wt_no |with_reducible refine ak ?_))
   exact cF rfl rfl rfl rfl (by exact jn hx0 g1) (fun _ _ h=>h)
 ·have g2:=g.resolve_left g1
  refine aj ?_ (aj ?_ wt_no)
  ·refine cN rfl rfl rfl rfl (by exact iM hx0 g1) ?_;rintro v1 h1 _ hv1;obtain⟨v1_0,v1_1,v1_2,v1_3,v1_4,v1_5,v1_6,rfl,hv1⟩:=hv1.sa;(repeat (first |(refine wo rfl (fun k hk=>?_);simp(disch:=omega) only[go_sem,ξ,ζ];apply hk;clear hk k) |refine wkt rfl ?_ |with_reducible refine wk0 ?_ |with_reducible refine ao ?_ |with_reducible refine aj ?_ wt_no |with_reducible refine ak ?_))
   refine aj ?_ (aj ?_ wt_no)
   ·exact cF rfl rfl rfl rfl (by exact jn hy0 g2) (fun _ _ h=>h)
   ·(repeat (first |(refine wo rfl (fun k hk=>?_);simp(disch:=omega) only[go_sem,ξ,ζ];apply hk;clear hk k) |refine wkt rfl ?_ |with_reducible refine wk0 ?_ |with_reducible refine ao ?_ |with_reducible refine aj ?_ wt_no |with_reducible refine ak ?_))
    exact cF rfl rfl rfl rfl (by exact jn hy0 g2) (fun _ _ h=>h)
  ·(repeat (first |(refine wo rfl (fun k hk=>?_);simp(disch:=omega) only[go_sem,ξ,ζ];apply hk;clear hk k) |refine wkt rfl ?_ |with_reducible refine wk0 ?_ |with_reducible refine ao ?_ |with_reducible refine aj ?_ wt_no |with_reducible refine ak ?_))
   refine cN rfl rfl rfl rfl (by exact iM hx0 g1) ?_;rintro v1 h1 _ hv1;obtain⟨v1_0,v1_1,v1_2,v1_3,v1_4,v1_5,v1_6,rfl,hv1⟩:=hv1.sa;(repeat (first |(refine wo rfl (fun k hk=>?_);simp(disch:=omega) only[go_sem,ξ,ζ];apply hk;clear hk k) |refine wkt rfl ?_ |with_reducible refine wk0 ?_ |with_reducible refine ao ?_ |with_reducible refine aj ?_ wt_no |with_reducible refine ak ?_))
   exact cF rfl rfl rfl rfl (by exact jn hy0 g2) (fun _ _ h=>h)
theorem Jk.sl {h:PH} {b:Bool} {x y:Value} {n d:Nat} (r:Jk h b x y n d):∃na nl nc da dl dc,x=.slice na nl nc∧y=.slice da dl dc:=by
 obtain⟨_,_,_,rfl,_⟩:=r.num.sl
 obtain⟨_,_,_,rfl,_⟩:=r.den.sl
 exact⟨_,_,_,_,_,_,rfl,rfl⟩
def PS.fin (s:PS) (k:Nat):Prop:=(s.l=false→s.e=false→sz s.lo≤k)∧(s.u=false→s.e=false→sz s.hi≤k)
theorem Sr.parts {h:PH} {v:Value} {s:PS} (r:Sr h v s):∃b1 a1 m1 c1 a2 m2 c2 b2 a3 m3 c3 a4 m4 c4,v=.agg #[.bool b1,.slice a1 m1 c1,.slice a2 m2 c2,.bool b2,.slice a3 m3 c3,.slice a4 m4 c4,.bool s.l,.bool s.u,.bool s.e]∧
  (∃n d,Jk h b1 (.slice a1 m1 c1) (.slice a2 m2 c2) n d)∧(∃n d,Jk h b2 (.slice a3 m3 c3) (.slice a4 m4 c4) n d)∧
  (s.l=false→s.e=false→Fr h (.agg #[.bool b1,.slice a1 m1 c1,.slice a2 m2 c2]) s.lo)∧(s.u=false→s.e=false→Fr h (.agg #[.bool b2,.slice a3 m3 c3,.slice a4 m4 c4]) s.hi):=by
 obtain⟨b1,x1,y1,b2,x2,y2,rfl,⟨n,d,j1⟩,⟨n',d',j2⟩,f1,f2⟩:=r
 obtain⟨_,_,_,_,_,_,rfl,rfl⟩:=j1.sl
 obtain⟨_,_,_,_,_,_,rfl,rfl⟩:=j2.sl
 exact⟨_,_,_,_,_,_,_,_,_,_,_,_,_,_,rfl,⟨n,d,j1⟩,⟨n',d',j2⟩,f1,f2⟩
def hullS (s:PS) (p:Nat):PS:=⟨gdown s.lo p,gup s.hi p,s.l,s.u,s.e⟩
theorem Jq {h0 h:PH} [Le h0 h] {v:Value} {s:PS} {p:Nat} (hv:Sr h0 v s) (hf:s.fin (2^30)) (hp:p≤2^30):
  Spec mach 127 #[v,.int .i64 p] h (fun v h'=>Sr h' v (hullS s p)) NP:=by
 obtain⟨lo,hi,l,u,e⟩:=s
 obtain⟨b1,a1,m1,c1,a2,m2,c2,b2,a3,m3,c3,a4,m4,c4,rfl,⟨n,d,j1⟩,⟨n',d',j2⟩,f1,f2⟩:=hv.parts
 obtain⟨k1,k2⟩:=hf
 dsimp only at f1 f2 k1 k2 ⊢
 refine Spec.go [] Tryz.func127 rfl rfl (by kernel_rfl) fun C _=>?_
 try simp(maxSteps:=999999) (disch:=omega) only[go_sem,ξ,ζ]
 cases e with
 | true=>
  try simp(maxSteps:=999999) (disch:=omega) only[go_sem,ξ,ζ]
  exact⟨_,_,_,_,_,_,rfl,⟨n,d,j1.to⟩,⟨n',d',j2.to⟩,(fun _ e=>by cases e),(fun _ e=>by cases e)⟩
 | false=>
  cases l with
  | true=>
   cases u with
   | true=>
    try simp(maxSteps:=999999) (disch:=omega) only[go_sem,ξ,ζ]
    exact⟨_,_,_,_,_,_,rfl,⟨n,d,j1.to⟩,⟨n',d',j2.to⟩,(fun e _=>by cases e),(fun e _=>by cases e)⟩
   | false=>
    have g2:=f2 rfl rfl
    have z2:=k2 rfl rfl
    try simp(maxSteps:=999999) (disch:=omega) only[go_sem,ξ,ζ]
    refine caN (by exact jG (p:=p) (u:=true) g2 (by omega) (by omega)) ?_;rintro _ h1 _ hv1;obtain⟨_,_,_,_,_,_,_,rfl,hv1⟩:=hv1.sa
    try simp(maxSteps:=999999) (disch:=omega) only[go_sem,ξ,ζ]
    exact⟨_,_,_,_,_,_,rfl,⟨n,d,j1.to⟩,⟨_,_,hv1.jk'⟩,(fun e _=>by cases e),fun _ _=>hv1⟩
  | false=>
   have g1:=f1 rfl rfl
   have z1:=k1 rfl rfl
   cases u with
   | true=>
    try simp(maxSteps:=999999) (disch:=omega) only[go_sem,ξ,ζ]
    refine caN (by exact jG (p:=p) (u:=false) g1 (by omega) (by omega)) ?_;rintro _ h1 _ hv1;obtain⟨_,_,_,_,_,_,_,rfl,hv1⟩:=hv1.sa
    try simp(maxSteps:=999999) (disch:=omega) only[go_sem,ξ,ζ]
    exact⟨_,_,_,_,_,_,rfl,⟨_,_,hv1.jk'⟩,⟨n',d',j2.to⟩,fun _ _=>hv1,(fun e _=>by cases e)⟩
   | false=>
    have g2:=f2 rfl rfl
    have z2:=k2 rfl rfl
    try simp(maxSteps:=999999) (disch:=omega) only[go_sem,ξ,ζ]
    refine caN (by exact jG (p:=p) (u:=false) g1 (by omega) (by omega)) ?_;rintro _ h1 _ hv1;obtain⟨_,_,_,_,_,_,_,rfl,hv1⟩:=hv1.sa
    try simp(maxSteps:=999999) (disch:=omega) only[go_sem,ξ,ζ]
    refine caN (by exact jG (p:=p) (u:=true) g2 (by omega) (by omega)) ?_;rintro _ h2 _ hv2;obtain⟨_,_,_,_,_,_,_,rfl,hv2⟩:=hv2.sa
    try simp(maxSteps:=999999) (disch:=omega) only[go_sem,ξ,ζ]
    exact⟨_,_,_,_,_,_,rfl,⟨_,_,hv1.to.jk'⟩,⟨_,_,hv2.jk'⟩,fun _ _=>hv1.to,fun _ _=>hv2⟩
theorem N32.inj {h:PH} {v:Value} {m n:Nat} (r:N32 h v m) (q:N32 h v n):m=n:=by
 obtain⟨a,c,rfl,A⟩:=r
 obtain⟨a',c',h2,A'⟩:=q
 simp only[Value.slice.injEq] at h2
 obtain⟨rfl,hl,rfl⟩:=h2
 have:W 4294967296 m=W 4294967296 n:=by
  refine List.ext_getElem hl (fun i h1 h2=>?_)
  obtain⟨ad,e1,e2⟩:=A.at_ i _ (List.getElem?_eq_getElem h1)
  obtain⟨ad',e3,e4⟩:=A'.at_ i _ (List.getElem?_eq_getElem h2)
  obtain rfl:ad=ad':=by rw[e1] at e3;exact Option.some.inj e3
  rw[e2] at e4
  simp only[Option.some.injEq,Value.int.injEq,true_and] at e4
  omega
 rw[←val_W B32 m,this,val_W B32]
theorem Fr.neg {h:PH} {b:Bool} {x y:Value} {n d:Nat} {q:Rat} (r:Fr h (.agg #[.bool b,x,y]) q) (j:Jk h b x y n d):Fr h (.agg #[.bool (!b && !decide (n=0)),x,y]) (-q):=by
 obtain⟨sn,sd,h1,h2,h3⟩:=r
 simp only[Value.agg.injEq,Array.mk.injEq,List.cons.injEq,and_true,Value.bool.injEq] at h1
 obtain⟨rfl,rfl,rfl⟩:=h1
 obtain rfl:=j.num.inj h2
 refine⟨x,y,?_,by simpa using h2,by simpa using h3⟩
 have:(!decide (q.num < 0) && !decide (q.num.natAbs=0))=decide ((-q).num < 0):=by
  rw[Bool.eq_iff_iff];simp only[φ,Bool.not_eq_true',decide_eq_false_iff_not,decide_eq_true_eq,Rat.neg_num];omega
 rw[this]
def minusS (s:PS):PS:=⟨-s.hi,-s.lo,s.u,s.l,s.e⟩
theorem Fu {h0 h:PH} [Le h0 h] {v:Value} {s:PS} (hv:Sr h0 v s):
  Spec mach 165 #[v] h (fun v h'=>Sr h' v (minusS s)) NP:=by
 obtain⟨lo,hi,l,u,e⟩:=s
 obtain⟨b1,a1,m1,c1,a2,m2,c2,b2,a3,m3,c3,a4,m4,c4,rfl,⟨n,d,j1⟩,⟨n',d',j2⟩,f1,f2⟩:=hv.parts
 dsimp only at f1 f2 ⊢
 refine Spec.go [(1,.o [0,1,3,4,6,7,8,9,10,11,2,5,12,13])] Tryz.func165 rfl rfl (by kernel_rfl) fun C _=>?_
 try simp(maxSteps:=999999) (disch:=omega) only[go_sem,ξ,ζ]
 refine caN (by exact o7 j2) ?_;rintro v1 h1 s1 rfl
 try simp(maxSteps:=999999) (disch:=omega) only[go_sem,ξ,ζ]
 refine caN (by exact o7 j1) ?_;rintro v2 h2 s2 rfl
 try simp(maxSteps:=999999) (disch:=omega) only[go_sem,ξ,ζ]
 exact⟨_,_,_,_,_,_,rfl,⟨n',d',j2.num.to,j2.den.to⟩,⟨n,d,j1.num.to,j1.den.to⟩,fun x y=>((f2 x y).neg j2).to,fun x y=>((f1 x y).neg j1).to⟩
theorem Cn.zero (h:PH):Cn h (.agg #[.bool false,.slice none 0 0,.slice none 0 0]) 0:=⟨.slice none 0 0,.slice none 0 0,by simp,by simpa using N32.zero h,by simpa using N32.zero h⟩
def canS (s:PS):PS:=if s.e then ⟨1,0,false,false,true⟩ else ⟨if s.l then 0 else s.lo,if s.u then 0 else s.hi,s.l,s.u,false⟩
def Ci (h:PH) (v:Value) (c:PS):Prop:=∃b1 x1 y1 b2 x2 y2,v=.agg #[.bool b1,x1,y1,.bool b2,x2,y2,.bool c.l,.bool c.u]∧Cn h (.agg #[.bool b1,x1,y1]) c.lo∧Cn h (.agg #[.bool b2,x2,y2]) c.hi
theorem Ci.to {h h':PH} {v:Value} {s:PS} (r:Ci h v s) [Le h h']:Ci h' v s:=let ⟨a,b,c,d,e,f,h1,h2,h3⟩:=r;⟨a,b,c,d,e,f,h1,h2.to,h3.to⟩
theorem give_ok {h0 h:PH} [Le h0 h] {v:Value} {s:PS} (hv:Sr h0 v s) (hf:s.fin 2048):
  Spec mach 207 #[v] h (fun v h'=>Ci h' v (canS s)) NP:=by
 obtain⟨lo,hi,l,u,e⟩:=s
 obtain⟨b1,a1,m1,c1,a2,m2,c2,b2,a3,m3,c3,a4,m4,c4,rfl,⟨n,d,j1⟩,⟨n',d',j2⟩,f1,f2⟩:=hv.parts
 obtain⟨k1,k2⟩:=hf
 dsimp only at f1 f2 k1 k2 ⊢
 refine Spec.go [] Tryz.func207 rfl rfl (by kernel_rfl) fun C _=>?_
 try simp(maxSteps:=999999) (disch:=omega) only[go_sem,ξ,ζ]
 cases e with
 | true=>
  try simp(maxSteps:=999999) (disch:=omega) only[go_sem,ξ,ζ]
  refine caN (by exact cB (n:=1) (by decide) (by decide)) ?_;rintro _ h1 _ hv1;obtain⟨_,_,_,_,_,_,_,rfl,hv1⟩:=hv1.sa
  try simp(maxSteps:=999999) (disch:=omega) only[go_sem,ξ,ζ]
  refine caN (by exact cO hv1 (by decide)) ?_;rintro v2 h2 s2 ⟨w,rfl,hw⟩;obtain⟨_,_,_,_,_,_,_,rfl,hw⟩:=hw.sa
  try simp(maxSteps:=999999) (disch:=omega) only[go_sem,ξ,ζ]
  refine caN (by exact fm hw) ?_;rintro v3 h3 s3 rfl
  try simp(maxSteps:=999999) (disch:=omega) only[go_sem,ξ,ζ]
  exact⟨_,_,_,_,_,_,rfl,hw.to,Cn.zero _⟩
 | false=>
  cases l with
  | true=>
   cases u with
   | true=>
    try simp(maxSteps:=999999) (disch:=omega) only[go_sem,ξ,ζ]
    exact⟨_,_,_,_,_,_,rfl,Cn.zero _,Cn.zero _⟩
   | false=>
    try simp(maxSteps:=999999) (disch:=omega) only[go_sem,ξ,ζ]
    refine caN (by exact cO (f2 rfl rfl) (k2 rfl rfl)) ?_;rintro v2 h2 s2 ⟨w,rfl,hw⟩;obtain⟨_,_,_,_,_,_,_,rfl,hw⟩:=hw.sa
    try simp(maxSteps:=999999) (disch:=omega) only[go_sem,ξ,ζ]
    refine caN (by exact fm hw) ?_;rintro v3 h3 s3 rfl
    try simp(maxSteps:=999999) (disch:=omega) only[go_sem,ξ,ζ]
    exact⟨_,_,_,_,_,_,rfl,Cn.zero _,hw.to⟩
  | false=>
   cases u with
   | true=>
    try simp(maxSteps:=999999) (disch:=omega) only[go_sem,ξ,ζ]
    refine caN (by exact cO (f1 rfl rfl) (k1 rfl rfl)) ?_;rintro v2 h2 s2 ⟨w,rfl,hw⟩;obtain⟨_,_,_,_,_,_,_,rfl,hw⟩:=hw.sa
    try simp(maxSteps:=999999) (disch:=omega) only[go_sem,ξ,ζ]
    refine caN (by exact fm hw) ?_;rintro v3 h3 s3 rfl
    try simp(maxSteps:=999999) (disch:=omega) only[go_sem,ξ,ζ]
    exact⟨_,_,_,_,_,_,rfl,hw.to,Cn.zero _⟩
   | false=>
    try simp(maxSteps:=999999) (disch:=omega) only[go_sem,ξ,ζ]
    refine caN (by exact cO (f1 rfl rfl) (k1 rfl rfl)) ?_;rintro v2 h2 s2 ⟨w,rfl,hw⟩;obtain⟨_,_,_,_,_,_,_,rfl,hw⟩:=hw.sa
    try simp(maxSteps:=999999) (disch:=omega) only[go_sem,ξ,ζ]
    refine caN (by exact fm hw) ?_;rintro v3 h3 s3 rfl
    try simp(maxSteps:=999999) (disch:=omega) only[go_sem,ξ,ζ]
    refine caN (by exact cO (f2 rfl rfl) (k2 rfl rfl)) ?_;rintro v4 h4 s4 ⟨w',rfl,hw'⟩;obtain⟨_,_,_,_,_,_,_,rfl,hw'⟩:=hw'.sa
    try simp(maxSteps:=999999) (disch:=omega) only[go_sem,ξ,ζ]
    refine caN (by exact fm hw') ?_;rintro v5 h5 s5 rfl
    try simp(maxSteps:=999999) (disch:=omega) only[go_sem,ξ,ζ]
    exact⟨_,_,_,_,_,_,rfl,hw.to,hw'.to⟩
theorem Jj {h0 h:PH} [Le h0 h] {v:Value} {s:PS} (hv:Sr h0 v s) (hf:¬s.fin 2048):
  Spec mach 207 #[v] h NR (fail 1):=by
 obtain⟨lo,hi,l,u,e⟩:=s
 obtain⟨b1,a1,m1,c1,a2,m2,c2,b2,a3,m3,c3,a4,m4,c4,rfl,⟨n,d,j1⟩,⟨n',d',j2⟩,f1,f2⟩:=hv.parts
 unfold PS.fin at hf
 dsimp only at f1 f2 hf ⊢
 refine Spec.go [] Tryz.func207 rfl rfl (by kernel_rfl) fun C _=>?_
 try simp(maxSteps:=999999) (disch:=omega) only[go_sem,ξ,ζ]
 cases e with
 |true=>exact(hf ⟨(fun _ e=>by cases e),(fun _ e=>by cases e)⟩).elim
 | false =>
  cases l with
  | true=>
   cases u with
   |true=>exact(hf ⟨(fun e _=>by cases e),(fun e _=>by cases e)⟩).elim
   | false=>
    have z2:¬sz hi≤2048:=fun k=>hf ⟨(fun e _=>by cases e),fun _ _=>k⟩
    try simp(maxSteps:=999999) (disch:=omega) only[go_sem,ξ,ζ]
    refine caN (by exact ms (f2 rfl rfl) z2) ?_;rintro v2 h2 s2 rfl
    try simp(maxSteps:=999999) (disch:=omega) only[go_sem,ξ,ζ]
    exact caF (by exact jj (by decide)) (fun _ _ h=>h)
  | false=>
   by_cases z1:sz lo≤2048
   ·cases u with
    |true=>exact(hf ⟨fun _ _=>z1,(fun e _=>by cases e)⟩).elim
    | false=>
     have z2:¬sz hi≤2048:=fun k=>hf ⟨fun _ _=>z1,fun _ _=>k⟩
     try simp(maxSteps:=999999) (disch:=omega) only[go_sem,ξ,ζ]
     refine caN (by exact cO (f1 rfl rfl) z1) ?_;rintro v2 h2 s2 ⟨w,rfl,hw⟩;obtain⟨_,_,_,_,_,_,_,rfl,hw⟩:=hw.sa
     try simp(maxSteps:=999999) (disch:=omega) only[go_sem,ξ,ζ]
     refine caN (by exact fm hw) ?_;rintro v3 h3 s3 rfl
     try simp(maxSteps:=999999) (disch:=omega) only[go_sem,ξ,ζ]
     refine caN (by exact ms (f2 rfl rfl) z2) ?_;rintro v4 h4 s4 rfl
     try simp(maxSteps:=999999) (disch:=omega) only[go_sem,ξ,ζ]
     exact caF (by exact jj (by decide)) (fun _ _ h=>h)
   ·cases u with
    | true=>
     try simp(maxSteps:=999999) (disch:=omega) only[go_sem,ξ,ζ]
     refine caN (by exact ms (f1 rfl rfl) z1) ?_;rintro v2 h2 s2 rfl
     try simp(maxSteps:=999999) (disch:=omega) only[go_sem,ξ,ζ]
     exact caF (by exact jj (by decide)) (fun _ _ h=>h)
    | false=>
     try simp(maxSteps:=999999) (disch:=omega) only[go_sem,ξ,ζ]
     refine caN (by exact ms (f1 rfl rfl) z1) ?_;rintro v2 h2 s2 rfl
     try simp(maxSteps:=999999) (disch:=omega) only[go_sem,ξ,ζ]
     exact caF (by exact jj (by decide)) (fun _ _ h=>h)
inductive NS where
 |e
 |i (lo hi:Option Rat)
def omin:Option Rat→Option Rat→Option Rat
 |none,b=>b
 |some x,none=>some x
 |some x,some y=>some (min x y)
def jmin:Option Rat→Option Rat→Option Rat
 |some x,some y=>some (min x y)
 |_,_=>none
def jmax:Option Rat→Option Rat→Option Rat
 |some x,some y=>some (max x y)
 |_,_=>none
def oadd:Option Rat→Option Rat→Option Rat
 |some x,some y=>some (x+y)
 |_,_=>none
def ordO:Option Rat→Option Rat→Bool
 |some x,some y=>!decide (y < x)
 |_,_=>true
namespace NS
def mk' (a b:Option Rat):NS:=bif ordO a b then .i a b else .e
def hull (p:Nat):NS→NS
 |.e=>.e
 |.i a b=>.i (a.map (gdown · p)) (b.map (gup · p))
def minus:NS→NS
 |.e=>.e
 |.i a b=>.i (b.map (-·)) (a.map (-·))
def joined:NS→NS→NS
 |.e,y=>y
 |x,.e=>x
 |.i a b,.i c d=>.i (jmin a c) (jmax b d)
def lesser:NS→NS→NS
 |.i a b,.i c d=>.i (jmin a c) (omin b d)
 |_,_=>.e
def sum:NS→NS→NS
 |.i a b,.i c d=>.i (oadd a c) (oadd b d)
 |_,_=>.e
def void:NS→Bool
 |.e=>true
 |_=>false
def ok:NS→Prop
 |.e=>True
 |.i a b=>ordO a b=true
def all (f:Rat→Bool):NS→Bool
 |.e=>true
 |.i a b=>a.all f && b.all f
def le (k:Nat) (x:NS):Prop:=x.all (fun q=>decide (sz q≤k))=true
instance (k:Nat) (x:NS):Decidable (x.le k):=by unfold le;infer_instance
def slo:NS→Int
 |.e=>0
 | .i a _=>match a with
  |none=>-1
  |some q=>sgn3 q
def shi:NS→Int
 |.e=>0
 | .i _ b=>match b with
  |none=>1
  |some q=>sgn3 q
def zero (x:NS):Bool:=!x.void && decide (x.slo≤0) && decide (0≤x.shi)
def lowIn:Option Rat→Option Rat→Bool
 |none,_=>true
 |some _,none=>false
 |some c,some a=>!decide (a < c)
def highIn:Option Rat→Option Rat→Bool
 |none,_=>true
 |some _,none=>false
 |some d,some b=>!decide (d < b)
def within:NS→NS→Bool
 |.e,_=>true
 |_,.e=>false
 |.i a b,.i c d=>lowIn c a && highIn d b
def has:NS→Rat→Bool
 |.e,_=>false
 |.i a b,q=>a.all (fun x=>!decide (q < x)) && b.all (fun x=>!decide (x < q))
end NS
abbrev Out:=Except Int NS
def Out.fin:Out→Out
 |.error e=>.error e
 |.ok x=>bif decide (x.le 2048) then .ok x else .error 1
end Go.Q
