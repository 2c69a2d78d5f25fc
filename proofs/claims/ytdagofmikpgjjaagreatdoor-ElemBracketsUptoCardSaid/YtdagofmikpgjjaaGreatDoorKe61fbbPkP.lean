/-
  The reference of layer 2, and what stands on it. Conditions: each theorem's own.
-/
import Derived.Test.YtdagofmikpgjjaaGreatDoorK98c21dPkF
import Derived.Test.YtdagofmikpgjjaaGreatDoorK5e0678PkN
import Derived.Test.YtdagofmikpgjjaaGreatDoorKef6d44PkO
import Derived.Test.YtdagofmikpgjjaaGreatDoorK0534f2PkL
set_option linter.unusedVariables false
set_option linter.unusedSimpArgs false
open Nat (reduceAdd)
namespace Go.Q
open Go.Proofs
set_option maxRecDepth 100000
set_option maxHeartbeats 8000000
theorem two_ne:(2:Rat)≠0:=by decide
theorem pw_split (e:Int):(2:Rat)^e*((2^(max 0 (-e)).toNat:Nat):Rat)=((2^(max 0 e).toNat:Nat):Rat):=by
  have h:=Rat.zpow_add two_ne e (((max 0 (-e)).toNat:Nat):Int)
  rw[show e+(((max 0 (-e)).toNat:Nat):Int)=(((max 0 e).toNat:Nat):Int) by omega,Rat.zpow_natCast,Rat.zpow_natCast] at h
  rw[Rat.natCast_pow,Rat.natCast_pow]
  exact h.symm
theorem num_over {x:Rat} (h:0 < x):x*(x.den:Rat)=(x.num.natAbs:Rat):=by
  have q:=q_den x
  have n0:=Rat.num_nonneg.2 (llt h)
  rw[q,show((x.num.natAbs:Nat):Rat)=(((x.num.natAbs:Nat):Int):Rat) from rfl,Int.natAbs_of_nonneg n0]
theorem lg_cmp {x:Rat} (h:0 < x) (e:Int):x < 2^e↔lgn x.num.natAbs e < lgd x.den e:=by
  have q:=num_over h
  have s:=pw_split e
  have d0:(0:Rat) < (x.den:Rat):=by exact_mod_cast x.den_pos
  have b0:(0:Rat) < ((2^(max 0 (-e)).toNat:Nat):Rat):=by exact_mod_cast Nat.pos_of_ne_zero (am _)
  have k:lgn x.num.natAbs e < lgd x.den e↔(x.num.natAbs:Rat)*((2^(max 0 (-e)).toNat:Nat):Rat) < (x.den:Rat)*((2^(max 0 e).toNat:Nat):Rat):=by
    unfold lgn lgd
    rw[←Rat.natCast_mul,←Rat.natCast_mul,Rat.natCast_lt_natCast]
  rw[k,←q,←s]
  generalize(2:Rat)^e=P at*
  generalize((2^(max 0 (-e)).toNat:Nat):Rat)=B at*
  generalize(x.den:Rat)=D at*
  have DB:=Rat.mul_pos d0 b0
  constructor
  · intro c
    have:=Rat.mul_lt_mul_of_pos_right c DB
    grind
  · intro c
    refine Rat.not_le.1 fun c2=>?_
    have:=mlr c2 (llt DB)
    grind
theorem odiv_ratio {a b c d:Nat} {u:Bool} (hb:b≠0) (hd:d≠0) (h:a*d=c*b):odiv a b u=odiv c d u:=by
  have D:a / b=c / d:=by
    rw[←Nat.mul_div_mul_right a b (Nat.pos_of_ne_zero hd),h,Nat.mul_comm b d,Nat.mul_div_mul_right c d (Nat.pos_of_ne_zero hb)]
  have C:cdiv a b=cdiv c d:=by
    have k:∀z,cdiv a b≤z↔cdiv c d≤z:=fun z=>by
      rw[az hb,az hd]
      constructor
      · intro g
        have:=Nat.mul_le_mul_right d g
        refine Nat.le_of_mul_le_mul_right (c:=b) ?_ (Nat.pos_of_ne_zero hb)
        rw[←h];grind
      · intro g
        have:=Nat.mul_le_mul_right b g
        refine Nat.le_of_mul_le_mul_right (c:=d) ?_ (Nat.pos_of_ne_zero hd)
        rw[h];grind
    exact Nat.le_antisymm ((k _).2 (Nat.le_refl _)) ((k _).1 (Nat.le_refl _))
  unfold odiv
  cases u
  · exact D
  · exact C
theorem odiv_quot {q:Rat} {t b w:Nat} {u:Bool} (hb:b≠0) (h:q*(b:Rat)=(t:Rat)):odiv (q.num.natAbs*2^w) q.den u=odiv (t*2^w) b u:=by
  have b0:(0:Rat) < (b:Rat):=by exact_mod_cast Nat.pos_of_ne_zero hb
  have q0:0≤q:=by
    refine Rat.not_lt.1 fun c=>?_
    have t0:(0:Rat)≤(t:Rat):=by exact_mod_cast Nat.zero_le t
    have:=Rat.mul_lt_mul_of_pos_right c b0
    grind
  have n0:=Rat.num_nonneg.2 q0
  have k:q.num.natAbs*b=t*q.den:=by
    have e:q*(q.den:Rat)=(q.num.natAbs:Rat):=by
      rw[show((q.num.natAbs:Nat):Rat)=(((q.num.natAbs:Nat):Int):Rat) from rfl,Int.natAbs_of_nonneg n0]
      exact q_den q
    have:((q.num.natAbs*b:Nat):Rat)=((t*q.den:Nat):Rat):=by
      rw[Rat.natCast_mul,Rat.natCast_mul,←e,←h];grind
    exact_mod_cast this
  exact odiv_ratio q.den_nz hb (by rw[Nat.mul_right_comm,k];grind)
theorem lg_z {x:Rat} (h:0 < x):(x - 2^lge x.num.natAbs x.den) / (x+2^lge x.num.natAbs x.den)*((lgB x.num.natAbs x.den:Nat):Rat)=((lgT x.num.natAbs x.den 0:Nat):Rat):=by
  have q:=num_over h
  have n0:x.num.natAbs≠0:=fun c=>by
    have k:=num_over h
    rw[c,show((0:Nat):Rat)=0 from rfl] at k
    have d0:(0:Rat) < (x.den:Rat):=by exact_mod_cast x.den_pos
    have:=Rat.mul_pos h d0
    grind
  have s:=pw_split (lge x.num.natAbs x.den)
  have lb:=jy (d:=x.den) n0
  have eB:((lgB x.num.natAbs x.den:Nat):Rat)=((lgn x.num.natAbs (lge x.num.natAbs x.den):Nat):Rat)+((lgd x.den (lge x.num.natAbs x.den):Nat):Rat):=by unfold lgB;rw[Rat.natCast_add]
  have eT:((lgT x.num.natAbs x.den 0:Nat):Rat)=((lgn x.num.natAbs (lge x.num.natAbs x.den):Nat):Rat) - ((lgd x.den (lge x.num.natAbs x.den):Nat):Rat):=by
    unfold lgT
    rw[Nat.pow_zero,Nat.mul_one]
    have:((lgn x.num.natAbs (lge x.num.natAbs x.den) - lgd x.den (lge x.num.natAbs x.den):Nat):Rat)+((lgd x.den (lge x.num.natAbs x.den):Nat):Rat)=((lgn x.num.natAbs (lge x.num.natAbs x.den):Nat):Rat):=by rw[←Rat.natCast_add,Nat.sub_add_cancel lb]
    grind
  have p0:(0:Rat) < 2^lge x.num.natAbs x.den:=Rat.zpow_pos (by decide)
  rw[eB,eT]
  unfold lgn lgd
  rw[Rat.natCast_mul,Rat.natCast_mul,←s,←q]
  generalize((2^(max 0 (-lge x.num.natAbs x.den)).toNat:Nat):Rat)=B at*
  generalize(2:Rat)^lge x.num.natAbs x.den=P at*
  generalize(x.den:Rat)=D at*
  have i:(x+P)*(x+P)⁻¹=1:=Rat.mul_inv_cancel _ (by grind)
  rw[Rat.div_def]
  generalize(x+P)⁻¹=I at*
  have:(x - P)*I*(x*D*B+D*(P*B))=(x - P)*D*B*((x+P)*I):=by grind
  rw[this,i]
  grind
theorem sgn_lin (a b m w:Nat):(m:Rat)*sgn false a (2^w)+sgn false b (2^w)=sgn false (a*m+b) (2^w)∧ -(m:Rat)*sgn false a (2^w)+sgn false b (2^w)=sgn false b (2^w)+ -sgn false (a*m) (2^w):=by
  have e:∀n,sgn false n (2^w)*((2^w:Nat):Rat)=(n:Rat):=fun n=>vK n (am w)
  have u0:(0:Rat) < ((2^w:Nat):Rat):=by exact_mod_cast Nat.pos_of_ne_zero (am w)
  have e1:=e a
  have e2:=e b
  have e3:=e (a*m+b)
  have e4:=e (a*m)
  rw[Rat.natCast_add,Rat.natCast_mul] at e3
  rw[Rat.natCast_mul] at e4
  generalize sgn false (a*m+b) (2^w)=r at*
  generalize sgn false (a*m) (2^w)=r' at*
  generalize sgn false a (2^w)=s at*
  generalize sgn false b (2^w)=t at*
  generalize((2^w:Nat):Rat)=U at*
  constructor
  · have k:((m:Rat)*s+t - r)*U=0:=by grind
    rcases Rat.mul_eq_zero.1 k with c |c<;>grind
  · have k:(-(m:Rat)*s+t - (t+ -r'))*U=0:=by grind
    rcases Rat.mul_eq_zero.1 k with c |c<;>grind
theorem RPw_spec {h0 h:PH} [Le h0 h] {v:Value} {e:Int} (hv:Qr h0 v ((1:Int):Rat)) (h1: -4096≤e) (h2:e≤4096):Spec mach 209 #[v,.int .i64 e] h (fun v h'=>Qr h' v ((2:Rat)^e)) NP:=by
  have b:sz ((1:Int):Rat)≤2^34:=by decide
  by_cases he:0≤e
  · obtain⟨k,rfl⟩:=Int.eq_ofNat_of_zero_le he
    have:=ll (h:=h) (p:=k) hv b (by omega)
    rw[show((1:Int):Rat)=1 from rfl,Rat.one_mul] at this
    rw[Rat.zpow_natCast]
    exact this
  · obtain⟨k,rfl⟩:∃k:Nat,e= -(k:Int):=⟨(-e).toNat,by omega⟩
    have:=gI (h:=h) (p:=k) (i:=-(k:Int)) hv rfl b (by omega)
    rw[show((1:Int):Rat)=1 from rfl,Rat.div_def,Rat.one_mul] at this
    rw[Rat.zpow_neg,Rat.zpow_natCast]
    exact this
theorem sz_pw {e:Int} (h1: -4096≤e) (h2:e≤4096):sz ((2:Rat)^e)≤4097:=by
  by_cases he:0≤e
  · obtain⟨k,rfl⟩:=Int.eq_ofNat_of_zero_le he
    rw[Rat.zpow_natCast]
    have:=sz_two k
    omega
  · obtain⟨k,rfl⟩:∃k:Nat,e= -(k:Int):=⟨(-e).toNat,by omega⟩
    rw[Rat.zpow_neg,Rat.zpow_natCast]
    have:=sz_two k
    have:=iQ ((2:Rat)^k)
    omega
theorem RExponent_spec {h0 h:PH} [Le h0 h] {v:Value} {x:Rat} (hx:Qr h0 v x) (bx:sz x≤2048) (h00:0 < x):Spec mach 226 #[v] h (fun r _=>r=.int .i64 (lge x.num.natAbs x.den)) NP:=by
  have b1:=bG x
  have b2:=bB x
  obtain⟨a1,a2,a3,a4⟩:=Bj (Nat.le_trans b1 bx) (Nat.le_trans b2 bx)
  have kD:=fun {h} [Le h0 h]=>IJ (h:=h) hx
  have e0:(bl x.num.natAbs:Int) - bl x.den=lge0 x.num.natAbs x.den:=rfl
  have ec:decide (cmpQ x (2^lge0 x.num.natAbs x.den) < 0)=decide (lgn x.num.natAbs (lge0 x.num.natAbs x.den) < lgd x.den (lge0 x.num.natAbs x.den)):=by
    rw[decide_eq_decide,←lg_cmp h00]
    unfold cmpQ;grind
  have zp:=sz_pw (e:=lge0 x.num.natAbs x.den) (by omega) (by omega)
  have el:lge x.num.natAbs x.den=if lgn x.num.natAbs (lge0 x.num.natAbs x.den) < lgd x.den (lge0 x.num.natAbs x.den) then lge0 x.num.natAbs x.den - 1 else lge0 x.num.natAbs x.den:=rfl
  obtain⟨c,hc⟩:∃c,decide (lgn x.num.natAbs (lge0 x.num.natAbs x.den) < lgd x.den (lge0 x.num.natAbs x.den))=c:=⟨_,rfl⟩
  rw[hc] at ec
  have kI:=fun {h}=>aF (h:=h) (n:=1) (by decide) (by decide)
  have el:lge x.num.natAbs x.den=if c=true then lge0 x.num.natAbs x.den - 1 else lge0 x.num.natAbs x.den:=by rw[el,←hc];simp only[decide_eq_true_eq]
  rw[el]
  have hx0:=hx
  obtain⟨_,_,_,_,_,_,e,rfl,k1,k2,k3⟩:=hx.sl
  clear hc el
  generalize lge0 x.num.natAbs x.den=E at*
  have F:=Hid.mk (And.intro b1 (And.intro b2 (And.intro zp bx)));clear b1 b2 zp bx
  refine Spec.go [(1,.o [0,1,3,2,4,5,6,7]),(2,.o [0,2,1,3,4,5])] Tryz.func226 rfl rfl (by kernel_rfl) fun C _=>?_
  try simp(maxSteps:=999999) (disch:=omega) only[go_sem,Nat.reduceBEq,reduceAdd]
  refine caN (by exact mv k1 (by have:=F.out;omega)) ?_;rintro v1 g1 s1 rfl
  try simp(maxSteps:=999999) (disch:=omega) only[go_sem,Nat.reduceBEq,reduceAdd]
  refine caN (by exact kD) ?_;rintro _ g2 _ q2;obtain⟨v2,_,_,rfl,q2⟩:=q2.sl
  try simp(maxSteps:=999999) (disch:=omega) only[go_sem,Nat.reduceBEq,reduceAdd]
  refine caN (by exact mv q2 (by have:=F.out;omega)) ?_;rintro v3 g3 s3 rfl
  try simp(maxSteps:=999999) (disch:=omega) only[go_sem,Nat.reduceBEq,reduceAdd,e0]
  refine caN (by exact kI) ?_;rintro v4 g4 s4 q4;obtain⟨_,_,_,_,_,_,_,rfl,q4⟩:=q4.sa
  try simp(maxSteps:=999999) (disch:=omega) only[go_sem,Nat.reduceBEq,reduceAdd]
  refine caN (by exact RPw_spec q4 (by have:=F.out;omega) (by have:=F.out;omega)) ?_;rintro v5 g5 s5 q5;obtain⟨_,_,_,_,_,_,_,rfl,q5⟩:=q5.sa
  try simp(maxSteps:=999999) (disch:=omega) only[go_sem,Nat.reduceBEq,reduceAdd]
  refine caN (by exact av (hx0.to (h':=g5)) q5 (by have:=F.out;omega) (by have:=F.out;omega)) ?_;rintro v6 g6 s6 rfl
  try simp(maxSteps:=999999) (disch:=omega) only[go_sem,Nat.reduceBEq,reduceAdd]
  cases c
  · try simp(maxSteps:=999999) (disch:=omega) only[go_sem,Nat.reduceBEq,reduceAdd,ec]
    rfl
  · try simp(maxSteps:=999999) (disch:=omega) only[go_sem,Nat.reduceBEq,reduceAdd,ec]
theorem RLog_spec {h0 h:PH} [Le h0 h] {v:Value} {x:Rat} {p:Nat} (hx:Qr h0 v x) (bx:sz x≤2048) (h00:0 < x) (hp:p≤128):Spec mach 158 #[v,.int .i64 p] h (fun r h'=>Qp h' r (lnLo x.num.natAbs x.den p) (lnHi x.num.natAbs x.den p)) NP:=by
  have b1:=bG x
  have b2:=bB x
  obtain⟨a1,a2,_,_⟩:=Bj (Nat.le_trans b1 bx) (Nat.le_trans b2 bx)
  have n0:x.num.natAbs≠0:=fun c=>by
    have k:=num_over h00
    rw[c,show((0:Nat):Rat)=0 from rfl] at k
    have d0:(0:Rat) < (x.den:Rat):=by exact_mod_cast x.den_pos
    have:=Rat.mul_pos h00 d0
    grind
  have kE:=fun {h} [Le h0 h]=>RExponent_spec (h:=h) hx bx h00
  have zz:=lg_z h00
  have hB:=lP (d:=x.den) n0
  have zp:=sz_pw (e:=lge x.num.natAbs x.den) (by omega) (by omega)
  have z1:=BS x (2^lge x.num.natAbs x.den)
  have z2:=dA x (2^lge x.num.natAbs x.den)
  have z3:=bV (x - 2^lge x.num.natAbs x.den) (x+2^lge x.num.natAbs x.den)⁻¹
  have z4:=iQ (x+2^lge x.num.natAbs x.den)
  rw[←Rat.div_def] at z3
  have kG:=fun(u:Bool)=>odiv_quot (w:=p+32) (u:=u) hB zz
  have eT:lgT x.num.natAbs x.den 0*2^(p+32)=lgT x.num.natAbs x.den (p+32):=by unfold lgT;rw[Nat.pow_zero,Nat.mul_one]
  have g0:odiv (((x - 2^lge x.num.natAbs x.den) / (x+2^lge x.num.natAbs x.den)).num.natAbs*2^(p+32)) ((x - 2^lge x.num.natAbs x.den) / (x+2^lge x.num.natAbs x.den)).den false=lgT x.num.natAbs x.den (p+32) / lgB x.num.natAbs x.den:=by rw[kG,eT];rfl
  have g1:odiv (((x - 2^lge x.num.natAbs x.den) / (x+2^lge x.num.natAbs x.den)).num.natAbs*2^(p+32)) ((x - 2^lge x.num.natAbs x.den) / (x+2^lge x.num.natAbs x.den)).den true=cdiv (lgT x.num.natAbs x.den (p+32)) (lgB x.num.natAbs x.den):=by rw[kG,eT];rfl
  have kT:=fun(u:Bool)=>odiv_quot (q:=1 / ((3:Nat):Rat)) (t:=1) (b:=3) (w:=p+32) (u:=u) (by decide) (by decide+kernel)
  have t0:odiv ((1 / ((3:Nat):Rat)).num.natAbs*2^(p+32)) (1 / ((3:Nat):Rat)).den false=2^(p+32) / 3:=by rw[kT,Nat.one_mul];rfl
  have t1:odiv ((1 / ((3:Nat):Rat)).num.natAbs*2^(p+32)) (1 / ((3:Nat):Rat)).den true=cdiv (2^(p+32)) 3:=by rw[kT,Nat.one_mul];rfl
  have s3:sz (1 / ((3:Nat):Rat))≤2^30:=by decide+kernel
  obtain⟨l1,l2⟩:=Bl (n:=x.num.natAbs) (d:=x.den) (w:=p+32) n0
  obtain⟨l3,l4⟩:=Bi (p+32)
  have l5:=wh l1 l2
  have l6:=wh l3 l4
  have c1:bl (lgmL x.num.natAbs x.den (p+32))≤p+32+8:=lO l5.1
  have c2:bl (lgmH x.num.natAbs x.den (p+32))≤p+32+8:=lO l5.2
  have c3:bl (lg2L (p+32))≤p+32+8:=lO l6.1
  have c4:bl (lg2H (p+32))≤p+32+8:=lO l6.2
  have s1:=sz_grid (w:=p+32) c1 (by omega)
  have s2:=sz_grid (w:=p+32) c2 (by omega)
  have s4:=sz_grid (w:=p+32) c3 (by omega)
  have s5:=sz_grid (w:=p+32) c4 (by omega)
  have si:=FW (lge x.num.natAbs x.den)
  have sb:bl (lge x.num.natAbs x.den).natAbs≤12:=bl_le.2 (by omega)
  have m1:=bV ((lge x.num.natAbs x.den:Int):Rat) (sgn false (lg2L (p+32)) (2^(p+32)))
  have m2:=bV ((lge x.num.natAbs x.den:Int):Rat) (sgn false (lg2H (p+32)) (2^(p+32)))
  have kP:=fun {h}=>aF (h:=h) (n:=lge x.num.natAbs x.den) (by omega) (by omega)
  have kI:=fun {h}=>aF (h:=h) (n:=1) (by decide) (by decide)
  have eA:0≤lge x.num.natAbs x.den→lnLo x.num.natAbs x.den p=gdown (((lge x.num.natAbs x.den:Int):Rat)*sgn false (lg2L (p+32)) (2^(p+32))+sgn false (lgmL x.num.natAbs x.den (p+32)) (2^(p+32))) p∧lnHi x.num.natAbs x.den p=gup (((lge x.num.natAbs x.den:Int):Rat)*sgn false (lg2H (p+32)) (2^(p+32))+sgn false (lgmH x.num.natAbs x.den (p+32)) (2^(p+32))) p:=fun he=>by
    obtain⟨m,hm⟩:=Int.eq_ofNat_of_zero_le he
    obtain⟨o1,o2⟩:=ln_pos (p:=p) hm
    rw[o1,o2,hm,show(((m:Nat):Int):Rat)=(m:Rat) from rfl,(sgn_lin _ _ _ _).1,(sgn_lin _ _ _ _).1,Ji,gup_sgn]
    exact⟨rfl,rfl⟩
  have eB:¬0≤lge x.num.natAbs x.den→lnLo x.num.natAbs x.den p=gdown (((lge x.num.natAbs x.den:Int):Rat)*sgn false (lg2H (p+32)) (2^(p+32))+sgn false (lgmL x.num.natAbs x.den (p+32)) (2^(p+32))) p∧lnHi x.num.natAbs x.den p=gup (((lge x.num.natAbs x.den:Int):Rat)*sgn false (lg2L (p+32)) (2^(p+32))+sgn false (lgmH x.num.natAbs x.den (p+32)) (2^(p+32))) p:=fun he=>by
    obtain⟨m,hm⟩:∃m:Nat,0 - lge x.num.natAbs x.den=(m:Int):=⟨(0 - lge x.num.natAbs x.den).toNat,by omega⟩
    obtain⟨o1,o2⟩:=ln_neg (p:=p) hm he
    rw[o1,o2,show lge x.num.natAbs x.den= -(m:Int) by omega,Rat.intCast_neg,show(((m:Nat):Int):Rat)=(m:Rat) from rfl,(sgn_lin _ _ _ _).2,(sgn_lin _ _ _ _).2]
    exact⟨rfl,rfl⟩
  have kG2:=fun {h0 h:PH} {w:Value} (u:Bool) [Le h0 h] (c:Qr h0 w ((x - 2^lge x.num.natAbs x.den) / (x+2^lge x.num.natAbs x.den)))=>EH (h:=h) (w:=p+32) (u:=u) c (by omega) (by omega)
  have kF:=fun {h}=>jN (h:=h) (n:=3) (by decide)
  have kT2:=fun {h0 h:PH} {w:Value} (u:Bool) [Le h0 h] (c:Qr h0 w (1 / ((3:Nat):Rat)))=>EH (h:=h) (w:=p+32) (u:=u) c s3 (by omega)
  have eL:logL (lgT x.num.natAbs x.den (p+32) / lgB x.num.natAbs x.den) (cdiv (lgT x.num.natAbs x.den (p+32)) (lgB x.num.natAbs x.den)) (p+32)=lgmL x.num.natAbs x.den (p+32):=rfl
  have eH:logH (lgT x.num.natAbs x.den (p+32) / lgB x.num.natAbs x.den) (cdiv (lgT x.num.natAbs x.den (p+32)) (lgB x.num.natAbs x.den)) (p+32)=lgmH x.num.natAbs x.den (p+32):=rfl
  have l1:=Hid.mk l1
  have l2:=Hid.mk l2
  have l3:=Hid.mk l3
  have l4:=Hid.mk l4
  have hx0:=hx
  obtain⟨_,_,_,_,_,_,_,rfl,hx⟩:=hx.sa
  clear l5 l6 zz hB kG kT eT n0 h00
  generalize lgmL x.num.natAbs x.den (p+32)=ML at*
  generalize lgmH x.num.natAbs x.den (p+32)=MH at*
  generalize lgT x.num.natAbs x.den (p+32) / lgB x.num.natAbs x.den=TL at*
  generalize cdiv (lgT x.num.natAbs x.den (p+32)) (lgB x.num.natAbs x.den)=TH at*
  generalize lnLo x.num.natAbs x.den p=OL at*
  generalize lnHi x.num.natAbs x.den p=OH at*
  generalize lge x.num.natAbs x.den=E at*
  have F:=Hid.mk (And.intro b1 (And.intro b2 (And.intro bx (And.intro zp (And.intro z1 (And.intro z2 (And.intro z3 (And.intro z4 (And.intro c1 (And.intro c2 (And.intro c3 (And.intro c4 (And.intro s1 (And.intro s2 (And.intro s4 (And.intro s5 (And.intro si (And.intro sb (And.intro m1 m2)))))))))))))))))));clear b1 b2 bx zp z1 z2 z3 z4 c1 c2 c3 c4 s1 s2 s4 s5 si sb m1 m2
  refine Spec.go [(4,.h [] [] [7] [7,0,1,3,4,2,5,6,8]),(5,.o [0,1,3,4,6,2,5,7,8,9,10,11,12]),(11,.o [0,1,3,4,2,5,6,7])] Tryz.func158 rfl rfl (by kernel_rfl) fun C _=>?_
  try simp(maxSteps:=999999) (disch:=omega) only[go_sem,Nat.reduceBEq,reduceAdd]
  refine caN (by exact kE) ?_;rintro v1 f1 r1 rfl
  try simp(maxSteps:=999999) (disch:=omega) only[go_sem,Nat.reduceBEq,reduceAdd]
  refine caN (by exact kI) ?_;rintro v2 f2 r2 q2;obtain⟨_,_,_,_,_,_,_,rfl,q2⟩:=q2.sa
  try simp(maxSteps:=999999) (disch:=omega) only[go_sem,Nat.reduceBEq,reduceAdd]
  refine caN (by exact RPw_spec q2 (by have:=F.out;omega) (by have:=F.out;omega)) ?_;rintro v3 f3 r3 q3;obtain⟨_,_,_,_,_,_,_,rfl,q3⟩:=q3.sa
  try simp(maxSteps:=999999) (disch:=omega) only[go_sem,Nat.reduceBEq,reduceAdd]
  refine caN (by exact cR (hx0.to (h':=f3)) q3 (by have:=F.out;omega) (by have:=F.out;omega)) ?_;rintro v4 f4 r4 q4;obtain⟨_,_,_,_,_,_,_,rfl,q4⟩:=q4.sa
  try simp(maxSteps:=999999) (disch:=omega) only[go_sem,Nat.reduceBEq,reduceAdd]
  refine caN (by exact aW (hx0.to (h':=f4)) (q3.to (h':=f4)) (by have:=F.out;omega) (by have:=F.out;omega)) ?_;rintro v5 f5 r5 q5;obtain⟨_,_,_,_,_,_,_,rfl,q5⟩:=q5.sa
  try simp(maxSteps:=999999) (disch:=omega) only[go_sem,Nat.reduceBEq,reduceAdd]
  refine caN (by exact cU (q4.to (h':=f5)) q5 (by have:=F.out;omega) (by have:=F.out;omega)) ?_;rintro v6 f6 r6 q6;obtain⟨_,_,_,_,_,_,_,rfl,q6⟩:=q6.sa
  try simp(maxSteps:=999999) (disch:=omega) only[go_sem,Nat.reduceBEq,reduceAdd]
  refine caN (by exact kG2 false q6) ?_;rintro _ f7 _ q7;obtain⟨_,_,_,rfl,q7⟩:=q7.sl
  try simp(maxSteps:=999999) (disch:=omega) only[go_sem,Nat.reduceBEq,reduceAdd]
  rw[g0] at q7
  refine caN (by exact kG2 true (q6.to (h':=f7))) ?_;rintro _ f8 _ q8;obtain⟨_,_,_,rfl,q8⟩:=q8.sl
  try simp(maxSteps:=999999) (disch:=omega) only[go_sem,Nat.reduceBEq,reduceAdd]
  rw[g1] at q8
  refine caN (by exact RTwice_spec (q7.to (h':=f8)) q8 l1.out l2.out (by have:=F.out;omega)) ?_;rintro v9 f9 r9 ⟨c1,c2,c3,d1,d2,d3,rfl,q9,q10⟩
  try simp(maxSteps:=999999) (disch:=omega) only[go_sem,Nat.reduceBEq,reduceAdd]
  rw[eL] at q9
  rw[eH] at q10
  refine caN (by exact kF) ?_;rintro v11 f11 r11 q11;obtain⟨_,_,_,_,_,_,_,rfl,q11⟩:=q11.sa
  try simp(maxSteps:=999999) (disch:=omega) only[go_sem,Nat.reduceBEq,reduceAdd]
  refine caN (by exact kT2 false q11) ?_;rintro _ f12 _ q12;obtain⟨_,_,_,rfl,q12⟩:=q12.sl
  try simp(maxSteps:=999999) (disch:=omega) only[go_sem,Nat.reduceBEq,reduceAdd]
  rw[t0] at q12
  refine caN (by exact kF) ?_;rintro v13 f13 r13 q13;obtain⟨_,_,_,_,_,_,_,rfl,q13⟩:=q13.sa
  try simp(maxSteps:=999999) (disch:=omega) only[go_sem,Nat.reduceBEq,reduceAdd]
  refine caN (by exact kT2 true q13) ?_;rintro _ f14 _ q14;obtain⟨_,_,_,rfl,q14⟩:=q14.sl
  try simp(maxSteps:=999999) (disch:=omega) only[go_sem,Nat.reduceBEq,reduceAdd]
  rw[t1] at q14
  refine caN (by exact RTwice_spec (q12.to (h':=f14)) q14 l3.out l4.out (by have:=F.out;omega)) ?_;rintro v15 f15 r15 ⟨c4,c5,c6,d4,d5,d6,rfl,q15,q16⟩
  try simp(maxSteps:=999999) (disch:=omega) only[go_sem,Nat.reduceBEq,reduceAdd]
  have q15:N16 f15 (.slice c4 c5 c6) (lg2L (p+32)):=q15
  have q16:N16 f15 (.slice d4 d5 d6) (lg2H (p+32)):=q16
  by_cases he:0≤E
  case' pos=>
    obtain⟨rfl,rfl⟩:=eA he
    have qa:=q15
    have qb:=q16
  case' neg=>
    obtain⟨rfl,rfl⟩:=eB he
    have qa:=q16
    have qb:=q15
  all_goals
    clear eA eB
    try simp(maxSteps:=999999) (disch:=omega) only[go_sem,Nat.reduceBEq,reduceAdd]
    refine caN (by exact kP) ?_;rintro v17 f17 r17 q17;obtain⟨_,_,_,_,_,_,_,rfl,q17⟩:=q17.sa
    try simp(maxSteps:=999999) (disch:=omega) only[go_sem,Nat.reduceBEq,reduceAdd]
    refine caN (by exact o9 (w:=p+32) (qa.to (h':=f17)) (by have:=F.out;omega) (by have:=F.out;omega)) ?_;rintro v18 f18 r18 q18;obtain⟨_,_,_,_,_,_,_,rfl,q18⟩:=q18.sa
    try simp(maxSteps:=999999) (disch:=omega) only[go_sem,Nat.reduceBEq,reduceAdd]
    refine caN (by exact aY (q17.to (h':=f18)) q18 (by have:=F.out;omega) (by have:=F.out;omega)) ?_;rintro v19 f19 r19 q19;obtain⟨_,_,_,_,_,_,_,rfl,q19⟩:=q19.sa
    try simp(maxSteps:=999999) (disch:=omega) only[go_sem,Nat.reduceBEq,reduceAdd]
    refine caN (by exact o9 (w:=p+32) (q9.to (h':=f19)) (by have:=F.out;omega) (by have:=F.out;omega)) ?_;rintro v20 f20 r20 q20;obtain⟨_,_,_,_,_,_,_,rfl,q20⟩:=q20.sa
    try simp(maxSteps:=999999) (disch:=omega) only[go_sem,Nat.reduceBEq,reduceAdd]
    refine caN (by exact aW (q19.to (h':=f20)) q20 (by have:=F.out;omega) (by have:=F.out;omega)) ?_;rintro v21 f21 r21 q21;obtain⟨_,_,_,_,_,_,_,rfl,q21⟩:=q21.sa
    try simp(maxSteps:=999999) (disch:=omega) only[go_sem,Nat.reduceBEq,reduceAdd]
    refine caN (by exact kP) ?_;rintro v22 f22 r22 q22;obtain⟨_,_,_,_,_,_,_,rfl,q22⟩:=q22.sa
    try simp(maxSteps:=999999) (disch:=omega) only[go_sem,Nat.reduceBEq,reduceAdd]
    refine caN (by exact o9 (w:=p+32) (qb.to (h':=f22)) (by have:=F.out;omega) (by have:=F.out;omega)) ?_;rintro v23 f23 r23 q23;obtain⟨_,_,_,_,_,_,_,rfl,q23⟩:=q23.sa
    try simp(maxSteps:=999999) (disch:=omega) only[go_sem,Nat.reduceBEq,reduceAdd]
    refine caN (by exact aY (q22.to (h':=f23)) q23 (by have:=F.out;omega) (by have:=F.out;omega)) ?_;rintro v24 f24 r24 q24;obtain⟨_,_,_,_,_,_,_,rfl,q24⟩:=q24.sa
    try simp(maxSteps:=999999) (disch:=omega) only[go_sem,Nat.reduceBEq,reduceAdd]
    refine caN (by exact o9 (w:=p+32) (q10.to (h':=f24)) (by have:=F.out;omega) (by have:=F.out;omega)) ?_;rintro v25 f25 r25 q25;obtain⟨_,_,_,_,_,_,_,rfl,q25⟩:=q25.sa
    try simp(maxSteps:=999999) (disch:=omega) only[go_sem,Nat.reduceBEq,reduceAdd]
    refine caN (by exact aW (q24.to (h':=f25)) q25 (by have:=F.out;omega) (by have:=F.out;omega)) ?_;rintro v26 f26 r26 q26;obtain⟨_,_,_,_,_,_,_,rfl,q26⟩:=q26.sa
    try simp(maxSteps:=999999) (disch:=omega) only[go_sem,Nat.reduceBEq,reduceAdd]
    refine caN (by exact j9 (p:=p) (q21.to (h':=f26)) (Nat.le_trans (dA _ _) (by have:=F.out;omega)) (by have:=F.out;omega)) ?_;rintro v27 f27 r27 q27;obtain⟨_,_,_,_,_,_,_,rfl,q27⟩:=q27.sa
    try simp(maxSteps:=999999) (disch:=omega) only[go_sem,Nat.reduceBEq,reduceAdd]
    refine caN (by exact np (p:=p) (q26.to (h':=f27)) (Nat.le_trans (dA _ _) (by have:=F.out;omega)) (by have:=F.out;omega)) ?_;rintro v28 f28 r28 q28;obtain⟨_,_,_,_,_,_,_,rfl,q28⟩:=q28.sa
    try simp(maxSteps:=999999) (disch:=omega) only[go_sem,Nat.reduceBEq,reduceAdd]
    exact⟨_,_,_,_,_,_,_,_,_,_,_,_,_,_,rfl,q27.to,q28⟩
def rtUp (n:Nat):Nat:=if irt 2 n^2=n then irt 2 n else irt 2 n+1
def hvL (a w:Nat):Nat:=a*2^w / (2^w+rtUp (2^(2*w)+a*a))
def hvH (b w:Nat):Nat:=cdiv (b*2^w) (2^w+irt 2 (2^(2*w)+b*b))
def anL (a b w:Nat):Nat:=arcL (hvL (hvL a w) w) (hvH (hvH b w) w) w*2^2
def anH (a b w:Nat):Nat:=arcH (hvL (hvL a w) w) (hvH (hvH b w) w) w*2^2
theorem Pr.sp {h:PH} {v:Value} {a b:Nat} (r:Pr h v a b):∃x m c y n d,v=.agg #[.slice x m c,.slice y n d]∧Pr h (.agg #[.slice x m c,.slice y n d]) a b:=by
  obtain⟨x,m,c,y,n,d,rfl,h1,h2⟩:=r
  exact⟨x,m,c,y,n,d,rfl,_,_,_,_,_,_,rfl,h1,h2⟩
theorem rX (a w:Nat):hvL a w≤a:=by
  unfold hvL
  exact Nat.div_le_of_le_mul (by rw[Nat.add_mul,Nat.mul_comm (2^w) a];exact Nat.le_add_right _ _)
theorem dk (b w:Nat):hvH b w≤b:=by
  unfold hvH
  exact(az (Nat.ne_of_gt (Nat.add_pos_left (Nat.pos_of_ne_zero (am w)) _))).2 (by rw[Nat.add_mul,Nat.mul_comm (2^w) b];exact Nat.le_add_right _ _)
theorem irt2_le (n:Nat):irt 2 n≤n:=by
  have h:=jS (n:=2) (a:=n) (by decide)
  rw[Nat.pow_two] at h
  exact Nat.le_trans (Nat.le_mul_self _) h
theorem bl_rt (n:Nat):bl (irt 2 n)≤bl n:=aR (irt2_le n)
theorem rN {h0 h:PH} [Le h0 h] {v:Value} {a:Nat} {e:Bool} (hv:N32 h0 v a) (ba:bl a≤2^20) (he:decide (irt 2 a^2=a)=e):Spec mach 254 #[v,.int .i64 2] h (fun v h'=>∃r,v=.tuple #[r,.bool e]∧N32 h' r (irt 2 a)) NP:=by
  subst he
  exact gj (n:=2) hv (by decide) (by decide) ba
theorem vk {h0 h:PH} [Le h0 h] {v:Value} {a b w:Nat} (hv:Pr h0 v a b) (la:a≤2^w) (lb:b≤2^w) (hw:20≤w) (hw':w≤1000):Spec mach 187 #[v,.int .i64 w] h (fun v h'=>Pr h' v (hvL a w) (hvH b w)) NP:=by
  obtain⟨x,m,c,y,n,d,rfl,k1,k2⟩:=hv
  have ba:bl a≤w+2:=bh (by omega)
  have bb:bl b≤w+2:=bh (by omega)
  have n1:Hid (2^w+rtUp (2^(2*w)+a*a)≠0):=⟨by have:=am w;omega⟩
  have n2:Hid (2^w+irt 2 (2^(2*w)+b*b)≠0):=⟨by have:=am w;omega⟩
  clear la lb
  have u0:=bC w
  have u1:=bC (2*w)
  have u2:=aG a a
  have u3:=aG b b
  have u4:=cY (2^(2*w)) (a*a)
  have u5:=cY (2^(2*w)) (b*b)
  have u6:=bl_rt (2^(2*w)+a*a)
  have u7:=bl_rt (2^(2*w)+b*b)
  have u8:=cY (irt 2 (2^(2*w)+a*a)) 1
  have u9:=fI
  have u10:bl (rtUp (2^(2*w)+a*a))≤2*w+10:=by
    unfold rtUp
    split<;>omega
  have u11:=cY (2^w) (rtUp (2^(2*w)+a*a))
  have u12:=cY (2^w) (irt 2 (2^(2*w)+b*b))
  have u13:=cu a w
  have u14:=cu b w
  obtain⟨e,he⟩:∃e,decide (irt 2 (2^(2*w)+a*a)^2=2^(2*w)+a*a)=e:=⟨_,rfl⟩
  obtain⟨e',he'⟩:∃e,decide (irt 2 (2^(2*w)+b*b)^2=2^(2*w)+b*b)=e:=⟨_,rfl⟩
  have hr:Hid (rtUp (2^(2*w)+a*a)=if e then irt 2 (2^(2*w)+a*a) else irt 2 (2^(2*w)+a*a)+1):=⟨by
    subst he
    unfold rtUp
    simp only[decide_eq_true_eq]⟩
  have he:=Hid.mk he
  have he':=Hid.mk he'
  have F:=Hid.mk (And.intro ba (And.intro bb (And.intro u0 (And.intro u1 (And.intro u2 (And.intro u3 (And.intro u4 (And.intro u5 (And.intro u6 (And.intro u7 (And.intro u8 (And.intro u9 (And.intro u10 (And.intro u11 (And.intro u12 (And.intro u13 u14))))))))))))))));clear ba bb u0 u1 u2 u3 u4 u5 u6 u7 u8 u9 u10 u11 u12 u13 u14
  cases e
  all_goals
    refine Spec.go [(1,.o [0,1,3,4,5,6,2,7,8,9,10,11,12,13,14]),(4,.o [0,1,3,4,5,6,2,7,8,9,10,11,12,13,14]),(5,.o [0,1,2,4,6,9,10,11,13,15,3,5,7,8,12,14,16,17,18,19])] Tryz.func187 rfl rfl (by kernel_rfl) fun C _=>?_
    try simp(disch:=omega) only[go_sem,Nat.reduceBEq,reduceAdd]
    refine caN (by exact bu (w:=2*w) (by have:=F.out;omega)) ?_;rintro _ h1 _ q1;obtain⟨v1,_,_,rfl,q1⟩:=q1.sl
    try simp(disch:=omega) only[go_sem,Nat.reduceBEq,reduceAdd]
    refine caN (by exact aI k1 k1 (by have:=F.out;omega) (by have:=F.out;omega)) ?_;rintro _ h2 _ q2;obtain⟨v2,_,_,rfl,q2⟩:=q2.sl
    try simp(disch:=omega) only[go_sem,Nat.reduceBEq,reduceAdd]
    refine caN (by exact bR (q1.to (h':=h2)) q2 (by have:=F.out;omega) (show bl (a*a)≤2^40 by have:=F.out;omega)) ?_;rintro _ h3 _ q3;obtain⟨v3,_,_,rfl,q3⟩:=q3.sl
    try simp(disch:=omega) only[go_sem,Nat.reduceBEq,reduceAdd]
    refine caN (by exact rN q3 (show bl (2^(2*w)+a*a)≤2^20 by have:=F.out;omega) he.out) ?_;rintro v4 h4 s4 ⟨t,rfl,q4⟩;obtain⟨t4,t4l,t4c,rfl,q4⟩:=q4.sl
    try simp(disch:=omega) only[go_sem,Nat.reduceBEq,reduceAdd]
  · refine caN (by exact aw (n:=1) (by decide)) ?_;rintro _ h5 _ q5;obtain⟨_,_,_,rfl,q5⟩:=q5.sl
    try simp(disch:=omega) only[go_sem,Nat.reduceBEq,reduceAdd]
    refine caN (by exact bR (q4.to (h':=h5)) q5 (show bl (irt 2 (2^(2*w)+a*a))≤2^40 by have:=F.out;omega) (by have:=F.out;omega)) ?_;rintro _ h6 _ q6;obtain⟨v6,v6_l,v6_c,rfl,q6⟩:=q6.sl
    try simp(disch:=omega) only[go_sem,Nat.reduceBEq,reduceAdd]
    have q6:N32 h6 (.slice v6 v6_l v6_c) (rtUp (2^(2*w)+a*a)):=by rw[hr.out];exact q6
    refine caN (by exact bu (w:=2*w) (by have:=F.out;omega)) ?_;rintro _ g1 _ r1;obtain⟨w1,_,_,rfl,r1⟩:=r1.sl
    try simp(disch:=omega) only[go_sem,Nat.reduceBEq,reduceAdd]
    refine caN (by exact aI (k2.to (h':=g1)) (k2.to (h':=g1)) (by have:=F.out;omega) (by have:=F.out;omega)) ?_;rintro _ g2 _ r2;obtain⟨w2,_,_,rfl,r2⟩:=r2.sl
    try simp(disch:=omega) only[go_sem,Nat.reduceBEq,reduceAdd]
    refine caN (by exact bR (r1.to (h':=g2)) r2 (by have:=F.out;omega) (show bl (b*b)≤2^40 by have:=F.out;omega)) ?_;rintro _ g3 _ r3;obtain⟨w3,_,_,rfl,r3⟩:=r3.sl
    try simp(disch:=omega) only[go_sem,Nat.reduceBEq,reduceAdd]
    refine caN (by exact rN r3 (show bl (2^(2*w)+b*b)≤2^20 by have:=F.out;omega) he'.out) ?_;rintro w4 g4 s4' ⟨t,rfl,r4⟩;obtain⟨_,_,_,rfl,r4⟩:=r4.sl
    try simp(disch:=omega) only[go_sem,Nat.reduceBEq,reduceAdd]
    refine caN (by exact aL (n:=w) (k1.to (h':=g4)) (by have:=F.out;omega)) ?_;rintro _ g5 _ r5;obtain⟨w5,_,_,rfl,r5⟩:=r5.sl
    try simp(disch:=omega) only[go_sem,Nat.reduceBEq,reduceAdd]
    refine caN (by exact bu (w:=w) (by have:=F.out;omega)) ?_;rintro _ g6 _ r6;obtain⟨w6,_,_,rfl,r6⟩:=r6.sl
    try simp(disch:=omega) only[go_sem,Nat.reduceBEq,reduceAdd]
    refine caN (by exact bR r6 (q6.to (h':=g6)) (by have:=F.out;omega) (show bl (rtUp (2^(2*w)+a*a))≤2^40 by have:=F.out;omega)) ?_;rintro _ g7 _ r7;obtain⟨w7,_,_,rfl,r7⟩:=r7.sl
    try simp(disch:=omega) only[go_sem,Nat.reduceBEq,reduceAdd]
    refine caN (by exact bD (c:=false) (r5.to (h':=g7)) r7 n1.out (by have:=F.out;omega) (show bl (2^w+rtUp (2^(2*w)+a*a))≤2^36 by have:=F.out;omega)) ?_;rintro _ g8 _ r8;obtain⟨w8,_,_,rfl,r8⟩:=r8.sl
    try simp(disch:=omega) only[go_sem,Nat.reduceBEq,reduceAdd]
    refine caN (by exact aL (n:=w) (k2.to (h':=g8)) (by have:=F.out;omega)) ?_;rintro _ g9 _ r9;obtain⟨w9,_,_,rfl,r9⟩:=r9.sl
    try simp(disch:=omega) only[go_sem,Nat.reduceBEq,reduceAdd]
    refine caN (by exact bu (w:=w) (by have:=F.out;omega)) ?_;rintro _ g10 _ r10;obtain⟨w10,_,_,rfl,r10⟩:=r10.sl
    try simp(disch:=omega) only[go_sem,Nat.reduceBEq,reduceAdd]
    refine caN (by exact bR r10 (r4.to (h':=g10)) (by have:=F.out;omega) (show bl (irt 2 (2^(2*w)+b*b))≤2^40 by have:=F.out;omega)) ?_;rintro _ g11 _ r11;obtain⟨w11,_,_,rfl,r11⟩:=r11.sl
    try simp(disch:=omega) only[go_sem,Nat.reduceBEq,reduceAdd]
    refine caN (by exact bD (c:=true) (r9.to (h':=g11)) r11 n2.out (by have:=F.out;omega) (show bl (2^w+irt 2 (2^(2*w)+b*b))≤2^36 by have:=F.out;omega)) ?_;rintro _ g12 _ r12;obtain⟨w12,_,_,rfl,r12⟩:=r12.sl
    try simp(disch:=omega) only[go_sem,Nat.reduceBEq,reduceAdd]
    exact⟨_,_,_,_,_,_,rfl,r8.to,r12⟩
  · have q4:N32 h4 (.slice t4 t4l t4c) (rtUp (2^(2*w)+a*a)):=by rw[hr.out];exact q4
    refine caN (by exact bu (w:=2*w) (by have:=F.out;omega)) ?_;rintro _ g1 _ r1;obtain⟨w1,_,_,rfl,r1⟩:=r1.sl
    try simp(disch:=omega) only[go_sem,Nat.reduceBEq,reduceAdd]
    refine caN (by exact aI (k2.to (h':=g1)) (k2.to (h':=g1)) (by have:=F.out;omega) (by have:=F.out;omega)) ?_;rintro _ g2 _ r2;obtain⟨w2,_,_,rfl,r2⟩:=r2.sl
    try simp(disch:=omega) only[go_sem,Nat.reduceBEq,reduceAdd]
    refine caN (by exact bR (r1.to (h':=g2)) r2 (by have:=F.out;omega) (show bl (b*b)≤2^40 by have:=F.out;omega)) ?_;rintro _ g3 _ r3;obtain⟨w3,_,_,rfl,r3⟩:=r3.sl
    try simp(disch:=omega) only[go_sem,Nat.reduceBEq,reduceAdd]
    refine caN (by exact rN r3 (show bl (2^(2*w)+b*b)≤2^20 by have:=F.out;omega) he'.out) ?_;rintro w4 g4 s4' ⟨t,rfl,r4⟩;obtain⟨_,_,_,rfl,r4⟩:=r4.sl
    try simp(disch:=omega) only[go_sem,Nat.reduceBEq,reduceAdd]
    refine caN (by exact aL (n:=w) (k1.to (h':=g4)) (by have:=F.out;omega)) ?_;rintro _ g5 _ r5;obtain⟨w5,_,_,rfl,r5⟩:=r5.sl
    try simp(disch:=omega) only[go_sem,Nat.reduceBEq,reduceAdd]
    refine caN (by exact bu (w:=w) (by have:=F.out;omega)) ?_;rintro _ g6 _ r6;obtain⟨w6,_,_,rfl,r6⟩:=r6.sl
    try simp(disch:=omega) only[go_sem,Nat.reduceBEq,reduceAdd]
    refine caN (by exact bR r6 (q4.to (h':=g6)) (by have:=F.out;omega) (show bl (rtUp (2^(2*w)+a*a))≤2^40 by have:=F.out;omega)) ?_;rintro _ g7 _ r7;obtain⟨w7,_,_,rfl,r7⟩:=r7.sl
    try simp(disch:=omega) only[go_sem,Nat.reduceBEq,reduceAdd]
    refine caN (by exact bD (c:=false) (r5.to (h':=g7)) r7 n1.out (by have:=F.out;omega) (show bl (2^w+rtUp (2^(2*w)+a*a))≤2^36 by have:=F.out;omega)) ?_;rintro _ g8 _ r8;obtain⟨w8,_,_,rfl,r8⟩:=r8.sl
    try simp(disch:=omega) only[go_sem,Nat.reduceBEq,reduceAdd]
    refine caN (by exact aL (n:=w) (k2.to (h':=g8)) (by have:=F.out;omega)) ?_;rintro _ g9 _ r9;obtain⟨w9,_,_,rfl,r9⟩:=r9.sl
    try simp(disch:=omega) only[go_sem,Nat.reduceBEq,reduceAdd]
    refine caN (by exact bu (w:=w) (by have:=F.out;omega)) ?_;rintro _ g10 _ r10;obtain⟨w10,_,_,rfl,r10⟩:=r10.sl
    try simp(disch:=omega) only[go_sem,Nat.reduceBEq,reduceAdd]
    refine caN (by exact bR r10 (r4.to (h':=g10)) (by have:=F.out;omega) (show bl (irt 2 (2^(2*w)+b*b))≤2^40 by have:=F.out;omega)) ?_;rintro _ g11 _ r11;obtain⟨w11,_,_,rfl,r11⟩:=r11.sl
    try simp(disch:=omega) only[go_sem,Nat.reduceBEq,reduceAdd]
    refine caN (by exact bD (c:=true) (r9.to (h':=g11)) r11 n2.out (by have:=F.out;omega) (show bl (2^w+irt 2 (2^(2*w)+b*b))≤2^36 by have:=F.out;omega)) ?_;rintro _ g12 _ r12;obtain⟨w12,_,_,rfl,r12⟩:=r12.sl
    try simp(disch:=omega) only[go_sem,Nat.reduceBEq,reduceAdd]
    exact⟨_,_,_,_,_,_,rfl,r8.to,r12⟩
theorem bl_an {a b w:Nat} (la:a≤2^w) (lb:b≤2^w):bl (arcL (hvL (hvL a w) w) (hvH (hvH b w) w) w)≤w+2∧bl (arcH (hvL (hvL a w) w) (hvH (hvH b w) w) w)≤w+2:=
  ⟨bh (Gt (Nat.le_trans (rX _ _) (Nat.le_trans (rX _ _) la))),bh (Gs (Nat.le_trans (dk _ _) (Nat.le_trans (dk _ _) lb)))⟩
theorem pI {h0 h:PH} [Le h0 h] {v:Value} {a b w:Nat} (hv:Pr h0 v a b) (la:a≤2^w) (lb:b≤2^w) (hw:20≤w) (hw':w≤1000):Spec mach 103 #[v,.int .i64 w] h (fun v h'=>Pr h' v (anL a b w) (anH a b w)) NP:=by
  have l1:=Nat.le_trans (rX a w) la
  have l2:=Nat.le_trans (dk b w) lb
  have l3:=Nat.le_trans (rX (hvL a w) w) l1
  have l4:=Nat.le_trans (dk (hvH b w) w) l2
  obtain⟨b1,b2⟩:=bl_an la lb
  have hv0:=hv
  obtain⟨x,m,c,y,n,d,rfl,k1,k2⟩:=hv
  have la:=Hid.mk la
  have lb:=Hid.mk lb
  have l1:=Hid.mk l1
  have l2:=Hid.mk l2
  have l3:=Hid.mk l3
  have l4:=Hid.mk l4
  have F:=Hid.mk (And.intro b1 b2);clear b1 b2
  refine Spec.go [] Tryz.func103 rfl rfl (by kernel_rfl) fun C _=>?_
  try simp(disch:=omega) only[go_sem,Nat.reduceBEq,reduceAdd]
  refine caN (by exact vk hv0 la.out lb.out hw hw') ?_;rintro v1 h1 s1 q1;obtain⟨_,_,_,_,_,_,rfl,q1⟩:=q1.sp
  try simp(disch:=omega) only[go_sem,Nat.reduceBEq,reduceAdd]
  refine caN (by exact vk q1 l1.out l2.out hw hw') ?_;rintro v2 h2 s2 q2;obtain⟨_,_,_,_,_,_,rfl,q2⟩:=q2.sp
  try simp(disch:=omega) only[go_sem,Nat.reduceBEq,reduceAdd]
  refine caN (by exact sF q2 l3.out l4.out hw hw') ?_;rintro v3 h3 s3 q3;obtain⟨_,_,_,_,_,_,rfl,q3⟩:=q3.sp
  try simp(disch:=omega) only[go_sem,Nat.reduceBEq,reduceAdd]
  refine caN (by exact jh (n:=2) q3 (show bl (arcL (hvL (hvL a w) w) (hvH (hvH b w) w) w)≤2^30 by have:=F.out;omega) (show bl (arcH (hvL (hvL a w) w) (hvH (hvH b w) w) w)≤2^30 by have:=F.out;omega) (by decide)) ?_;rintro v4 h4 s4 q4;obtain⟨_,_,_,_,_,_,rfl,q4⟩:=q4.sp
  try simp(disch:=omega) only[go_sem,Nat.reduceBEq,reduceAdd]
  exact q4
theorem quot_mk {x:Rat} {t b:Nat} (hb:b≠0) (h:x*(b:Rat)=(t:Rat)):x=mkRat t b:=by
  have b0:(b:Rat)≠0:=by exact_mod_cast hb
  rw[Rat.mkRat_eq_div,show((t:Int):Rat)=(t:Rat) from rfl,←h]
  rw[Rat.div_def,Rat.mul_assoc,Rat.mul_inv_cancel _ b0,Rat.mul_one]
theorem gdown_quot {x:Rat} {t b w:Nat} (hb:b≠0) (h:x*(b:Rat)=(t:Rat)):gdown x w=sgn false (t*2^w / b) (2^w)∧gup x w=sgn false (cdiv (t*2^w) b) (2^w):=by
  have e:x*2^w=mkRat ((t*2^w:Nat):Int) b:=by
    refine quot_mk hb ?_
    rw[Rat.natCast_mul,←h,Rat.natCast_pow]
    show x*2^w*(b:Rat)=x*(b:Rat)*2^w
    grind
  constructor
  · unfold gdown
    rw[e,pW _ hb]
    simp only[sgn,Rat.mkRat_eq_div,Rat.natCast_pow,Bool.false_eq_true,if_false]
    rfl
  · unfold gup
    rw[e,xH _ hb]
    simp only[sgn,Rat.mkRat_eq_div,Rat.natCast_pow,Bool.false_eq_true,if_false]
    rw[cdiv_int _ _ hb]
    rfl
theorem root_grid {q:Rat} {N w:Nat} (h:q*((2^(2*w):Nat):Rat)=(N:Rat)):rootg true q 2 w=sgn false (rtUp N) (2^w)∧rootg false q 2 w=sgn false (irt 2 N) (2^w):=by
  have u0:(0:Rat) < ((2^(2*w):Nat):Rat):=by exact_mod_cast Nat.pos_of_ne_zero (am _)
  have q0:0≤q:=by
    refine Rat.not_lt.1 fun c=>?_
    have n0:(0:Rat)≤(N:Rat):=by exact_mod_cast Nat.zero_le N
    have:=Rat.mul_lt_mul_of_pos_right c u0
    grind
  have n0:=Rat.num_nonneg.2 q0
  have k:q.num.natAbs*2^(w*2)=N*q.den:=by
    have e:q*(q.den:Rat)=(q.num.natAbs:Rat):=by
      rw[show((q.num.natAbs:Nat):Rat)=(((q.num.natAbs:Nat):Int):Rat) from rfl,Int.natAbs_of_nonneg n0]
      exact q_den q
    have:((q.num.natAbs*2^(w*2):Nat):Rat)=((N*q.den:Nat):Rat):=by
      rw[Rat.natCast_mul,Rat.natCast_mul,←e,←h,Nat.mul_comm w 2];grind
    exact_mod_cast this
  have r:rtw q 2 w=N:=by unfold rtw;rw[k,Nat.mul_div_cancel _ q.den_pos]
  have x:rtx q 2 w=decide (irt 2 N^2=N):=by
    unfold rtx
    rw[r,k,Nat.mul_mod_left]
    simp
  refine⟨?_,by rw[jB q0,r]⟩
  rw[ou q0,x,r]
  unfold rtUp
  by_cases c:irt 2 N^2=N
  · rw[if_pos c,if_pos (decide_eq_true c)]
  · rw[if_neg c,if_neg (by simp[c])]
theorem sgn_grid (a w:Nat):sgn false a (2^w)*((2^w:Nat):Rat)=(a:Rat):=vK a (am w)
theorem half_end (a w:Nat):rootg true (((1:Int):Rat)+sgn false a (2^w)*sgn false a (2^w)) 2 w=sgn false (rtUp (2^(2*w)+a*a)) (2^w)∧rootg false (((1:Int):Rat)+sgn false a (2^w)*sgn false a (2^w)) 2 w=sgn false (irt 2 (2^(2*w)+a*a)) (2^w):=by
  refine root_grid ?_
  have e:=sgn_grid a w
  have e2:((2^(2*w):Nat):Rat)=((2^w:Nat):Rat)*((2^w:Nat):Rat):=by rw[Nat.two_mul,Nat.pow_add,Rat.natCast_mul]
  rw[Rat.natCast_add,Rat.natCast_mul a,e2,←e,show((1:Int):Rat)=1 from rfl]
  grind
theorem half_q (a r w:Nat):gdown (sgn false a (2^w) / (((1:Int):Rat)+sgn false r (2^w))) w=sgn false (a*2^w / (2^w+r)) (2^w)∧gup (sgn false a (2^w) / (((1:Int):Rat)+sgn false r (2^w))) w=sgn false (cdiv (a*2^w) (2^w+r)) (2^w):=by
  have un:=Nat.pos_of_ne_zero (am w)
  refine gdown_quot (by omega) ?_
  have e:=sgn_grid a w
  have f:=sgn_grid r w
  have u0:(0:Rat) < ((2^w:Nat):Rat):=by exact_mod_cast un
  have r0:(0:Rat)≤(r:Rat):=by exact_mod_cast Nat.zero_le r
  rw[Rat.natCast_add,←e,←f,Rat.div_def,show((1:Int):Rat)=1 from rfl]
  have s0:0≤sgn false r (2^w):=by
    refine Rat.not_lt.1 fun c=>?_
    have:=Rat.mul_lt_mul_of_pos_right c u0
    grind
  have i:(1+sgn false r (2^w))*(1+sgn false r (2^w))⁻¹=1:=Rat.mul_inv_cancel _ (by grind)
  generalize(1+sgn false r (2^w))⁻¹=I at*
  generalize sgn false a (2^w)=A at*
  generalize sgn false r (2^w)=R at*
  generalize((2^w:Nat):Rat)=U at*
  have:A*I*(U+R*U)=A*U*((1+R)*I):=by grind
  rw[this,i,Rat.mul_one]
theorem RHalf_spec {h0 h:PH} [Le h0 h] {va vb:Value} {a b w:Nat} (ha:Qr h0 va (sgn false a (2^w))) (hb:Qr h0 vb (sgn false b (2^w))) (la:a≤2^w) (lb:b≤2^w) (hw:w≤200):Spec mach 271 #[va,vb,.int .i64 w] h (fun r h'=>Qp h' r (sgn false (hvL a w) (2^w)) (sgn false (hvH b w) (2^w))) NP:=by
  have c1:bl a≤w+2:=bh (by omega)
  have c2:bl b≤w+2:=bh (by omega)
  have s1:=sz_grid (w:=w) c1 (by omega)
  have s2:=sz_grid (w:=w) c2 (by omega)
  have m1:=bV (sgn false a (2^w)) (sgn false a (2^w))
  have m2:=bV (sgn false b (2^w)) (sgn false b (2^w))
  have n1:=dA ((1:Int):Rat) (sgn false a (2^w)*sgn false a (2^w))
  have n2:=dA ((1:Int):Rat) (sgn false b (2^w)*sgn false b (2^w))
  have o:sz ((1:Int):Rat)≤1:=by decide
  have e1:=(half_end a w).1
  have e2:=(half_end b w).2
  have f1:=(half_q a (rtUp (2^(2*w)+a*a)) w).1
  have f2:=(half_q b (irt 2 (2^(2*w)+b*b)) w).2
  have t1:=iY (up:=true) (q:=((1:Int):Rat)+sgn false a (2^w)*sgn false a (2^w)) (n:=2) (p:=w) (by omega) (by decide) (by omega)
  have t2:=iY (up:=false) (q:=((1:Int):Rat)+sgn false b (2^w)*sgn false b (2^w)) (n:=2) (p:=w) (by omega) (by decide) (by omega)
  rw[e1] at t1
  rw[e2] at t2
  have p1:=dA ((1:Int):Rat) (sgn false (rtUp (2^(2*w)+a*a)) (2^w))
  have p2:=dA ((1:Int):Rat) (sgn false (irt 2 (2^(2*w)+b*b)) (2^w))
  have g1:sgn false (a*2^w / (2^w+rtUp (2^(2*w)+a*a))) (2^w)=sgn false (hvL a w) (2^w):=rfl
  have g2:sgn false (cdiv (b*2^w) (2^w+irt 2 (2^(2*w)+b*b))) (2^w)=sgn false (hvH b w) (2^w):=rfl
  rw[g1] at f1
  rw[g2] at f2
  have i1:=iQ (((1:Int):Rat)+sgn false (rtUp (2^(2*w)+a*a)) (2^w))
  have i2:=iQ (((1:Int):Rat)+sgn false (irt 2 (2^(2*w)+b*b)) (2^w))
  have j1:=bV (sgn false a (2^w)) (((1:Int):Rat)+sgn false (rtUp (2^(2*w)+a*a)) (2^w))⁻¹
  have j2:=bV (sgn false b (2^w)) (((1:Int):Rat)+sgn false (irt 2 (2^(2*w)+b*b)) (2^w))⁻¹
  rw[←Rat.div_def] at j1 j2
  have kI:=fun {h}=>aF (h:=h) (n:=1) (by decide) (by decide)
  rw[←f1,←f2]
  obtain⟨_,_,_,_,_,_,_,rfl,ha⟩:=ha.sa
  obtain⟨_,_,_,_,_,_,_,rfl,hb⟩:=hb.sa
  clear g1 g2 f1 f2 la lb
  generalize sgn false (rtUp (2^(2*w)+a*a)) (2^w)=RA at*
  generalize sgn false (irt 2 (2^(2*w)+b*b)) (2^w)=RB at*
  generalize sgn false a (2^w)=A at*
  generalize sgn false b (2^w)=B at*
  generalize((1:Int):Rat)=One at*
  have F:=Hid.mk (And.intro c1 (And.intro c2 (And.intro s1 (And.intro s2 (And.intro m1 (And.intro m2 (And.intro n1 (And.intro n2 (And.intro o (And.intro t1 (And.intro t2 (And.intro p1 (And.intro p2 (And.intro i1 (And.intro i2 (And.intro j1 j2))))))))))))))));clear c1 c2 s1 s2 m1 m2 n1 n2 o t1 t2 p1 p2 i1 i2 j1 j2
  refine Spec.go [(2,.h [] [] [7] [7,0,1,2,5,3,4,6,8]),(3,.h [] [] [7] [7,0,1,2,5,3,4,6,8]),(4,.h [] [] [7] [7,0,1,2,5,3,4,6,8]),(5,.h [] [] [7] [7,0,1,2,5,3,4,6,8]),(6,.h [(12,6)] [] [] [0,1,2,3])] Tryz.func271 rfl rfl (by kernel_rfl) fun C _=>?_
  try simp(maxSteps:=999999) (disch:=omega) only[go_sem,Nat.reduceBEq,reduceAdd]
  refine caN (by exact kI) ?_;rintro v1 h1 r1 q1;obtain⟨_,_,_,_,_,_,_,rfl,q1⟩:=q1.sa
  try simp(maxSteps:=999999) (disch:=omega) only[go_sem,Nat.reduceBEq,reduceAdd]
  refine caN (by exact aY (ha.to (h':=h1)) (ha.to (h':=h1)) (by have:=F.out;omega) (by have:=F.out;omega)) ?_;rintro v2 h2 r2 q2;obtain⟨_,_,_,_,_,_,_,rfl,q2⟩:=q2.sa
  try simp(maxSteps:=999999) (disch:=omega) only[go_sem,Nat.reduceBEq,reduceAdd]
  refine caN (by exact aW (q1.to (h':=h2)) q2 (by have:=F.out;omega) (by have:=F.out;omega)) ?_;rintro v3 h3 r3 q3;obtain⟨_,_,_,_,_,_,_,rfl,q3⟩:=q3.sa
  try simp(maxSteps:=999999) (disch:=omega) only[go_sem,Nat.reduceBEq,reduceAdd]
  refine caN (by exact pM (n:=2) (p:=w) q3 (by have:=F.out;omega) (by decide) (by decide) (by have:=F.out;omega)) ?_;rintro v4 h4 r4 q4;rw[e1] at q4;obtain⟨_,_,_,_,_,_,_,rfl,q4⟩:=q4.sa
  try simp(maxSteps:=999999) (disch:=omega) only[go_sem,Nat.reduceBEq,reduceAdd]
  refine caN (by exact aY (hb.to (h':=h4)) (hb.to (h':=h4)) (by have:=F.out;omega) (by have:=F.out;omega)) ?_;rintro v5 h5 r5 q5;obtain⟨_,_,_,_,_,_,_,rfl,q5⟩:=q5.sa
  try simp(maxSteps:=999999) (disch:=omega) only[go_sem,Nat.reduceBEq,reduceAdd]
  refine caN (by exact aW (q1.to (h':=h5)) q5 (by have:=F.out;omega) (by have:=F.out;omega)) ?_;rintro v6 h6 r6 q6;obtain⟨_,_,_,_,_,_,_,rfl,q6⟩:=q6.sa
  try simp(maxSteps:=999999) (disch:=omega) only[go_sem,Nat.reduceBEq,reduceAdd]
  refine caN (by exact nt (n:=2) (p:=w) q6 (by have:=F.out;omega) (by decide) (by decide) (by have:=F.out;omega)) ?_;rintro v7 h7 r7 q7;rw[e2] at q7;obtain⟨_,_,_,_,_,_,_,rfl,q7⟩:=q7.sa
  try simp(maxSteps:=999999) (disch:=omega) only[go_sem,Nat.reduceBEq,reduceAdd]
  refine caN (by exact aW (q1.to (h':=h7)) (q4.to (h':=h7)) (by have:=F.out;omega) (by have:=F.out;omega)) ?_;rintro v8 h8 r8 q8;obtain⟨_,_,_,_,_,_,_,rfl,q8⟩:=q8.sa
  try simp(maxSteps:=999999) (disch:=omega) only[go_sem,Nat.reduceBEq,reduceAdd]
  refine caN (by exact cU (ha.to (h':=h8)) q8 (by have:=F.out;omega) (by have:=F.out;omega)) ?_;rintro v9 h9 r9 q9;obtain⟨_,_,_,_,_,_,_,rfl,q9⟩:=q9.sa
  try simp(maxSteps:=999999) (disch:=omega) only[go_sem,Nat.reduceBEq,reduceAdd]
  refine caN (by exact j9 (p:=w) q9 (by have:=F.out;omega) (by have:=F.out;omega)) ?_;rintro v10 h10 r10 q10;obtain⟨_,_,_,_,_,_,_,rfl,q10⟩:=q10.sa
  try simp(maxSteps:=999999) (disch:=omega) only[go_sem,Nat.reduceBEq,reduceAdd]
  refine caN (by exact aW (q1.to (h':=h10)) (q7.to (h':=h10)) (by have:=F.out;omega) (by have:=F.out;omega)) ?_;rintro v11 h11 r11 q11;obtain⟨_,_,_,_,_,_,_,rfl,q11⟩:=q11.sa
  try simp(maxSteps:=999999) (disch:=omega) only[go_sem,Nat.reduceBEq,reduceAdd]
  refine caN (by exact cU (hb.to (h':=h11)) q11 (by have:=F.out;omega) (by have:=F.out;omega)) ?_;rintro v12 h12 r12 q12;obtain⟨_,_,_,_,_,_,_,rfl,q12⟩:=q12.sa
  try simp(maxSteps:=999999) (disch:=omega) only[go_sem,Nat.reduceBEq,reduceAdd]
  refine caN (by exact np (p:=w) q12 (by have:=F.out;omega) (by have:=F.out;omega)) ?_;rintro v13 h13 r13 q13;obtain⟨_,_,_,_,_,_,_,rfl,q13⟩:=q13.sa
  try simp(maxSteps:=999999) (disch:=omega) only[go_sem,Nat.reduceBEq,reduceAdd]
  exact⟨_,_,_,_,_,_,_,_,_,_,_,_,_,_,rfl,q10.to,q13⟩
theorem Dl (w a:Nat):2^w≤irt 2 (2^(2*w)+a*a):=jx (by decide) (by rw[←Nat.pow_mul,Nat.mul_comm w 2];exact Nat.le_add_right _ _)
theorem zV (w a:Nat):2^w≤rtUp (2^(2*w)+a*a):=by
  have:=Dl w a
  unfold rtUp
  split<;>omega
theorem H0 (c u:Nat):(u+u)*c=2*c*u:=by rw[←Nat.two_mul,Nat.mul_right_comm]
theorem tg {b c w:Nat} (h:b≤2*c):hvH b w≤c:=by
  unfold hvH
  have h1:=Dl w b
  have hn:2^w+irt 2 (2^(2*w)+b*b)≠0:=by have:=Nat.pos_of_ne_zero (am w);omega
  refine(az hn).2 ?_
  have h2:b*2^w≤2*c*2^w:=Nat.mul_le_mul_right _ h
  have h3:(2^w+2^w)*c≤(2^w+irt 2 (2^(2*w)+b*b))*c:=Nat.mul_le_mul_right _ (by omega)
  rw[H0] at h3
  exact Nat.le_trans h2 h3
theorem Dg {b c w:Nat} (h:b≤2*c):hvL b w≤c:=by
  unfold hvL
  refine Nat.div_le_of_le_mul ?_
  have h1:=zV w b
  have h2:b*2^w≤2*c*2^w:=Nat.mul_le_mul_right _ h
  have h3:(2^w+2^w)*c≤(2^w+rtUp (2^(2*w)+b*b))*c:=Nat.mul_le_mul_right _ (by omega)
  rw[H0] at h3
  exact Nat.le_trans h2 h3
theorem zx {c u v:Nat} (hc:c≤u) (hv:v≤u+1):c*v≤u*(c+1):=by
  have h1:c*v≤c*(u+1):=Nat.mul_le_mul_left _ hv
  have e1:c*(u+1)=u*c+c:=by rw[Nat.mul_add,Nat.mul_one,Nat.mul_comm]
  have e2:u*(c+1)=u*c+u:=by rw[Nat.mul_add,Nat.mul_one]
  omega
theorem an_le {a b w:Nat} (hw:2≤w) (ha:a≤2^w) (hb:b≤2^w):anL a b w≤2^w+4∧anH a b w≤2^w+4:=by
  obtain⟨c,hc⟩:∃c,2^w=4*c:=⟨2^(w - 2),by rw[show w=2+(w - 2) by omega,Nat.pow_add];simp⟩
  have a2:hvL (hvL a w) w≤c:=Dg (Dg (by omega))
  have b2:hvH (hvH b w) w≤c:=tg (tg (by omega))
  have v1:arcV w (sqL (hvL (hvL a w) w) w) (sqH (hvH (hvH b w) w) w) false 39≤2^w+1:=mT (Nat.le_refl _)
  have v2:arcV w (sqL (hvL (hvL a w) w) w) (sqH (hvH (hvH b w) w) w) true 39≤2^w+1:=mT (Nat.le_refl _)
  have m1:=zx (c:=hvL (hvL a w) w) (by omega) v1
  have m2:=zx (c:=hvH (hvH b w) w) (by omega) v2
  have k1:arcL (hvL (hvL a w) w) (hvH (hvH b w) w) w≤hvL (hvL a w) w+1:=Nat.div_le_of_le_mul m1
  have k2:arcH (hvL (hvL a w) w) (hvH (hvH b w) w) w≤hvH (hvH b w) w+1:=(az (am w)).2 m2
  unfold anL anH
  omega
def invQ (x:Rat):Rat:=sgn false x.den x.num.natAbs
theorem gC {x:Rat} (h:x.num.natAbs≠0):(invQ x).num=(x.den:Int)∧(invQ x).den=x.num.natAbs:=by
  have:=rf (neg:=false) (n:=x.den) (d:=x.num.natAbs) h (by rw[Nat.gcd_comm];exact x.reduced)
  simpa[invQ] using this
theorem invQ_cn {h:PH} {x:Rat} {v w:Value} (hd:N32 h v x.den) (hn:N32 h w x.num.natAbs) (h2:2≤x.num.natAbs):Cn h (.agg #[.bool false,v,w]) (invQ x):=by
  obtain⟨e1,e2⟩:=gC (x:=x) (by omega)
  refine⟨v,w,?_,?_,?_⟩
  · rw[e1,decide_eq_false (by omega)]
  · rw[e1];exact hd
  · rw[e2,if_neg (by omega)];exact hn
def bkL (neg:Bool) (a b k p:Nat):Rat:=if neg then sgn neg (cdiv b (2^k)) (2^p) else sgn neg (a / 2^k) (2^p)
def bkH (neg:Bool) (a b k p:Nat):Rat:=if neg then sgn neg (a / 2^k) (2^p) else sgn neg (cdiv b (2^k)) (2^p)
def atA (x:Rat) (w:Nat):Nat:=if x.den < x.num.natAbs then piL w - anH (glo (invQ x) w) (ghi (invQ x) w) w*2^1 else anL (glo x w) (ghi x w) w
def atB (x:Rat) (w:Nat):Nat:=if x.den < x.num.natAbs then piH w - anL (glo (invQ x) w) (ghi (invQ x) w) w*2^1 else anH (glo x w) (ghi x w) w
def atK (x:Rat):Nat:=if x.den < x.num.natAbs then 33 else 32
def atLo (x:Rat) (p:Nat):Rat:=bkL (decide (x.num < 0)) (atA x (p+32)) (atB x (p+32)) (atK x) p
def atHi (x:Rat) (p:Nat):Rat:=bkH (decide (x.num < 0)) (atA x (p+32)) (atB x (p+32)) (atK x) p
theorem g_le {x:Rat} {w:Nat} (h:¬x.den < x.num.natAbs):glo x w≤2^w∧ghi x w≤2^w:=by
  have h1:x.num.natAbs*2^w≤x.den*2^w:=Nat.mul_le_mul_right _ (by omega)
  exact⟨Nat.div_le_of_le_mul h1,(az x.den_nz).2 h1⟩
theorem bl_w3 {n w:Nat} (hw:2≤w) (h:n≤2^w+4):bl n≤w+3:=bl_le.2 (by
  have:2^(w+3)=2^w*8:=Nat.pow_add _ _ _
  have:2^w=2^(w - 2)*4:=by rw[←Nat.pow_add 2 _ 2];congr 1;omega
  have:=Nat.pos_of_ne_zero (am (w - 2))
  omega)
theorem Et {h0 h:PH} [Le h0 h] {v:Value} {x:Rat} {p:Nat} (hx:Cn h0 v x) (bx:sz x≤1024) (hp:p≤128):Spec mach 31 #[v,.int .i64 p] h (fun r h'=>Be h' r (atLo x p) (atHi x p)) NP:=by
  have kB:=fun {h} [Le h0 h]=>fY (h:=h) (n:=1) hx (Nat.le_trans bx (by decide)) (by decide)
  have kW:=fun {h} [Le h0 h]=>jg (h:=h) hx
  have kS:=fun {h} [Le h0 h]=>iH (h:=h) (w:=p+32) hx (Nat.le_trans bx (by decide)) (by omega)
  rw[Nat.mul_one] at kB
  have bn:=Nat.le_trans (bG x) bx
  have bd:=Nat.le_trans (bB x) bx
  unfold atLo atHi
  by_cases hb:x.den < x.num.natAbs
  · have hn2:2≤x.num.natAbs:=by have:=x.den_nz;omega
    obtain⟨i1,i2⟩:=gC (x:=x) (by omega)
    have si:sz (invQ x)≤2^20:=by
      unfold sz
      rw[i1,i2]
      simp only[Int.natAbs_natCast]
      omega
    have kI:=fun {h1 h:PH} {a b:Value} [Le h1 h] (k1:N32 h1 a x.den) (k2:N32 h1 b x.num.natAbs)=>iH (h:=h) (w:=p+32) (invQ_cn k1 k2 hn2) si (by omega)
    obtain⟨l1,l2⟩:=g_le (x:=invQ x) (w:=p+32) (by rw[i1,i2];simp only[Int.natAbs_natCast];omega)
    obtain⟨m1,m2⟩:=an_le (w:=p+32) (by omega) l1 l2
    obtain⟨z1,z2,z3⟩:=pn (w:=p+32) (by omega) (by omega)
    have u1:2^(p+32)=2^p*4294967296:=Nat.pow_add _ _ _
    have u2:=Nat.pos_of_ne_zero (am p)
    have e1:atA x (p+32)=piL (p+32) - anH (glo (invQ x) (p+32)) (ghi (invQ x) (p+32)) (p+32)*2^1:=if_pos hb
    have e2:atB x (p+32)=piH (p+32) - anL (glo (invQ x) (p+32)) (ghi (invQ x) (p+32)) (p+32)*2^1:=if_pos hb
    have e3:atK x=33:=if_pos hb
    rw[e1,e2,e3]
    rw[decide_eq_true hb] at kB
    obtain⟨na,nl,nc,da,dl,dc,rfl,hn,hd,_,_⟩:=hx.parts
    generalize decide (x.num < 0)=neg at*
    generalize glo (invQ x) (p+32)=ga at*
    generalize ghi (invQ x) (p+32)=gb at*
    have w1:anH ga gb (p+32)*2^1≤piL (p+32):=by omega
    have w2:anL ga gb (p+32)*2^1≤piH (p+32):=by omega
    obtain⟨b1,b2⟩:=bl_pi (w:=p+32)
    have b3:=bl_w3 (by omega) m1
    have b4:=bl_w3 (by omega) m2
    have b5:bl (piL (p+32) - anH ga gb (p+32)*2^1)≤_:=aR (Nat.sub_le _ _)
    have b6:bl (piH (p+32) - anL ga gb (p+32)*2^1)≤_:=aR (Nat.sub_le _ _)
    have b7:=aZ (piL (p+32) - anH ga gb (p+32)*2^1) (2^(p+32+1 - p))
    have b8:=fy (piH (p+32) - anL ga gb (p+32)*2^1) (am (p+32+1 - p))
    have ep:Hid (p+32+1 - p=33):=⟨by omega⟩
    have l1:=Hid.mk l1
    have l2:=Hid.mk l2
    clear u1 u2 z1 z2 z3 m1 m2 kS kW hb e1 e2 e3 i1 i2 si
    have kW:=fun {h} [Le h0 h]=>jg (h:=h) hx
    clear hd hx
    have F:=Hid.mk (And.intro w1 (And.intro w2 (And.intro b1 (And.intro b2 (And.intro b3 (And.intro b4 (And.intro b5 (And.intro b6 (And.intro b7 b8)))))))));clear w1 w2 b1 b2 b3 b4 b5 b6 b7 b8
    refine Spec.go [(3,.o [0,1,3,5,6,7,8,2,4,9,10,11]),(4,.h [] [] [9] [9,0,2,3,5,7,1,4,6,8,10]),(7,.h [] [] [13] [13,0,1,2,3,6,7,8,9,4,5,10,11,12,14])] Tryz.func31 rfl rfl (by kernel_rfl) fun C _=>?_
    try simp(disch:=omega) only[go_sem,Nat.reduceBEq,reduceAdd]
    refine caN (by exact kB) ?_;rintro v1 h1 s1 rfl
    try simp(disch:=omega) only[go_sem,Nat.reduceBEq,reduceAdd]
    refine caN (by exact kW) ?_;rintro _ h2 _ q2;obtain⟨v2,_,_,rfl,q2⟩:=q2.sl
    try simp(disch:=omega) only[go_sem,Nat.reduceBEq,reduceAdd]
    refine caN (by exact kI q2 (hn.to (h':=h2))) ?_;rintro v3 h3 s3 q3;obtain⟨_,_,_,_,_,_,rfl,q3⟩:=q3.sp
    try simp(disch:=omega) only[go_sem,Nat.reduceBEq,reduceAdd]
    refine caN (by exact pI q3 l1.out l2.out (by have:=F.out;omega) (by have:=F.out;omega)) ?_;rintro v4 h4 s4 ⟨x4,m4,c4,y4,n4,d4,rfl,a4,a5⟩
    try simp(disch:=omega) only[go_sem,Nat.reduceBEq,reduceAdd]
    refine caN (by exact kt (w:=p+32) (by have:=F.out;omega) (by have:=F.out;omega)) ?_;rintro v5 h5 s5 ⟨x5,m5,c5,y5,n5,d5,rfl,q5,q6⟩
    try simp(disch:=omega) only[go_sem,Nat.reduceBEq,reduceAdd]
    refine caN (by exact aL (n:=1) (show N32 h5 _ (anH ga gb (p+32)) from a5.to) (by have:=F.out;omega)) ?_;rintro _ h6 _ q7;obtain⟨v6,_,_,rfl,q7⟩:=q7.sl
    try simp(disch:=omega) only[go_sem,Nat.reduceBEq,reduceAdd]
    refine caN (by exact gE (q5.to (h':=h6)) q7 (by have:=F.out;omega) (show bl (piL (p+32))≤2^40 by have:=F.out;omega)) ?_;rintro _ h7 _ q8;obtain⟨v7,_,_,rfl,q8⟩:=q8.sl
    try simp(disch:=omega) only[go_sem,Nat.reduceBEq,reduceAdd]
    refine caN (by exact aL (n:=1) (show N32 h7 _ (anL ga gb (p+32)) from a4.to) (by have:=F.out;omega)) ?_;rintro _ h8 _ q9;obtain⟨v8,_,_,rfl,q9⟩:=q9.sl
    try simp(disch:=omega) only[go_sem,Nat.reduceBEq,reduceAdd]
    refine caN (by exact gE (q6.to (h':=h8)) q9 (by have:=F.out;omega) (show bl (piH (p+32))≤2^40 by have:=F.out;omega)) ?_;rintro _ h9 _ q10;obtain⟨v9,_,_,rfl,q10⟩:=q10.sl
    try simp(disch:=omega) only[go_sem,Nat.reduceBEq,reduceAdd]
    refine caN (by exact fw (w:=p+32+1) (p:=p) (neg:=neg) ⟨_,_,_,_,_,_,rfl,q8.to (h':=h9),q10⟩ (by have:=F.out;omega) (by have:=F.out;omega) (by have:=F.out;omega) (by have:=F.out;omega) (by have:=F.out;omega) (by have:=F.out;omega) (by have:=F.out;omega)) ?_;rintro v10 h10 s10 ⟨_,_,_,_,_,_,_,_,_,_,_,_,_,_,rfl,r1,r2⟩
    try simp(disch:=omega) only[go_sem,Nat.reduceBEq,reduceAdd]
    rw[ep.out] at r1 r2
    exact⟨_,_,_,_,_,_,_,_,_,_,_,_,_,_,rfl,r1,r2⟩
  · rw[decide_eq_false hb] at kB
    obtain⟨l1,l2⟩:=g_le (w:=p+32) hb
    obtain⟨m1,m2⟩:=an_le (w:=p+32) (by omega) l1 l2
    have e1:atA x (p+32)=anL (glo x (p+32)) (ghi x (p+32)) (p+32):=if_neg hb
    have e2:atB x (p+32)=anH (glo x (p+32)) (ghi x (p+32)) (p+32):=if_neg hb
    have e3:atK x=32:=if_neg hb
    rw[e1,e2,e3]
    obtain⟨na,nl,nc,da,dl,dc,rfl,_,_,_,_⟩:=hx.parts
    generalize decide (x.num < 0)=neg at*
    generalize glo x (p+32)=ga at*
    generalize ghi x (p+32)=gb at*
    have b3:=bl_w3 (by omega) m1
    have b4:=bl_w3 (by omega) m2
    have b7:=aZ (anL ga gb (p+32)) (2^(p+32 - p))
    have b8:=fy (anH ga gb (p+32)) (am (p+32 - p))
    have ep:Hid (p+32 - p=32):=⟨by omega⟩
    have l1:=Hid.mk l1
    have l2:=Hid.mk l2
    clear m1 m2 hb e1 e2 e3
    have F:=Hid.mk (And.intro b3 (And.intro b4 (And.intro b7 b8)));clear b3 b4 b7 b8
    refine Spec.go [(3,.o [0,1,3,5,6,7,8,2,4,9,10,11]),(4,.h [] [] [9] [9,0,2,3,5,7,1,4,6,8,10]),(7,.h [] [] [13] [13,0,1,2,3,6,7,8,9,4,5,10,11,12,14])] Tryz.func31 rfl rfl (by kernel_rfl) fun C _=>?_
    try simp(disch:=omega) only[go_sem,Nat.reduceBEq,reduceAdd]
    refine caN (by exact kB) ?_;rintro v1 h1 s1 rfl
    try simp(disch:=omega) only[go_sem,Nat.reduceBEq,reduceAdd]
    refine caN (by exact kS) ?_;rintro v3 h3 s3 q3;obtain⟨_,_,_,_,_,_,rfl,q3⟩:=q3.sp
    try simp(disch:=omega) only[go_sem,Nat.reduceBEq,reduceAdd]
    refine caN (by exact pI q3 l1.out l2.out (by have:=F.out;omega) (by have:=F.out;omega)) ?_;rintro v4 h4 s4 q4;obtain⟨_,_,_,_,_,_,rfl,q4⟩:=q4.sp
    try simp(disch:=omega) only[go_sem,Nat.reduceBEq,reduceAdd]
    refine caN (by exact fw (w:=p+32) (p:=p) (neg:=neg) q4 (by have:=F.out;omega) (by have:=F.out;omega) (by have:=F.out;omega) (by have:=F.out;omega) (by have:=F.out;omega) (by have:=F.out;omega) (by have:=F.out;omega)) ?_;rintro v10 h10 s10 ⟨_,_,_,_,_,_,_,_,_,_,_,_,_,_,rfl,r1,r2⟩
    try simp(disch:=omega) only[go_sem,Nat.reduceBEq,reduceAdd]
    rw[ep.out] at r1 r2
    exact⟨_,_,_,_,_,_,_,_,_,_,_,_,_,_,rfl,r1,r2⟩
theorem odiv_grid (a w:Nat) (u:Bool):odiv ((sgn false a (2^w)).num.natAbs*2^w) (sgn false a (2^w)).den u=a:=by
  rw[odiv_quot (am w) (sgn_grid a w)]
  have un:=Nat.pos_of_ne_zero (am w)
  unfold odiv
  cases u
  · exact Nat.mul_div_cancel a un
  · refine Nat.le_antisymm ((az (by omega)).2 (by rw[Nat.mul_comm];exact Nat.le_refl _)) ?_
    have k:a*2^w≤2^w*cdiv (a*2^w) (2^w):=(az (by omega)).1 (Nat.le_refl _)
    show a≤cdiv (a*2^w) (2^w)
    generalize cdiv (a*2^w) (2^w)=c at*
    rw[Nat.mul_comm (2^w) c] at k
    exact Nat.le_of_mul_le_mul_right k un
theorem RQuarters_spec {h0 h:PH} [Le h0 h] {va vb:Value} {a b w:Nat} (ha:Qr h0 va (sgn false a (2^w))) (hb:Qr h0 vb (sgn false b (2^w))) (la:a≤2^w) (lb:b≤2^w) (hw:20≤w) (hw':w≤200):Spec mach 230 #[va,vb,.int .i64 w] h (fun r h'=>Qp h' r (sgn false (anL a b w) (2^w)) (sgn false (anH a b w) (2^w))) NP:=by
  have x1:=rX a w
  have x2:=rX (hvL a w) w
  have y1:=dk b w
  have y2:=dk (hvH b w) w
  have k1:=fun {h} [Le h0 h]=>RHalf_spec (h:=h) ha hb la lb (by omega)
  have k2:=fun {h0 h:PH} {va vb:Value} [Le h0 h] (ha:Qr h0 va (sgn false (hvL a w) (2^w))) (hb:Qr h0 vb (sgn false (hvH b w) (2^w)))=>RHalf_spec (h:=h) ha hb (by omega) (by omega) (by omega)
  have c1:bl (hvL (hvL a w) w)≤w+2:=bh (by omega)
  have c2:bl (hvH (hvH b w) w)≤w+2:=bh (by omega)
  have s1:=sz_grid (w:=w) c1 (by omega)
  have s2:=sz_grid (w:=w) c2 (by omega)
  have lL:hvL (hvL a w) w≤2^w:=by omega
  have lH:hvH (hvH b w) w≤2^w:=by omega
  obtain⟨a1,a2⟩:=an_le (w:=w) (by omega) la lb
  have d1:bl (anL a b w)≤w+4:=pj (k:=w+3) (by rw[Nat.pow_add];have:=Nat.pos_of_ne_zero (am w);omega)
  have d2:bl (anH a b w)≤w+4:=pj (k:=w+3) (by rw[Nat.pow_add];have:=Nat.pos_of_ne_zero (am w);omega)
  have e1:4*arcL (hvL (hvL a w) w) (hvH (hvH b w) w) w=anL a b w:=by unfold anL;omega
  have e2:4*arcH (hvL (hvL a w) w) (hvH (hvH b w) w) w=anH a b w:=by unfold anH;omega
  have g1:=odiv_grid (hvL (hvL a w) w) w false
  have g2:=odiv_grid (hvH (hvH b w) w) w false
  have d3:bl (arcL (hvL (hvL a w) w) (hvH (hvH b w) w) w)≤w+4:=Nat.le_trans (aR (by omega)) d1
  have d4:bl (arcH (hvL (hvL a w) w) (hvH (hvH b w) w) w)≤w+4:=Nat.le_trans (aR (by omega)) d2
  have u4:bl 4≤3:=by decide
  have lL:=Hid.mk lL
  have lH:=Hid.mk lH
  obtain⟨_,_,_,_,_,_,_,rfl,ha⟩:=ha.sa
  obtain⟨_,_,_,_,_,_,_,rfl,hb⟩:=hb.sa
  clear x1 x2 y1 y2 a1 a2 la lb
  generalize anL a b w=AL at*
  generalize anH a b w=AH at*
  generalize hvL (hvL a w) w=L at*
  generalize hvH (hvH b w) w=H at*
  have F:=Hid.mk (And.intro c1 (And.intro c2 (And.intro s1 (And.intro s2 (And.intro d1 (And.intro d2 (And.intro d3 (And.intro d4 u4))))))));clear c1 c2 s1 s2 d1 d2 d3 d4 u4
  refine Spec.go [(3,.o [0,1,3,4,6,2,5,7,8,9,10,11,12])] Tryz.func230 rfl rfl (by kernel_rfl) fun C _=>?_
  try simp(maxSteps:=999999) (disch:=omega) only[go_sem,Nat.reduceBEq,reduceAdd]
  refine caN (by exact k1) ?_;rintro v1 h1 r1 ⟨_,_,_,_,_,_,_,_,_,_,_,_,_,_,rfl,q1,q2⟩
  try simp(maxSteps:=999999) (disch:=omega) only[go_sem,Nat.reduceBEq,reduceAdd]
  refine caN (by exact k2 q1 q2) ?_;rintro v2 h2 r2 ⟨_,_,_,_,_,_,_,_,_,_,_,_,_,_,rfl,q3,q4⟩
  try simp(maxSteps:=999999) (disch:=omega) only[go_sem,Nat.reduceBEq,reduceAdd]
  refine caN (by exact EH (w:=w) (u:=false) q3 (by have:=F.out;omega) (by have:=F.out;omega)) ?_;rintro _ h5 _ q5;obtain⟨v5,_,_,rfl,q5⟩:=q5.sl
  try simp(maxSteps:=999999) (disch:=omega) only[go_sem,Nat.reduceBEq,reduceAdd]
  rw[g1] at q5
  refine caN (by exact EH (w:=w) (u:=false) (q4.to (h':=h5)) (by have:=F.out;omega) (by have:=F.out;omega)) ?_;rintro _ h6 _ q6;obtain⟨v6,_,_,rfl,q6⟩:=q6.sl
  try simp(maxSteps:=999999) (disch:=omega) only[go_sem,Nat.reduceBEq,reduceAdd]
  rw[g2] at q6
  refine caN (by exact zm (q5.to (h':=h6)) q6 lL.out lH.out (by have:=F.out;omega) (by have:=F.out;omega)) ?_;rintro v7 h7 r7 ⟨_,_,_,_,_,_,rfl,q7,q8⟩
  try simp(maxSteps:=999999) (disch:=omega) only[go_sem,Nat.reduceBEq,reduceAdd]
  refine caN (by exact di (k:=4) (n:=4) (by decide) (by decide)) ?_;rintro _ h9 _ q9;obtain⟨v9,_,_,rfl,q9⟩:=q9.sl
  try simp(maxSteps:=999999) (disch:=omega) only[go_sem,Nat.reduceBEq,reduceAdd]
  refine caN (by exact aV q9 (q7.to (h':=h9)) (by have:=F.out;omega) (by have:=F.out;omega)) ?_;rintro _ h10 _ q10;obtain⟨v10,_,_,rfl,q10⟩:=q10.sl
  try simp(maxSteps:=999999) (disch:=omega) only[go_sem,Nat.reduceBEq,reduceAdd]
  rw[e1] at q10
  refine caN (by exact o9 (w:=w) q10 (by have:=F.out;omega) (by have:=F.out;omega)) ?_;rintro v11 h11 r11 q11;obtain⟨_,_,_,_,_,_,_,rfl,q11⟩:=q11.sa
  try simp(maxSteps:=999999) (disch:=omega) only[go_sem,Nat.reduceBEq,reduceAdd]
  refine caN (by exact di (k:=4) (n:=4) (by decide) (by decide)) ?_;rintro _ h12 _ q12;obtain⟨v12,_,_,rfl,q12⟩:=q12.sl
  try simp(maxSteps:=999999) (disch:=omega) only[go_sem,Nat.reduceBEq,reduceAdd]
  refine caN (by exact aV q12 (q8.to (h':=h12)) (by have:=F.out;omega) (by have:=F.out;omega)) ?_;rintro _ h13 _ q13;obtain⟨v13,_,_,rfl,q13⟩:=q13.sl
  try simp(maxSteps:=999999) (disch:=omega) only[go_sem,Nat.reduceBEq,reduceAdd]
  rw[e2] at q13
  refine caN (by exact o9 (w:=w) q13 (by have:=F.out;omega) (by have:=F.out;omega)) ?_;rintro v14 h14 r14 q14;obtain⟨_,_,_,_,_,_,_,rfl,q14⟩:=q14.sa
  try simp(maxSteps:=999999) (disch:=omega) only[go_sem,Nat.reduceBEq,reduceAdd]
  exact⟨_,_,_,_,_,_,_,_,_,_,_,_,_,_,rfl,q11.to,q14⟩
theorem le_one {x:Rat} (h:0 < x):x≤1↔¬x.den < x.num.natAbs:=by
  have q:=num_over h
  have d0:(0:Rat) < (x.den:Rat):=by exact_mod_cast x.den_pos
  rw[Nat.not_lt,←Rat.natCast_le_natCast,←q]
  constructor
  · intro c
    have:=mlr c (llt d0)
    grind
  · intro c
    refine lmm (c:=(x.den:Rat)) ?_ d0
    grind
theorem sgn_two (n w:Nat):sgn false (n*2) (2^(w+1))=sgn false n (2^w):=by
  have e:=sgn_grid (n*2) (w+1)
  have f:=sgn_grid n w
  have u0:(0:Rat) < ((2^w:Nat):Rat):=by exact_mod_cast Nat.pos_of_ne_zero (am w)
  rw[Rat.natCast_mul,Nat.pow_succ,Rat.natCast_mul,←f,show((2:Nat):Rat)=2 from rfl] at e
  rw[Nat.pow_succ]
  generalize sgn false (n*2) (2^w*2)=r at*
  generalize sgn false n (2^w)=s at*
  generalize((2^w:Nat):Rat)=U at*
  have k:(r - s)*U=0:=by grind
  rcases Rat.mul_eq_zero.1 k with c |c<;>grind
theorem sgn_minus {a b w:Nat} (h:b≤a):sgn false a (2^w) - sgn false b (2^w)=sgn false (a - b) (2^w):=by
  have e:=sgn_grid (a - b) w
  have f:=sgn_grid a w
  have g:=sgn_grid b w
  have u0:(0:Rat) < ((2^w:Nat):Rat):=by exact_mod_cast Nat.pos_of_ne_zero (am w)
  have c:((a - b:Nat):Rat)+(b:Rat)=(a:Rat):=by rw[←Rat.natCast_add,Nat.sub_add_cancel h]
  generalize sgn false (a - b) (2^w)=r at*
  generalize sgn false a (2^w)=s at*
  generalize sgn false b (2^w)=t at*
  generalize((2^w:Nat):Rat)=U at*
  have k:(s - t - r)*U=0:=by grind
  rcases Rat.mul_eq_zero.1 k with c |c<;>grind
theorem RAtan_spec {h0 h:PH} [Le h0 h] {v:Value} {x:Rat} {p:Nat} (hx:Qr h0 v x) (bx:sz x≤2048) (h00:0 < x) (hp:p≤128):Spec mach 161 #[v,.int .i64 p] h (fun r h'=>Qp h' r (atLo x p) (atHi x p)) NP:=by
  have q:=num_over h00
  have d0:(0:Rat) < (x.den:Rat):=by exact_mod_cast x.den_pos
  have n0:x.num.natAbs≠0:=fun c=>by
    rw[c,show((0:Nat):Rat)=0 from rfl] at q
    have:=Rat.mul_pos h00 d0
    grind
  have hneg:decide (x.num < 0)=false:=decide_eq_false fun c=>by have:=num_neg.1 c;grind
  have kI:=fun {h}=>aF (h:=h) (n:=1) (by decide) (by decide)
  have eC:decide (cmpQ x ((1:Int):Rat)≤0)=decide (¬x.den < x.num.natAbs):=by
    rw[decide_eq_decide,←le_one h00,show((1:Int):Rat)=1 from rfl]
    unfold cmpQ;grind
  have o:sz ((1:Int):Rat)≤1:=by decide
  have ew:IntKind.i64.wrap ((p:Int)+32)=((p+32:Nat):Int):=by rw[wi64 (by omega) (by omega)];omega
  obtain⟨_,_,_,_,_,_,_,rfl,hx⟩:=hx.sa
  have F:=Hid.mk (And.intro bx o);clear bx o
  by_cases c:x.den < x.num.natAbs
  · have eC:=eC.trans (decide_eq_false (fun k=>k c))
    obtain⟨i1,i2⟩:=gC n0
    have yq:((1:Int):Rat) / x*((x.num.natAbs:Nat):Rat)=((x.den:Nat):Rat):=by
      have i:x*x⁻¹=1:=Rat.mul_inv_cancel _ (by grind)
      rw[←q,Rat.div_def,show((1:Int):Rat)=1 from rfl,Rat.one_mul,←Rat.mul_assoc,Rat.mul_comm x⁻¹,i,Rat.one_mul]
    have eG:glo (invQ x) (p+32)=x.den*2^(p+32) / x.num.natAbs∧ghi (invQ x) (p+32)=cdiv (x.den*2^(p+32)) x.num.natAbs:=by unfold glo ghi;rw[i1,i2];exact⟨rfl,rfl⟩
    obtain⟨y1,y2⟩:=gdown_quot (w:=p+32) n0 yq
    rw[←eG.1] at y1
    rw[←eG.2] at y2
    obtain⟨l1,l2⟩:=xQ (x:=invQ x) (n:=1) (w:=p+32) (by rw[i1,i2];omega)
    rw[Nat.one_mul] at l1 l2
    obtain⟨m1,m2⟩:=an_le (w:=p+32) (by have:=F.out;omega) l1 l2
    have pl:=pn (w:=p+32) (by have:=F.out;omega) (by have:=F.out;omega)
    have un:2^32≤2^(p+32):=Nat.pow_le_pow_right (by decide) (by have:=F.out;omega)
    have zi:=iQ x
    have zq:=bV ((1:Int):Rat) x⁻¹
    rw[←Rat.div_def] at zq
    have e33:2^(p+33)=2^(p+32)*2:=Nat.pow_succ ..
    have z1:=sz_grid (w:=p+32) (Nat.le_trans (aR m1) (pj (k:=p+33) (by have:=F.out;omega))) (show p+32+1≤p+33+1 by have:=F.out;omega)
    have z2:=sz_grid (w:=p+32) (Nat.le_trans (aR m2) (pj (k:=p+33) (by have:=F.out;omega))) (show p+32+1≤p+33+1 by have:=F.out;omega)
    obtain⟨bp1,bp2⟩:=bl_pi (w:=p+32)
    have z3:=sz_grid (w:=p+32+1) bp1 (show p+32+1+1≤p+32+6 by have:=F.out;omega)
    have z4:=sz_grid (w:=p+32+1) bp2 (show p+32+1+1≤p+32+6 by have:=F.out;omega)
    have eL:gdown (sgn false (piL (p+32)) (2^(p+32+1)) - sgn false (anH (glo (invQ x) (p+32)) (ghi (invQ x) (p+32)) (p+32)) (2^(p+32))) p=atLo x p:=by
      rw[←sgn_two (anH (glo (invQ x) (p+32)) (ghi (invQ x) (p+32)) (p+32)),sgn_minus (by have:=F.out;omega),show p+32+1=p+33 by have:=F.out;omega,Ji]
      unfold atLo bkL atA atK
      rw[hneg,if_neg (by decide),if_pos c,if_pos c]
    have eH:gup (sgn false (piH (p+32)) (2^(p+32+1)) - sgn false (anL (glo (invQ x) (p+32)) (ghi (invQ x) (p+32)) (p+32)) (2^(p+32))) p=atHi x p:=by
      rw[←sgn_two (anL (glo (invQ x) (p+32)) (ghi (invQ x) (p+32)) (p+32)),sgn_minus (by have:=F.out;omega),show p+32+1=p+33 by have:=F.out;omega,gup_sgn]
      unfold atHi bkH atB atK
      rw[hneg,if_neg (by decide),if_pos c,if_pos c]
    rw[←eL,←eH]
    have l1:=Hid.mk l1
    have l2:=Hid.mk l2
    clear eL eH hneg q d0 eG i1 i2 yq m1 m2 pl un
    have kQ:=fun {h0 h:PH} {va vb:Value} [Le h0 h] (ha:Qr h0 va (sgn false (glo (invQ x) (p+32)) (2^(p+32)))) (hb:Qr h0 vb (sgn false (ghi (invQ x) (p+32)) (2^(p+32))))=>RQuarters_spec (h:=h) ha hb l1.out l2.out (by have:=F.out;omega) (by have:=F.out;omega)
    generalize anL (glo (invQ x) (p+32)) (ghi (invQ x) (p+32)) (p+32)=AL at*
    generalize anH (glo (invQ x) (p+32)) (ghi (invQ x) (p+32)) (p+32)=AH at*
    have F:=Hid.mk (And.intro F.out (And.intro zi (And.intro zq (And.intro z1 (And.intro z2 (And.intro z3 (And.intro z4 (And.intro bp1 bp2))))))));clear zi zq z1 z2 z3 z4 bp1 bp2
    refine Spec.go [(3,.h [] [] [11,12] [11,12,0,1,3,4,6,2,5,7,8,9,10,13,14]),(4,.o [0,1,3,4,2,5,6,7]),(5,.h [] [] [3] [3,1,0,2,4]),(6,.h [] [] [11,12] [11,12,0,1,3,4,6,2,5,7,8,9,10,13,14]),(8,.o [0,1,3,5,6,8,2,4,7,9,10,11])] Tryz.func161 rfl rfl (by kernel_rfl) fun C _=>?_
    try simp(maxSteps:=999999) (disch:=omega) only[go_sem,Nat.reduceBEq,reduceAdd]
    refine caN (by exact kI) ?_;rintro v1 h1 r1 q1;obtain⟨_,_,_,_,_,_,_,rfl,q1⟩:=q1.sa
    try simp(maxSteps:=999999) (disch:=omega) only[go_sem,Nat.reduceBEq,reduceAdd]
    refine caN (by exact av (hx.to (h':=h1)) q1 (by have:=F.out;omega) (by have:=F.out;omega)) ?_;rintro v2 h2 r2 rfl
    try simp(maxSteps:=999999) (disch:=omega) only[go_sem,Nat.reduceBEq,reduceAdd,eC]
    refine caN (by exact kI) ?_;rintro v3 h3 r3 q3;obtain⟨_,_,_,_,_,_,_,rfl,q3⟩:=q3.sa
    try simp(maxSteps:=999999) (disch:=omega) only[go_sem,Nat.reduceBEq,reduceAdd]
    refine caN (by exact cU q3 (hx.to (h':=h3)) (by have:=F.out;omega) (by have:=F.out;omega)) ?_;rintro v4 h4 r4 q4;obtain⟨_,_,_,_,_,_,_,rfl,q4⟩:=q4.sa
    try simp(maxSteps:=999999) (disch:=omega) only[go_sem,Nat.reduceBEq,reduceAdd]
    refine caN (by exact j9 (p:=p+32) q4 (by have:=F.out;omega) (by have:=F.out;omega)) ?_;rintro v5 h5 r5 q5;rw[y1] at q5;obtain⟨_,_,_,_,_,_,_,rfl,q5⟩:=q5.sa
    try simp(maxSteps:=999999) (disch:=omega) only[go_sem,Nat.reduceBEq,reduceAdd]
    refine caN (by exact np (p:=p+32) (q4.to (h':=h5)) (by have:=F.out;omega) (by have:=F.out;omega)) ?_;rintro v6 h6 r6 q6;rw[y2] at q6;obtain⟨_,_,_,_,_,_,_,rfl,q6⟩:=q6.sa
    try simp(maxSteps:=999999) (disch:=omega) only[go_sem,Nat.reduceBEq,reduceAdd]
    refine caN (by exact kQ (q5.to (h':=h6)) q6) ?_;rintro v7 h7 r7 ⟨_,_,_,_,_,_,_,_,_,_,_,_,_,_,rfl,q7,q8⟩
    try simp(maxSteps:=999999) (disch:=omega) only[go_sem,Nat.reduceBEq,reduceAdd]
    refine caN (by exact rr (w:=p+32) (by have:=F.out;omega) (by have:=F.out;omega)) ?_;rintro v9 h9 r9 ⟨_,_,_,_,_,_,_,_,_,_,_,_,_,_,rfl,q9,q10⟩
    try simp(maxSteps:=999999) (disch:=omega) only[go_sem,Nat.reduceBEq,reduceAdd]
    refine caN (by exact cR q9 (q8.to (h':=h9)) (by have:=F.out;omega) (by have:=F.out;omega)) ?_;rintro v11 h11 r11 q11;obtain⟨_,_,_,_,_,_,_,rfl,q11⟩:=q11.sa
    try simp(maxSteps:=999999) (disch:=omega) only[go_sem,Nat.reduceBEq,reduceAdd]
    refine caN (by exact j9 (p:=p) q11 (Nat.le_trans (BS _ _) (by have:=F.out;omega)) (by have:=F.out;omega)) ?_;rintro v12 h12 r12 q12;obtain⟨_,_,_,_,_,_,_,rfl,q12⟩:=q12.sa
    try simp(maxSteps:=999999) (disch:=omega) only[go_sem,Nat.reduceBEq,reduceAdd]
    refine caN (by exact cR (q10.to (h':=h12)) (q7.to (h':=h12)) (by have:=F.out;omega) (by have:=F.out;omega)) ?_;rintro v13 h13 r13 q13;obtain⟨_,_,_,_,_,_,_,rfl,q13⟩:=q13.sa
    try simp(maxSteps:=999999) (disch:=omega) only[go_sem,Nat.reduceBEq,reduceAdd]
    refine caN (by exact np (p:=p) q13 (Nat.le_trans (BS _ _) (by have:=F.out;omega)) (by have:=F.out;omega)) ?_;rintro v14 h14 r14 q14;obtain⟨_,_,_,_,_,_,_,rfl,q14⟩:=q14.sa
    try simp(maxSteps:=999999) (disch:=omega) only[go_sem,Nat.reduceBEq,reduceAdd]
    exact⟨_,_,_,_,_,_,_,_,_,_,_,_,_,_,rfl,q12.to,q14⟩
  · have eC:=eC.trans (decide_eq_true c)
    obtain⟨y1,y2⟩:=gdown_quot (w:=p+32) x.den_nz q
    have eG:x.num.natAbs*2^(p+32) / x.den=glo x (p+32)∧cdiv (x.num.natAbs*2^(p+32)) x.den=ghi x (p+32):=by unfold glo ghi;exact⟨rfl,rfl⟩
    rw[eG.1] at y1
    rw[eG.2] at y2
    clear eG
    obtain⟨l1,l2⟩:=xQ (x:=x) (n:=1) (w:=p+32) (by have:=F.out;omega)
    rw[Nat.one_mul] at l1 l2
    obtain⟨m1,m2⟩:=an_le (w:=p+32) (by have:=F.out;omega) l1 l2
    have un:2^32≤2^(p+32):=Nat.pow_le_pow_right (by decide) (by have:=F.out;omega)
    have e33:2^(p+33)=2^(p+32)*2:=Nat.pow_succ ..
    have z1:=sz_grid (w:=p+32) (Nat.le_trans (aR m1) (pj (k:=p+33) (by have:=F.out;omega))) (show p+32+1≤p+33+1 by have:=F.out;omega)
    have z2:=sz_grid (w:=p+32) (Nat.le_trans (aR m2) (pj (k:=p+33) (by have:=F.out;omega))) (show p+32+1≤p+33+1 by have:=F.out;omega)
    have eL:gdown (sgn false (anL (glo x (p+32)) (ghi x (p+32)) (p+32)) (2^(p+32))) p=atLo x p:=by
      rw[Ji]
      unfold atLo bkL atA atK
      rw[hneg,if_neg (by decide),if_neg c,if_neg c]
    have eH:gup (sgn false (anH (glo x (p+32)) (ghi x (p+32)) (p+32)) (2^(p+32))) p=atHi x p:=by
      rw[gup_sgn]
      unfold atHi bkH atB atK
      rw[hneg,if_neg (by decide),if_neg c,if_neg c]
    rw[←eL,←eH]
    have l1:=Hid.mk l1
    have l2:=Hid.mk l2
    clear eL eH hneg q d0 m1 m2 un e33 n0
    have kQ:=fun {h0 h:PH} {va vb:Value} [Le h0 h] (ha:Qr h0 va (sgn false (glo x (p+32)) (2^(p+32)))) (hb:Qr h0 vb (sgn false (ghi x (p+32)) (2^(p+32))))=>RQuarters_spec (h:=h) ha hb l1.out l2.out (by have:=F.out;omega) (by have:=F.out;omega)
    generalize anL (glo x (p+32)) (ghi x (p+32)) (p+32)=AL at*
    generalize anH (glo x (p+32)) (ghi x (p+32)) (p+32)=AH at*
    have F:=Hid.mk (And.intro F.out (And.intro z1 z2));clear z1 z2
    refine Spec.go [(3,.h [] [] [11,12] [11,12,0,1,3,4,6,2,5,7,8,9,10,13,14]),(4,.o [0,1,3,4,2,5,6,7]),(5,.h [] [] [3] [3,1,0,2,4]),(6,.h [] [] [11,12] [11,12,0,1,3,4,6,2,5,7,8,9,10,13,14]),(8,.o [0,1,3,5,6,8,2,4,7,9,10,11])] Tryz.func161 rfl rfl (by kernel_rfl) fun C _=>?_
    try simp(maxSteps:=999999) (disch:=omega) only[go_sem,Nat.reduceBEq,reduceAdd]
    refine caN (by exact kI) ?_;rintro v1 h1 r1 q1;obtain⟨_,_,_,_,_,_,_,rfl,q1⟩:=q1.sa
    try simp(maxSteps:=999999) (disch:=omega) only[go_sem,Nat.reduceBEq,reduceAdd]
    refine caN (by exact av (hx.to (h':=h1)) q1 (by have:=F.out;omega) (by have:=F.out;omega)) ?_;rintro v2 h2 r2 rfl
    try simp(maxSteps:=999999) (disch:=omega) only[go_sem,Nat.reduceBEq,reduceAdd,eC]
    refine caN (by exact j9 (p:=p+32) (hx.to (h':=h2)) (by have:=F.out;omega) (by have:=F.out;omega)) ?_;rintro v5 h5 r5 q5;rw[y1] at q5;obtain⟨_,_,_,_,_,_,_,rfl,q5⟩:=q5.sa
    try simp(maxSteps:=999999) (disch:=omega) only[go_sem,Nat.reduceBEq,reduceAdd]
    refine caN (by exact np (p:=p+32) (hx.to (h':=h5)) (by have:=F.out;omega) (by have:=F.out;omega)) ?_;rintro v6 h6 r6 q6;rw[y2] at q6;obtain⟨_,_,_,_,_,_,_,rfl,q6⟩:=q6.sa
    try simp(maxSteps:=999999) (disch:=omega) only[go_sem,Nat.reduceBEq,reduceAdd]
    refine caN (by exact kQ (q5.to (h':=h6)) q6) ?_;rintro v7 h7 r7 ⟨_,_,_,_,_,_,_,_,_,_,_,_,_,_,rfl,q7,q8⟩
    try simp(maxSteps:=999999) (disch:=omega) only[go_sem,Nat.reduceBEq,reduceAdd]
    refine caN (by exact j9 (p:=p) q7 (by have:=F.out;omega) (by have:=F.out;omega)) ?_;rintro v12 h12 r12 q12;obtain⟨_,_,_,_,_,_,_,rfl,q12⟩:=q12.sa
    try simp(maxSteps:=999999) (disch:=omega) only[go_sem,Nat.reduceBEq,reduceAdd]
    refine caN (by exact np (p:=p) (q8.to (h':=h12)) (by have:=F.out;omega) (by have:=F.out;omega)) ?_;rintro v14 h14 r14 q14;obtain⟨_,_,_,_,_,_,_,rfl,q14⟩:=q14.sa
    try simp(maxSteps:=999999) (disch:=omega) only[go_sem,Nat.reduceBEq,reduceAdd]
    exact⟨_,_,_,_,_,_,_,_,_,_,_,_,_,_,rfl,q12.to,q14⟩
theorem yx {h0 h:PH} [Le h0 h] {v:Value} {neg:Bool} {a d n p:Nat} {u:Bool} (hv:Rw h0 v neg a d) (hl:¬lg neg a d) (hn:2≤n) (hn8:n≤8) (hp:p≤256) (hd:¬((qof neg a d).num < 0∧n % 2=0)):
    Spec mach 253 #[v,.int .i64 n,.int .i64 p,.bool u] h (fun r h'=>∃w,r=.tuple #[w,.int .i64 0]∧Cn h' w (rootg u (qof neg a d) n p)) NP:=by
  have kR:=fun {h} [Le h0 h]=>sN (h:=h) hv hl
  have hz:sz (qof neg a d)≤2048:=by unfold Go.Q.lg at hl;omega
  obtain⟨_,_,_,_,_,_,_,rfl,_⟩:=hv.sa
  generalize qof neg a d=x at*
  have b1:=bG x
  have b2:=bB x
  have hpn:p*n≤2048:=Nat.mul_le_mul hp hn8
  have b3:=cu x.num.natAbs (p*n)
  have bw:=BF (p:=p) hz hn
  have bw':n*(1024+p)≤8*1280:=Nat.mul_le_mul hn8 (by omega)
  have bi:=Bg (n:=n) (by omega) bw
  have bi2:=cY (irt n (rtw x n p)) 1
  rw[fI] at bi2
  have b6:=bC p
  have b0:=fI
  have hsz:=iY (up:=u) (p:=p) hz hn hp
  have m1:¬(n:Int) < 2:=by omega
  have m2:¬(8:Int) < n:=by omega
  have m3:¬(p:Int) < 0:=by omega
  have m4:¬(256:Int) < p:=by omega
  have hr:rootg u x n p=sgn (decide (x.num < 0)) (rtm u x n p) (2^p):=rfl
  have hm:rtm u x n p=if (u != decide (x.num < 0))=true∧rtx x n p=false then irt n (rtw x n p)+1 else irt n (rtw x n p):=rfl
  have hx0:rtx x n p=(decide (irt n (rtw x n p)^n=rtw x n p) && decide (x.num.natAbs*2^(p*n) % x.den=0)):=rfl
  have hw0:x.num.natAbs*2^(p*n) / x.den=rtw x n p:=rfl
  have hdn:=x.den_nz
  have b4:bl (x.num.natAbs*2^(p*n))≤8192:=by omega
  generalize hk:p*n=k at*
  have kS:=fun {h1 h:PH} [Le h1 h] {v:Value} (y:N32 h1 v x.num.natAbs)=>aL (h:=h) (n:=k) y (by omega)
  have kD:=fun {h1 h:PH} [Le h1 h] {v w:Value} (y:N32 h1 v (x.num.natAbs*2^k)) (l:N32 h1 w x.den)=>gU (h:=h) y l hdn (by omega) (by omega)
  rw[hw0] at kD
  have hbw:bl (rtw x n p)≤2^20:=by omega
  have hi1:bl (irt n (rtw x n p))≤2^38:=by omega
  have hi2:bl (irt n (rtw x n p)+1)≤2^38:=by omega
  have hp2:bl (2^p)≤2^38:=by omega
  have hb1:bl 1≤1:=by omega
  clear b0 b1 b2 b3 b4 b6 bw bw' bi bi2 hz hw0
  have hodd:decide (x.num < 0)=true→n % 2=1:=fun en=>by
    have:x.num < 0:=of_decide_eq_true en
    have:=fun k=>hd ⟨this,k⟩
    omega
  rw[hm] at hr
  clear hm
  generalize en:decide (x.num < 0)=s at*
  by_cases hu:u=s
  · subst hu
    rw[if_neg (by simp)] at hr
    clear hx0
    cases u<;>
    · try have hodd:=hodd rfl
      generalize eB:decide (irt n (rtw x n p)^n=rtw x n p)=B
      refine Spec.go [(8,.o [0,1,2,3,4,6,7,5,8,9,10,11,12,13]),(12,.o [0,1,2,4,3,5,6,7,8,9,10,11])] Tryz.func253 rfl rfl (by kernel_rfl) fun C _=>?_
      try simp(maxSteps:=999999) (disch:=omega) only[go_sem,Nat.reduceBEq,reduceAdd]
      refine caN (by exact kR) ?_;rintro v1 h1 s1 ⟨f,rfl,hf⟩;obtain⟨na,nl,nc,da,dl,dc,rfl,hnn,hdd⟩:=hf.sl
      try simp(maxSteps:=999999) (disch:=omega) only[go_sem,Nat.reduceBEq,reduceAdd]
      rw[en]
      try simp(maxSteps:=999999) (disch:=omega) only[go_sem,Nat.reduceBEq,reduceAdd]
      rw[hk]
      refine caN (by exact kS hnn) ?_;rintro v2 h2 s2 q2
      try simp(maxSteps:=999999) (disch:=omega) only[go_sem,Nat.reduceBEq,reduceAdd]
      refine caN (by exact kD q2 (hdd.to (h':=h2))) ?_;rintro v3 h3 s3 ⟨q,r,rfl,hq,hr'⟩
      try simp(maxSteps:=999999) (disch:=omega) only[go_sem,Nat.reduceBEq,reduceAdd]
      refine caN (by exact gj (n:=n) hq hn hn8 (by omega)) ?_;rintro v4 h4 s4 ⟨t,rfl,ht⟩
      try simp(maxSteps:=999999) (disch:=omega) only[go_sem,Nat.reduceBEq,reduceAdd]
      rw[eB]
      refine caN (by exact aw (n:=1) (by decide)) ?_;rintro _ g1 _ t1;obtain⟨_,_,_,rfl,t1⟩:=t1.sl
      try simp(maxSteps:=999999) (disch:=omega) only[go_sem,Nat.reduceBEq,reduceAdd]
      refine caN (by exact aL (n:=p) t1 (by omega)) ?_;rintro _ g2 _ t2;obtain⟨_,_,_,rfl,t2⟩:=t2.sl
      try simp(maxSteps:=999999) (disch:=omega) only[go_sem,Nat.reduceBEq,reduceAdd]
      rw[Nat.one_mul] at t2
      refine caN (by exact bW (neg:=_) (ht.to (h':=g2)) t2 (Nat.ne_of_gt (Nat.pow_pos (by decide))) (by omega) (by omega)) ?_;rintro _ g3 _ t3;obtain⟨_,_,_,_,_,_,_,rfl,t3⟩:=t3.sa
      try simp(maxSteps:=999999) (disch:=omega) only[go_sem,Nat.reduceBEq,reduceAdd]
      rw[←hr] at t3
      refine caN (by exact cO t3 hsz) ?_;rintro w4 g4 s4' ⟨z,rfl,hz4⟩;obtain⟨_,_,_,_,_,_,_,rfl,hz5⟩:=hz4.sa
      try simp(maxSteps:=999999) (disch:=omega) only[go_sem,Nat.reduceBEq,reduceAdd]
      exact⟨_,rfl,hz5⟩
  · have hs:(u != s)=true:=by simpa using hu
    rw[hs] at hr
    obtain rfl:s=!u:=by cases s<;>cases u<;>simp at*
    clear hu hs
    generalize eR:decide (x.num.natAbs*2^k % x.den=0)=R at*
    generalize eB:decide (irt n (rtw x n p)^n=rtw x n p)=B at*
    generalize rtx x n p=X at*
    subst hx0
    cases B
    rotate_left
    cases R
    all_goals cases u
    all_goals
      try have hodd:=hodd rfl
      simp only[Bool.false_and,Bool.and_false,Bool.and_self,and_self,if_true,and_false,if_false,reduceCtorEq,Bool.not_false,Bool.not_true] at hr
      refine Spec.go [(8,.o [0,1,2,3,4,6,7,5,8,9,10,11,12,13]),(12,.o [0,1,2,4,3,5,6,7,8,9,10,11])] Tryz.func253 rfl rfl (by kernel_rfl) fun C _=>?_
      try simp(maxSteps:=999999) (disch:=omega) only[go_sem,Nat.reduceBEq,reduceAdd]
      refine caN (by exact kR) ?_;rintro v1 h1 s1 ⟨f,rfl,hf⟩;obtain⟨na,nl,nc,da,dl,dc,rfl,hnn,hdd⟩:=hf.sl
      try simp(maxSteps:=999999) (disch:=omega) only[go_sem,Nat.reduceBEq,reduceAdd]
      rw[en]
      try simp(maxSteps:=999999) (disch:=omega) only[go_sem,Nat.reduceBEq,reduceAdd]
      rw[hk]
      refine caN (by exact kS hnn) ?_;rintro v2 h2 s2 q2
      try simp(maxSteps:=999999) (disch:=omega) only[go_sem,Nat.reduceBEq,reduceAdd]
      refine caN (by exact kD q2 (hdd.to (h':=h2))) ?_;rintro v3 h3 s3 ⟨q,r,rfl,hq,hr'⟩
      try simp(maxSteps:=999999) (disch:=omega) only[go_sem,Nat.reduceBEq,reduceAdd]
      refine caN (by exact gj (n:=n) hq hn hn8 (by omega)) ?_;rintro v4 h4 s4 ⟨t,rfl,ht⟩
      try simp(maxSteps:=999999) (disch:=omega) only[go_sem,Nat.reduceBEq,reduceAdd]
      rw[eB]
      have y2:=ht
      try simp(maxSteps:=999999) (disch:=omega) only[go_sem,Nat.reduceBEq,reduceAdd]
      try (refine caN (by exact bU (hr'.to (h':=h4))) ?_;rintro v5 h5 s5 rfl;(try simp(maxSteps:=999999) (disch:=omega) only[go_sem,Nat.reduceBEq,reduceAdd]);rw[eR];(try simp(maxSteps:=999999) (disch:=omega) only[go_sem,Nat.reduceBEq,reduceAdd]))
      try (refine caN (by exact aw (n:=1) (by decide)) ?_;rintro _ k1 _ y1;obtain⟨_,_,_,rfl,y1⟩:=y1.sl;(try simp(maxSteps:=999999) (disch:=omega) only[go_sem,Nat.reduceBEq,reduceAdd]);refine caN (by exact bR (ht.to (h':=k1)) y1 (by omega) (by omega)) ?_;rintro _ k2 _ y2;obtain⟨_,_,_,rfl,y2⟩:=y2.sl;(try simp(maxSteps:=999999) (disch:=omega) only[go_sem,Nat.reduceBEq,reduceAdd]))
      refine caN (by exact aw (n:=1) (by decide)) ?_;rintro _ g1 _ t1;obtain⟨_,_,_,rfl,t1⟩:=t1.sl
      try simp(maxSteps:=999999) (disch:=omega) only[go_sem,Nat.reduceBEq,reduceAdd]
      refine caN (by exact aL (n:=p) t1 (by omega)) ?_;rintro _ g2 _ t2;obtain⟨_,_,_,rfl,t2⟩:=t2.sl
      try simp(maxSteps:=999999) (disch:=omega) only[go_sem,Nat.reduceBEq,reduceAdd]
      rw[Nat.one_mul] at t2
      refine caN (by exact bW (neg:=_) (y2.to (h':=g2)) t2 (Nat.ne_of_gt (Nat.pow_pos (by decide))) (by omega) (by omega)) ?_;rintro _ g3 _ t3;obtain⟨_,_,_,_,_,_,_,rfl,t3⟩:=t3.sa
      try simp(maxSteps:=999999) (disch:=omega) only[go_sem,Nat.reduceBEq,reduceAdd]
      rw[←hr] at t3
      refine caN (by exact cO t3 hsz) ?_;rintro w4 g4 s4' ⟨z,rfl,hz4⟩;obtain⟨_,_,_,_,_,_,_,rfl,hz5⟩:=hz4.sa
      try simp(maxSteps:=999999) (disch:=omega) only[go_sem,Nat.reduceBEq,reduceAdd]
      exact⟨_,rfl,hz5⟩
theorem Gl {h0 h:PH} [Le h0 h] {v:Value} {x:Rat} {n p:Nat} {u:Bool} (hv:Rv h0 v x) (hn:2≤n) (hn8:n≤8) (hp:p≤256) (hd:¬(x < 0∧n % 2=0)):Spec mach 253 #[v,.int .i64 n,.int .i64 p,.bool u] h (fun r h'=>∃b na nl nc da dl dc,r=.tuple #[.agg #[.bool b,.slice na nl nc,.slice da dl dc],.int .i64 0]∧Rv h' (.agg #[.bool b,.slice na nl nc,.slice da dl dc]) (rootg u x n p)) NP:=by
  have sr:=iY (up:=u) hv.sz hn hp
  obtain⟨_,_,_,h1,h2,rfl⟩:=hv
  refine(yx (u:=u) (p:=p) h1 h2 hn hn8 hp (by rw[num_neg];exact hd)).mono (fun r h' _ k=>?_) (fun _ _ _ k=>k)
  obtain⟨w,rfl,c⟩:=k
  obtain⟨_,_,_,_,_,_,_,rfl,c⟩:=c.sa
  exact⟨_,_,_,_,_,_,_,rfl,Rv.of c sr⟩
theorem Gk {h0 h:PH} [Le h0 h] {v:Value} {x:Rat} {n p:Nat} (hv:Rv h0 v x) (hn:2≤n) (hn8:n≤8) (hp:p≤256) (hd:¬(x < 0∧n % 2=0)):Spec mach 182 #[v,.int .i64 n,.int .i64 p] h (fun r h'=>∃b na nl nc da dl dc,r=.tuple #[.agg #[.bool b,.slice na nl nc,.slice da dl dc],.int .i64 0]∧Rv h' (.agg #[.bool b,.slice na nl nc,.slice da dl dc]) (rootg false x n p)) NP:=by
  have kR:=fun {h} [Le h0 h]=>Gl (h:=h) (u:=false) hv hn hn8 hp hd
  obtain⟨_,_,_,_,_,_,_,rfl,_⟩:=hv.sa
  refine Spec.go [] Tryz.func182 rfl rfl (by kernel_rfl) fun C _=>?_
  try simp(disch:=omega) only[go_sem,Nat.reduceBEq,reduceAdd]
  refine caN (by exact kR) ?_;rintro v1 h1 s1 ⟨_,_,_,_,_,_,_,rfl,q1⟩
  try simp(disch:=omega) only[go_sem,Nat.reduceBEq,reduceAdd]
  exact⟨_,_,_,_,_,_,_,rfl,q1⟩
theorem NumUp {h0 h:PH} [Le h0 h] {v:Value} {x:Rat} {n p:Nat} (hv:Rv h0 v x) (hn:2≤n) (hn8:n≤8) (hp:p≤256) (hd:¬(x < 0∧n % 2=0)):Spec mach 181 #[v,.int .i64 n,.int .i64 p] h (fun r h'=>∃b na nl nc da dl dc,r=.tuple #[.agg #[.bool b,.slice na nl nc,.slice da dl dc],.int .i64 0]∧Rv h' (.agg #[.bool b,.slice na nl nc,.slice da dl dc]) (rootg true x n p)) NP:=by
  have kR:=fun {h} [Le h0 h]=>Gl (h:=h) (u:=true) hv hn hn8 hp hd
  obtain⟨_,_,_,_,_,_,_,rfl,_⟩:=hv.sa
  refine Spec.go [] Tryz.func181 rfl rfl (by kernel_rfl) fun C _=>?_
  try simp(disch:=omega) only[go_sem,Nat.reduceBEq,reduceAdd]
  refine caN (by exact kR) ?_;rintro v1 h1 s1 ⟨_,_,_,_,_,_,_,rfl,q1⟩
  try simp(disch:=omega) only[go_sem,Nat.reduceBEq,reduceAdd]
  exact⟨_,_,_,_,_,_,_,rfl,q1⟩
end Go.Q
