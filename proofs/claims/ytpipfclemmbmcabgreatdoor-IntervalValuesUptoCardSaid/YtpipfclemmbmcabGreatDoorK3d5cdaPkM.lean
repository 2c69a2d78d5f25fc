/-
  What number.root returns, of any number, and what stands on it. Conditions: each theorem's own.
-/
import Derived.Test.YtpipfclemmbmcabGreatDoorK3aad23PkF
import Derived.Test.YtpipfclemmbmcabGreatDoorK3f4f2bPkL
import Derived.Test.YtpipfclemmbmcabGreatDoorK693e93PkK
set_option linter.unusedVariables false
set_option linter.unusedSimpArgs false
open Nat renaming reduceBEq→ξ,reduceAdd→ζ,le_trans→χ,mul_le_mul_right→ψ,pos_of_ne_zero→τ,mul_le_mul→qAk,pow_pos→qAo,pow_add→qAs,mul_ne_zero→qBe,zero_le→qBh,mod_lt→qBl,one_mul→qBm
open Bool renaming false_eq_true→qAw
open Rat renaming mkRat_eq_div→qBb,mul_inv_cancel→qBf
namespace Go.Q
open Go.Proofs
set_option maxRecDepth 100000
set_option maxHeartbeats 8000000
theorem yx {h0 h:PH} [Le h0 h] {v:Value} {neg:Bool} {a d n p:Nat} {u:Bool} (hv:Rw h0 v neg a d) (hl:¬lg neg a d) (hn:2≤n) (hn8:n≤8) (hp:p≤256) (hd:¬((qof neg a d).num < 0∧n % 2=0)):
  Spec mach 222 #[v,.int .i64 n,.int .i64 p,.bool u] h (fun r h'=>∃w,r=.tuple #[w,.int .i64 0]∧Cn h' w (rootg u (qof neg a d) n p)) NP:=by
 have kR:=fun {h} [Le h0 h]=>sN (h:=h) hv hl
 have hz:sz (qof neg a d)≤2048:=by unfold Go.Q.lg at hl;omega
 obtain⟨_,_,_,_,_,_,_,rfl,_⟩:=hv.sa
 generalize qof neg a d=x at*
 have b1:=bG x
 have b2:=bB x
 have hpn:p*n≤2048:=qAk hp hn8
 have b3:=cu x.num.natAbs (p*n)
 have bw:=BF (p:=p) hz hn
 have bw':n*(1024+p)≤8*1280:=qAk hn8 (by omega)
 have bi:=Bg (n:=n) (by omega) bw
 have bi2:=cY (irt n (rtw x n p)) 1
 rw[fI] at bi2
 have b6:=bC p
 have b0:=fI
 have hsz:=iY (up:=u) (p:=p) hz hn hp
 have m1:¬(n:Int) < 2:=by omega
 have m2:¬(8:Int) < n:=by omega
 have m3:¬(p:Int) < 0:=by omega
 have m4:¬(256:Int) < p:=by omega
 have hr:rootg u x n p=sgn (decide (x.num < 0)) (rtm u x n p) (2^p):=rfl
 have hm:rtm u x n p=if (u != decide (x.num < 0))=true∧rtx x n p=false then irt n (rtw x n p)+1 else irt n (rtw x n p):=rfl
 have hx0:rtx x n p=(decide (irt n (rtw x n p)^n=rtw x n p) && decide (x.num.natAbs*2^(p*n) % x.den=0)):=rfl
 have hw0:x.num.natAbs*2^(p*n) / x.den=rtw x n p:=rfl
 have hdn:=x.den_nz
 have b4:bl (x.num.natAbs*2^(p*n))≤8192:=by omega
 generalize hk:p*n=k at*
 have kS:=fun {h1 h:PH} [Le h1 h] {v:Value} (y:N32 h1 v x.num.natAbs)=>aL (h:=h) (n:=k) y (by omega)
 have kD:=fun {h1 h:PH} [Le h1 h] {v w:Value} (y:N32 h1 v (x.num.natAbs*2^k)) (l:N32 h1 w x.den)=>gU (h:=h) y l hdn (by omega) (by omega)
 rw[hw0] at kD
 have hbw:bl (rtw x n p)≤2^20:=by omega
 have hi1:bl (irt n (rtw x n p))≤2^38:=by omega
 have hi2:bl (irt n (rtw x n p)+1)≤2^38:=by omega
 have hp2:bl (2^p)≤2^38:=by omega
 have hb1:bl 1≤1:=by omega
 clear b0 b1 b2 b3 b4 b6 bw bw' bi bi2 hz hw0
 have hodd:decide (x.num < 0)=true→n % 2=1:=fun en=>by
  have:x.num < 0:=of_decide_eq_true en
  have:=fun k=>hd ⟨this,k⟩
  omega
 rw[hm] at hr
 clear hm
 generalize en:decide (x.num < 0)=s at*
 by_cases hu:u=s
 ·subst hu
  rw[if_neg (by simp)] at hr
  clear hx0
  cases u<;>
  ·try have hodd:=hodd rfl
   generalize eB:decide (irt n (rtw x n p)^n=rtw x n p)=B
   refine Spec.go [(8,.o [0,1,2,3,4,6,7,5,8,9,10,11,12,13]),(12,.o [0,1,2,4,3,5,6,7,8,9,10,11])] Tryz.func222 rfl rfl (by kernel_rfl) fun C _=>?_
   try simp(maxSteps:=999999) (disch:=omega) only[go_sem,ξ,ζ]
   refine caN (by exact kR) ?_;rintro v1 h1 s1 ⟨f,rfl,hf⟩;obtain⟨na,nl,nc,da,dl,dc,rfl,hnn,hdd⟩:=hf.sl
   try simp(maxSteps:=999999) (disch:=omega) only[go_sem,ξ,ζ]
   rw[en]
   try simp(maxSteps:=999999) (disch:=omega) only[go_sem,ξ,ζ]
   rw[hk]
   refine caN (by exact kS hnn) ?_;rintro v2 h2 s2 q2
   try simp(maxSteps:=999999) (disch:=omega) only[go_sem,ξ,ζ]
   refine caN (by exact kD q2 (hdd.to (h':=h2))) ?_;rintro v3 h3 s3 ⟨q,r,rfl,hq,hr'⟩
   try simp(maxSteps:=999999) (disch:=omega) only[go_sem,ξ,ζ]
   refine caN (by exact gj (n:=n) hq hn hn8 (by omega)) ?_;rintro v4 h4 s4 ⟨t,rfl,ht⟩
   try simp(maxSteps:=999999) (disch:=omega) only[go_sem,ξ,ζ]
   rw[eB]
   refine caN (by exact aw (n:=1) (by decide)) ?_;rintro _ g1 _ t1;obtain⟨_,_,_,rfl,t1⟩:=t1.sl
   try simp(maxSteps:=999999) (disch:=omega) only[go_sem,ξ,ζ]
   refine caN (by exact aL (n:=p) t1 (by omega)) ?_;rintro _ g2 _ t2;obtain⟨_,_,_,rfl,t2⟩:=t2.sl
   try simp(maxSteps:=999999) (disch:=omega) only[go_sem,ξ,ζ]
   rw[qBm] at t2
   refine caN (by exact bW (neg:=_) (ht.to (h':=g2)) t2 (Nat.ne_of_gt (qAo (by decide))) (by omega) (by omega)) ?_;rintro _ g3 _ t3;obtain⟨_,_,_,_,_,_,_,rfl,t3⟩:=t3.sa
   try simp(maxSteps:=999999) (disch:=omega) only[go_sem,ξ,ζ]
   rw[←hr] at t3
   refine caN (by exact cO t3 hsz) ?_;rintro w4 g4 s4' ⟨z,rfl,hz4⟩;obtain⟨_,_,_,_,_,_,_,rfl,hz5⟩:=hz4.sa
   try simp(maxSteps:=999999) (disch:=omega) only[go_sem,ξ,ζ]
   exact⟨_,rfl,hz5⟩
 ·have hs:(u != s)=true:=by simpa using hu
  rw[hs] at hr
  obtain rfl:s=!u:=by cases s<;>cases u<;>simp at*
  clear hu hs
  generalize eR:decide (x.num.natAbs*2^k % x.den=0)=R at*
  generalize eB:decide (irt n (rtw x n p)^n=rtw x n p)=B at*
  generalize rtx x n p=X at*
  subst hx0
  cases B
  rotate_left
  cases R
  all_goals cases u
  all_goals
   try have hodd:=hodd rfl
   simp only[Bool.false_and,Bool.and_false,Bool.and_self,and_self,if_true,and_false,if_false,reduceCtorEq,Bool.not_false,Bool.not_true] at hr
   refine Spec.go [(8,.o [0,1,2,3,4,6,7,5,8,9,10,11,12,13]),(12,.o [0,1,2,4,3,5,6,7,8,9,10,11])] Tryz.func222 rfl rfl (by kernel_rfl) fun C _=>?_
   try simp(maxSteps:=999999) (disch:=omega) only[go_sem,ξ,ζ]
   refine caN (by exact kR) ?_;rintro v1 h1 s1 ⟨f,rfl,hf⟩;obtain⟨na,nl,nc,da,dl,dc,rfl,hnn,hdd⟩:=hf.sl
   try simp(maxSteps:=999999) (disch:=omega) only[go_sem,ξ,ζ]
   rw[en]
   try simp(maxSteps:=999999) (disch:=omega) only[go_sem,ξ,ζ]
   rw[hk]
   refine caN (by exact kS hnn) ?_;rintro v2 h2 s2 q2
   try simp(maxSteps:=999999) (disch:=omega) only[go_sem,ξ,ζ]
   refine caN (by exact kD q2 (hdd.to (h':=h2))) ?_;rintro v3 h3 s3 ⟨q,r,rfl,hq,hr'⟩
   try simp(maxSteps:=999999) (disch:=omega) only[go_sem,ξ,ζ]
   refine caN (by exact gj (n:=n) hq hn hn8 (by omega)) ?_;rintro v4 h4 s4 ⟨t,rfl,ht⟩
   try simp(maxSteps:=999999) (disch:=omega) only[go_sem,ξ,ζ]
   rw[eB]
   have y2:=ht
   try simp(maxSteps:=999999) (disch:=omega) only[go_sem,ξ,ζ]
   try (refine caN (by exact bU (hr'.to (h':=h4))) ?_;rintro v5 h5 s5 rfl;(try simp(maxSteps:=999999) (disch:=omega) only[go_sem,ξ,ζ]);rw[eR];(try simp(maxSteps:=999999) (disch:=omega) only[go_sem,ξ,ζ]))
   try (refine caN (by exact aw (n:=1) (by decide)) ?_;rintro _ k1 _ y1;obtain⟨_,_,_,rfl,y1⟩:=y1.sl;(try simp(maxSteps:=999999) (disch:=omega) only[go_sem,ξ,ζ]);refine caN (by exact bR (ht.to (h':=k1)) y1 (by omega) (by omega)) ?_;rintro _ k2 _ y2;obtain⟨_,_,_,rfl,y2⟩:=y2.sl;(try simp(maxSteps:=999999) (disch:=omega) only[go_sem,ξ,ζ]))
   refine caN (by exact aw (n:=1) (by decide)) ?_;rintro _ g1 _ t1;obtain⟨_,_,_,rfl,t1⟩:=t1.sl
   try simp(maxSteps:=999999) (disch:=omega) only[go_sem,ξ,ζ]
   refine caN (by exact aL (n:=p) t1 (by omega)) ?_;rintro _ g2 _ t2;obtain⟨_,_,_,rfl,t2⟩:=t2.sl
   try simp(maxSteps:=999999) (disch:=omega) only[go_sem,ξ,ζ]
   rw[qBm] at t2
   refine caN (by exact bW (neg:=_) (y2.to (h':=g2)) t2 (Nat.ne_of_gt (qAo (by decide))) (by omega) (by omega)) ?_;rintro _ g3 _ t3;obtain⟨_,_,_,_,_,_,_,rfl,t3⟩:=t3.sa
   try simp(maxSteps:=999999) (disch:=omega) only[go_sem,ξ,ζ]
   rw[←hr] at t3
   refine caN (by exact cO t3 hsz) ?_;rintro w4 g4 s4' ⟨z,rfl,hz4⟩;obtain⟨_,_,_,_,_,_,_,rfl,hz5⟩:=hz4.sa
   try simp(maxSteps:=999999) (disch:=omega) only[go_sem,ξ,ζ]
   exact⟨_,rfl,hz5⟩
theorem Gl {h0 h:PH} [Le h0 h] {v:Value} {x:Rat} {n p:Nat} {u:Bool} (hv:Rv h0 v x) (hn:2≤n) (hn8:n≤8) (hp:p≤256) (hd:¬(x < 0∧n % 2=0)):Spec mach 222 #[v,.int .i64 n,.int .i64 p,.bool u] h (fun r h'=>∃b na nl nc da dl dc,r=.tuple #[.agg #[.bool b,.slice na nl nc,.slice da dl dc],.int .i64 0]∧Rv h' (.agg #[.bool b,.slice na nl nc,.slice da dl dc]) (rootg u x n p)) NP:=by
 have sr:=iY (up:=u) hv.sz hn hp
 obtain⟨_,_,_,h1,h2,rfl⟩:=hv
 refine(yx (u:=u) (p:=p) h1 h2 hn hn8 hp (by rw[num_neg];exact hd)).mono (fun r h' _ k=>?_) (fun _ _ _ k=>k)
 obtain⟨w,rfl,c⟩:=k
 obtain⟨_,_,_,_,_,_,_,rfl,c⟩:=c.sa
 exact⟨_,_,_,_,_,_,_,rfl,Rv.of c sr⟩
theorem Gk {h0 h:PH} [Le h0 h] {v:Value} {x:Rat} {n p:Nat} (hv:Rv h0 v x) (hn:2≤n) (hn8:n≤8) (hp:p≤256) (hd:¬(x < 0∧n % 2=0)):Spec mach 170 #[v,.int .i64 n,.int .i64 p] h (fun r h'=>∃b na nl nc da dl dc,r=.tuple #[.agg #[.bool b,.slice na nl nc,.slice da dl dc],.int .i64 0]∧Rv h' (.agg #[.bool b,.slice na nl nc,.slice da dl dc]) (rootg false x n p)) NP:=by
 have kR:=fun {h} [Le h0 h]=>Gl (h:=h) (u:=false) hv hn hn8 hp hd
 obtain⟨_,_,_,_,_,_,_,rfl,_⟩:=hv.sa
 refine Spec.go [] Tryz.func170 rfl rfl (by kernel_rfl) fun C _=>?_
 try simp(disch:=omega) only[go_sem,ξ,ζ]
 refine caN (by exact kR) ?_;rintro v1 h1 s1 ⟨_,_,_,_,_,_,_,rfl,q1⟩
 try simp(disch:=omega) only[go_sem,ξ,ζ]
 exact⟨_,_,_,_,_,_,_,rfl,q1⟩
theorem NumUp {h0 h:PH} [Le h0 h] {v:Value} {x:Rat} {n p:Nat} (hv:Rv h0 v x) (hn:2≤n) (hn8:n≤8) (hp:p≤256) (hd:¬(x < 0∧n % 2=0)):Spec mach 169 #[v,.int .i64 n,.int .i64 p] h (fun r h'=>∃b na nl nc da dl dc,r=.tuple #[.agg #[.bool b,.slice na nl nc,.slice da dl dc],.int .i64 0]∧Rv h' (.agg #[.bool b,.slice na nl nc,.slice da dl dc]) (rootg true x n p)) NP:=by
 have kR:=fun {h} [Le h0 h]=>Gl (h:=h) (u:=true) hv hn hn8 hp hd
 obtain⟨_,_,_,_,_,_,_,rfl,_⟩:=hv.sa
 refine Spec.go [] Tryz.func169 rfl rfl (by kernel_rfl) fun C _=>?_
 try simp(disch:=omega) only[go_sem,ξ,ζ]
 refine caN (by exact kR) ?_;rintro v1 h1 s1 ⟨_,_,_,_,_,_,_,rfl,q1⟩
 try simp(disch:=omega) only[go_sem,ξ,ζ]
 exact⟨_,_,_,_,_,_,_,rfl,q1⟩
def abQ (x:Rat):Rat:=sgn false x.num.natAbs x.den
def asR (x:Rat):Rat:=1+ -(abQ x*abQ x)
def asG (u:Bool) (x:Rat) (w:Nat):Rat:=rootg u (asR x) 2 w
def asH (u:Bool) (x:Rat) (w:Nat):Rat:=abQ x*(1+asG u x w)⁻¹
def asL (x:Rat) (w:Nat):Nat:=anL (glo (asH true x w) w) (ghi (asH false x w) w) w*2^1
def asU (x:Rat) (w:Nat):Nat:=anH (glo (asH true x w) w) (ghi (asH false x w) w) w*2^1
theorem qD (x:Rat):(abQ x).num=(x.num.natAbs:Int)∧(abQ x).den=x.den:=by
 have:=rf (neg:=false) (n:=x.num.natAbs) (d:=x.den) x.den_nz x.reduced
 simpa[abQ] using this
theorem EP (x:Rat):sz (abQ x)=sz x:=by
 obtain⟨e1,e2⟩:=qD x
 unfold sz
 rw[e1,e2]
 simp
theorem pR {x:Rat} (h:x.num.natAbs≤x.den):0≤abQ x∧abQ x≤1:=by
 obtain⟨e1,e2⟩:=qD x
 have hd:(0:Rat) < (x.den:Rat):=by exact_mod_cast x.den_pos
 have e:abQ x*(x.den:Rat)=(x.num.natAbs:Rat):=by
  have:=q_den (abQ x)
  rw[e1,e2] at this
  exact_mod_cast this
 have h':(x.num.natAbs:Rat)≤(x.den:Rat):=by exact_mod_cast h
 have h0:(0:Rat)≤(x.num.natAbs:Rat):=by exact_mod_cast qBh _
 generalize(x.num.natAbs:Rat)=n at*
 generalize(x.den:Rat)=d at*
 exact⟨lmm (by grind) hd,lmm (by grind) hd⟩
theorem abQ_cn {h:PH} {b:Bool} {x:Rat} {v w:Value} (hx:Cn h (.agg #[.bool b,v,w]) x):Cn h (.agg #[.bool false,v,w]) (abQ x):=by
 obtain⟨sn,sd,e,h1,h2⟩:=hx
 obtain⟨e1,e2⟩:=qD x
 simp only[Value.agg.injEq,Array.mk.injEq,List.cons.injEq,and_true] at e
 obtain⟨_,rfl,rfl⟩:=e
 refine⟨v,w,?_,?_,?_⟩
 ·rw[e1,decide_eq_false (by omega)]
 ·rw[e1];exact h1
 ·rw[e2];exact h2
theorem sq_sgn (x:Rat):abQ x*abQ x=sgn false (x.num.natAbs*x.num.natAbs) (x.den*x.den)∧asR x=mkRat ((x.den*x.den:Nat) - (x.num.natAbs*x.num.natAbs:Nat):Int) (x.den*x.den):=by
 have hd:(x.den:Rat)≠0:=by exact_mod_cast x.den_nz
 have e1:abQ x=(x.num.natAbs:Rat) / (x.den:Rat):=by unfold abQ sgn;rw[qBb];rfl
 have e2:(((x.den*x.den:Nat) - (x.num.natAbs*x.num.natAbs:Nat):Int):Rat)=(x.den:Rat)*(x.den:Rat) - (x.num.natAbs:Rat)*(x.num.natAbs:Rat):=by push_cast;rfl
 unfold asR sgn
 rw[e1,qBb,qBb,e2]
 push_cast
 generalize(x.num.natAbs:Rat)=n
 generalize(x.den:Rat)=d at*
 constructor<;>grind
theorem sq_sz {x:Rat} (bx:sz x≤1024) (h:x.num.natAbs≤x.den):sz (abQ x*abQ x)≤2048∧sz (asR x)≤2048:=by
 obtain⟨e1,e2⟩:=sq_sgn x
 have b1:=aG x.num.natAbs x.num.natAbs
 have b2:=aG x.den x.den
 have b3:=bG x
 have b4:=bB x
 have hd:x.den*x.den≠0:=qBe x.den_nz x.den_nz
 rw[e1,e2]
 constructor
 ·have:=dg false (x.num.natAbs*x.num.natAbs) hd
  omega
 ·have hm:x.num.natAbs*x.num.natAbs≤x.den*x.den:=qAk h h
  rw[show((x.den*x.den:Nat) - (x.num.natAbs*x.num.natAbs:Nat):Int)=((x.den*x.den - x.num.natAbs*x.num.natAbs:Nat):Int) by omega]
  have:=dg false (x.den*x.den - x.num.natAbs*x.num.natAbs) hd
  have b5:bl (x.den*x.den - x.num.natAbs*x.num.natAbs)≤_:=aR (Nat.sub_le _ _)
  simp only[sgn,qAw,if_false] at this
  omega
theorem rP {x:Rat} (h:x.num.natAbs≤x.den):0≤asR x∧asR x≤1:=by
 obtain⟨h1,h2⟩:=pR h
 have m1:=mll h2 h1
 have m2:=mnn h1 h1
 unfold asR
 generalize abQ x=a at*
 constructor<;>grind
theorem rtw_le {q:Rat} {w:Nat} (h0:0≤q) (h1:q≤1):rtw q 2 w≤2^(w*2):=by
 have:=sP (q:=q) (by grind) h1
 unfold rtw
 exact Nat.div_le_of_le_mul (ψ _ (by omega))
theorem asG_m {u:Bool} {q:Rat} {w:Nat} (h0:0≤q) (h1:q≤1):∃m,rootg u q 2 w=sgn false m (2^w)∧m≤2^w+1:=by
 have hw:=rtw_le (w:=w) h0 h1
 have hi:irt 2 (rtw q 2 w)≤2^w:=by
  have h2:=jS (n:=2) (a:=rtw q 2 w) (by decide)
  have h3:irt 2 (rtw q 2 w)^2≤(2^w)^2:=by rw[←Nat.pow_mul];exact χ h2 hw
  exact(Nat.pow_le_pow_iff_left (by decide)).1 h3
 refine⟨rtm u q 2 w,?_,?_⟩
 ·unfold rootg
  rw[show decide (q.num < 0)=false from decide_eq_false (by rw[num_neg];grind)]
 ·unfold rtm
  split<;>omega
theorem one_sgn (m w:Nat):1+sgn false m (2^w)=sgn false (2^w+m) (2^w):=by
 have hd:((2^w:Nat):Rat)≠0:=by exact_mod_cast am w
 have e1:=sgn_u m w
 have e2:=sgn_u (2^w+m) w
 have e3:((2^w+m:Nat):Rat)=((2^w:Nat):Rat)+(m:Rat):=by push_cast;rfl
 rw[e3] at e2
 generalize sgn false m (2^w)=a at*
 generalize sgn false (2^w+m) (2^w)=b at*
 generalize((2^w:Nat):Rat)=u at*
 have:(1+a)*u=b*u:=by grind
 grind
theorem nS {u:Bool} {x:Rat} {w:Nat} (h:x.num.natAbs≤x.den):0≤asG u x w∧sz (1+asG u x w)≤w+3:=by
 obtain⟨h0,h1⟩:=rP h
 obtain⟨m,e,hm⟩:=asG_m (u:=u) (w:=w) h0 h1
 unfold asG
 rw[e]
 constructor
 ·have:=sgn_u m w
  have hp:=u_pos w
  have hm0:(0:Rat)≤(m:Rat):=by exact_mod_cast qBh _
  exact lmm (by grind) hp
 ·rw[one_sgn]
  have b1:=dg false (2^w+m) (am w)
  have b2:bl (2^w+m)≤w+3:=bl_le.2 (by
   have:2^(w+3)=2^w*8:=qAs _ _ _
   have:=τ (am w)
   omega)
  have b3:=bC w
  omega
theorem js {u:Bool} {x:Rat} {w:Nat} (h:x.num.natAbs≤x.den):0≤asH u x w∧asH u x w≤1:=by
 obtain⟨h0,h1⟩:=pR h
 obtain⟨g0,_⟩:=nS (u:=u) (w:=w) h
 unfold asH
 generalize asG u x w=g at*
 generalize abQ x=a at*
 have hp:(0:Rat) < 1+g:=by grind
 have e:(1+g)*(1+g)⁻¹=1:=qBf _ (by grind)
 have hi:0≤(1+g)⁻¹:=llt (Rat.inv_pos.2 hp)
 constructor
 ·exact mnn h0 hi
 ·have:=mlr (show a≤1+g by grind) hi
  grind
theorem asH_sz {u:Bool} {x:Rat} {w:Nat} (bx:sz x≤1024) (h:x.num.natAbs≤x.den):sz (asH u x w)≤1027+w:=by
 obtain⟨_,h1⟩:=nS (u:=u) (w:=w) h
 have h2:=bV (abQ x) (1+asG u x w)⁻¹
 have h3:=iQ (1+asG u x w)
 rw[EP] at h2
 unfold asH
 omega
theorem mU {x:Rat} {w:Nat} (h:x.num.natAbs≤x.den):glo (asH true x w) w≤2^w∧ghi (asH false x w) w≤2^w:=by
 obtain⟨a1,a2⟩:=js (u:=true) (w:=w) h
 obtain⟨b1,b2⟩:=js (u:=false) (w:=w) h
 exact⟨(g_le (sP (by grind) a2)).1,(g_le (sP (by grind) b2)).2⟩
theorem sT {h:PH} {b:Nat} {cs:List Value} (hb:h b=some cs.toArray) (j:Nat) (v:Value) (hj:cs[j]?=some v):h.at ((⟨b,0,none⟩:Addr).add j)=some v:=by
 cases j<;>simp[PH.at,Addr.add,hb,hj]
theorem dQ {h h':PH} [l:Le h h'] {b:Nat} {cs:Array Value} (hb:h b=some cs):h' b=some cs:=l.sub _ _ hb
theorem vj {h0 h:PH} [Le h0 h] {b:Nat} {na da:Option Addr} {nl nc dl dc:Nat} {w:Value} {x r:Rat} (hb:h0 b=some #[.bool false,.slice na nl nc,.slice da dl dc]) (hx:Cn h0 (.agg #[.bool false,.slice na nl nc,.slice da dl dc]) x) (hr:Rv h0 w r) (sx:sz x≤2048) (s1:sz (1+r)≤2048) (n1:1+r≠0) (s2:sz (x*(1+r)⁻¹)≤2048):
  Spec mach 171 #[w,.pointer (some ⟨b,0,none⟩)] h (fun v h'=>Cn h' v (x*(1+r)⁻¹)) NP:=by
 obtain⟨_,_,_,_,_,_,_,rfl,hr⟩:=hr.sa
 refine Spec.go [(1,.h [] [] [6] [6,1,0,2,3,4,5,7,8])] Tryz.func171 rfl rfl (by kernel_rfl) fun C _=>?_
 try simp(disch:=omega) only[go_sem,ξ,ζ]
 refine caN (by exact oQ (n:=1) (by decide) (by decide)) ?_;rintro v1 h1 s1' c;have c:Cn h1 v1 1:=c;obtain⟨_,_,_,_,_,_,_,rfl,c⟩:=c.sa
 try simp(disch:=omega) only[go_sem,ξ,ζ]
 refine caN (by exact Ak (Rv.of c (by decide)) (hr.to (h':=h1))) ?_;rintro v2 h2 s2' p2;obtain⟨_,_,_,_,_,_,_,rfl,q2⟩:=p2.ok s1
 try simp(disch:=omega) only[go_sem,ξ,ζ]
 refine dL [.bool false,.slice na nl nc,.slice da dl dc] rfl (sT (dQ (h':=h2) hb)) ?_
 try simp(disch:=omega) only[go_sem,ξ,ζ]
 refine caN (by exact o6 (Rv.of (hx.to (h':=h2)) sx) (Rv.of q2 s1) n1) ?_;rintro v3 h3 s3' p3;obtain⟨_,_,_,_,_,_,_,rfl,q3⟩:=p3.ok s2
 try simp(disch:=omega) only[go_sem,ξ,ζ]
 exact q3
theorem ro {h0 h:PH} [Le h0 h] {v:Value} {x:Rat} {w:Nat} (hx:Cn h0 v x) (bx:sz x≤1024) (hd:x.num.natAbs≤x.den) (hw:32≤w) (hw':w≤192):Spec mach 112 #[v,.int .i64 w] h (fun r h'=>Pr h' r (asL x w) (asU x w)) NP:=by
 obtain⟨na,nl,nc,da,dl,dc,rfl,_,_,_,_⟩:=hx.parts
 have hA:=abQ_cn hx
 obtain⟨z1,z2⟩:=sq_sz bx hd
 have zA:sz (abQ x)≤2048:=by rw[EP];omega
 obtain⟨r0,r1⟩:=rP hd
 have nR:¬(asR x < 0∧2 % 2=0):=fun k=>by have:=k.1;grind
 obtain⟨g0,g1⟩:=nS (u:=true) (w:=w) hd
 obtain⟨g2,g3⟩:=nS (u:=false) (w:=w) hd
 have n0:1+asG true x w≠0:=by grind
 have n1:1+asG false x w≠0:=by grind
 have s0:sz (asH true x w)≤2048:=χ (asH_sz bx hd) (by omega)
 have s1:sz (asH false x w)≤2048:=χ (asH_sz bx hd) (by omega)
 have g1:sz (1+asG true x w)≤2048:=by omega
 have g3:sz (1+asG false x w)≤2048:=by omega
 obtain⟨l1,l2⟩:=mU (w:=w) hd
 obtain⟨m1,m2⟩:=an_le (w:=w) (by omega) l1 l2
 have b1:=bl_w3 (by omega) m1
 have b2:=bl_w3 (by omega) m2
 have z1:=Hid.mk z1
 have z2:=Hid.mk z2
 have zA:=Hid.mk zA
 have s0:=Hid.mk s0
 have s1:=Hid.mk s1
 have g1:=Hid.mk g1
 have g3:=Hid.mk g3
 have l1:=Hid.mk l1
 have l2:=Hid.mk l2
 have nR:=Hid.mk nR
 have n0:=Hid.mk n0
 have n1:=Hid.mk n1
 clear m1 m2 r0 r1 g0 g2 bx hd hx
 generalize decide (x.num < 0)=neg at*
 have F:=Hid.mk (And.intro b1 b2);clear b1 b2
 refine Spec.go [(3,.h [] [] [6] [6,1,0,2,3,4,5,7,8]),(7,.o [0,1,3,6,7,9,13,2,4,5,8,10,11,12,14,15,16]),(6,.t (.p 0 (.s [0,1] .d)))] Tryz.func112 rfl rfl (by kernel_rfl) fun C _=>?_
 try simp(disch:=omega) only[go_sem,ξ,ζ]
 refine caN (by exact EB (Rv.of hA zA.out) (Rv.of hA zA.out)) ?_;rintro v1 h1 s1' p1;obtain⟨_,_,_,_,_,_,_,rfl,q1⟩:=p1.ok z1.out
 try simp(disch:=omega) only[go_sem,ξ,ζ]
 refine caN (by exact oQ (n:=1) (by decide) (by decide)) ?_;rintro v2 h2 s2' c;have c:Cn h2 v2 1:=c;obtain⟨_,_,_,_,_,_,_,rfl,c⟩:=c.sa
 try simp(disch:=omega) only[go_sem,ξ,ζ]
 refine caN (by exact wX (Rv.of c (by decide)) (Rv.of (q1.to (h':=h2)) z1.out)) ?_;rintro v3 h3 s3' p3;obtain⟨_,_,_,_,_,_,_,rfl,q3⟩:=p3.ok z2.out
 try simp(disch:=omega) only[go_sem,ξ,ζ]
 refine caN (by exact NumUp (n:=2) (p:=w) (Rv.of q3 z2.out) (by decide) (by decide) (by have:=F.1;omega) nR.out) ?_;rintro v4 h4 s4' ⟨_,_,_,_,_,_,_,rfl,q4⟩
 try simp(disch:=omega) only[go_sem,ξ,ζ]
 refine caN (by exact Gk (n:=2) (p:=w) (Rv.of (q3.to (h':=h4)) z2.out) (by decide) (by decide) (by have:=F.1;omega) nR.out) ?_;rintro v5 h5 s5' ⟨_,_,_,_,_,_,_,rfl,q5⟩
 try simp(disch:=omega) only[go_sem,ξ,ζ]
 intro b h6 st6 hb
 try simp(disch:=omega) only[go_sem,ξ,ζ]
 have hb:h6 b=some #[.bool false,.slice na nl nc,.slice da dl dc]:=hb (by simp)
 try simp(disch:=omega) only[go_sem,ξ,ζ]
 refine caN (by exact vj (h0:=h6) hb hA.to (q4.to (h':=h6)) zA.out g1.out n0.out s0.out) ?_;rintro v7 h7 s7' q7;obtain⟨_,_,_,_,_,_,_,rfl,q7⟩:=q7.sa
 try simp(disch:=omega) only[go_sem,ξ,ζ]
 refine caN (by exact iH (x:=asH true x w) (w:=w) q7 (χ s0.out (by decide)) (by have:=F.1;omega)) ?_;rintro v8 h8 s8' ⟨_,_,_,_,_,_,rfl,q8,_⟩
 try simp(disch:=omega) only[go_sem,ξ,ζ]
 refine caN (by exact vj (h0:=h8) (dQ hb) hA.to (q5.to (h':=h8)) zA.out g3.out n1.out s1.out) ?_;rintro v9 h9 s9' q9;obtain⟨_,_,_,_,_,_,_,rfl,q9⟩:=q9.sa
 try simp(disch:=omega) only[go_sem,ξ,ζ]
 refine caN (by exact iH (x:=asH false x w) (w:=w) q9 (χ s1.out (by decide)) (by have:=F.1;omega)) ?_;rintro v10 h10 s10' ⟨_,_,_,_,_,_,rfl,_,q10⟩
 try simp(disch:=omega) only[go_sem,ξ,ζ]
 refine caN (by exact pI ⟨_,_,_,_,_,_,rfl,q8.to (h':=h10),q10⟩ l1.out l2.out (by have:=F.1;omega) (by have:=F.1;omega)) ?_;rintro v11 h11 s11' q11;obtain⟨_,_,_,_,_,_,rfl,q11⟩:=q11.sp
 try simp(disch:=omega) only[go_sem,ξ,ζ]
 refine caN (by exact jh (n:=1) q11 (by have:=F.1;omega) (by have:=F.1;omega) (by decide)) ?_;rintro v12 h12 s12' q12;obtain⟨_,_,_,_,_,_,rfl,q12⟩:=q12.sp
 try simp(disch:=omega) only[go_sem,ξ,ζ]
 exact q12
def fg (x:Rat) (p:Nat):Rat:=bkL (decide (x.num < 0)) (asL x (p+32)) (asU x (p+32)) 32 p
def dM (x:Rat) (p:Nat):Rat:=bkH (decide (x.num < 0)) (asL x (p+32)) (asU x (p+32)) 32 p
theorem bl_as {x:Rat} {w:Nat} (hw:2≤w) (h:x.num.natAbs≤x.den):bl (asL x w)≤w+4∧bl (asU x w)≤w+4:=by
 obtain⟨l1,l2⟩:=mU (w:=w) h
 obtain⟨m1,m2⟩:=an_le hw l1 l2
 have b1:=bl_w3 hw m1
 have b2:=bl_w3 hw m2
 have b3:=cu (anL (glo (asH true x w) w) (ghi (asH false x w) w) w) 1
 have b4:=cu (anH (glo (asH true x w) w) (ghi (asH false x w) w) w) 1
 unfold asL asU
 omega
theorem Es {h0 h:PH} [Le h0 h] {v:Value} {x:Rat} {p:Nat} (hx:Cn h0 v x) (bx:sz x≤1024) (hd:x.num.natAbs≤x.den) (hp:p≤128):Spec mach 36 #[v,.int .i64 p] h (fun r h'=>Be h' r (fg x p) (dM x p)) NP:=by
 have kA:=fun {h} [Le h0 h]=>ro (h:=h) (w:=p+32) hx bx hd (by omega) (by omega)
 obtain⟨b1,b2⟩:=bl_as (w:=p+32) (by omega) hd
 have b7:=aZ (asL x (p+32)) (2^(p+32 - p))
 have b8:=fy (asU x (p+32)) (am (p+32 - p))
 have ep:Hid (p+32 - p=32):=⟨by omega⟩
 obtain⟨na,nl,nc,da,dl,dc,rfl,_,_,_,_⟩:=hx.parts
 unfold fg dM
 generalize decide (x.num < 0)=neg at*
 generalize asL x (p+32)=ga at*
 generalize asU x (p+32)=gb at*
 clear hd hx bx
 have F:=Hid.mk (And.intro b1 (And.intro b2 (And.intro b7 b8)));clear b1 b2 b7 b8
 refine Spec.go [(2,.o [0,1,3,4,5,6,2,7,8,9])] Tryz.func36 rfl rfl (by kernel_rfl) fun C _=>?_
 try simp(disch:=omega) only[go_sem,ξ,ζ]
 refine caN (by exact kA) ?_;rintro v1 h1 s1 q1;obtain⟨_,_,_,_,_,_,rfl,q1⟩:=q1.sp
 try simp(disch:=omega) only[go_sem,ξ,ζ]
 refine caN (by exact fw (w:=p+32) (p:=p) (neg:=neg) q1 (by have:=F.1;omega) (by have:=F.1;omega) (by have:=F.1;omega) (by have:=F.1;omega) (by have:=F.1;omega) (by have:=F.1;omega) (by have:=F.1;omega)) ?_;rintro v10 h10 s10 ⟨_,_,_,_,_,_,_,_,_,_,_,_,_,_,rfl,r1,r2⟩
 try simp(disch:=omega) only[go_sem,ξ,ζ]
 rw[ep.out] at r1 r2
 exact⟨_,_,_,_,_,_,_,_,_,_,_,_,_,_,rfl,r1,r2⟩
def acLo (x:Rat) (p:Nat):Rat:=if x=0 then bkL false (piL (p+32)) (piH (p+32)) 33 p else if x.num < 0 then bkL false (piL (p+32)+asL x (p+32)*2^1) (piH (p+32)+asU x (p+32)*2^1) 33 p else gdown (sgn false (piL (p+32)) (2^(p+32+1))+ -sgn false (asU x (p+32)*2^1) (2^(p+32+1))) p
def acHi (x:Rat) (p:Nat):Rat:=if x=0 then bkH false (piL (p+32)) (piH (p+32)) 33 p else if x.num < 0 then bkH false (piL (p+32)+asL x (p+32)*2^1) (piH (p+32)+asU x (p+32)*2^1) 33 p else gup (sgn false (piH (p+32)) (2^(p+32+1))+ -sgn false (asL x (p+32)*2^1) (2^(p+32+1))) p
theorem Em {h0 h:PH} [Le h0 h] {v:Value} {x:Rat} {p:Nat} (hx:Cn h0 v x) (bx:sz x≤1024) (hd:x.num.natAbs≤x.den) (hp:p≤128):Spec mach 37 #[v,.int .i64 p] h (fun r h'=>Be h' r (acLo x p) (acHi x p)) NP:=by
 have kA:=fun {h} [Le h0 h]=>ro (h:=h) (w:=p+32) hx bx hd (by omega) (by omega)
 obtain⟨b1,b2⟩:=bl_as (w:=p+32) (by omega) hd
 obtain⟨b3,b4⟩:=bl_pi (w:=p+32)
 have ep:Hid (p+32+1 - p=33):=⟨by omega⟩
 obtain⟨na,nl,nc,da,dl,dc,rfl,_,_,e1,_⟩:=hx.parts
 generalize hL:asL x (p+32)=ga at*
 generalize hU:asU x (p+32)=gb at*
 have b5:=cu ga 1
 have b6:=cu gb 1
 by_cases h0':x=0
 ·have e3:((nl:Int) == 0)=true:=by simp[e1.2 h0']
  rw[show acLo x p=bkL false (piL (p+32)) (piH (p+32)) 33 p from if_pos h0',show acHi x p=bkH false (piL (p+32)) (piH (p+32)) 33 p from if_pos h0']
  have b7:=aZ (piL (p+32)) (2^(p+32+1 - p))
  have b8:=fy (piH (p+32)) (am (p+32+1 - p))
  clear hL hU hx bx hd kA
  have F:=Hid.mk (And.intro b3 (And.intro b4 (And.intro b7 b8)));clear b3 b4 b7 b8
  refine Spec.go [(7,.o [0,1,2,3,5,6,7,8,11,12,13,4,9,10,14,15,16])] Tryz.func37 rfl rfl (by kernel_rfl) fun C _=>?_
  try simp(disch:=omega) only[go_sem,ξ,ζ]
  refine caN (by exact kt (w:=p+32) (by have:=F.1;omega) (by have:=F.1;omega)) ?_;rintro v1 h1 s1 q1;obtain⟨_,_,_,_,_,_,rfl,q1⟩:=q1.sp
  try simp(disch:=omega) only[go_sem,ξ,ζ,e3]
  refine caN (by exact fw (w:=p+32+1) (p:=p) (neg:=false) q1 (by have:=F.1;omega) (by have:=F.1;omega) (by have:=F.1;omega) (by have:=F.1;omega) (by have:=F.1;omega) (by have:=F.1;omega) (by have:=F.1;omega)) ?_;rintro v10 h10 s10 ⟨_,_,_,_,_,_,_,_,_,_,_,_,_,_,rfl,r1,r2⟩
  try simp(disch:=omega) only[go_sem,ξ,ζ]
  rw[ep.out] at r1 r2
  exact⟨_,_,_,_,_,_,_,_,_,_,_,_,_,_,rfl,r1,r2⟩
 ·have e3:((nl:Int) == 0)=false:=by have:=fun c=>h0' (e1.1 c);simp;(omega)
  by_cases hs:x.num < 0
  ·have eL:acLo x p=bkL false (piL (p+32)+ga*2^1) (piH (p+32)+gb*2^1) 33 p:=by unfold acLo;rw[if_neg h0',if_pos hs,hL,hU]
   have eH:acHi x p=bkH false (piL (p+32)+ga*2^1) (piH (p+32)+gb*2^1) 33 p:=by unfold acHi;rw[if_neg h0',if_pos hs,hL,hU]
   rw[eL,eH]
   rw[decide_eq_true hs] at kA ⊢
   have b9:=cY (piL (p+32)) (ga*2^1)
   have b10:=cY (piH (p+32)) (gb*2^1)
   have b7:=aZ (piL (p+32)+ga*2^1) (2^(p+32+1 - p))
   have b8:=fy (piH (p+32)+gb*2^1) (am (p+32+1 - p))
   clear hL hU hx bx hd hs eL eH
   have F:=Hid.mk (And.intro b1 (And.intro b2 (And.intro b3 (And.intro b4 (And.intro b5 (And.intro b6 (And.intro b7 (And.intro b8 (And.intro b9 b10)))))))));clear b1 b2 b3 b4 b5 b6 b7 b8 b9 b10
   refine Spec.go [(7,.o [0,1,2,3,5,6,7,8,11,12,13,4,9,10,14,15,16])] Tryz.func37 rfl rfl (by kernel_rfl) fun C _=>?_
   try simp(disch:=omega) only[go_sem,ξ,ζ]
   refine caN (by exact kt (w:=p+32) (by have:=F.1;omega) (by have:=F.1;omega)) ?_;rintro v1 h1 s1 ⟨x5,m5,c5,y5,n5,d5,rfl,q5,q6⟩
   try simp(disch:=omega) only[go_sem,ξ,ζ,e3]
   refine caN (by exact kA) ?_;rintro v2 h2 s2 q2;obtain⟨_,_,_,_,_,_,rfl,q2⟩:=q2.sp
   try simp(disch:=omega) only[go_sem,ξ,ζ]
   refine caN (by exact jh (n:=1) q2 (by have:=F.1;omega) (by have:=F.1;omega) (by decide)) ?_;rintro v3 h3 s3 ⟨x4,m4,c4,y4,n4,d4,rfl,a4,a5⟩
   try simp(disch:=omega) only[go_sem,ξ,ζ]
   refine caN (by exact bR (q5.to (h':=h3)) a4 (show bl (piL (p+32))≤2^40 by have:=F.1;omega) (by have:=F.1;omega)) ?_;rintro _ h6 _ q7;obtain⟨v6,_,_,rfl,q7⟩:=q7.sl
   try simp(disch:=omega) only[go_sem,ξ,ζ]
   refine caN (by exact bR (q6.to (h':=h6)) (a5.to (h':=h6)) (show bl (piH (p+32))≤2^40 by have:=F.1;omega) (by have:=F.1;omega)) ?_;rintro _ h7 _ q8;obtain⟨v7,_,_,rfl,q8⟩:=q8.sl
   try simp(disch:=omega) only[go_sem,ξ,ζ]
   refine caN (by exact fw (w:=p+32+1) (p:=p) (neg:=false) ⟨_,_,_,_,_,_,rfl,q7.to (h':=h7),q8⟩ (by have:=F.1;omega) (by have:=F.1;omega) (by have:=F.1;omega) (by have:=F.1;omega) (by have:=F.1;omega) (by have:=F.1;omega) (by have:=F.1;omega)) ?_;rintro v10 h10 s10 ⟨_,_,_,_,_,_,_,_,_,_,_,_,_,_,rfl,r1,r2⟩
   try simp(disch:=omega) only[go_sem,ξ,ζ]
   rw[ep.out] at r1 r2
   exact⟨_,_,_,_,_,_,_,_,_,_,_,_,_,_,rfl,r1,r2⟩
  ·skip
   have eL:acLo x p=gdown (sgn false (piL (p+32)) (2^(p+32+1))+ -sgn false (gb*2^1) (2^(p+32+1))) p:=by unfold acLo;rw[if_neg h0',if_neg hs,hU]
   have eH:acHi x p=gup (sgn false (piH (p+32)) (2^(p+32+1))+ -sgn false (ga*2^1) (2^(p+32+1))) p:=by unfold acHi;rw[if_neg h0',if_neg hs,hL]
   rw[eL,eH]
   rw[decide_eq_false hs] at kA ⊢
   have u1':=qo (a:=piL (p+32)) (b:=gb*2^1) (w:=p+32+1) (k:=p+40) (by omega) (by omega) (by omega)
   have u2':=qo (a:=piH (p+32)) (b:=ga*2^1) (w:=p+32+1) (k:=p+40) (by omega) (by omega) (by omega)
   have u3':=sz_gd (sgn false (piL (p+32)) (2^(p+32+1))+ -sgn false (gb*2^1) (2^(p+32+1))) p
   have u4':=sz_gu (sgn false (piH (p+32)) (2^(p+32+1))+ -sgn false (ga*2^1) (2^(p+32+1))) p
   have u1:=Hid.mk (χ u1' (show 2*(p+40)+1≤2048 by omega))
   have u2:=Hid.mk (χ u2' (show 2*(p+40)+1≤2048 by omega))
   have u3:=Hid.mk (χ u3' (show _≤2048 by omega))
   have u4:=Hid.mk (χ u4' (show _≤2048 by omega))
   clear u1' u2' u3' u4' hL hU hx bx hd hs eL eH
   have F:=Hid.mk (And.intro b1 (And.intro b2 (And.intro b3 (And.intro b4 (And.intro b5 b6)))));clear b1 b2 b3 b4 b5 b6
   refine Spec.go [(7,.o [0,1,2,3,5,6,7,8,11,12,13,4,9,10,14,15,16])] Tryz.func37 rfl rfl (by kernel_rfl) fun C _=>?_
   try simp(disch:=omega) only[go_sem,ξ,ζ]
   refine caN (by exact kt (w:=p+32) (by have:=F.1;omega) (by have:=F.1;omega)) ?_;rintro v1 h1 s1 ⟨x5,m5,c5,y5,n5,d5,rfl,q5,q6⟩
   try simp(disch:=omega) only[go_sem,ξ,ζ,e3]
   refine caN (by exact kA) ?_;rintro v2 h2 s2 q2;obtain⟨_,_,_,_,_,_,rfl,q2⟩:=q2.sp
   try simp(disch:=omega) only[go_sem,ξ,ζ]
   refine caN (by exact jh (n:=1) q2 (by have:=F.1;omega) (by have:=F.1;omega) (by decide)) ?_;rintro v3 h3 s3 ⟨x4,m4,c4,y4,n4,d4,rfl,a4,a5⟩
   try simp(disch:=omega) only[go_sem,ξ,ζ]
   refine caN (by exact uZ (w:=p+32+1) (p:=p) (a5.to (h':=h3)) (q5.to (h':=h3)) a4 (q6.to (h':=h3)) (by have:=F.1;omega) (show bl (piL (p+32))≤2048 by have:=F.1;omega) (by have:=F.1;omega) (show bl (piH (p+32))≤2048 by have:=F.1;omega) (by have:=F.1;omega) (by have:=F.1;omega) u1.out u2.out u3.out u4.out) ?_;rintro w6 g6 z6 ⟨_,_,_,_,_,_,_,_,_,_,_,_,_,_,rfl,t6,t7⟩
   try simp(disch:=omega) only[go_sem,ξ,ζ]
   exact⟨_,_,_,_,_,_,_,_,_,_,_,_,_,_,rfl,t6,t7⟩
theorem NumNeg {h0 h:PH} [Le h0 h] {v:Value} {x:Rat} (hx:Rv h0 v x):Spec mach 220 #[v] h (fun r h'=>Nc h' r (-x)) NP:=by
 have kO:=fun {h} [Le h0 h]=>pL (h:=h) (g:=64) hx (fun a=>kf a)
 obtain⟨_,_,_,_,_,_,_,rfl,_⟩:=hx.sa
 refine Spec.go [] Tryz.func220 rfl rfl (by kernel_rfl) fun C _=>?_
 try simp(maxSteps:=999999) (disch:=omega) only[go_sem,ξ,ζ]
 refine caN (by exact kO) ?_;rintro v1 h1 s1 q1;obtain⟨_,_,_,_,_,_,_,_,rfl,w1⟩:=q1
 try simp(maxSteps:=999999) (disch:=omega) only[go_sem,ξ,ζ]
 exact Nc.mk w1
theorem nO {h0 h:PH} [Le h0 h] {v:Value} {x:Rat} {w:Nat} (hx:Cn h0 v x) (bx:sz x≤2048) (hw:w≤2048):Spec mach 218 #[v,.int .i64 w] h (fun r h'=>N32 h' r (glo x w)) NP:=by
 have kS:=fun {h} [Le h0 h]=>iH (h:=h) (w:=w) hx (by omega) (by omega)
 obtain⟨_,_,_,_,_,_,_,rfl,_⟩:=hx.sa
 refine Spec.go [] Tryz.func218 rfl rfl (by kernel_rfl) fun C _=>?_
 try simp(maxSteps:=999999) (disch:=omega) only[go_sem,ξ,ζ]
 refine caN (by exact kS) ?_;rintro v1 h1 s1 ⟨_,_,_,_,_,_,rfl,q1,_⟩
 try simp(maxSteps:=999999) (disch:=omega) only[go_sem,ξ,ζ]
 exact q1
theorem nj {h0 h:PH} [Le h0 h] {v:Value} {x y:Rat} (hv:Bk h0 v x y) (sx:sz x≤2048) (sy:sz y≤2048):Spec mach 163 #[v] h (fun r h'=>Bk h' r (-y) (-x)) NP:=by
 obtain⟨b1,a1,m1,c1,a2,m2,c2,b2,a3,m3,c3,a4,m4,c4,rfl,hx,hy⟩:=hv
 have tx:sz (-x)≤2048:=by rw[cz];exact sx
 have ty:sz (-y)≤2048:=by rw[cz];exact sy
 refine Spec.go [] Tryz.func163 rfl rfl (by kernel_rfl) fun C _=>?_
 try simp(maxSteps:=999999) (disch:=omega) only[go_sem,ξ,ζ]
 refine caN (by exact NumNeg (Rv.of hy sy)) ?_;rintro v1 h1 s1 p1;obtain⟨_,_,_,_,_,_,_,rfl,q1⟩:=p1.ok ty
 try simp(maxSteps:=999999) (disch:=omega) only[go_sem,ξ,ζ]
 refine caN (by exact NumNeg (Rv.of (hx.to (h':=h1)) sx)) ?_;rintro v2 h2 s2 p2;obtain⟨_,_,_,_,_,_,_,rfl,q2⟩:=p2.ok tx
 try simp(maxSteps:=999999) (disch:=omega) only[go_sem,ξ,ζ]
 exact⟨_,_,_,_,_,_,_,_,_,_,_,_,_,_,rfl,q1.to,q2⟩
def snAt (x:Rat) (w:Nat) (low:Bool):Rat:=if (!(low == decide (x.num < 0)))=true then sgn (decide (x.num < 0)) (glo x w*wvL (glo x w) w 2 / 2^w) (2^w) else sgn (decide (x.num < 0)) (cdiv (glo x w*wvH (glo x w) w 2) (2^w)) (2^w)
theorem sn_n {y w:Nat} (hy:y≤2^w):y*wvL y w 2 / 2^w≤2^w∧cdiv (y*wvH y w 2) (2^w)≤2^w:=by
 obtain⟨h1,h2⟩:=m9 (w:=w) (f:=2) (s:=sqL y w) (t:=sqH y w) (by decide) 24
 exact⟨Nat.div_le_of_le_mul (qAk hy h2),(az (am w)).2 (qAk hy h1)⟩
theorem wF {x:Rat} {w:Nat} {low:Bool} (hy:glo x w≤2^w):sz (snAt x w low)≤w+2:=by
 obtain⟨h1,h2⟩:=sn_n hy
 have b0:=bC w
 unfold snAt
 split
 ·have:=dg (decide (x.num < 0)) (glo x w*wvL (glo x w) w 2 / 2^w) (am w)
  have:=bh (n:=glo x w*wvL (glo x w) w 2 / 2^w) (w:=w) (by omega)
  omega
 ·have:=dg (decide (x.num < 0)) (cdiv (glo x w*wvH (glo x w) w 2) (2^w)) (am w)
  have:=bh (n:=cdiv (glo x w*wvH (glo x w) w 2) (2^w)) (w:=w) (by omega)
  omega
theorem vm {h0 h:PH} [Le h0 h] {v:Value} {x:Rat} {w b:Nat} {low:Bool} (hb:h0 b=some #[.int .i64 w]) (hx:Cn h0 v x) (bx:sz x≤2048) (hy:glo x w≤2^w) (hw:20≤w) (hw':w≤200):
  Spec mach 217 #[v,.bool low,.pointer (some ⟨b,0,none⟩)] h (fun r h'=>Cn h' r (snAt x w low)) NP:=by
 have kN:=fun {h} [Le h0 h]=>nO (h:=h) (w:=w) hx bx (by omega)
 obtain⟨h1,h2⟩:=sn_n hy
 obtain⟨w1,w2⟩:=m9 (w:=w) (f:=2) (s:=sqL (glo x w) w) (t:=sqH (glo x w) w) (by decide) 24
 have w1:wvH (glo x w) w 2≤2^w:=w1
 have w2:wvL (glo x w) w 2≤2^w:=w2
 unfold snAt
 obtain⟨na,nl,nc,da,dl,dc,rfl,_,_,_,_⟩:=hx.parts
 generalize decide (x.num < 0)=neg at*
 generalize glo x w=y at*
 have b1:=bh (n:=y) (w:=w) (by omega)
 have b2:=bh (n:=wvL y w 2) (w:=w) (by omega)
 have b3:=bh (n:=wvH y w 2) (w:=w) (by omega)
 have b4:=aG y (wvL y w 2)
 have b5:=aG y (wvH y w 2)
 have b6:=bh (n:=y*wvL y w 2 / 2^w) (w:=w) (by omega)
 have b7:=bh (n:=cdiv (y*wvH y w 2) (2^w)) (w:=w) (by omega)
 have hy:=Hid.mk hy
 clear hx bx h1 h2 w1 w2
 have F:=Hid.mk (And.intro b1 (And.intro b2 (And.intro b3 (And.intro b4 (And.intro b5 (And.intro b6 b7))))));clear b1 b2 b3 b4 b5 b6 b7
 cases low<;>cases neg
 all_goals
  refine Spec.go [(4,.o [0,1,2,4,6,7,8,3,5,9,10]),(5,.o [0,1,2,4,6,7,8,3,5,9,10])] Tryz.func217 rfl rfl (by kernel_rfl) fun C _=>?_
  try simp(maxSteps:=999999) (disch:=omega) only[go_sem,ξ,ζ]
  refine aE (at1 (dQ hb)) ?_
  try simp(maxSteps:=999999) (disch:=omega) only[go_sem,ξ,ζ]
  refine caN (by exact kN) ?_;rintro _ h1 _ q1;obtain⟨v1,_,_,rfl,q1⟩:=q1.sl
  try simp(maxSteps:=999999) (disch:=omega) only[go_sem,ξ,ζ]
  refine aE (at1 (dQ hb)) ?_
  try simp(maxSteps:=999999) (disch:=omega) only[go_sem,ξ,ζ]
  refine caN (by exact pK (f:=2) q1 hy.out (by decide) (by decide) hw (by have:=F.1;omega)) ?_;rintro v2 h2 s2 ⟨x2,m2,c2,y2,n2,d2,rfl,q2,q3⟩
  try simp(maxSteps:=999999) (disch:=omega) only[go_sem,ξ,ζ,show(true == false)=false from rfl,show(false == true)=false from rfl,Bool.not_false]
 ·refine aE (at1 (dQ hb)) ?_
  try simp(maxSteps:=999999) (disch:=omega) only[go_sem,ξ,ζ]
  refine aE (at1 (dQ hb)) ?_
  try simp(maxSteps:=999999) (disch:=omega) only[go_sem,ξ,ζ]
  refine caN (by exact aI (q1.to (h':=h2)) (show N32 h2 _ (wvH y w 2) from q3) (by have:=F.1;omega) (by have:=F.1;omega)) ?_;rintro _ h3 _ q4;obtain⟨v3,_,_,rfl,q4⟩:=q4.sl
  try simp(maxSteps:=999999) (disch:=omega) only[go_sem,ξ,ζ]
  refine caN (by exact kJ (n:=w) q4 (by have:=F.1;omega) (by have:=F.1;omega)) ?_;rintro _ h4 _ q5;obtain⟨v4,_,_,rfl,q5⟩:=q5.sl
  try simp(maxSteps:=999999) (disch:=omega) only[go_sem,ξ,ζ]
  refine caN (by exact aO (n:=w) q5 (by have:=F.1;omega) (by have:=F.1;omega)) ?_;rintro v5 h5 s5 q6;obtain⟨_,_,_,_,_,_,_,rfl,q6⟩:=q6.sa
  try simp(maxSteps:=999999) (disch:=omega) only[go_sem,ξ,ζ]
  exact q6
 ·refine aE (at1 (dQ hb)) ?_
  try simp(maxSteps:=999999) (disch:=omega) only[go_sem,ξ,ζ]
  refine aE (at1 (dQ hb)) ?_
  try simp(maxSteps:=999999) (disch:=omega) only[go_sem,ξ,ζ]
  refine caN (by exact aI (q1.to (h':=h2)) (show N32 h2 _ (wvL y w 2) from q2) (by have:=F.1;omega) (by have:=F.1;omega)) ?_;rintro _ h3 _ q4;obtain⟨v3,_,_,rfl,q4⟩:=q4.sl
  try simp(maxSteps:=999999) (disch:=omega) only[go_sem,ξ,ζ]
  refine caN (by exact gD (n:=w) q4 (by have:=F.1;omega) (by have:=F.1;omega)) ?_;rintro _ h4 _ q5;obtain⟨v4,_,_,rfl,q5⟩:=q5.sl
  try simp(maxSteps:=999999) (disch:=omega) only[go_sem,ξ,ζ]
  refine caN (by exact aO (n:=w) q5 (by have:=F.1;omega) (by have:=F.1;omega)) ?_;rintro v5 h5 s5 q6;obtain⟨_,_,_,_,_,_,_,rfl,q6⟩:=q6.sa
  try simp(maxSteps:=999999) (disch:=omega) only[go_sem,ξ,ζ]
  exact q6
 ·refine aE (at1 (dQ hb)) ?_
  try simp(maxSteps:=999999) (disch:=omega) only[go_sem,ξ,ζ]
  refine aE (at1 (dQ hb)) ?_
  try simp(maxSteps:=999999) (disch:=omega) only[go_sem,ξ,ζ]
  refine caN (by exact aI (q1.to (h':=h2)) (show N32 h2 _ (wvL y w 2) from q2) (by have:=F.1;omega) (by have:=F.1;omega)) ?_;rintro _ h3 _ q4;obtain⟨v3,_,_,rfl,q4⟩:=q4.sl
  try simp(maxSteps:=999999) (disch:=omega) only[go_sem,ξ,ζ]
  refine caN (by exact gD (n:=w) q4 (by have:=F.1;omega) (by have:=F.1;omega)) ?_;rintro _ h4 _ q5;obtain⟨v4,_,_,rfl,q5⟩:=q5.sl
  try simp(maxSteps:=999999) (disch:=omega) only[go_sem,ξ,ζ]
  refine caN (by exact aO (n:=w) q5 (by have:=F.1;omega) (by have:=F.1;omega)) ?_;rintro v5 h5 s5 q6;obtain⟨_,_,_,_,_,_,_,rfl,q6⟩:=q6.sa
  try simp(maxSteps:=999999) (disch:=omega) only[go_sem,ξ,ζ]
  exact q6
 ·refine aE (at1 (dQ hb)) ?_
  try simp(maxSteps:=999999) (disch:=omega) only[go_sem,ξ,ζ]
  refine aE (at1 (dQ hb)) ?_
  try simp(maxSteps:=999999) (disch:=omega) only[go_sem,ξ,ζ]
  refine caN (by exact aI (q1.to (h':=h2)) (show N32 h2 _ (wvH y w 2) from q3) (by have:=F.1;omega) (by have:=F.1;omega)) ?_;rintro _ h3 _ q4;obtain⟨v3,_,_,rfl,q4⟩:=q4.sl
  try simp(maxSteps:=999999) (disch:=omega) only[go_sem,ξ,ζ]
  refine caN (by exact kJ (n:=w) q4 (by have:=F.1;omega) (by have:=F.1;omega)) ?_;rintro _ h4 _ q5;obtain⟨v4,_,_,rfl,q5⟩:=q5.sl
  try simp(maxSteps:=999999) (disch:=omega) only[go_sem,ξ,ζ]
  refine caN (by exact aO (n:=w) q5 (by have:=F.1;omega) (by have:=F.1;omega)) ?_;rintro v5 h5 s5 q6;obtain⟨_,_,_,_,_,_,_,rfl,q6⟩:=q6.sa
  try simp(maxSteps:=999999) (disch:=omega) only[go_sem,ξ,ζ]
  exact q6
theorem Ex {h0 h:PH} [Le h0 h] {v:Value} {x y:Rat} {w:Nat} (hv:Bk h0 v x y) (bx:sz x≤2048) (by_:sz y≤2048) (hx:glo x w≤2^w) (hy:glo y w≤2^w) (hw:20≤w) (hw':w≤200):Spec mach 161 #[v,.int .i64 w] h (fun r h'=>Bk h' r (snAt x w true) (snAt y w false)) NP:=by
 obtain⟨b1,a1,m1,c1,a2,m2,c2,b2,a3,m3,c3,a4,m4,c4,rfl,k1,k2⟩:=hv
 have hx:=Hid.mk hx
 have hy:=Hid.mk hy
 refine Spec.go [(2,.o [0,1,2,4,5,6,3,7,8,9]),(1,.t (.p 1 (.s [0,1] .d)))] Tryz.func161 rfl rfl (by kernel_rfl) fun C _=>?_
 try simp(maxSteps:=999999) (disch:=omega) only[go_sem,ξ,ζ]
 intro b h1 st1 hb
 try simp(maxSteps:=999999) (disch:=omega) only[go_sem,ξ,ζ]
 have hb:h1 b=some #[.int .i64 w]:=hb (by simp)
 try simp(maxSteps:=999999) (disch:=omega) only[go_sem,ξ,ζ]
 refine caN (by exact vm (h0:=h1) (low:=true) hb k1.to bx hx.out hw hw') ?_;rintro v2 h2 s2 q2;obtain⟨_,_,_,_,_,_,_,rfl,q2⟩:=q2.sa
 try simp(maxSteps:=999999) (disch:=omega) only[go_sem,ξ,ζ]
 refine caN (by exact vm (h0:=h2) (low:=false) (dQ hb) k2.to by_ hy.out hw hw') ?_;rintro v3 h3 s3 q3;obtain⟨_,_,_,_,_,_,_,rfl,q3⟩:=q3.sa
 try simp(maxSteps:=999999) (disch:=omega) only[go_sem,ξ,ζ]
 exact⟨_,_,_,_,_,_,_,_,_,_,_,_,_,_,rfl,q2.to,q3⟩
def csX (x y:Rat) (w:Nat):Nat:=max (glo x w) (glo y w)
def csN (x y:Rat) (w:Nat):Nat:=if (x.num < 0∧¬y.num < 0)∨x=0∨y=0 then 0 else min (glo x w) (glo y w)
theorem Ag {h0 h:PH} [Le h0 h] {v:Value} {x y:Rat} {w:Nat} (hv:Bk h0 v x y) (bx:sz x≤2048) (by_:sz y≤2048) (hx:glo x w≤2^w) (hy:glo y w≤2^w) (hw:20≤w) (hw':w≤200):
    Spec mach 162 #[v,.int .i64 w] h (fun r h'=>Bk h' r (sgn false (wvL (csX x y w) w 1) (2^w)) (sgn false (wvH (csN x y w) w 1) (2^w))) NP:=by
  obtain⟨b1,a1,m1,c1,a2,m2,c2,b2,a3,m3,c3,a4,m4,c4,rfl,k1,k2⟩:=hv
  have kX:=fun {h} [Le h0 h]=>nO (h:=h) (w:=w) k1 bx (by omega)
  have kY:=fun {h} [Le h0 h]=>nO (h:=h) (w:=w) k2 by_ (by omega)
  obtain⟨_,_,_,_,_,_,e,_,_,ex,_⟩:=k1.parts
  cases e
  obtain⟨_,_,_,_,_,_,e,_,_,ey,_⟩:=k2.parts
  cases e
  have kW:∀{y:Nat},y≤2^w→bl (wvL y w 1)≤2048∧bl (wvH y w 1)≤2048:=fun {y} _=>by
    obtain⟨w1,w2⟩:=m9 (w:=w) (f:=1) (s:=sqL y w) (t:=sqH y w) (by decide) 24
    have:=bh (n:=wvL y w 1) (w:=w) (by unfold wvL;omega)
    have:=bh (n:=wvH y w 1) (w:=w) (by unfold wvH;omega)
    omega
  have key:(decide (x.num < 0)=true∧decide (y.num < 0)=false∧csN x y w=0)∨(decide (x.num < 0)=false∧((m1:Int) == 0)=true∧csN x y w=0)∨(decide (x.num < 0)=false∧((m1:Int) == 0)=false∧((m3:Int) == 0)=true∧csN x y w=0)∨
      (decide (x.num < 0)=true∧decide (y.num < 0)=true∧((m1:Int) == 0)=false∧((m3:Int) == 0)=false∧csN x y w=min (glo x w) (glo y w))∨(decide (x.num < 0)=false∧((m1:Int) == 0)=false∧((m3:Int) == 0)=false∧csN x y w=min (glo x w) (glo y w)):=by
    have xX:x.num < 0→x≠0:=fun k e=>by rw[e] at k;exact absurd k (by decide)
    have yY:y.num < 0→y≠0:=fun k e=>by rw[e] at k;exact absurd k (by decide)
    have zX:((m1:Int) == 0)=decide (x=0):=by rw[Bool.eq_iff_iff];simp only[beq_iff_eq,decide_eq_true_eq,←ex];omega
    have zY:((m3:Int) == 0)=decide (y=0):=by rw[Bool.eq_iff_iff];simp only[beq_iff_eq,decide_eq_true_eq,←ey];omega
    rw[zX,zY]
    simp only[decide_eq_true_eq,decide_eq_false_iff_not]
    unfold csN
    by_cases h1:x.num < 0
    · by_cases h2:y.num < 0
      · refine .inr (.inr (.inr (.inl ⟨h1,h2,xX h1,yY h2,if_neg ?_⟩)))
        rintro(k |k |k)
        · exact k.2 h2
        · exact xX h1 k
        · exact yY h2 k
      · exact .inl ⟨h1,h2,if_pos (.inl ⟨h1,h2⟩)⟩
    · by_cases h2:x=0
      · exact .inr (.inl ⟨h1,h2,if_pos (.inr (.inl h2))⟩)
      · by_cases h3:y=0
        · exact .inr (.inr (.inl ⟨h1,h2,h3,if_pos (.inr (.inr h3))⟩))
        · refine .inr (.inr (.inr (.inr ⟨h1,h2,h3,if_neg ?_⟩)))
          rintro(k |k |k)
          · exact h1 k.1
          · exact h2 k
          · exact h3 k
  have cm:∀{a b:Nat},decide (cmp3 a b < 0)=decide (a < b):=fun {a b}=>by unfold cmp3;grind
  have eX:csX x y w=max (glo x w) (glo y w):=rfl
  rw[eX]
  clear k1 k2 ex ey bx by_ eX
  generalize glo x w=ga at*
  generalize glo y w=gb at*
  generalize csN x y w=N at*
  generalize decide (x.num < 0)=sx at*
  generalize decide (y.num < 0)=sy at*
  have hN:N=0∨N=min ga gb:=by rcases key with h |h |h |h |h;exact .inl h.2.2;exact .inl h.2.2;exact .inl h.2.2.2;exact .inr h.2.2.2.2;exact .inr h.2.2.2
  have lX:max ga gb≤2^w:=by omega
  have lN:N≤2^w:=by omega
  have kXL:=(kW lX).1
  have kNH:=(kW lN).2
  have lX:=Hid.mk lX
  have lN:=Hid.mk lN
  have dcs:(decide (cmp3 ga gb < 0)=true∧max ga gb=gb∧min ga gb=ga)∨(decide (cmp3 ga gb < 0)=false∧max ga gb=ga∧min ga gb=gb):=by
    rw[cm]
    by_cases hab:ga < gb
    · exact .inl ⟨decide_eq_true hab,by omega,by omega⟩
    · exact .inr ⟨decide_eq_false hab,by omega,by omega⟩
  have z0:(0:Nat)=0:=rfl
  have key:=(show _∨_ from key.imp (fun h=>And.intro h.1 (And.intro z0 (And.intro z0 h.2))) (Or.imp (fun h=>And.intro h.1 (And.intro h.2.1 (And.intro z0 h.2.2))) (fun h=>h)))
  clear hN hx hy cm kW
  rcases key with⟨rfl,e1,e2,rfl,rfl⟩ |⟨rfl,e1,e2,rfl⟩ |⟨rfl,e1,e2,rfl⟩ |⟨rfl,rfl,e1,e2,rfl⟩ |⟨rfl,e1,e2,rfl⟩<;>rcases dcs with⟨dc,hM,hm⟩ |⟨dc,hM,hm⟩
  all_goals
    rw[hM] at lX kXL ⊢
    try rw[hm] at lN kNH ⊢
    clear hM hm
    refine Spec.go [(1,.o [0,1,2,4,5,6,3,7,8,9])] Tryz.func162 rfl rfl (by kernel_rfl) fun C _=>?_
    try simp(maxSteps:=999999) (disch:=omega) only[go_sem,ξ,ζ]
    refine caN (by exact kX) ?_;rintro _ h1 _ q1;obtain⟨v1,_,_,rfl,q1⟩:=q1.sl
    try simp(maxSteps:=999999) (disch:=omega) only[go_sem,ξ,ζ]
    refine caN (by exact kY) ?_;rintro _ h2 _ q2;obtain⟨v2,_,_,rfl,q2⟩:=q2.sl
    try simp(maxSteps:=999999) (disch:=omega) only[go_sem,ξ,ζ]
    refine caN (by exact fO (q1.to (h':=h2)) q2) ?_;rintro v3 h3 s3 rfl
    try simp(maxSteps:=999999) (disch:=omega) only[go_sem,ξ,ζ,dc,e1,e2,Bool.not_true]
    refine caN (by exact pK (f:=1) (by first |exact q2.to (h':=h3) |exact q1.to (h':=h3)) lX.out (by decide) (by decide) hw (by omega)) ?_;rintro v4 h4 s4 ⟨x4,m4,c4,y4,n4,d4,rfl,q4,_⟩
    try simp(maxSteps:=999999) (disch:=omega) only[go_sem,ξ,ζ]
    refine caN (by exact aO (n:=w) (show N32 h4 _ (wvL _ w 1) from q4) kXL (by omega)) ?_;rintro v5 h5 s5 q5;obtain⟨_,_,_,_,_,_,_,rfl,q5⟩:=q5.sa
    try simp(maxSteps:=999999) (disch:=omega) only[go_sem,ξ,ζ]
    refine caN (by exact pK (f:=1) (by first |exact N32.zero h5 |exact q1.to (h':=h5) |exact q2.to (h':=h5)) lN.out (by decide) (by decide) hw (by omega)) ?_;rintro v6 h6 s6 ⟨x6,m6,c6,y6,n6,d6,rfl,_,q6⟩
    try simp(maxSteps:=999999) (disch:=omega) only[go_sem,ξ,ζ]
    refine caN (by exact aO (n:=w) (show N32 h6 _ (wvH _ w 1) from q6) kNH (by omega)) ?_;rintro v7 h7 s7 q7;obtain⟨_,_,_,_,_,_,_,rfl,q7⟩:=q7.sa
    try simp(maxSteps:=999999) (disch:=omega) only[go_sem,ξ,ζ]
    exact⟨_,_,_,_,_,_,_,_,_,_,_,_,_,_,rfl,q5.to,q7⟩
theorem sG {h0 h:PH} [Le h0 h] {v:Value} {z:Int} (hv:Cn h0 v (z:Rat)) (hz:z.natAbs < 4294967296):Spec mach 216 #[v] h (fun r _=>r=.int .i64 (z % 4)) NP:=by
 have en:((z:Rat)).num=z:=Rat.num_intCast z
 obtain⟨na,nl,nc,da,dl,dc,rfl,hn,_,e1,_⟩:=hv.parts
 rw[en] at hn ⊢
 clear hv
 by_cases hz0:z=0
 ·subst hz0
  have e3:((nl:Int) == 0)=true:=by simp[e1.2 rfl]
  refine Spec.go [] Tryz.func216 rfl rfl (by kernel_rfl) fun C _=>?_
  try simp(disch:=omega) only[go_sem,ξ,ζ,e3]
  all_goals rfl
 ·have hnl:nl≠0:=fun c=>hz0 ((Rat.intCast_inj (a:=z) (b:=0)).1 (e1.1 c))
  have e3:((nl:Int) == 0)=false:=by simp;omega
  obtain⟨m,em⟩:∃m,z.natAbs=m:=⟨_,rfl⟩
  rw[em] at hn hz
  have m0:m≠0:=by omega
  obtain⟨ad,rfl,rfl,hat⟩:=hn.one m0 hz
  have hat:=Sub.at (Le.sub (a:=h0) (b:=h)) hat
  have m4:m % 4 < 4:=qBl _ (by decide)
  by_cases hs:z < 0
  ·have em4:(4 - ((m % 4:Nat):Int)).tmod 4=z % 4:=by
    rw[Int.tmod_eq_emod_of_nonneg (by omega)]
    omega
   rw[decide_eq_true hs]
   clear em e1 hn hnl
   refine Spec.go [] Tryz.func216 rfl rfl (by kernel_rfl) fun C _=>?_
   try simp(disch:=omega) only[go_sem,ξ,ζ,e3]
   refine aE hat ?_
   try simp(disch:=omega) only[go_sem,ξ,ζ]
   rw[em4]
  ·have em4:((m % 4:Nat):Int)=z % 4:=by omega
   rw[decide_eq_false hs]
   clear em e1 hn hnl
   refine Spec.go [] Tryz.func216 rfl rfl (by kernel_rfl) fun C _=>?_
   try simp(disch:=omega) only[go_sem,ξ,ζ,e3]
   refine aE hat ?_
   try simp(disch:=omega) only[go_sem,ξ,ζ]
   rw[em4]
theorem GZ {h:PH} {b c:Nat} (hb:h b=some #[.int .u32 1]) (hc:h c=some #[.int .u32 2]):Rv h (.agg #[.bool false,.slice (some ⟨b,0,none⟩) 1 1,.slice (some ⟨c,0,none⟩) 1 1]) (1 / 2):=by
 have e:qof false 1 2=1 / 2:=by decide+kernel
 refine⟨false,1,2,⟨some ⟨b,0,none⟩,1,[1],some ⟨c,0,none⟩,1,[2],rfl,Arr.of_row (fun _=>hb) (by decide) (by decide) (by decide),Arr.of_row (fun _=>hc) (by decide) (by decide) (by decide),rfl,rfl,by decide,by decide⟩,?_,e⟩
 unfold lg
 rw[e]
 decide+kernel
theorem nk {h0 h:PH} [Le h0 h] {bk bx:Nat} {n1 n2:Bool} {na da nb db:Option Addr} {nl nc dl dc ml mc el ec:Nat} {v:Value} {k x c:Rat} (hk:h0 bk=some #[.bool n1,.slice na nl nc,.slice da dl dc]) (hx:h0 bx=some #[.bool n2,.slice nb ml mc,.slice db el ec])
  (ck:Cn h0 (.agg #[.bool n1,.slice na nl nc,.slice da dl dc]) k) (cx:Cn h0 (.agg #[.bool n2,.slice nb ml mc,.slice db el ec]) x) (cc:Cn h0 v c) (sk:sz k≤2048) (sx:sz x≤2048) (sc:sz c≤2048) (s1:sz (k*c)≤2048) (s2:sz (x+ -(k*c))≤2048):
  Spec mach 215 #[v,.pointer (some ⟨bk,0,none⟩),.pointer (some ⟨bx,0,none⟩)] h (fun r h'=>Cn h' r (x+ -(k*c))) NP:=by
 obtain⟨_,_,_,_,_,_,_,rfl,cc⟩:=cc.sa
 refine Spec.go [] Tryz.func215 rfl rfl (by kernel_rfl) fun C _=>?_
 try simp(disch:=omega) only[go_sem,ξ,ζ]
 refine dL [.bool n1,.slice na nl nc,.slice da dl dc] rfl (sT (dQ hk)) ?_
 try simp(disch:=omega) only[go_sem,ξ,ζ]
 refine caN (by exact EB (Rv.of (ck.to (h':=h)) sk) (Rv.of cc.to sc)) ?_;rintro v1 h1 s1' p1;obtain⟨_,_,_,_,_,_,_,rfl,q1⟩:=p1.ok s1
 try simp(disch:=omega) only[go_sem,ξ,ζ]
 refine dL [.bool n2,.slice nb ml mc,.slice db el ec] rfl (sT (dQ hx)) ?_
 try simp(disch:=omega) only[go_sem,ξ,ζ]
 refine caN (by exact wX (Rv.of (cx.to (h':=h1)) sx) (Rv.of q1 s1)) ?_;rintro v2 h2 s2' p2;obtain⟨_,_,_,_,_,_,_,rfl,q2⟩:=p2.ok s2
 try simp(disch:=omega) only[go_sem,ξ,ζ]
 exact q2
theorem fW_sz {w:Nat}:sz (fW w)≤w+6∧sz (gW w)≤w+6:=by
 obtain⟨b1,b2⟩:=bl_pi (w:=w)
 have h1:=dg false (piL w) (am (w+1))
 have h2:=dg false (piH w) (am (w+1))
 have h3:=bC (w+1)
 unfold fW gW
 omega
theorem sz_k {z:Int} (h:z.natAbs < 4294967296):sz (z:Rat)≤32:=by
 have:=FW z
 have:bl z.natAbs≤32:=bl_le.2 (by omega)
 omega
theorem Ew {h0 h:PH} [Le h0 h] {v:Value} {x:Rat} {w:Nat} (hx:Cn h0 v x) (bx:sz x≤1024) (hb:¬x.den*4294967296 < x.num.natAbs) (hw:64≤w) (hw':w≤192):
  Spec mach 160 #[v,.int .i64 w] h (fun r h'=>∃s,r=.tuple #[s,.int .i64 (rsK x w % 4)]∧Bk h' s (rsA x w) (rsB x w)) NP:=by
 obtain⟨a1,a2,a3,_⟩:=fW_bd hw hw'
 have f0:fW w≠0:=by grind
 obtain⟨k1,k2⟩:=BE hw hw' (iP hb)
 obtain⟨sf,sg⟩:=fW_sz (w:=w)
 have hK:rsK x w=(x*(fW w)⁻¹+1 / 2).floor:=rfl
 have s1:sz (x*(fW w)⁻¹)≤2048:=by have:=bV x (fW w)⁻¹;have:=iQ (fW w);omega
 have s2:sz (x*(fW w)⁻¹+1 / 2)≤2048:=by
  have:=dA (x*(fW w)⁻¹) (1 / 2)
  have:sz (1 / 2)≤2:=by decide+kernel
  have:=bV x (fW w)⁻¹
  have:=iQ (fW w)
  omega
 have hz:(rsK x w).natAbs < 4294967296:=by omega
 have sk:=sz_k hz
 have m1:=bV (rsK x w:Rat) (fW w)
 have m2:=bV (rsK x w:Rat) (gW w)
 have m3:=dA x (-((rsK x w:Rat)*fW w))
 have m4:=dA x (-((rsK x w:Rat)*gW w))
 rw[cz] at m3 m4
 have m5:=sz_gd (x+ -((rsK x w:Rat)*fW w)) w
 have m6:=sz_gd (x+ -((rsK x w:Rat)*gW w)) w
 have m7:=sz_gu (x+ -((rsK x w:Rat)*fW w)) w
 have m8:=sz_gu (x+ -((rsK x w:Rat)*gW w)) w
 have eA:rsA x w=gdown (x+ -((rsK x w:Rat)*(if rsK x w < 0 then fW w else gW w))) w:=rfl
 have eB:rsB x w=gup (x+ -((rsK x w:Rat)*(if rsK x w < 0 then gW w else fW w))) w:=rfl
 rw[eA,eB]
 have en:((rsK x w:Rat)).num=rsK x w:=Rat.num_intCast _
 rw[←hK] at*
 have kF:∀{h1 h:PH} {q:Value} [Le h1 h],Cn h1 q (x*(fW w)⁻¹+1 / 2)→Spec mach 214 #[q] h (fun r h'=>∃b na nl nc da dl dc,r=.tuple #[.agg #[.bool b,.slice na nl nc,.slice da dl dc],.int .i64 0]∧Cn h' (.agg #[.bool b,.slice na nl nc,.slice da dl dc]) ((rsK x w:Int):Rat)) NP:=by
  intro h1 h q _ hq
  exact(CE (Rv.of hq s2)).mono (fun r h' _ k=>Nc.ok k (show sz (rsK x w:Rat)≤2048 by omega)) (fun _ _ _ k=>k)
 clear eA eB hK a1 a2 a3 k1 k2 hb
 generalize rsK x w=z at*
 obtain⟨na,nl,nc,da,dl,dc,rfl,_,_,_,_⟩:=hx.parts
 have sq1:=Hid.mk s1
 have sq2:=Hid.mk s2
 have hz:=Hid.mk hz
 clear s1 s2
 generalize decide (x.num < 0)=nx at*
 have hbig:¬z < 0∨z < 0:=by omega
 have F:=Hid.mk (And.intro bx (And.intro sf (And.intro sg (And.intro sk (And.intro m1 (And.intro m2 (And.intro m3 (And.intro m4 (And.intro m5 (And.intro m6 (And.intro m7 m8)))))))))));clear bx sf sg sk m1 m2 m3 m4 m5 m6 m7 m8
 rcases hbig with hs |hs
 ·simp only[if_neg hs]
  refine Spec.go [(2,.h [] [] [10,11] [10,11,0,1,2,3,5,6,7,8,4,9,12,13]),(6,.h [] [(7,11)] [2,3] [2,3,0,1,4,5]),(8,.h [(8,11)] [] [] [0,1,2,3]),(4,.t (.s [0,1,2] (.p 6 (.p 7 (.s [3,4,5,6,7,8] .d))))),(9,.t (.p 5 (.p 0 (.s [0,1] .d))))] Tryz.func160 rfl rfl (by kernel_rfl) fun C _=>?_
  try simp(disch:=omega) only[go_sem,ξ,ζ]
  refine caN (by exact kt (w:=w) (by have:=F.1;omega) (by have:=F.1;omega)) ?_;rintro v1 h1 s1 ⟨x1,n1,c1,y1,l1,d1,rfl,q1,q2⟩
  try simp(disch:=omega) only[go_sem,ξ,ζ]
  refine caN (by exact aO (n:=w+1) q1 (by have:=(bl_pi (w:=w)).1;omega) (by have:=F.1;omega)) ?_;rintro v2 h2 s2 q3;obtain⟨f1,f2,f3,f4,f5,f6,f7,rfl,q3⟩:=q3.sa
  try simp(disch:=omega) only[go_sem,ξ,ζ]
  refine caN (by exact aO (n:=w+1) (q2.to (h':=h2)) (by have:=(bl_pi (w:=w)).2;omega) (by have:=F.1;omega)) ?_;rintro v3 h3 s3 q4;obtain⟨g1,g2,g3,g4,g5,g6,g7,rfl,q4⟩:=q4.sa
  try simp(disch:=omega) only[go_sem,ξ,ζ]
  have q3:Cn h2 _ (fW w):=q3
  have q4:Cn h3 _ (gW w):=q4
  refine caN (by exact o6 (Rv.of (hx.to (h':=h3)) (by have:=F.1;omega)) (Rv.of (q3.to (h':=h3)) (by have:=F.1;omega)) f0) ?_;rintro v4 h4 s4 p4;obtain⟨_,_,_,_,_,_,_,rfl,q5⟩:=p4.ok sq1.out
  try simp(disch:=omega) only[go_sem,ξ,ζ]
  intro b5 h5 s5 hb5
  try simp(disch:=omega) only[go_sem,ξ,ζ]
  have hb5:h5 b5=some #[.int .u32 1]:=hb5 (by simp[uw])
  try simp(disch:=omega) only[go_sem,ξ,ζ]
  intro b6 h6 s6 hb6
  try simp(disch:=omega) only[go_sem,ξ,ζ]
  have hb6:h6 b6=some #[.int .u32 2]:=hb6 (by simp[uw])
  try simp(disch:=omega) only[go_sem,ξ,ζ]
  refine caN (by exact Ak (Rv.of (q5.to (h':=h6)) sq1.out) (GZ (dQ hb5) hb6)) ?_;rintro v7 h7 s7 p7;obtain⟨_,_,_,_,_,_,_,rfl,q7⟩:=p7.ok sq2.out
  try simp(disch:=omega) only[go_sem,ξ,ζ]
  refine caN (by exact kF q7) ?_;rintro v8 h8 s8 ⟨k1,k2,k3,k4,k5,k6,k7,rfl,q8⟩
  try simp(disch:=omega) only[go_sem,ξ,ζ]
  obtain⟨_,_,_,_,_,_,e,_,_,_,_⟩:=q8.parts
  cases e
  rw[en,decide_eq_false hs] at q8
  try simp(disch:=omega) only[go_sem,ξ,ζ,en,decide_eq_false hs]
  intro bk h9 s9 hbk
  try simp(disch:=omega) only[go_sem,ξ,ζ]
  have hbk:h9 bk=some #[.bool false,.slice k2 k3 k4,.slice k5 k6 k7]:=hbk (by simp)
  try simp(disch:=omega) only[go_sem,ξ,ζ]
  intro bx h10 s10 hbx
  try simp(disch:=omega) only[go_sem,ξ,ζ]
  have hbx:h10 bx=some #[.bool nx,.slice na nl nc,.slice da dl dc]:=hbx (by simp)
  try simp(disch:=omega) only[go_sem,ξ,ζ]
  refine caN (by exact nk (h0:=h10) (dQ hbk) hbx q8.to hx.to (q4.to (h':=h10)) (by have:=F.1;omega) (by have:=F.1;omega) (by have:=F.1;omega) (by have:=F.1;omega) (by have:=F.1;omega)) ?_;rintro v11 h11 s11 q11;obtain⟨_,_,_,_,_,_,_,rfl,q11⟩:=q11.sa
  try simp(disch:=omega) only[go_sem,ξ,ζ]
  refine caN (by exact NumDn (p:=w) (Rv.of q11 (by have:=F.1;omega)) (by have:=F.1;omega)) ?_;rintro v12 h12 s12 p12;obtain⟨_,_,_,_,_,_,_,rfl,q12⟩:=p12.ok (by have:=F.1;omega)
  try simp(disch:=omega) only[go_sem,ξ,ζ]
  refine caN (by exact nk (h0:=h12) (dQ hbk) (dQ hbx) q8.to hx.to (q3.to (h':=h12)) (by have:=F.1;omega) (by have:=F.1;omega) (by have:=F.1;omega) (by have:=F.1;omega) (by have:=F.1;omega)) ?_;rintro v13 h13 s13 q13;obtain⟨_,_,_,_,_,_,_,rfl,q13⟩:=q13.sa
  try simp(disch:=omega) only[go_sem,ξ,ζ]
  refine caN (by exact EC (p:=w) (Rv.of q13 (by have:=F.1;omega)) (by have:=F.1;omega)) ?_;rintro v14 h14 s14 p14;obtain⟨_,_,_,_,_,_,_,rfl,q14⟩:=p14.ok (by have:=F.1;omega)
  try simp(disch:=omega) only[go_sem,ξ,ζ]
  refine dL [.bool false,.slice k2 k3 k4,.slice k5 k6 k7] rfl (sT (dQ hbk)) ?_
  try simp(disch:=omega) only[go_sem,ξ,ζ]
  refine caN (by exact sG (q8.to (h':=h14)) hz.out) ?_;rintro v15 h15 s15 rfl
  try simp(disch:=omega) only[go_sem,ξ,ζ]
  exact⟨_,rfl,_,_,_,_,_,_,_,_,_,_,_,_,_,_,rfl,q12.to,q14.to⟩
 ·simp only[if_pos hs]
  refine Spec.go [(2,.h [] [] [10,11] [10,11,0,1,2,3,5,6,7,8,4,9,12,13]),(6,.h [] [(7,11)] [2,3] [2,3,0,1,4,5]),(8,.h [(8,11)] [] [] [0,1,2,3]),(4,.t (.s [0,1,2] (.p 6 (.p 7 (.s [3,4,5,6,7,8] .d))))),(9,.t (.p 5 (.p 0 (.s [0,1] .d))))] Tryz.func160 rfl rfl (by kernel_rfl) fun C _=>?_
  try simp(disch:=omega) only[go_sem,ξ,ζ]
  refine caN (by exact kt (w:=w) (by have:=F.1;omega) (by have:=F.1;omega)) ?_;rintro v1 h1 s1 ⟨x1,n1,c1,y1,l1,d1,rfl,q1,q2⟩
  try simp(disch:=omega) only[go_sem,ξ,ζ]
  refine caN (by exact aO (n:=w+1) q1 (by have:=(bl_pi (w:=w)).1;omega) (by have:=F.1;omega)) ?_;rintro v2 h2 s2 q3;obtain⟨f1,f2,f3,f4,f5,f6,f7,rfl,q3⟩:=q3.sa
  try simp(disch:=omega) only[go_sem,ξ,ζ]
  refine caN (by exact aO (n:=w+1) (q2.to (h':=h2)) (by have:=(bl_pi (w:=w)).2;omega) (by have:=F.1;omega)) ?_;rintro v3 h3 s3 q4;obtain⟨g1,g2,g3,g4,g5,g6,g7,rfl,q4⟩:=q4.sa
  try simp(disch:=omega) only[go_sem,ξ,ζ]
  have q3:Cn h2 _ (fW w):=q3
  have q4:Cn h3 _ (gW w):=q4
  refine caN (by exact o6 (Rv.of (hx.to (h':=h3)) (by have:=F.1;omega)) (Rv.of (q3.to (h':=h3)) (by have:=F.1;omega)) f0) ?_;rintro v4 h4 s4 p4;obtain⟨_,_,_,_,_,_,_,rfl,q5⟩:=p4.ok sq1.out
  try simp(disch:=omega) only[go_sem,ξ,ζ]
  intro b5 h5 s5 hb5
  try simp(disch:=omega) only[go_sem,ξ,ζ]
  have hb5:h5 b5=some #[.int .u32 1]:=hb5 (by simp[uw])
  try simp(disch:=omega) only[go_sem,ξ,ζ]
  intro b6 h6 s6 hb6
  try simp(disch:=omega) only[go_sem,ξ,ζ]
  have hb6:h6 b6=some #[.int .u32 2]:=hb6 (by simp[uw])
  try simp(disch:=omega) only[go_sem,ξ,ζ]
  refine caN (by exact Ak (Rv.of (q5.to (h':=h6)) sq1.out) (GZ (dQ hb5) hb6)) ?_;rintro v7 h7 s7 p7;obtain⟨_,_,_,_,_,_,_,rfl,q7⟩:=p7.ok sq2.out
  try simp(disch:=omega) only[go_sem,ξ,ζ]
  refine caN (by exact kF q7) ?_;rintro v8 h8 s8 ⟨k1,k2,k3,k4,k5,k6,k7,rfl,q8⟩
  try simp(disch:=omega) only[go_sem,ξ,ζ]
  obtain⟨_,_,_,_,_,_,e,_,_,_,_⟩:=q8.parts
  cases e
  rw[en,decide_eq_true hs] at q8
  try simp(disch:=omega) only[go_sem,ξ,ζ,en,decide_eq_true hs]
  intro bk h9 s9 hbk
  try simp(disch:=omega) only[go_sem,ξ,ζ]
  have hbk:h9 bk=some #[.bool true,.slice k2 k3 k4,.slice k5 k6 k7]:=hbk (by simp)
  try simp(disch:=omega) only[go_sem,ξ,ζ]
  intro bx h10 s10 hbx
  try simp(disch:=omega) only[go_sem,ξ,ζ]
  have hbx:h10 bx=some #[.bool nx,.slice na nl nc,.slice da dl dc]:=hbx (by simp)
  try simp(disch:=omega) only[go_sem,ξ,ζ]
  refine caN (by exact nk (h0:=h10) (dQ hbk) hbx q8.to hx.to (q3.to (h':=h10)) (by have:=F.1;omega) (by have:=F.1;omega) (by have:=F.1;omega) (by have:=F.1;omega) (by have:=F.1;omega)) ?_;rintro v11 h11 s11 q11;obtain⟨_,_,_,_,_,_,_,rfl,q11⟩:=q11.sa
  try simp(disch:=omega) only[go_sem,ξ,ζ]
  refine caN (by exact NumDn (p:=w) (Rv.of q11 (by have:=F.1;omega)) (by have:=F.1;omega)) ?_;rintro v12 h12 s12 p12;obtain⟨_,_,_,_,_,_,_,rfl,q12⟩:=p12.ok (by have:=F.1;omega)
  try simp(disch:=omega) only[go_sem,ξ,ζ]
  refine caN (by exact nk (h0:=h12) (dQ hbk) (dQ hbx) q8.to hx.to (q4.to (h':=h12)) (by have:=F.1;omega) (by have:=F.1;omega) (by have:=F.1;omega) (by have:=F.1;omega) (by have:=F.1;omega)) ?_;rintro v13 h13 s13 q13;obtain⟨_,_,_,_,_,_,_,rfl,q13⟩:=q13.sa
  try simp(disch:=omega) only[go_sem,ξ,ζ]
  refine caN (by exact EC (p:=w) (Rv.of q13 (by have:=F.1;omega)) (by have:=F.1;omega)) ?_;rintro v14 h14 s14 p14;obtain⟨_,_,_,_,_,_,_,rfl,q14⟩:=p14.ok (by have:=F.1;omega)
  try simp(disch:=omega) only[go_sem,ξ,ζ]
  refine dL [.bool true,.slice k2 k3 k4,.slice k5 k6 k7] rfl (sT (dQ hbk)) ?_
  try simp(disch:=omega) only[go_sem,ξ,ζ]
  refine caN (by exact sG (q8.to (h':=h14)) hz.out) ?_;rintro v15 h15 s15 rfl
  try simp(disch:=omega) only[go_sem,ξ,ζ]
  exact⟨_,rfl,_,_,_,_,_,_,_,_,_,_,_,_,_,_,rfl,q12.to,q14.to⟩
def snl (x:Rat) (w:Nat):Rat:=snAt (rsA x w) w true
def snh (x:Rat) (w:Nat):Rat:=snAt (rsB x w) w false
def csl (x:Rat) (w:Nat):Rat:=sgn false (wvL (csX (rsA x w) (rsB x w) w) w 1) (2^w)
def csh (x:Rat) (w:Nat):Rat:=sgn false (wvH (csN (rsA x w) (rsB x w) w) w 1) (2^w)
def siL (x:Rat) (w:Nat):Rat:=if rsK x w % 4=1 then csl x w else if rsK x w % 4=2 then -snh x w else if rsK x w % 4=3 then -csh x w else snl x w
def siH (x:Rat) (w:Nat):Rat:=if rsK x w % 4=1 then csh x w else if rsK x w % 4=2 then -snl x w else if rsK x w % 4=3 then -csl x w else snh x w
def coL (x:Rat) (w:Nat):Rat:=if rsK x w % 4=1 then -snh x w else if rsK x w % 4=2 then -csh x w else if rsK x w % 4=3 then snl x w else csl x w
def coH (x:Rat) (w:Nat):Rat:=if rsK x w % 4=1 then -snl x w else if rsK x w % 4=2 then -csl x w else if rsK x w % 4=3 then snh x w else csh x w
theorem uP {x:Rat} {w:Nat} (h1:64≤w) (h2:w≤192) (hb:¬x.den*4294967296 < x.num.natAbs):glo (rsA x w) w≤2^w∧glo (rsB x w) w≤2^w:=by
 obtain⟨a1,a2,a3⟩:=rs_bd h1 h2 (iP hb)
 exact⟨(g_le (sP a1 (by grind))).1,(g_le (sP (by grind) a3)).1⟩
theorem cs_sz {y w:Nat}:sz (sgn false (wvL y w 1) (2^w))≤w+2∧sz (sgn false (wvH y w 1) (2^w))≤w+2:=by
 obtain⟨w1,w2⟩:=m9 (w:=w) (f:=1) (s:=sqL y w) (t:=sqH y w) (by decide) 24
 have h0:=bC w
 have h1:=bh (n:=wvL y w 1) (w:=w) (by unfold wvL;omega)
 have h2:=bh (n:=wvH y w 1) (w:=w) (by unfold wvH;omega)
 have h3:=dg false (wvL y w 1) (am w)
 have h4:=dg false (wvH y w 1) (am w)
 omega
theorem rs_sz {x:Rat} {w:Nat} (bx:sz x≤1024) (hb:¬x.den*4294967296 < x.num.natAbs) (hw:64≤w) (hw':w≤192):sz (rsA x w)≤2048∧sz (rsB x w)≤2048:=by
 obtain⟨k1,k2⟩:=BE hw hw' (iP hb)
 obtain⟨sf,sg⟩:=fW_sz (w:=w)
 have sk:=sz_k (z:=rsK x w) (by omega)
 have m1:=bV (rsK x w:Rat) (fW w)
 have m2:=bV (rsK x w:Rat) (gW w)
 have m3:=dA x (-((rsK x w:Rat)*fW w))
 have m4:=dA x (-((rsK x w:Rat)*gW w))
 rw[cz] at m3 m4
 have m5:=sz_gd (x+ -((rsK x w:Rat)*fW w)) w
 have m6:=sz_gd (x+ -((rsK x w:Rat)*gW w)) w
 have m7:=sz_gu (x+ -((rsK x w:Rat)*fW w)) w
 have m8:=sz_gu (x+ -((rsK x w:Rat)*gW w)) w
 unfold rsA rsB
 split<;>omega
theorem oN {h0 h:PH} [Le h0 h] {v:Value} {x:Rat} {w:Nat} (hx:Cn h0 v x) (bx:sz x≤1024) (hb:¬x.den*4294967296 < x.num.natAbs) (hw:64≤w) (hw':w≤192):
  Spec mach 108 #[v,.int .i64 w] h (fun r h'=>∃s t,r=.tuple #[s,t]∧Bk h' s (siL x w) (siH x w)∧Bk h' t (coL x w) (coH x w)) NP:=by
 have kR:=fun {h} [Le h0 h]=>Ew (h:=h) hx bx hb hw hw'
 obtain⟨l1,l2⟩:=uP hw hw' hb
 obtain⟨z1,z2⟩:=rs_sz bx hb hw hw'
 obtain⟨c1,_⟩:=cs_sz (y:=csX (rsA x w) (rsB x w) w) (w:=w)
 obtain⟨_,c2⟩:=cs_sz (y:=csN (rsA x w) (rsB x w) w) (w:=w)
 have c1:sz (csl x w)≤w+2:=c1
 have c2:sz (csh x w)≤w+2:=c2
 have n1:sz (snl x w)≤w+2:=wF l1
 have n2:sz (snh x w)≤w+2:=wF l2
 have kS:∀{h1 h:PH} {v:Value} [Le h1 h],Bk h1 v (rsA x w) (rsB x w)→Spec mach 161 #[v,.int .i64 w] h (fun r h'=>Bk h' r (snl x w) (snh x w)) NP:=fun k=>Ex k z1 z2 l1 l2 (by omega) (by omega)
 have kC:∀{h1 h:PH} {v:Value} [Le h1 h],Bk h1 v (rsA x w) (rsB x w)→Spec mach 162 #[v,.int .i64 w] h (fun r h'=>Bk h' r (csl x w) (csh x w)) NP:=fun k=>Ag k z1 z2 l1 l2 (by omega) (by omega)
 unfold siL siH coL coH
 generalize snl x w=sl at*
 generalize snh x w=sh at*
 generalize csl x w=cl at*
 generalize csh x w=ch at*
 generalize rsA x w=A at*
 generalize rsB x w=B at*
 generalize rsK x w=k at*
 have n1:sz sl≤2048:=by omega
 have n2:sz sh≤2048:=by omega
 have c1:sz cl≤2048:=by omega
 have c2:sz ch≤2048:=by omega
 obtain⟨na,nl,nc,da,dl,dc,rfl,_,_,_,_⟩:=hx.parts
 clear bx hb l1 l2 z1 z2 hx
 have hk:k % 4=1∨k % 4=2∨k % 4=3∨k % 4=0:=by omega
 generalize k % 4=q at*
 rcases hk with rfl |rfl |rfl |rfl
 ·rw[if_pos rfl,if_pos rfl,if_pos rfl,if_pos rfl]
  refine Spec.go [(2,.h [] [] [6,7] [6,7,0,1,3,4,2,5,8,9]),(7,.o [0,2,1,3,4,5]),(9,.h [(8,4)] [] [] [0,2,1,3,4]),(10,.h [(9,4)] [] [] [0,1,2,3])] Tryz.func108 rfl rfl (by kernel_rfl) fun C _=>?_
  try simp(disch:=omega) only[go_sem,ξ,ζ]
  refine caN (by exact kR) ?_;rintro v1 h1 s1 ⟨u,rfl,q1⟩;obtain⟨_,_,_,_,_,_,_,_,_,_,_,_,_,_,rfl,q1⟩:=q1.sp
  try simp(disch:=omega) only[go_sem,ξ,ζ]
  refine caN (by exact kS q1) ?_;rintro v2 h2 s2 q2;obtain⟨_,_,_,_,_,_,_,_,_,_,_,_,_,_,rfl,q2⟩:=q2.sp
  try simp(disch:=omega) only[go_sem,ξ,ζ]
  refine caN (by exact kC (q1.to (h':=h2))) ?_;rintro v3 h3 s3 q3;obtain⟨_,_,_,_,_,_,_,_,_,_,_,_,_,_,rfl,q3⟩:=q3.sp
  try simp(disch:=omega) only[go_sem,ξ,ζ]
  refine caN (by exact nj (q2.to (h':=h3)) n1 n2) ?_;rintro v4 h4 s4 q4;obtain⟨_,_,_,_,_,_,_,_,_,_,_,_,_,_,rfl,q4⟩:=q4.sp
  try simp(disch:=omega) only[go_sem,ξ,ζ]
  exact⟨_,_,rfl,q3.to,q4⟩
 ·rw[if_neg (by decide),if_pos rfl,if_neg (by decide),if_pos rfl,if_neg (by decide),if_pos rfl,if_neg (by decide),if_pos rfl]
  refine Spec.go [(2,.h [] [] [6,7] [6,7,0,1,3,4,2,5,8,9]),(7,.o [0,2,1,3,4,5]),(9,.h [(8,4)] [] [] [0,2,1,3,4]),(10,.h [(9,4)] [] [] [0,1,2,3])] Tryz.func108 rfl rfl (by kernel_rfl) fun C _=>?_
  try simp(disch:=omega) only[go_sem,ξ,ζ]
  refine caN (by exact kR) ?_;rintro v1 h1 s1 ⟨u,rfl,q1⟩;obtain⟨_,_,_,_,_,_,_,_,_,_,_,_,_,_,rfl,q1⟩:=q1.sp
  try simp(disch:=omega) only[go_sem,ξ,ζ]
  refine caN (by exact kS q1) ?_;rintro v2 h2 s2 q2;obtain⟨_,_,_,_,_,_,_,_,_,_,_,_,_,_,rfl,q2⟩:=q2.sp
  try simp(disch:=omega) only[go_sem,ξ,ζ]
  refine caN (by exact kC (q1.to (h':=h2))) ?_;rintro v3 h3 s3 q3;obtain⟨_,_,_,_,_,_,_,_,_,_,_,_,_,_,rfl,q3⟩:=q3.sp
  try simp(disch:=omega) only[go_sem,ξ,ζ]
  refine caN (by exact nj (q2.to (h':=h3)) n1 n2) ?_;rintro v4 h4 s4 q4;obtain⟨_,_,_,_,_,_,_,_,_,_,_,_,_,_,rfl,q4⟩:=q4.sp
  try simp(disch:=omega) only[go_sem,ξ,ζ]
  refine caN (by exact nj (q3.to (h':=h4)) c1 c2) ?_;rintro v5 h5 s5 q5;obtain⟨_,_,_,_,_,_,_,_,_,_,_,_,_,_,rfl,q5⟩:=q5.sp
  try simp(disch:=omega) only[go_sem,ξ,ζ]
  exact⟨_,_,rfl,q4.to,q5⟩
 ·rw[if_neg (by decide),if_neg (by decide),if_pos rfl,if_neg (by decide),if_neg (by decide),if_pos rfl,if_neg (by decide),if_neg (by decide),if_pos rfl,if_neg (by decide),if_neg (by decide),if_pos rfl]
  refine Spec.go [(2,.h [] [] [6,7] [6,7,0,1,3,4,2,5,8,9]),(7,.o [0,2,1,3,4,5]),(9,.h [(8,4)] [] [] [0,2,1,3,4]),(10,.h [(9,4)] [] [] [0,1,2,3])] Tryz.func108 rfl rfl (by kernel_rfl) fun C _=>?_
  try simp(disch:=omega) only[go_sem,ξ,ζ]
  refine caN (by exact kR) ?_;rintro v1 h1 s1 ⟨u,rfl,q1⟩;obtain⟨_,_,_,_,_,_,_,_,_,_,_,_,_,_,rfl,q1⟩:=q1.sp
  try simp(disch:=omega) only[go_sem,ξ,ζ]
  refine caN (by exact kS q1) ?_;rintro v2 h2 s2 q2;obtain⟨_,_,_,_,_,_,_,_,_,_,_,_,_,_,rfl,q2⟩:=q2.sp
  try simp(disch:=omega) only[go_sem,ξ,ζ]
  refine caN (by exact kC (q1.to (h':=h2))) ?_;rintro v3 h3 s3 q3;obtain⟨_,_,_,_,_,_,_,_,_,_,_,_,_,_,rfl,q3⟩:=q3.sp
  try simp(disch:=omega) only[go_sem,ξ,ζ]
  refine caN (by exact nj (q3.to (h':=h3)) c1 c2) ?_;rintro v4 h4 s4 q4;obtain⟨_,_,_,_,_,_,_,_,_,_,_,_,_,_,rfl,q4⟩:=q4.sp
  try simp(disch:=omega) only[go_sem,ξ,ζ]
  exact⟨_,_,rfl,q4,q2.to⟩
 ·rw[if_neg (by decide),if_neg (by decide),if_neg (by decide),if_neg (by decide),if_neg (by decide),if_neg (by decide),if_neg (by decide),if_neg (by decide),if_neg (by decide),if_neg (by decide),if_neg (by decide),if_neg (by decide)]
  refine Spec.go [(2,.h [] [] [6,7] [6,7,0,1,3,4,2,5,8,9]),(7,.o [0,2,1,3,4,5]),(9,.h [(8,4)] [] [] [0,2,1,3,4]),(10,.h [(9,4)] [] [] [0,1,2,3])] Tryz.func108 rfl rfl (by kernel_rfl) fun C _=>?_
  try simp(disch:=omega) only[go_sem,ξ,ζ]
  refine caN (by exact kR) ?_;rintro v1 h1 s1 ⟨u,rfl,q1⟩;obtain⟨_,_,_,_,_,_,_,_,_,_,_,_,_,_,rfl,q1⟩:=q1.sp
  try simp(disch:=omega) only[go_sem,ξ,ζ]
  refine caN (by exact kS q1) ?_;rintro v2 h2 s2 q2;obtain⟨_,_,_,_,_,_,_,_,_,_,_,_,_,_,rfl,q2⟩:=q2.sp
  try simp(disch:=omega) only[go_sem,ξ,ζ]
  refine caN (by exact kC (q1.to (h':=h2))) ?_;rintro v3 h3 s3 q3;obtain⟨_,_,_,_,_,_,_,_,_,_,_,_,_,_,rfl,q3⟩:=q3.sp
  try simp(disch:=omega) only[go_sem,ξ,ζ]
  exact⟨_,_,rfl,q2.to,q3⟩
theorem sc_sz {x:Rat} {w:Nat} (hb:¬x.den*4294967296 < x.num.natAbs) (hw:64≤w) (hw':w≤192):sz (siL x w)≤w+2∧sz (siH x w)≤w+2∧sz (coL x w)≤w+2∧sz (coH x w)≤w+2:=by
 obtain⟨l1,l2⟩:=uP hw hw' hb
 obtain⟨c1,_⟩:=cs_sz (y:=csX (rsA x w) (rsB x w) w) (w:=w)
 obtain⟨_,c2⟩:=cs_sz (y:=csN (rsA x w) (rsB x w) w) (w:=w)
 have c1:sz (csl x w)≤w+2:=c1
 have c2:sz (csh x w)≤w+2:=c2
 have n1:sz (snl x w)≤w+2:=wF l1
 have n2:sz (snh x w)≤w+2:=wF l2
 have e1:=cz (snl x w)
 have e2:=cz (snh x w)
 have e3:=cz (csl x w)
 have e4:=cz (csh x w)
 unfold siL siH coL coH
 refine⟨?_,?_,?_,?_⟩<;>(repeat' split)<;>omega
theorem IB {h0 h:PH} [Le h0 h] {v:Value} {x:Rat} {p:Nat} (hx:Cn h0 v x) (bx:sz x≤1024) (hb:¬x.den*4294967296 < x.num.natAbs) (hp:p≤128):Spec mach 33 #[v,.int .i64 p] h (fun r h'=>Be h' r (gdown (siL x (p+64)) p) (gup (siH x (p+64)) p)) NP:=by
 have kB:=fun {h} [Le h0 h]=>oN (h:=h) (w:=p+64) hx bx hb (by omega) (by omega)
 obtain⟨z1,z2,_,_⟩:=sc_sz (w:=p+64) hb (by omega) (by omega)
 have y1:=sz_gd (siL x (p+64)) p
 have y2:=sz_gu (siH x (p+64)) p
 obtain⟨_,_,_,_,_,_,_,rfl,_⟩:=hx.sa
 clear hb bx
 have F:=Hid.mk (And.intro z1 (And.intro z2 (And.intro y1 y2)));clear z1 z2 y1 y2
 refine Spec.go [] Tryz.func33 rfl rfl (by kernel_rfl) fun C _=>?_
 try simp(disch:=omega) only[go_sem,ξ,ζ]
 refine caN (by exact kB) ?_;rintro v1 h1 s1 ⟨u,t,rfl,q1,q2⟩;obtain⟨_,_,_,_,_,_,_,_,_,_,_,_,_,_,rfl,k1,k2⟩:=q1;obtain⟨_,_,_,_,_,_,_,_,_,_,_,_,_,_,rfl,q2⟩:=q2.sp
 try simp(disch:=omega) only[go_sem,ξ,ζ]
 refine caN (by exact jZ (p:=p) k1 k2 (by have:=F.1;omega) (by have:=F.1;omega) (by have:=F.1;omega) (by have:=F.1;omega) (by have:=F.1;omega)) ?_;rintro v2 h2 s2 ⟨_,_,_,_,_,_,_,_,_,_,_,_,_,_,rfl,r1,r2⟩
 try simp(disch:=omega) only[go_sem,ξ,ζ]
 exact⟨_,_,_,_,_,_,_,_,_,_,_,_,_,_,rfl,r1,r2⟩
theorem Iy {h0 h:PH} [Le h0 h] {v:Value} {x:Rat} {p:Nat} (hx:Cn h0 v x) (bx:sz x≤1024) (hb:¬x.den*4294967296 < x.num.natAbs) (hp:p≤128):Spec mach 34 #[v,.int .i64 p] h (fun r h'=>Be h' r (gdown (coL x (p+64)) p) (gup (coH x (p+64)) p)) NP:=by
 have kB:=fun {h} [Le h0 h]=>oN (h:=h) (w:=p+64) hx bx hb (by omega) (by omega)
 obtain⟨_,_,z1,z2⟩:=sc_sz (w:=p+64) hb (by omega) (by omega)
 have y1:=sz_gd (coL x (p+64)) p
 have y2:=sz_gu (coH x (p+64)) p
 obtain⟨_,_,_,_,_,_,_,rfl,_⟩:=hx.sa
 clear hb bx
 have F:=Hid.mk (And.intro z1 (And.intro z2 (And.intro y1 y2)));clear z1 z2 y1 y2
 refine Spec.go [] Tryz.func34 rfl rfl (by kernel_rfl) fun C _=>?_
 try simp(disch:=omega) only[go_sem,ξ,ζ]
 refine caN (by exact kB) ?_;rintro v1 h1 s1 ⟨u,t,rfl,q1,q2⟩;obtain⟨_,_,_,_,_,_,_,_,_,_,_,_,_,_,rfl,k1,k2⟩:=q2;obtain⟨_,_,_,_,_,_,_,_,_,_,_,_,_,_,rfl,q1⟩:=q1.sp
 try simp(disch:=omega) only[go_sem,ξ,ζ]
 refine caN (by exact jZ (p:=p) k1 k2 (by have:=F.1;omega) (by have:=F.1;omega) (by have:=F.1;omega) (by have:=F.1;omega) (by have:=F.1;omega)) ?_;rintro v2 h2 s2 ⟨_,_,_,_,_,_,_,_,_,_,_,_,_,_,rfl,r1,r2⟩
 try simp(disch:=omega) only[go_sem,ξ,ζ]
 exact⟨_,_,_,_,_,_,_,_,_,_,_,_,_,_,rfl,r1,r2⟩
end Go.Q
