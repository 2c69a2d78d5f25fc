/-
  The brackets' ends are whole multiples of a unit, in order, at most two units apart: no program. Conditions: the functions' domains; precisions up to 128.
  What Turns returns. Conditions: the ends are numbers as they come in.
  Quarter turns in a range: a wide range has them; a wider one has what a narrower one has. Plain. Conditions: none.
  The reference's helpers of layer 2: natural numbers, quotients rounded, numbers of a grid; its domains and exact values. Conditions: the values are natural numbers (N16) and numbers (Qr).
  The reference of layer 2: its grid, the series of the arctangent, pi. Conditions: the values are natural numbers (N16) and numbers (Qr).
  Contracts of package elem: the argument of exp made ready; what Exp returns. Conditions: the argument is small enough, the value is not exact.
  The statements' check of one bracket (sane); the statement ElemPi. Conditions: none.
  The reference of layer 2: quarter turns. Conditions: the values are numbers (Qr).
  The statement ElemInverse. Conditions: the argument is a number as it comes in (Rw).
  The statement ElemWidth. Conditions: the argument is a number as it comes in (Rw).
-/
import Derived.Test.YtacebncjhpdacaaGreatDoorK01ad18PkS
import Derived.Test.YtacebncjhpdacaaGreatDoorK8c97aaPkF
import Derived.Test.YtacebncjhpdacaaGreatDoorK01be2ePkO
import Derived.Test.YtacebncjhpdacaaGreatDoorKfa6cd9PkL
import Derived.Test.YtacebncjhpdacaaGreatDoorK4ee5cePkM
import Derived.Test.YtacebncjhpdacaaGreatDoorKb47986PkR
import Derived.Test.YtacebncjhpdacaaGreatDoorK430aa4PkN
set_option linter.unusedVariables false
set_option linter.unusedSimpArgs false
namespace Go.Q
set_option maxRecDepth 100000
set_option maxHeartbeats 4000000
def Fin2 (p:Nat) (x y:Rat):Prop:=(∃a b:Int,x*2^p=(a:Rat)∧y*2^p=(b:Rat)∧a≤b∧b≤a+2)
theorem sgn_int (neg:Bool) (n p:Nat):sgn neg n (2^p)*2^p=((if neg then -(n:Int) else n:Int):Rat):=by
  have h:=sgn_u n p
  push_cast at h
  rw[sgn_sg]
  cases neg
  · rw[if_neg (by decide),if_neg (by decide),h];rfl
  · rw[if_pos rfl,if_pos rfl,Rat.neg_mul,h];push_cast;rfl
theorem two_out {a b k:Nat} (h:b≤a+2^k):cdiv b (2^k)≤a / 2^k+2:=by
  have h1:=div_up (a:=a) (pow2_ne k)
  exact(cdiv_le_iff (pow2_ne k)).2 (by rw[Nat.mul_add,Nat.mul_comm (2^k)];omega)
theorem bk_fine {neg:Bool} {a b k p:Nat} (h:a≤b) (h2:b≤a+2^k):Fin2 p (bkL neg a b k p) (bkH neg a b k p):=by
  have h3:=two_out h2
  have h4:=div_cdiv (pow2_ne k) h
  unfold bkL bkH
  cases neg
  · exact⟨_,_,sgn_int _ _ _,sgn_int _ _ _,by simp only[Bool.false_eq_true,if_false];omega,by simp only[Bool.false_eq_true,if_false];omega⟩
  · exact⟨_,_,sgn_int _ _ _,sgn_int _ _ _,by simp only[if_true];omega,by simp only[if_true];omega⟩
theorem g_fine {x y:Rat} {p:Nat} (h:x≤y) (h2:(y - x)*2^p≤1):Fin2 p (gdown x p) (gup y p):=by
  have hp:=pow2_pos p
  have e:∀z:Rat,z / 2^p*2^p=z:=fun z=>Rat.div_mul_cancel (by grind)
  unfold gdown gup
  refine⟨_,_,e _,e _,?_,?_⟩
  · have h1:=Rat.floor_le (x*2^p)
    have h3:=@Rat.le_ceil (y*2^p)
    have h4:=Rat.mul_le_mul_of_nonneg_right h (Rat.le_of_lt hp)
    have h5:=Rat.le_trans h1 (Rat.le_trans h4 h3)
    exact_mod_cast h5
  · have h1:=Rat.lt_floor_add_one (x*2^p)
    have h3:=@Rat.ceil_lt (y*2^p)
    generalize(x*2^p).floor=f at*
    generalize(y*2^p).ceil=c at*
    have h6:(c:Rat) < ((f+3:Int):Rat):=by push_cast;grind
    have:=Rat.intCast_lt_intCast.1 h6
    omega
theorem Fin2.same {p:Nat} {x:Rat} (a:Int) (h:x*2^p=(a:Rat)):Fin2 p x x:=⟨a,a,h,h,by omega,by omega⟩
theorem inv_two {V P D L H:Nat} (hV:V=P*D) (hP:0 < P) (v0:0 < V) (hL:V≤L) (h1:L≤H) (h2:(H - L)*2≤D):V*P / H≤cdiv (V*P) L∧cdiv (V*P) L≤V*P / H+2:=by
  have n1:L≠0:=by omega
  have n2:H≠0:=by omega
  refine⟨Nat.le_trans (Nat.div_le_div_left h1 (by omega)) (le_cdiv _ n1),(cdiv_le_iff n1).2 ?_⟩
  have d:=div_up (a:=V*P) n2
  have dm:=Nat.div_mul_le_self (V*P) H
  generalize V*P / H=q at*
  obtain⟨e,rfl⟩:=Nat.exists_eq_add_of_le h1
  rw[show L+e - L=e by omega] at h2
  have q0:q*V≤q*(L+e):=Nat.mul_le_mul_left _ (by omega)
  have q1:q*V≤P*V:=by rw[Nat.mul_comm P];exact Nat.le_trans q0 dm
  have q2:=Nat.le_of_mul_le_mul_right q1 v0
  have q3:(q+1)*(e*2)≤(P+P)*D:=Nat.mul_le_mul (by omega) h2
  grind
theorem exp_fine {x:Rat} {p:Nat} (hb:¬x.den*64 < x.num.natAbs) (hp:p≤128):Fin2 p (expLo x p) (expHi x p):=by
  obtain⟨h1,h2⟩:=exp_wid hb hp
  obtain⟨f1,_⟩:=exp_ge x p
  unfold expLo expHi
  generalize expL x p=L at*
  generalize expH x p=H at*
  by_cases hn:x.num < 0
  · rw[if_pos hn,if_pos hn]
    have e:2^(p+112+p)=2^(p+112)*2^p:=Nat.pow_add ..
    have e2:2^(p+112)=2^p*2^112:=Nat.pow_add ..
    have eD:2^112=2^111*2:=Nat.pow_succ ..
    obtain⟨r1,r2⟩:=inv_two e2 (Nat.pos_of_ne_zero (pow2_ne p)) (Nat.pos_of_ne_zero (pow2_ne (p+112))) f1 h1 (by rw[eD];exact Nat.mul_le_mul_right 2 (Nat.sub_le_iff_le_add'.2 h2))
    rw[e]
    generalize cdiv (2^(p+112)*2^p) L=A at*
    generalize 2^(p+112)*2^p / H=B at*
    exact⟨_,_,sgn_int _ _ _,sgn_int _ _ _,by simp only[Bool.false_eq_true,if_false];omega,by simp only[Bool.false_eq_true,if_false];omega⟩
  · rw[if_neg hn,if_neg hn]
    exact bk_fine (neg:=false) h1 (Nat.le_trans h2 (Nat.add_le_add_left (Nat.pow_le_pow_right (by decide) (by decide)) _))
def piNear (w:Nat):Bool:=Nat.ble (piH w) (piL w+1024)
theorem piNear_all:((List.range 129).all fun i=>piNear (i+32))=true:=by decide+kernel
theorem pi_near {w:Nat} (h1:32≤w) (h2:w≤160):piL w≤piH w∧piH w≤piL w+1024:=by
  have h:=List.all_eq_true.1 piNear_all (w - 32) (List.mem_range.2 (by omega))
  rw[show w - 32+32=w by omega] at h
  exact⟨Nat.le_of_lt (piL_ge h1 (by omega)).2.1,by simpa[piNear] using h⟩
theorem an_both {a b w:Nat} (h1:20≤w) (h2:w≤160) (h:a≤b) (hb:b≤2^w) (h3:b≤a+3):anL a b w≤anH a b w∧anH a b w≤anL a b w+396:=by
  have:=an_wid h1 h2 h hb
  exact⟨an_ord h1 h h h hb hb,by omega⟩
theorem at_fine {x:Rat} {p:Nat} (hp:p≤128):Fin2 p (atLo x p) (atHi x p):=by
  unfold atLo atHi
  obtain⟨p1,p2⟩:=pi_near (w:=p+32) (by omega) (by omega)
  by_cases hb:x.den < x.num.natAbs
  · obtain⟨i1,i2⟩:=invQ_parts (x:=x) (by omega)
    obtain⟨l1,l2⟩:=g_le (x:=invQ x) (w:=p+32) (by rw[i1,i2];simp only[Int.natAbs_natCast];omega)
    obtain⟨a1,a2⟩:=an_both (w:=p+32) (by omega) (by omega) (glo_ghi (invQ x) _) l2 (by have:=ghi_le (invQ x) (p+32);omega)
    refine bk_fine ?_ ?_
    · unfold atA atB;rw[if_pos hb,if_pos hb];omega
    · unfold atA atB atK;rw[if_pos hb,if_pos hb,if_pos hb];omega
  · obtain⟨l1,l2⟩:=g_le (w:=p+32) hb
    obtain⟨a1,a2⟩:=an_both (w:=p+32) (by omega) (by omega) (glo_ghi x _) l2 (by have:=ghi_le x (p+32);omega)
    refine bk_fine ?_ ?_
    · unfold atA atB;rw[if_neg hb,if_neg hb];exact a1
    · unfold atA atB atK;rw[if_neg hb,if_neg hb,if_neg hb];omega
theorem root_near {q:Rat} (h:0≤q) (w:Nat):(rootg true q 2 w - rootg false q 2 w)*((2^w:Nat):Rat)≤1:=by
  rw[rootg_up h,rootg_dn h]
  have e1:=sgn_u (if rtx q 2 w=true then irt 2 (rtw q 2 w) else irt 2 (rtw q 2 w)+1) w
  have e2:=sgn_u (irt 2 (rtw q 2 w)) w
  have:((if rtx q 2 w=true then irt 2 (rtw q 2 w) else irt 2 (rtw q 2 w)+1:Nat):Rat)≤((irt 2 (rtw q 2 w)+1:Nat):Rat):=by
    have:(if rtx q 2 w=true then irt 2 (rtw q 2 w) else irt 2 (rtw q 2 w)+1:Nat)≤irt 2 (rtw q 2 w)+1:=by split<;>omega
    exact_mod_cast this
  push_cast at this
  grind
theorem asH_near {x:Rat} {w:Nat} (dx:x.num.natAbs≤x.den):(asH false x w - asH true x w)*((2^w:Nat):Rat)≤1:=by
  obtain⟨a0,a1⟩:=abQ_bd dx
  have g1:=(asG_bd (u:=true) (w:=w) dx).1
  have g2:=(asG_bd (u:=false) (w:=w) dx).1
  have n:=root_near (asR_bd dx).1 w
  have u0:=u_pos w
  have o:asG false x w≤asG true x w:=root_mono0 (asR_bd dx).1 Rat.le_refl (by decide) w
  unfold asH
  unfold asG at*
  generalize rootg true (asR x) 2 w=R at*
  generalize rootg false (asR x) 2 w=r at*
  generalize abQ x=q at*
  generalize((2^w:Nat):Rat)=u at*
  have i1:(1+R)*(1+R)⁻¹=1:=Rat.mul_inv_cancel _ (by grind)
  have i2:(1+r)*(1+r)⁻¹=1:=Rat.mul_inv_cancel _ (by grind)
  have p1:0 < (1+R)⁻¹:=Rat.inv_pos.2 (by grind)
  have p2:0 < (1+r)⁻¹:=Rat.inv_pos.2 (by grind)
  have p3:(1+R)⁻¹≤1:=by
    have:=rinv_le (a:=1) (b:=1+R) (by decide) (by grind)
    rw[show(1:Rat)⁻¹=1 by decide+kernel] at this
    exact this
  have p4:(1+r)⁻¹≤1:=by
    have:=rinv_le (a:=1) (b:=1+r) (by decide) (by grind)
    rw[show(1:Rat)⁻¹=1 by decide+kernel] at this
    exact this
  generalize(1+R)⁻¹=I at*
  generalize(1+r)⁻¹=J at*
  have e:J - I=(R - r)*(I*J):=by grind
  have m1:0≤(R - r)*u:=Rat.mul_nonneg (by grind) (Rat.le_of_lt u0)
  have m2:I*J≤1*J:=Rat.mul_le_mul_of_nonneg_right p3 (Rat.le_of_lt p2)
  have m3:0≤I*J:=Rat.le_of_lt (Rat.mul_pos p1 p2)
  have m4:(R - r)*u*(I*J)≤1*(I*J):=Rat.mul_le_mul_of_nonneg_right n m3
  have m5:q*((R - r)*u*(I*J))≤1*((R - r)*u*(I*J)):=Rat.mul_le_mul_of_nonneg_right a1 (Rat.mul_nonneg m1 m3)
  have:(q*J - q*I)*u=q*((R - r)*u*(I*J)):=by grind
  rw[this]
  grind
theorem glo_rat {q:Rat} {w:Nat} (h:0≤q):q*((2^w:Nat):Rat)≤((glo q w:Nat):Rat)+1∧((ghi q w:Nat):Rat)≤q*((2^w:Nat):Rat)+1:=by
  have d0:(0:Rat) < (q.den:Rat):=by exact_mod_cast q.den_pos
  have e:=q_den q
  have en:(q.num:Rat)=((q.num.natAbs:Nat):Rat):=by
    have:=Rat.num_nonneg.2 h
    rw[show((q.num.natAbs:Nat):Rat)=((q.num.natAbs:Int):Rat) from rfl,Int.natAbs_of_nonneg this]
  have h1:=div_up (a:=q.num.natAbs*2^w) q.den_nz
  have h2:=cdiv_up (a:=q.num.natAbs*2^w) q.den_nz
  have k1:((q.num.natAbs:Nat):Rat)*((2^w:Nat):Rat)≤((glo q w:Nat):Rat)*(q.den:Rat)+(q.den:Rat):=by exact_mod_cast h1
  have k2:((ghi q w:Nat):Rat)*(q.den:Rat)≤((q.num.natAbs:Nat):Rat)*((2^w:Nat):Rat)+(q.den:Rat):=by exact_mod_cast h2
  rw[←en,←e] at k1 k2
  generalize((2^w:Nat):Rat)=u at*
  generalize((glo q w:Nat):Rat)=A at*
  generalize((ghi q w:Nat):Rat)=B at*
  generalize(q.den:Rat)=d at*
  clear e en h1 h2
  constructor
  · exact Rat.le_of_mul_le_mul_right (by grind) d0
  · exact Rat.le_of_mul_le_mul_right (by grind) d0
theorem as_near {x:Rat} {w:Nat} (h1:20≤w) (h2:w≤160) (dx:x.num.natAbs≤x.den):asL x w≤asU x w∧asU x w≤asL x w+792:=by
  have n:=asH_near (w:=w) dx
  have o:=asH_ord (w:=w) dx dx Rat.le_refl
  obtain⟨l1,_⟩:=glo_rat (w:=w) (asH_bd (u:=true) (w:=w) dx).1
  obtain⟨_,l2⟩:=glo_rat (w:=w) (asH_bd (u:=false) (w:=w) dx).1
  have g:glo (asH true x w) w≤ghi (asH false x w) w:=glo_ghi_le (rat_cross (asH_bd dx).1 o)
  have k:ghi (asH false x w) w≤glo (asH true x w) w+3:=by
    have:((ghi (asH false x w) w:Nat):Rat)≤((glo (asH true x w) w+3:Nat):Rat):=by push_cast;grind
    exact_mod_cast this
  obtain⟨a1,a2⟩:=an_both h1 h2 g (as_arg dx).2 k
  unfold asL asU
  omega
theorem asin_fine {x:Rat} {p:Nat} (hp:p≤128) (dx:x.num.natAbs≤x.den):Fin2 p (asinLo x p) (asinHi x p):=by
  obtain⟨a1,a2⟩:=as_near (w:=p+32) (by omega) (by omega) dx
  exact bk_fine a1 (by omega)
theorem dif_fine {a b c d p k:Nat} (h:a+d≤c+b) (h2:c+b≤a+d+2^k):Fin2 p (gdown (sgn false a (2^(p+k))+ -sgn false b (2^(p+k))) p) (gup (sgn false c (2^(p+k))+ -sgn false d (2^(p+k))) p):=by
  refine g_fine (sgn_dif h) ?_
  have e1:=sgn_u a (p+k)
  have e2:=sgn_u b (p+k)
  have e3:=sgn_u c (p+k)
  have e4:=sgn_u d (p+k)
  have e5:((2^(p+k):Nat):Rat)=(2:Rat)^p*((2^k:Nat):Rat):=by rw[Nat.pow_add,Rat.natCast_mul];push_cast;rfl
  have h3:(c:Rat)+(b:Rat)≤(a:Rat)+(d:Rat)+((2^k:Nat):Rat):=by exact_mod_cast h2
  have u0:=u_pos k
  rw[←e1,←e2,←e3,←e4,e5] at h3
  generalize sgn false a (2^(p+k))=A at*
  generalize sgn false b (2^(p+k))=B at*
  generalize sgn false c (2^(p+k))=C at*
  generalize sgn false d (2^(p+k))=D at*
  refine Rat.le_of_mul_le_mul_right (c:=((2^k:Nat):Rat)) ?_ u0
  grind
theorem ac_fine {x:Rat} {p:Nat} (hp:p≤128) (dx:x.num.natAbs≤x.den):Fin2 p (acLo x p) (acHi x p):=by
  obtain⟨a1,a2⟩:=as_near (w:=p+32) (by omega) (by omega) dx
  obtain⟨p1,p2⟩:=pi_near (w:=p+32) (by omega) (by omega)
  unfold acLo acHi
  by_cases h0:x=0
  · rw[if_pos h0,if_pos h0]
    exact bk_fine p1 (by omega)
  rw[if_neg h0,if_neg h0]
  by_cases hn:x.num < 0
  · rw[if_pos hn,if_pos hn]
    exact bk_fine (by omega) (by omega)
  · rw[if_neg hn,if_neg hn]
    exact dif_fine (k:=33) (by omega) (by omega)
theorem lgm_near {n d w:Nat} (hn:n≠0) (hd:d≠0) (h1:20≤w) (h2:w≤160):lgmL n d w≤lgmH n d w∧lgmH n d w≤lgmL n d w+1000:=by
  obtain⟨l1,l2⟩:=lgm_arg (d:=d) (w:=w) hn
  have o:lgT n d w / lgB n d≤cdiv (lgT n d w) (lgB n d):=le_cdiv _ (lgB_ne hn)
  have k:cdiv (lgT n d w) (lgB n d)≤lgT n d w / lgB n d+1:=by
    have h:=div_up (a:=lgT n d w) (lgB_ne (d:=d) hn)
    exact(cdiv_le_iff (lgB_ne hn)).2 (by rw[Nat.mul_add,Nat.mul_one,Nat.mul_comm (lgB n d)];exact h)
  have t:lgT n d w / lgB n d*3≤2^w:=by
    have a1:=lg_above (n:=n) hd
    have a2:=lg_below (d:=d) hn
    have b0:=lgB_ne (d:=d) hn
    have b:=Nat.div_mul_le_self (lgT n d w) (lgB n d)
    unfold lgT lgB at*
    generalize lgn n (lge n d)=N at*
    generalize lgd d (lge n d)=D at*
    generalize hm:(N - D)*2^w / (N+D)=m at*
    refine Nat.le_of_mul_le_mul_right (c:=N+D) ?_ (by omega)
    have c:(N - D)*3*2^w≤(N+D)*2^w:=Nat.mul_le_mul_right _ (by omega)
    generalize N - D=E at*
    clear hm
    grind
  have:=log_wid h1 h2 o l2 t
  exact⟨log_ord o,by unfold lgmH lgmL;omega⟩
theorem lg2_near {w:Nat} (h1:20≤w) (h2:w≤160):lg2L w≤lg2H w∧lg2H w≤lg2L w+1000:=by
  obtain⟨l1,l2⟩:=lg2_arg w
  have o:2^w / 3≤cdiv (2^w) 3:=le_cdiv _ (by decide)
  have h:=div_up (a:=2^w) (d:=3) (by decide)
  have k:cdiv (2^w) 3≤2^w / 3+1:=(cdiv_le_iff (by decide)).2 (by omega)
  have:=log_wid h1 h2 o l2 (Nat.div_mul_le_self _ _)
  exact⟨lg2_le w,by unfold lg2H lg2L;omega⟩
theorem ln_fine {n d p:Nat} (hn:n≠0) (hd:d≠0) (b1:bl n≤1024) (b2:bl d≤1024) (hp:p≤128):Fin2 p (lnLo n d p) (lnHi n d p):=by
  obtain⟨a1,a2,_,_⟩:=lge_abs b1 b2
  obtain⟨m1,m2⟩:=lgm_near (w:=p+32) hn hd (by omega) (by omega)
  obtain⟨t1,t2⟩:=lg2_near (w:=p+32) (by omega) (by omega)
  by_cases he:0≤lge n d
  · obtain⟨m,hm⟩:∃m:Nat,lge n d=(m:Int):=⟨(lge n d).toNat,by omega⟩
    obtain⟨r1,r2⟩:=ln_pos (p:=p) hm
    rw[r1,r2]
    have k1:=Nat.mul_le_mul_right m t1
    have k2:=Nat.mul_le_mul_right m t2
    rw[Nat.add_mul] at k2
    exact bk_fine (neg:=false) (by omega) (by omega)
  · obtain⟨m,hm⟩:∃m:Nat,0 - lge n d=(m:Int):=⟨(0 - lge n d).toNat,by omega⟩
    obtain⟨r1,r2⟩:=ln_neg (p:=p) hm he
    rw[r1,r2]
    have k1:=Nat.mul_le_mul_right m t1
    have k2:=Nat.mul_le_mul_right m t2
    rw[Nat.add_mul] at k2
    exact dif_fine (k:=32) (by omega) (by omega)
theorem rsub_mul (a b c:Rat):(a - b)*c=a*c - b*c:=by grind
theorem snn_wid {y z w:Nat} (hw:w≤192) (h:y≤z) (hz:z≤2^w):cdiv (z*wvH z w 2) (2^w)≤y*wvL y w 2 / 2^w+3*(z - y)+9:=by
  have hU:=Nat.pos_of_ne_zero (pow2_ne w)
  have k:=wv_wid (f:=2) (y:=z) (z:=y) (.inr rfl) hw hz (Nat.le_trans h hz)
  have c1:=cdiv_up (a:=z*wvH z w 2) (pow2_ne w)
  have c2:=div_up (a:=y*wvL y w 2) (pow2_ne w)
  have l1:wvH z w 2≤2^w:=(waV_le (by decide) 24).1
  rw[show max z y - min z y=z - y by omega] at k
  generalize wvH z w 2=T at*
  generalize wvL y w 2=F at*
  generalize cdiv (z*T) (2^w)=A at*
  generalize y*F / 2^w=B at*
  generalize 2^w=U at*
  obtain⟨d,rfl⟩:=Nat.exists_eq_add_of_le h
  rw[show y+d - y=d by omega] at*
  have k1:y*T≤y*(F+2*d+7):=Nat.mul_le_mul_left _ k
  have k2:d*T≤d*U:=Nat.mul_le_mul_left _ l1
  have k3:y*(2*d+7)≤U*(2*d+7):=Nat.mul_le_mul_right _ (by omega)
  exact Nat.le_of_mul_le_mul_right (c:=U) (by grind) hU
theorem snn_top {z w:Nat}:cdiv (z*wvH z w 2) (2^w)≤z:=by
  have l1:wvH z w 2≤2^w:=(waV_le (by decide) 24).1
  exact(cdiv_le_iff (pow2_ne w)).2 (by rw[Nat.mul_comm (2^w)];exact Nat.mul_le_mul_left _ l1)
theorem grid_num {w:Nat} {z:Int}:((z:Rat) / 2^w).num < 0↔z < 0:=by
  rw[num_lt0,Rat.div_def]
  have hp:=pow2_pos w
  have i0:=Rat.inv_pos.2 hp
  constructor
  · intro h
    have:=Rat.mul_lt_mul_of_pos_right h hp
    rw[Rat.mul_assoc,Rat.inv_mul_cancel _ (by grind),Rat.mul_one,Rat.zero_mul] at this
    exact_mod_cast this
  · intro h
    have h':(z:Rat) < 0:=by exact_mod_cast h
    have:=Rat.mul_lt_mul_of_pos_right h' i0
    rw[Rat.zero_mul] at this
    exact this
theorem snAt_wid {a b:Int} {w:Nat} (hw:w≤192) (h:a≤b) (ha:a.natAbs≤2^w) (hb:b.natAbs≤2^w):
    (snAt ((b:Rat) / 2^w) w false - snAt ((a:Rat) / 2^w) w true)*2^w≤((3*(b - a)+9:Int):Rat):=by
  have i1:=fun n=>sgn_int true n w
  have i2:=fun n=>sgn_int false n w
  unfold snAt
  rw[glo_grid,glo_grid]
  have t1:=snn_top (z:=a.natAbs) (w:=w)
  have t2:=snn_top (z:=b.natAbs) (w:=w)
  have b1:(!(true == true))=false:=rfl
  have b2:(!(false == true))=true:=rfl
  have b3:(!(false == false))=false:=rfl
  have b4:(!(true == false))=true:=rfl
  by_cases h1:a < 0
  · by_cases h2:b < 0
    · rw[decide_eq_true (grid_num.2 h1),decide_eq_true (grid_num.2 h2),b1,b2]
      simp only[Bool.false_eq_true,if_false,if_true]
      rw[rsub_mul,i1,i1]
      have k:=snn_wid (y:=b.natAbs) (z:=a.natAbs) hw (by omega) ha
      simp only[if_true]
      rw[←Rat.intCast_sub]
      exact Rat.intCast_le_intCast.2 (by omega)
    · rw[decide_eq_true (grid_num.2 h1),decide_eq_false (fun c=>h2 (grid_num.1 c)),b1,b3]
      simp only[Bool.false_eq_true,if_false]
      rw[rsub_mul,i1,i2]
      simp only[if_true,Bool.false_eq_true,if_false]
      rw[←Rat.intCast_sub]
      exact Rat.intCast_le_intCast.2 (by omega)
  · have h2:¬b < 0:=by omega
    rw[decide_eq_false (fun c=>h1 (grid_num.1 c)),decide_eq_false (fun c=>h2 (grid_num.1 c)),b3,b4]
    simp only[Bool.false_eq_true,if_false,if_true]
    rw[rsub_mul,i2,i2]
    have k:=snn_wid (y:=a.natAbs) (z:=b.natAbs) hw (by omega) hb
    simp only[Bool.false_eq_true,if_false]
    rw[←Rat.intCast_sub]
    exact Rat.intCast_le_intCast.2 (by omega)
theorem grid_zero {w:Nat} {z:Int}:(z:Rat) / 2^w=0↔z=0:=by
  have hp:=pow2_pos w
  constructor
  · intro h
    have e:(z:Rat) / 2^w*2^w=(z:Rat):=Rat.div_mul_cancel (by grind)
    rw[h,Rat.zero_mul] at e
    exact_mod_cast e.symm
  · rintro rfl
    rw[Rat.div_def,Rat.intCast_zero,Rat.zero_mul]
theorem csX_wid {a b:Int} {w:Nat} (h:a≤b):csN ((a:Rat) / 2^w) ((b:Rat) / 2^w) w≤csX ((a:Rat) / 2^w) ((b:Rat) / 2^w) w∧(csX ((a:Rat) / 2^w) ((b:Rat) / 2^w) w - csN ((a:Rat) / 2^w) ((b:Rat) / 2^w) w:Int)≤b - a:=by
  unfold csX csN
  rw[glo_grid,glo_grid]
  simp only[grid_num,grid_zero]
  split<;>omega
theorem cs_wid {a b:Int} {w:Nat} (hw:w≤192) (h:a≤b) (ha:a.natAbs≤2^w) (hb:b.natAbs≤2^w):
    (sgn false (wvH (csN ((a:Rat) / 2^w) ((b:Rat) / 2^w) w) w 1) (2^w) - sgn false (wvL (csX ((a:Rat) / 2^w) ((b:Rat) / 2^w) w) w 1) (2^w))*2^w≤((3*(b - a)+9:Int):Rat):=by
  obtain⟨c1,c2⟩:=csX_wid (w:=w) h
  have c3:csX ((a:Rat) / 2^w) ((b:Rat) / 2^w) w≤2^w:=by unfold csX;rw[glo_grid,glo_grid];omega
  generalize csX ((a:Rat) / 2^w) ((b:Rat) / 2^w) w=m at*
  generalize csN ((a:Rat) / 2^w) ((b:Rat) / 2^w) w=n at*
  have k:=wv_wid (f:=1) (y:=n) (z:=m) (.inl rfl) hw (by omega) c3
  rw[rsub_mul,sgn_int,sgn_int]
  simp only[Bool.false_eq_true,if_false]
  rw[←Rat.intCast_sub]
  exact Rat.intCast_le_intCast.2 (by omega)
theorem rs_near {x:Rat} {w:Nat} (h1:64≤w) (h2:w≤192) (hx: -4294967296≤x∧x≤4294967296):∃a b:Int,rsA x w=(a:Rat) / 2^w∧rsB x w=(b:Rat) / 2^w∧a≤b∧b - a≤2^42:=by
  obtain⟨k1,k2⟩:=rsK_bd h1 h2 hx
  obtain⟨_,m,_⟩:=rs_mid h1 h2 hx
  obtain⟨_,f2,_,_⟩:=fW_bd h1 h2
  have k1':(-2863311532:Rat)≤(rsK x w:Rat):=Rat.intCast_le_intCast.2 k1
  have k2':(rsK x w:Rat)≤(2863311532:Rat):=Rat.intCast_le_intCast.2 k2
  have hp:=pow2_pos w
  have n:(gW w - fW w)*2^w≤512:=by
    have e1:=sgn_u (piL w) (w+1)
    have e2:=sgn_u (piH w) (w+1)
    have b4:(piH w:Rat)≤(piL w:Rat)+1024:=by exact_mod_cast (pi_fine h1 h2).2
    rw[←e1,←e2] at b4
    have eu:((2^(w+1):Nat):Rat)=(2:Rat)^w*2:=by rw[Nat.pow_succ];push_cast;rfl
    rw[eu] at b4
    unfold fW gW
    grind
  have d0:0≤(gW w - fW w)*2^w:=Rat.mul_nonneg (by grind) (Rat.le_of_lt hp)
  refine⟨_,_,rfl,rfl,?_,?_⟩
  · have h3:=Rat.mul_le_mul_of_nonneg_right m (Rat.le_of_lt hp)
    have h4:=Rat.le_trans (Rat.floor_le _) (Rat.le_trans h3 (@Rat.le_ceil _))
    exact_mod_cast h4
  · generalize hA:x+ -((rsK x w:Rat)*(if rsK x w < 0 then fW w else gW w))=A at*
    generalize hB:x+ -((rsK x w:Rat)*(if rsK x w < 0 then gW w else fW w))=B at*
    have h3:=Rat.lt_floor_add_one (A*2^w)
    have h4:=@Rat.ceil_lt (B*2^w)
    have h5:(B - A)*2^w≤2863311532*512:=by
      generalize(rsK x w:Rat)=k at*
      by_cases hk:rsK x w < 0
      · rw[if_pos hk] at hA hB
        have:(B - A)*2^w=(-k)*((gW w - fW w)*2^w):=by grind
        rw[this]
        have q1:=Rat.mul_le_mul_of_nonneg_right (show -k≤2863311532 by grind) d0
        have q2:=Rat.mul_le_mul_of_nonneg_left n (show(0:Rat)≤2863311532 by decide)
        exact Rat.le_trans q1 q2
      · rw[if_neg hk] at hA hB
        have:(B - A)*2^w=k*((gW w - fW w)*2^w):=by grind
        rw[this]
        have q1:=Rat.mul_le_mul_of_nonneg_right (show k≤2863311532 by grind) d0
        have q2:=Rat.mul_le_mul_of_nonneg_left n (show(0:Rat)≤2863311532 by decide)
        exact Rat.le_trans q1 q2
    generalize(A*2^w).floor=a at*
    generalize(B*2^w).ceil=b at*
    have h6:(b:Rat)≤((a+2^42:Int):Rat):=by
      rw[show((a+2^42:Int):Rat)=(a:Rat)+4398046511104 by push_cast;rfl]
      grind
    have:=Rat.intCast_le_intCast.1 h6
    omega
theorem sc_near {x:Rat} {w:Nat} (h1:64≤w) (h2:w≤192) (hb:¬x.den*4294967296 < x.num.natAbs):
    (snl x w≤snh x w∧(snh x w - snl x w)*2^w≤18446744073709551616)∧(csl x w≤csh x w∧(csh x w - csl x w)*2^w≤18446744073709551616):=by
  obtain⟨a,b,ea,eb,hab,hw⟩:=rs_near h1 h2 (num_bd hb)
  obtain⟨l1,l2⟩:=rs_glo h1 h2 hb
  obtain⟨r1,r2,r3⟩:=rs_bd h1 h2 (num_bd hb)
  have q1:=(snAt_Q ⟨a,ea⟩ l1).1
  have q2:=(snAt_Q ⟨b,eb⟩ l2).2
  have o:=snX_ord r2 r1 r3
  have s1:snl x w≤snh x w:=Rat.le_trans q1 (Rat.le_trans o q2)
  unfold snl snh csl csh at*
  rw[ea,eb] at*
  rw[glo_grid] at l1 l2
  have big:((3*(b - a)+9:Int):Rat)≤18446744073709551616:=by
    rw[show(18446744073709551616:Rat)=((18446744073709551616:Int):Rat) from rfl]
    exact Rat.intCast_le_intCast.2 (by omega)
  refine⟨⟨s1,Rat.le_trans (snAt_wid h2 hab l1 l2) big⟩,?_,Rat.le_trans (cs_wid h2 hab l1 l2) big⟩
  obtain⟨c1,_⟩:=csX_wid (w:=w) hab
  have c3:csX ((a:Rat) / 2^w) ((b:Rat) / 2^w) w≤2^w:=by unfold csX;rw[glo_grid,glo_grid];omega
  generalize csX ((a:Rat) / 2^w) ((b:Rat) / 2^w) w=m at*
  generalize csN ((a:Rat) / 2^w) ((b:Rat) / 2^w) w=n at*
  have k1:=(cs_Q c3).1
  have k2:=(cs_Q (Nat.le_trans c1 c3)).2
  have g:=grid_div (w:=w) c1
  obtain⟨g0,g1⟩:=grid_01 c3
  obtain⟨g2,g3⟩:=grid_01 (Nat.le_trans c1 c3)
  have sq:∀z:Rat,z^2=z*z:=fun z=>by rw[show(2:Nat)=1+1 from rfl,Rat.pow_succ,Rat.pow_one]
  have k3:=(waQ_c (x:=((n:Rat) / ((2^w:Nat):Rat))^2) (y:=((m:Rat) / ((2^w:Nat):Rat))^2) (Rat.pow_nonneg g2) (by
    rw[sq,sq]
    exact Rat.le_trans (Rat.mul_le_mul_of_nonneg_left g g2) (Rat.mul_le_mul_of_nonneg_right g g0)) (by
    rw[sq]
    exact Rat.le_trans (Rat.mul_le_mul_of_nonneg_left g1 g0) (by grind)) false).2.1
  have k4:=waQ_le (f:=1) (x:=((n:Rat) / ((2^w:Nat):Rat))^2) (Nat.le_refl 1) (Rat.pow_nonneg g2) 24
  exact Rat.le_trans k1 (Rat.le_trans k3 (Rat.le_trans k4 k2))
theorem near_opp {x y:Rat} {w:Nat} (h:x≤y∧(y - x)*2^w≤18446744073709551616): -y≤ -x∧(-x - -y)*2^w≤18446744073709551616:=⟨by grind,by grind⟩
theorem si_near {x:Rat} {w:Nat} (h1:64≤w) (h2:w≤192) (hb:¬x.den*4294967296 < x.num.natAbs):
    (siL x w≤siH x w∧(siH x w - siL x w)*2^w≤18446744073709551616)∧(coL x w≤coH x w∧(coH x w - coL x w)*2^w≤18446744073709551616):=by
  obtain⟨a,b⟩:=sc_near h1 h2 hb
  have a':=near_opp a
  have b':=near_opp b
  unfold siL siH coL coH
  by_cases k1:rsK x w % 4=1
  · rw[if_pos k1,if_pos k1,if_pos k1,if_pos k1];exact⟨b,a'⟩
  rw[if_neg k1,if_neg k1,if_neg k1,if_neg k1]
  by_cases k2:rsK x w % 4=2
  · rw[if_pos k2,if_pos k2,if_pos k2,if_pos k2];exact⟨a',b'⟩
  rw[if_neg k2,if_neg k2,if_neg k2,if_neg k2]
  by_cases k3:rsK x w % 4=3
  · rw[if_pos k3,if_pos k3,if_pos k3,if_pos k3];exact⟨b',a⟩
  rw[if_neg k3,if_neg k3,if_neg k3,if_neg k3]
  exact⟨a,b⟩
theorem near_fine {x y:Rat} {p:Nat} (h:x≤y∧(y - x)*2^(p+64)≤18446744073709551616):Fin2 p (gdown x p) (gup y p):=by
  obtain⟨h1,h2⟩:=h
  refine g_fine h1 ?_
  have e:(2:Rat)^(p+64)=2^p*18446744073709551616:=by
    have k:((2^(p+64):Nat):Rat)=((2^p:Nat):Rat)*((2^64:Nat):Rat):=by rw[Nat.pow_add,Rat.natCast_mul]
    rw[show((2^64:Nat):Rat)=18446744073709551616 from rfl] at k
    rw[Rat.natCast_pow,Rat.natCast_pow] at k
    exact k
  rw[e] at h2
  generalize(2:Rat)^p=u at*
  grind
end Go.Q
namespace Go.Q
open Go.Proofs
set_option maxRecDepth 100000
set_option maxHeartbeats 16000000
def wideB (x:Rat):Prop:=1024 < sz x∨x.den*4294967296 < x.num.natAbs
instance (x:Rat):Decidable (wideB x):=inferInstanceAs (Decidable (_∨_))
end Go.Q
namespace Go.Q
open Go.Proofs
set_option maxRecDepth 100000
end Go.Q
namespace Go.Q
open Go.Proofs
set_option maxRecDepth 100000
set_option maxHeartbeats 8000000
end Go.Q
namespace Go.Q
open Go.Proofs
set_option maxRecDepth 100000
set_option maxHeartbeats 8000000
end Go.Q
namespace Go.Q
open Go.Proofs
set_option maxRecDepth 100000
set_option maxHeartbeats 8000000
theorem EReady_exp {h0 h:PH} [Le h0 h] {v:Value} {x:Rat} {p:Int} (hx:Rv h0 v x) (hp:0≤p∧p≤128) (hl:¬1024 < sz x) (hb:¬x.den*64 < x.num.natAbs):Spec mach 79 #[.int .i64 1,v,.int .i64 p] h (fun r h'=>∃b na nl nc da dl dc,r=.tuple #[.agg #[.bool b,.slice na nl nc,.slice da dl dc],.int .i64 0]∧Cn h' (.agg #[.bool b,.slice na nl nc,.slice da dl dc]) x) NP:=by
  have kK:=fun {h} [Le h0 h]=>EKnown_ok (h:=h) (fn:=1) hx (by decide)
  have bx:=hx.sz
  obtain⟨_,_,_,_,_,_,_,rfl,_⟩:=hx.sa
  have d1:defB 1 x=true:=rfl
  refine Spec.go [] Tryz.func79 rfl rfl (by kernel_rfl) fun C _=>?_
  try simp(disch:=omega) only[go_sem,Nat.reduceBEq,Nat.reduceAdd]
  refine caN (by exact kK) ?_;rintro v1 h1 s1 ⟨_,_,_,_,_,_,_,rfl,c⟩
  try simp(disch:=omega) only[go_sem,Nat.reduceBEq,Nat.reduceAdd]
  refine caN (by exact EDefined_spec (fn:=1) c) ?_;rintro v2 h2 s2 rfl
  try simp(disch:=omega) only[go_sem,Nat.reduceBEq,Nat.reduceAdd]
  rw[d1]
  try simp(disch:=omega) only[go_sem,Nat.reduceBEq,Nat.reduceAdd]
  refine caN (by exact TooLong_spec (c.to (h':=h2))) ?_;rintro v3 h3 s3 rfl
  try simp(disch:=omega) only[go_sem,Nat.reduceBEq,Nat.reduceAdd]
  try rw[decide_eq_false hl]
  try simp(disch:=omega) only[go_sem,Nat.reduceBEq,Nat.reduceAdd]
  refine caN (by exact Beyond_spec (n:=64) (c.to (h':=h3)) (by omega) (by decide)) ?_;rintro v4 h4 s4 rfl
  try simp(disch:=omega) only[go_sem,Nat.reduceBEq,Nat.reduceAdd]
  try rw[decide_eq_false hb]
  try simp(disch:=omega) only[go_sem,Nat.reduceBEq,Nat.reduceAdd]
  exact⟨_,_,_,_,_,_,_,rfl,c.to⟩
theorem EApply_exp {h0 h:PH} [Le h0 h] {v:Value} {x y z:Rat} {p:Int} {g:FuncId} (hx:Rv h0 v x) (hp:0≤p∧p≤128) (hl:¬1024 < sz x) (hb:¬x.den*64 < x.num.natAbs) (hx0:x≠0) (hg:∀{h0 h:PH} {a:Value} [Le h0 h],Cn h0 a x→Spec mach g #[a,.int .i64 p] h (fun r h'=>Be h' r y z) NP):
    Spec mach 34 #[.int .i64 1,v,.int .i64 p,.func (.func g) #[] #[]] h (fun r h'=>Be h' r y z) NP:=by
  have kK:=fun {h} [Le h0 h]=>EReady_exp (h:=h) hx hp hl hb
  have e1:exB 1 x=false:=by unfold exB;rw[if_neg (by decide)];exact decide_eq_false hx0
  have kE:=fun {h1 h:PH} {a:Value} [Le h1 h] (c:Cn h1 a x)=>EExact_spec (h:=h) (fn:=1) c
  rw[e1] at kE
  obtain⟨_,_,_,_,_,_,_,rfl,_⟩:=hx.sa
  refine Spec.go [] Tryz.func34 rfl rfl (by kernel_rfl) fun C _=>?_
  try simp(disch:=omega) only[go_sem,Nat.reduceBEq,Nat.reduceAdd]
  refine caN (by exact kK) ?_;rintro v1 h1 s1 ⟨_,_,_,_,_,_,_,rfl,c⟩
  try simp(disch:=omega) only[go_sem,Nat.reduceBEq,Nat.reduceAdd]
  refine caN (by exact kE c) ?_;rintro v2 h2 s2 ⟨_,_,_,_,_,_,_,rfl,_⟩
  try simp(disch:=omega) only[go_sem,Nat.reduceBEq,Nat.reduceAdd]
  refine caN (by exact hg (c.to (h':=h2))) ?_;rintro v3 h3 s3 ⟨_,_,_,_,_,_,_,_,_,_,_,_,_,_,rfl,q3⟩
  try simp(disch:=omega) only[go_sem,Nat.reduceBEq,Nat.reduceAdd]
  exact⟨_,_,_,_,_,_,_,_,_,_,_,_,_,_,rfl,q3⟩
theorem FExp_ok {h0 h:PH} [Le h0 h] {v:Value} {x:Rat} {p:Nat} (hx:Rv h0 v x) (hp:p≤128) (hl:¬1024 < sz x) (hb:¬x.den*64 < x.num.natAbs) (hx0:x≠0):Spec mach 35 #[v,.int .i64 p] h (fun r h'=>Be h' r (expLo x p) (expHi x p)) NP:=by
  have kA:=fun {h} [Le h0 h]=>EApply_exp (h:=h) (p:=p) (g:=25) hx (by omega) hl hb hx0 (fun {h0 h a} _ c=>EExp_spec c (by omega) hb hp)
  obtain⟨_,_,_,_,_,_,_,rfl,_⟩:=hx.sa
  clear hl hb
  refine Spec.go [] Tryz.func35 rfl rfl (by kernel_rfl) fun C _=>?_
  try simp(disch:=omega) only[go_sem,Nat.reduceBEq,Nat.reduceAdd]
  refine caN (by exact kA) ?_;rintro v1 h1 s1 ⟨_,_,_,_,_,_,_,_,_,_,_,_,_,_,rfl,r1,r2⟩
  try simp(disch:=omega) only[go_sem,Nat.reduceBEq,Nat.reduceAdd]
  exact⟨_,_,_,_,_,_,_,_,_,_,_,_,_,_,rfl,r1,r2⟩
end Go.Q
namespace Go.Q
open Go.Proofs
set_option maxRecDepth 100000
set_option maxHeartbeats 8000000
theorem RFrac2_spec {h:PH} {a b:Nat} (ha:a < 2^20) (hb:b < 2^20):Spec mach 37 #[.int .i64 a,.int .i64 b] h (fun v h'=>Qr h' v ((a:Rat) / (b:Rat))) NP:=by
  have S:∀{n:Nat},n < 2^20→sz (((n:Int)):Rat)≤2^35:=by
    intro n hn
    unfold sz
    have e1:bl ((((n:Int)):Rat).num.natAbs)≤64:=bl_le.2 (by simp;omega)
    have e2:bl ((((n:Int)):Rat).den)≤64:=bl_le.2 (by simp)
    omega
  have b1:=S ha
  have b2:=S hb
  have e:((((a:Int)):Rat) / (((b:Int)):Rat))=(a:Rat) / (b:Rat):=rfl
  refine Spec.go [] Tryz.func37 rfl rfl (by kernel_rfl) fun C _=>?_
  try simp(disch:=omega) only[go_sem,Nat.reduceBEq,Nat.reduceAdd]
  refine caN (by exact QInt_spec (n:=a) (by omega) (by omega)) ?_;rintro v1 g1 s1 q1;obtain⟨_,_,_,_,_,_,_,rfl,q1⟩:=q1.sa
  try simp(disch:=omega) only[go_sem,Nat.reduceBEq,Nat.reduceAdd]
  refine caN (by exact QInt_spec (n:=b) (by omega) (by omega)) ?_;rintro v2 g2 s2 q2;obtain⟨_,_,_,_,_,_,_,rfl,q2⟩:=q2.sa
  try simp(disch:=omega) only[go_sem,Nat.reduceBEq,Nat.reduceAdd]
  refine caN (by exact QDiv_spec (q1.to (h':=g2)) q2 b1 b2) ?_;rintro v3 g3 s3 q3;rw[e] at q3;obtain⟨_,_,_,_,_,_,_,rfl,q3⟩:=q3.sa
  try simp(disch:=omega) only[go_sem,Nat.reduceBEq,Nat.reduceAdd]
  exact q3
theorem exp_sane1:expLo 1 3=((21:Nat):Rat) / ((8:Nat):Rat):=by
  unfold expLo
  rw[if_neg (by decide),show expL 1 3 / 2^112=21 by decide+kernel]
  decide+kernel
theorem exp_sane2:expHi 1 3=((11:Nat):Rat) / ((4:Nat):Rat):=by
  unfold expHi
  rw[if_neg (by decide),show cdiv (expH 1 3) (2^112)=22 by decide+kernel]
  decide+kernel
theorem one_rv {h:PH} {b:Nat} (hb:h b=some #[.int .u32 1]):Rv h (.agg #[.bool false,.slice (some ⟨b,0,none⟩) 1 1,.slice none 0 0]) 1:=by
  have e:qof false 1 0=1:=by decide+kernel
  refine⟨false,1,0,⟨some ⟨b,0,none⟩,1,[1],none,0,[],rfl,Arr.of_row (fun _=>hb) (by decide) (by decide) (by decide),Arr.nil _,rfl,rfl,by decide,by decide⟩,?_,e⟩
  unfold lg
  rw[e]
  decide+kernel
theorem sane_spec {h:PH}:Spec mach 8 #[] h (fun r _=>r=.bool true) NP:=by
  have z1:sz (((21:Nat):Rat) / ((8:Nat):Rat))≤2^30:=by decide+kernel
  have z2:sz (((11:Nat):Rat) / ((4:Nat):Rat))≤2^30:=by decide+kernel
  have e1:decide (((21:Nat):Rat) / ((8:Nat):Rat)=((21:Nat):Rat) / ((8:Nat):Rat))=true:=decide_eq_true rfl
  have e2:decide (((11:Nat):Rat) / ((4:Nat):Rat)=((11:Nat):Rat) / ((4:Nat):Rat))=true:=decide_eq_true rfl
  have z1:=Hid.mk z1
  have z2:=Hid.mk z2
  refine Spec.go [(1,.t (.s [0] (.p 0 (.s [1,2,3,4,5,6,7,8] .d))))] Tryz.func8 rfl rfl (by kernel_rfl) fun C _=>?_
  try simp(disch:=omega) only[go_sem,Nat.reduceBEq,Nat.reduceAdd]
  intro b h1 st1 hb
  try simp(disch:=omega) only[go_sem,Nat.reduceBEq,Nat.reduceAdd]
  have hb:=hb (by simp[uw])
  try simp(disch:=omega) only[go_sem,Nat.reduceBEq,Nat.reduceAdd]
  refine caN (by exact FExp_ok (x:=1) (p:=3) (one_rv hb) (by decide) (by decide) (by decide) (by decide)) ?_;rintro v2 h2 s2 ⟨_,_,_,_,_,_,_,_,_,_,_,_,_,_,rfl,r1,r2⟩
  try simp(disch:=omega) only[go_sem,Nat.reduceBEq,Nat.reduceAdd]
  rw[exp_sane1] at r1
  rw[exp_sane2] at r2
  try simp(disch:=omega) only[go_sem,Nat.reduceBEq,Nat.reduceAdd]
  refine caN (by exact RFrac2_spec (a:=21) (b:=8) (by decide) (by decide)) ?_;rintro v3 h3 s3 q3;obtain⟨_,_,_,_,_,_,_,rfl,q3⟩:=q3.sa
  try simp(disch:=omega) only[go_sem,Nat.reduceBEq,Nat.reduceAdd]
  refine caN (by exact Right_spec (r1.to (h':=h3)) q3 z1.out z1.out) ?_;rintro v4 h4 s4 rfl
  try simp(disch:=omega) only[go_sem,Nat.reduceBEq,Nat.reduceAdd,e1,decide_true]
  refine caN (by exact RFrac2_spec (a:=11) (b:=4) (by decide) (by decide)) ?_;rintro v5 h5 s5 q5;obtain⟨_,_,_,_,_,_,_,rfl,q5⟩:=q5.sa
  try simp(disch:=omega) only[go_sem,Nat.reduceBEq,Nat.reduceAdd]
  refine caN (by exact Right_spec (r2.to (h':=h5)) q5 z2.out z2.out) ?_;rintro v6 h6 s6 rfl
  try simp(disch:=omega) only[go_sem,Nat.reduceBEq,Nat.reduceAdd,e2,decide_true]
end Go.Q
namespace Go.Q
open Go.Proofs
set_option maxRecDepth 100000
set_option maxHeartbeats 16000000
end Go.Q
namespace Go.Q
open Go.Proofs
set_option maxRecDepth 100000
set_option maxHeartbeats 8000000
end Go.Q
namespace Go.Q
open Go.Proofs
set_option maxRecDepth 100000
set_option maxHeartbeats 8000000
theorem ex_int (fn:Int) (x:Rat) (p:Nat):∃a:Int,exV fn x*2^p=(a:Rat):=by
  unfold exV
  split
  · exact⟨2^p,by push_cast;rw[Rat.one_mul]⟩
  · exact⟨0,by rw[Rat.zero_mul];rfl⟩
theorem tq_ord (x:Rat) (w:Nat):∀n,tqL x w n≤tqH x w n
  |0=>Rat.le_refl
  | n+1=>by
    have h:=tq_ord x w n
    show(if tq x w (n+1) < tqL x w n then tq x w (n+1) else tqL x w n)≤(if tqH x w n < tq x w (n+1) then tq x w (n+1) else tqH x w n)
    split<;>split<;>grind
theorem g_ints {x y:Rat} {p:Nat} (h:x≤y):∃a b:Int,gdown x p*2^p=(a:Rat)∧gup y p*2^p=(b:Rat)∧a≤b:=by
  have hp:=pow2_pos p
  have e:∀z:Rat,z / 2^p*2^p=z:=fun z=>Rat.div_mul_cancel (by grind)
  unfold gdown gup
  refine⟨_,_,e _,e _,?_⟩
  have h1:=Rat.floor_le (x*2^p)
  have h3:=@Rat.le_ceil (y*2^p)
  have h4:=Rat.mul_le_mul_of_nonneg_right h (Rat.le_of_lt hp)
  have h5:=Rat.le_trans h1 (Rat.le_trans h4 h3)
  exact_mod_cast h5
theorem br_fine {fn:Int} {x:Rat} {p:Nat} (h:brE fn x p=0):∃a b:Int,brL fn x p*2^p=(a:Rat)∧brH fn x p*2^p=(b:Rat)∧a≤b∧(fn≠5→b≤a+2):=by
  obtain⟨bx,_,p1⟩:=br_p h
  obtain⟨hf,_,_,dx,_,k1,k2⟩:=eErr_p (br_e h)
  obtain⟨e1,e2⟩:=br_ser h
  rw[e1,e2,show((p:Int)).toNat=p from rfl]
  have hp:p≤128:=by omega
  cases hb:exB fn x with
  | true=>
    rw[if_pos rfl,if_pos rfl]
    obtain⟨a,ha⟩:=ex_int fn x p
    exact⟨a,a,ha,ha,Int.le_refl _,fun _=>by omega⟩
  | false=>
    rw[if_neg (by decide),if_neg (by decide)]
    have fin:∀{u v:Rat},Fin2 p u v→∃a b:Int,u*2^p=(a:Rat)∧v*2^p=(b:Rat)∧a≤b∧(fn≠5→b≤a+2):=fun⟨a,b,q1,q2,q3,q4⟩=>⟨a,b,q1,q2,q3,fun _=>q4⟩
    clear e1 e2 h
    unfold serL serH
    by_cases h1:fn=1
    · subst h1;exact fin (exp_fine (k1 rfl) hp)
    rw[if_neg h1,if_neg h1]
    by_cases h2:fn=2
    · subst h2
      rw[if_pos rfl,if_pos rfl]
      have hx:0 < x:=by simpa[defB] using dx
      exact fin (ln_fine (num_pos0 hx).2 x.den_nz (Nat.le_trans (sz_num x) bx) (Nat.le_trans (sz_den x) bx) hp)
    rw[if_neg h2,if_neg h2]
    by_cases h3:fn=3
    · subst h3
      rw[if_pos rfl,if_pos rfl]
      exact fin (near_fine (si_near (w:=p+64) (by omega) (by omega) (k2 (.inl rfl))).1)
    rw[if_neg h3,if_neg h3]
    by_cases h4:fn=4
    · subst h4
      rw[if_pos rfl,if_pos rfl]
      exact fin (near_fine (si_near (w:=p+64) (by omega) (by omega) (k2 (.inr (.inl rfl)))).2)
    rw[if_neg h4,if_neg h4]
    by_cases h5:fn=5
    · subst h5
      rw[if_pos rfl,if_pos rfl]
      obtain⟨a,b,q1,q2,q3⟩:=g_ints (p:=p) (tq_ord x (p+64) 3)
      exact⟨a,b,q1,q2,q3,fun c=>absurd rfl c⟩
    rw[if_neg h5,if_neg h5]
    by_cases h6:fn=6
    · subst h6
      rw[if_pos rfl,if_pos rfl]
      exact fin (asin_fine hp (abs_1 dx))
    rw[if_neg h6,if_neg h6]
    by_cases h7:fn=7
    · subst h7
      rw[if_pos rfl,if_pos rfl]
      exact fin (ac_fine hp (abs_1 dx))
    rw[if_neg h7,if_neg h7]
    exact fin (at_fine hp)
theorem QWhole_spec {h0 h:PH} [Le h0 h] {v:Value} {x:Rat} (hx:Qr h0 v x):Spec mach 10 #[v] h (fun v _=>v=.bool (decide (x.den=1))) NP:=by
  obtain⟨_,_,_,_,_,_,_,rfl,hx⟩:=hx.sa
  refine Spec.go [] Tryz.func10 rfl rfl (by kernel_rfl) fun C _=>?_
  try simp(maxSteps:=999999) (disch:=omega) only[go_sem,Nat.reduceBEq,Nat.reduceAdd]
  refine caN (by exact whole_spec hx) ?_;rintro v1 h1 s1 rfl
  try simp(maxSteps:=999999) (disch:=omega) only[go_sem,Nat.reduceBEq,Nat.reduceAdd]
theorem int_den {x:Rat} {a:Int} (h:x=(a:Rat)):decide (x.den=1)=true:=by rw[h];exact decide_eq_true rfl
theorem Width_law {h0 h:PH} [Le h0 h] {v:Value} {neg:Bool} {n d:Nat} {fn p:Int} (hv:Rw h0 v neg n d):Spec mach 3 #[.int .i64 fn,v,.int .i64 p] h (fun r _=>r=.bool true) NP:=by
  obtain⟨xb,xa,xl,xc,ya,yl,yc,rfl,_⟩:=hv.sa
  have no:∀{e:Int} {lo hi:Rat},e≠0→(∀{h1:PH} [Le h0 h1],Spec mach 7 #[.int .i64 fn,.agg #[.bool xb,.slice xa xl xc,.slice ya yl yc],.int .i64 p] h1 (fun r h'=>Ber h' r e lo hi) NP)→Spec mach 3 #[.int .i64 fn,.agg #[.bool xb,.slice xa xl xc,.slice ya yl yc],.int .i64 p] h (fun r _=>r=.bool true) NP:=fun {e lo hi} he kA=>by
    have ee:(e == 0)=false:=by simpa using he
    refine Spec.go [(4,.h [] [] [6,7] [6,7,0,1,3,4,2,5,8,9])] Tryz.func3 rfl rfl (by kernel_rfl) fun C _=>?_
    try simp(maxSteps:=999999) (disch:=omega) only[go_sem,Nat.reduceBEq,Nat.reduceAdd]
    refine caN (by exact kA) ?_;rintro v1 h1 s1 ⟨_,_,_,_,_,_,_,_,_,_,_,_,_,_,rfl,_,_⟩
    try simp(maxSteps:=999999) (disch:=omega) only[go_sem,Nat.reduceBEq,Nat.reduceAdd,ee]
    refine caN (by exact sane_spec) ?_;rintro v2 h2 s2 rfl
    try simp(maxSteps:=999999) (disch:=omega) only[go_sem,Nat.reduceBEq,Nat.reduceAdd]
  by_cases hl:lg neg n d
  · exact no (e:=1) (by decide) (Apply_no hv hl)
  by_cases he:elE fn (qof neg n d) p=0
  · have hs:¬2048 < sz (qof neg n d):=fun c=>hl (.inr (.inr c))
    have hE:brE fn (qof neg n d) p=0:=by unfold brE;rw[if_neg hs];exact he
    have eL:elL fn (qof neg n d) p=brL fn (qof neg n d) p:=by unfold brL;rw[if_neg hs]
    have eH:elH fn (qof neg n d) p=brH fn (qof neg n d) p:=by unfold brH;rw[if_neg hs]
    have kA:=fun {h} [Le h0 h]=>Apply_ok (h:=h) (fn:=fn) (p:=p) (⟨neg,n,d,hv,hl,rfl⟩:Rv h0 _ (qof neg n d))
    rw[he,eL,eH] at kA
    obtain⟨_,p0,p1⟩:=br_p hE
    obtain⟨q,rfl⟩:∃q:Nat,p=(q:Int):=⟨p.toNat,by omega⟩
    obtain⟨a,b,w1,w2,w3,w4⟩:=br_fine hE
    obtain⟨z1,z2⟩:=br_sz fn (qof neg n d) q
    generalize brL fn (qof neg n d) q=lo at*
    generalize brH fn (qof neg n d) q=hi at*
    have i1:=int_den w1
    have i2:=int_den w2
    have hp:=pow2_pos q
    have o:lo≤hi:=by
      have:(a:Rat)≤(b:Rat):=Rat.intCast_le_intCast.2 w3
      rw[←w1,←w2] at this
      exact Rat.le_of_mul_le_mul_right this hp
    have o1:decide (cmpQ lo hi > 0)=false:=by unfold cmpQ;grind
    have zd:=sz_sub hi lo
    have zd:sz (hi - lo)≤2^34:=by omega
    have z2':sz (((2:Int):Rat))≤2^34:=by decide
    have zu:=sz_unscale ((2:Int):Rat) q
    have zs:sz (((2:Int):Rat))≤8:=by decide
    have zu:sz (((2:Int):Rat) / 2^q)≤2^34:=by omega
    have o2:fn≠5→decide (cmpQ (hi - lo) (((2:Int):Rat) / 2^q)≤0)=true:=fun hf=>by
      have k:(b:Rat)≤((a+2:Int):Rat):=Rat.intCast_le_intCast.2 (w4 hf)
      rw[Rat.intCast_add,←w1,←w2] at k
      have e2:((2:Int):Rat) / 2^q*2^q=((2:Int):Rat):=Rat.div_mul_cancel (by grind)
      have:hi - lo≤((2:Int):Rat) / 2^q:=by
        refine Rat.le_of_mul_le_mul_right (c:=2^q) ?_ hp
        rw[e2]
        grind
      unfold cmpQ
      grind
    have kI:=fun {h}=>QInt_spec (h:=h) (n:=2) (by decide) (by decide)
    have ew:IntKind.i64.wrap (0 - (q:Int))= -(q:Int):=by rw[wi64 (by omega) (by omega)];omega
    clear eL eH hE he hl hs w1 w2 w3 w4 o
    generalize hD2:((2:Int):Rat) / 2^q=D2 at*
    have e5:∃c,(fn == 5)=c:=⟨_,rfl⟩
    obtain⟨c5,e5⟩:=e5
    have hq:q≤2^34:=by omega
    have o3:c5=false→decide (cmpQ (hi - lo) D2≤0)=true:=fun hc=>o2 (by rintro rfl;rw[hc] at e5;cases e5)
    have zu:=Hid.mk zu
    clear o2 zs p0 p1 hp
    refine Spec.go [(4,.h [] [] [6,7] [6,7,0,1,3,4,2,5,8,9])] Tryz.func3 rfl rfl (by kernel_rfl) fun C _=>?_
    try simp(maxSteps:=999999) (disch:=omega) only[go_sem,Nat.reduceBEq,Nat.reduceAdd]
    refine caN (by exact kA) ?_;rintro v1 h1 s1 ⟨_,_,_,_,_,_,_,_,_,_,_,_,_,_,rfl,c1,c2⟩
    try simp(maxSteps:=999999) (disch:=omega) only[go_sem,Nat.reduceBEq,Nat.reduceAdd]
    refine caN (by exact QOf_can c1 (Nat.le_trans z1 (by decide))) ?_;rintro v2 h2 s2 q2;obtain⟨_,_,_,_,_,_,_,rfl,q2⟩:=q2.sa
    try simp(maxSteps:=999999) (disch:=omega) only[go_sem,Nat.reduceBEq,Nat.reduceAdd]
    refine caN (by exact QOf_can (c2.to (h':=h2)) (Nat.le_trans z2 (by decide))) ?_;rintro v3 h3 s3 q3;obtain⟨_,_,_,_,_,_,_,rfl,q3⟩:=q3.sa
    try simp(maxSteps:=999999) (disch:=omega) only[go_sem,Nat.reduceBEq,Nat.reduceAdd]
    refine caN (by exact Scaled_spec (q2.to (h':=h3)) (Nat.le_trans z1 (by decide)) hq) ?_;rintro v4 h4 s4 q4;obtain⟨_,_,_,_,_,_,_,rfl,q4⟩:=q4.sa
    try simp(maxSteps:=999999) (disch:=omega) only[go_sem,Nat.reduceBEq,Nat.reduceAdd]
    refine caN (by exact QWhole_spec q4) ?_;rintro v5 h5 s5 rfl
    try simp(maxSteps:=999999) (disch:=omega) only[go_sem,Nat.reduceBEq,Nat.reduceAdd,i1]
    refine caN (by exact Scaled_spec (q3.to (h':=h5)) (Nat.le_trans z2 (by decide)) hq) ?_;rintro v6 h6 s6 q6;obtain⟨_,_,_,_,_,_,_,rfl,q6⟩:=q6.sa
    try simp(maxSteps:=999999) (disch:=omega) only[go_sem,Nat.reduceBEq,Nat.reduceAdd]
    refine caN (by exact QWhole_spec q6) ?_;rintro v7 h7 s7 rfl
    try simp(maxSteps:=999999) (disch:=omega) only[go_sem,Nat.reduceBEq,Nat.reduceAdd,i2]
    refine caN (by exact QCmp_spec (q2.to (h':=h7)) (q3.to (h':=h7)) (Nat.le_trans z1 (by decide)) (Nat.le_trans z2 (by decide))) ?_;rintro v8 h8 s8 rfl
    try simp(maxSteps:=999999) (disch:=omega) only[go_sem,Nat.reduceBEq,Nat.reduceAdd,o1]
    refine caN (by exact sane_spec) ?_;rintro v9 h9 s9 rfl
    try simp(maxSteps:=999999) (disch:=omega) only[go_sem,Nat.reduceBEq,Nat.reduceAdd,e5]
    cases c5
    · have o3:=o3 rfl
      try simp(maxSteps:=999999) (disch:=omega) only[go_sem,Nat.reduceBEq,Nat.reduceAdd]
      refine caN (by exact Diff_spec (q3.to (h':=h9)) (q2.to (h':=h9)) (Nat.le_trans z2 (by decide)) (Nat.le_trans z1 (by decide))) ?_;rintro v10 h10 s10 q10;obtain⟨_,_,_,_,_,_,_,rfl,q10⟩:=q10.sa
      try simp(maxSteps:=999999) (disch:=omega) only[go_sem,Nat.reduceBEq,Nat.reduceAdd]
      refine caN (by exact kI) ?_;rintro v11 h11 s11 q11;obtain⟨_,_,_,_,_,_,_,rfl,q11⟩:=q11.sa
      try simp(maxSteps:=999999) (disch:=omega) only[go_sem,Nat.reduceBEq,Nat.reduceAdd,ew]
      refine caN (by exact Unscaled_spec q11 rfl z2' hq) ?_;rintro v12 h12 s12 q12;rw[hD2] at q12;obtain⟨_,_,_,_,_,_,_,rfl,q12⟩:=q12.sa
      try simp(maxSteps:=999999) (disch:=omega) only[go_sem,Nat.reduceBEq,Nat.reduceAdd]
      refine caN (by exact QCmp_spec (q10.to (h':=h12)) q12 zd zu.out) ?_;rintro v13 h13 s13 rfl
      try simp(maxSteps:=999999) (disch:=omega) only[go_sem,Nat.reduceBEq,Nat.reduceAdd,o3]
    · try simp(maxSteps:=999999) (disch:=omega) only[go_sem,Nat.reduceBEq,Nat.reduceAdd]
  · exact no he (Apply_ok ⟨neg,n,d,hv,hl,rfl⟩)
end Go.Q
