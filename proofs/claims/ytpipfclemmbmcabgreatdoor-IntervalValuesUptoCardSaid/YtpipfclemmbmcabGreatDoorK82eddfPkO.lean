/-
  The brackets of the arctangent and of halved angles keep the order, and what stands on it. Conditions: each theorem's own.
-/
import Derived.Test.YtpipfclemmbmcabGreatDoorK3b89e4PkN
set_option linter.unusedVariables false
set_option linter.unusedSimpArgs false
open Nat renaming le_trans→χ,mul_le_mul_right→ψ,le_refl→η,mul_comm→ρ,pos_of_ne_zero→τ,mul_le_mul_left→ω,mul_assoc→σ,mul_le_mul→qAk,mul_add→qAm,pow_succ→qAn,pow_pos→qAo,pow_add→qAs,pow_le_pow_right→qAv,mul_one→qAz,mul_ne_zero→qBe,mul_left_comm→qBg,zero_le→qBh,mod_lt→qBl
open Bool renaming and_eq_true→φ,false_eq_true→qAw
open Rat renaming natCast_mul→qAl,le_trans→qAq,div_def→qAx,mul_inv_cancel→qBf,le_refl→qBk
open List renaming all_eq_true→qBd
namespace Go.Q
set_option maxRecDepth 100000
set_option maxHeartbeats 4000000
theorem dY {a d:Nat} (_:d≠0):((a / d:Nat):Rat)*(d:Rat)≤(a:Rat):=by exact_mod_cast Nat.div_mul_le_self a d
theorem cZ {a d:Nat} (hd:d≠0):(a:Rat)≤((cdiv a d:Nat):Rat)*(d:Rat):=by
 have:a≤cdiv a d*d:=by rw[ρ];exact(az hd).1 (η _)
 exact_mod_cast this
theorem arcV_Q {w s t:Nat} {x:Rat} (hw:20≤w) (hx:0≤x) (hs:(s:Rat)≤x*((2^w:Nat):Rat)) (ht:x*((2^w:Nat):Rat)≤(t:Rat)) (ls:s≤2^w) (lt:t≤2^w):
  ∀j,j≤39→((arcV w s t false j:Nat):Rat)≤((2^w:Nat):Rat)*arcQ x false j∧((2^w:Nat):Rat)*arcQ x true j≤((arcV w s t true j:Nat):Rat)
 | 0,_=>by
  have u0:=u_pos w
  rw[EQ,vR]
  constructor
  ·have h1:=dY (a:=2^w*81 - t*79) (d:=79*81) (by decide)
   have e:((2^w*81 - t*79:Nat):Rat)=((2^w:Nat):Rat)*81 - (t:Rat)*79:=by
    have:((2^w*81 - t*79:Nat):Rat)+((t*79:Nat):Rat)=((2^w*81:Nat):Rat):=by
     rw[←Rat.natCast_add];congr 1;omega
    rw[qAl,qAl] at this
    have c1:((79:Nat):Rat)=79:=rfl
    have c2:((81:Nat):Rat)=81:=rfl
    rw[c1,c2] at this
    generalize((2^w*81 - t*79:Nat):Rat)=z at*
    grind
   rw[e] at h1
   generalize((2^w:Nat):Rat)=u at*
   generalize(((2^w*81 - t*79) / (79*81):Nat):Rat)=V at*
   have c3:((79*81:Nat):Rat)=6399:=rfl
   rw[c3] at h1
   show V≤u*((79:Rat)⁻¹ - x*(81:Rat)⁻¹)
   have i1:(79:Rat)⁻¹=81 / 6399:=by decide+kernel
   have i2:(81:Rat)⁻¹=79 / 6399:=by decide+kernel
   rw[i1,i2]
   grind
  ·have h1:=cZ (a:=2^w) (d:=79) (by decide)
   show((2^w:Nat):Rat)*(79:Rat)⁻¹≤_
   have c1:((79:Nat):Rat)=79:=rfl
   rw[c1] at h1
   have i1:(79:Rat)*(79:Rat)⁻¹=1:=by decide+kernel
   have i0:(0:Rat)≤(79:Rat)⁻¹:=by decide+kernel
   have:=mlr h1 i0
   rw[Rat.mul_assoc,i1,Rat.mul_one] at this
   exact this
 | j + 1,hj=>by
  obtain⟨h1,h2⟩:=arcV_Q hw hx hs ht ls lt j (by omega)
  obtain⟨b1,b2⟩:=sR (w:=w) (s:=s) (t:=t) (j:=j) hw ls lt (by omega)
  have u0:=u_pos w
  have hk:(77 - 2*j)*2^w≠0:=qBe (by omega) (am w)
  have k0:(0:Rat) < ((77 - 2*j:Nat):Rat):=by exact_mod_cast (show 0 < 77 - 2*j by omega)
  have i1:((77 - 2*j:Nat):Rat)*((77 - 2*j:Nat):Rat)⁻¹=1:=qBf _ (by grind)
  have v1:(0:Rat)≤((arcV w s t true j:Nat):Rat):=by exact_mod_cast qBh _
  have v2:(0:Rat)≤((arcV w s t false j:Nat):Rat):=by exact_mod_cast qBh _
  have xu:0≤x*((2^w:Nat):Rat):=mnn hx (llt u0)
  have m1:=mlr ht v1
  have m2:=mll h2 xu
  have m3:=mlr hs v2
  have m4:=mll h1 xu
  rw[Az,vT,pg,pg]
  have c1:=dY (a:=2^w*2^w - t*arcV w s t true j*(77 - 2*j)) hk
  have c2:=cZ (a:=2^w*2^w - s*arcV w s t false j*(77 - 2*j)) hk
  have e1:((2^w*2^w - t*arcV w s t true j*(77 - 2*j):Nat):Rat)=((2^w:Nat):Rat)*((2^w:Nat):Rat) - (t:Rat)*((arcV w s t true j:Nat):Rat)*((77 - 2*j:Nat):Rat):=by
   have:((2^w*2^w - t*arcV w s t true j*(77 - 2*j):Nat):Rat)+((t*arcV w s t true j*(77 - 2*j):Nat):Rat)=((2^w*2^w:Nat):Rat):=by
    rw[←Rat.natCast_add,Nat.sub_add_cancel b1]
   rw[qAl,qAl,qAl] at this
   generalize((2^w*2^w - t*arcV w s t true j*(77 - 2*j):Nat):Rat)=z at*
   grind
  have e2:((2^w*2^w - s*arcV w s t false j*(77 - 2*j):Nat):Rat)=((2^w:Nat):Rat)*((2^w:Nat):Rat) - (s:Rat)*((arcV w s t false j:Nat):Rat)*((77 - 2*j:Nat):Rat):=by
   have:((2^w*2^w - s*arcV w s t false j*(77 - 2*j):Nat):Rat)+((s*arcV w s t false j*(77 - 2*j):Nat):Rat)=((2^w*2^w:Nat):Rat):=by
    rw[←Rat.natCast_add,Nat.sub_add_cancel b2]
   rw[qAl,qAl,qAl] at this
   generalize((2^w*2^w - s*arcV w s t false j*(77 - 2*j):Nat):Rat)=z at*
   grind
  rw[e1,qAl (77 - 2*j)] at c1
  rw[e2,qAl (77 - 2*j)] at c2
  clear e1 e2 b1 b2 hk
  generalize(((2^w*2^w - t*arcV w s t true j*(77 - 2*j)) / ((77 - 2*j)*2^w):Nat):Rat)=Z1 at*
  generalize((cdiv (2^w*2^w - s*arcV w s t false j*(77 - 2*j)) ((77 - 2*j)*2^w):Nat):Rat)=Z2 at*
  generalize((arcV w s t true j:Nat):Rat)=V at*
  generalize((arcV w s t false j:Nat):Rat)=W at*
  generalize hK:((77 - 2*j:Nat):Rat)=K at*
  generalize((2^w:Nat):Rat)=u at*
  simp only[Bool.not_false,Bool.not_true]
  generalize arcQ x true j=Q at*
  generalize arcQ x false j=R at*
  have ku:0 < K*u:=Rat.mul_pos k0 u0
  have n1:x*u*(u*Q)≤(t:Rat)*V:=qAq m2 m1
  have n2:(s:Rat)*W≤x*u*(u*R):=qAq m3 m4
  have n3:=mlr n1 (llt k0)
  have n4:=mlr n2 (llt k0)
  constructor
  ·refine lmm (c:=K*u) ?_ ku
   have:u*(K⁻¹ - x*Q)*(K*u)=u*u*(K*K⁻¹) - x*u*(u*Q)*K:=by grind
   rw[this,i1]
   grind
  ·refine lmm (c:=K*u) ?_ ku
   have:u*(K⁻¹ - x*R)*(K*u)=u*u*(K*K⁻¹) - x*u*(u*R)*K:=by grind
   rw[this,i1]
   grind
theorem grid_sq {a w:Nat}:((a:Rat) / ((2^w:Nat):Rat))^2*((2^w:Nat):Rat)*((2^w:Nat):Rat)=(a:Rat)*(a:Rat):=by
 have u0:=u_pos w
 have e:(a:Rat) / ((2^w:Nat):Rat)*((2^w:Nat):Rat)=(a:Rat):=Rat.div_mul_cancel (by grind)
 have e2:((a:Rat) / ((2^w:Nat):Rat))^2=(a:Rat) / ((2^w:Nat):Rat)*((a:Rat) / ((2^w:Nat):Rat)):=by rw[show(2:Nat)=1+1 from rfl,Rat.pow_succ,Rat.pow_one]
 rw[e2]
 generalize(a:Rat) / ((2^w:Nat):Rat)=q at*
 rw[←e]
 grind
theorem sq_in {a b c w:Nat} (h1:a≤c) (h2:c≤b):((sqL a w:Nat):Rat)≤((c:Rat) / ((2^w:Nat):Rat))^2*((2^w:Nat):Rat)∧((c:Rat) / ((2^w:Nat):Rat))^2*((2^w:Nat):Rat)≤((sqH b w:Nat):Rat):=by
 have u0:=u_pos w
 have g:=grid_sq (a:=c) (w:=w)
 have d1:=dY (a:=a*a) (d:=2^w) (am w)
 have d2:=cZ (a:=b*b) (d:=2^w) (am w)
 have l1:((a*a:Nat):Rat)≤((c*c:Nat):Rat):=by exact_mod_cast qAk h1 h1
 have l2:((c*c:Nat):Rat)≤((b*b:Nat):Rat):=by exact_mod_cast qAk h2 h2
 have ec:((c*c:Nat):Rat)=(c:Rat)*(c:Rat):=qAl c c
 rw[ec,←g] at l1 l2
 unfold sqL sqH
 generalize((c:Rat) / ((2^w:Nat):Rat))^2*((2^w:Nat):Rat)=q at*
 exact⟨lmm (qAq d1 l1) u0,lmm (qAq l2 d2) u0⟩
theorem nQ {a b c w:Nat} (hw:20≤w) (h1:a≤c) (h2:c≤b) (lb:b≤2^w):((arcL a b w:Nat):Rat)≤(c:Rat) / ((2^w:Nat):Rat)*arcQ (((c:Rat) / ((2^w:Nat):Rat))^2) false 39*((2^w:Nat):Rat)∧(c:Rat) / ((2^w:Nat):Rat)*arcQ (((c:Rat) / ((2^w:Nat):Rat))^2) true 39*((2^w:Nat):Rat)≤((arcH a b w:Nat):Rat):=by
 have u0:=u_pos w
 obtain⟨q1,q2⟩:=sq_in (w:=w) h1 h2
 have x0:0≤(c:Rat) / ((2^w:Nat):Rat):=by
  rw[qAx]
  exact mnn (by exact_mod_cast qBh c) (llt (Rat.inv_pos.2 u0))
 obtain⟨v1,v2⟩:=arcV_Q hw (Rat.pow_nonneg (n:=2) x0) q1 q2 (mj (χ h1 (χ h2 lb))) (jV lb) 39 (η _)
 have e:(c:Rat) / ((2^w:Nat):Rat)*((2^w:Nat):Rat)=(c:Rat):=Rat.div_mul_cancel (by grind)
 have d1:=dY (a:=a*arcV w (sqL a w) (sqH b w) false 39) (d:=2^w) (am w)
 have d2:=cZ (a:=b*arcV w (sqL a w) (sqH b w) true 39) (d:=2^w) (am w)
 have l1:((a*arcV w (sqL a w) (sqH b w) false 39:Nat):Rat)≤((c*arcV w (sqL a w) (sqH b w) false 39:Nat):Rat):=by exact_mod_cast ψ _ h1
 have l2:((c*arcV w (sqL a w) (sqH b w) true 39:Nat):Rat)≤((b*arcV w (sqL a w) (sqH b w) true 39:Nat):Rat):=by exact_mod_cast ψ _ h2
 rw[qAl c] at l1 l2
 unfold arcL arcH
 have c0:(0:Rat)≤(c:Rat):=by exact_mod_cast qBh c
 have m1:=mll v1 c0
 have m2:=mll v2 c0
 generalize arcQ (((c:Rat) / ((2^w:Nat):Rat))^2) false 39=P at*
 generalize arcQ (((c:Rat) / ((2^w:Nat):Rat))^2) true 39=Q at*
 generalize(c:Rat) / ((2^w:Nat):Rat)=x at*
 refine⟨lmm (c:=((2^w:Nat):Rat)) ?_ u0,lmm (c:=((2^w:Nat):Rat)) ?_ u0⟩
 ·refine qAq (qAq d1 l1) ?_
  generalize((2^w:Nat):Rat)=u at*
  rw[←e] at m1 ⊢
  grind
 ·refine qAq ?_ (qAq l2 d2)
  generalize((2^w:Nat):Rat)=u at*
  rw[←e] at m2 ⊢
  grind
theorem fT {a b w:Nat} (h:a≤b):(a:Rat) / ((2^w:Nat):Rat)≤(b:Rat) / ((2^w:Nat):Rat):=by
 rw[qAx,qAx]
 exact mlr (by exact_mod_cast h) (llt (Rat.inv_pos.2 (u_pos w)))
theorem arc_ord {a1 b1 a2 b2 w:Nat} (hw:20≤w) (h1:a1≤b1) (h2:a2≤b2) (h:a1≤b2) (l1:b1≤2^w) (l2:b2≤2^w):arcL a1 b1 w≤arcH a2 b2 w:=by
 have u0:=u_pos w
 have k1:=(nQ hw (η a1) h1 l1).1
 have k2:=(nQ hw (Nat.le_max_right a1 a2) (Nat.max_le.2 ⟨h,h2⟩) l2).2
 have x0:0≤(a1:Rat) / ((2^w:Nat):Rat):=by
  rw[qAx]
  exact mnn (by exact_mod_cast qBh a1) (llt (Rat.inv_pos.2 u0))
 have y1:((max a1 a2:Nat):Rat) / ((2^w:Nat):Rat)≤1:=by
  have:=fT (w:=w) (χ (Nat.max_le.2 ⟨h,h2⟩) l2)
  have e:((2^w:Nat):Rat) / ((2^w:Nat):Rat)=1:=by rw[qAx];exact qBf _ (by grind)
  rw[e] at this
  exact this
 have k3:=ut x0 (fT (w:=w) (Nat.le_max_left a1 a2)) y1
 have k4:=mlr k3 (llt u0)
 exact_mod_cast qAq k1 (qAq k4 k2)
theorem Jv (n:Nat):irt 2 n≤rtUp n:=by unfold rtUp;split<;>omega
theorem wC (n:Nat):n≤rtUp n*rtUp n:=by
 unfold rtUp
 split
 ·rename_i h;rw[Nat.pow_two] at h;omega
 ·refine Nat.le_of_lt (Nat.lt_of_not_le fun c=>?_)
  have:=jx (n:=2) (a:=n) (j:=irt 2 n+1) (by decide) (by rw[Nat.pow_two];exact c)
  omega
theorem rtUp_le {n r:Nat} (h:n≤r*r):rtUp n≤r:=by
 have h1:=jS (n:=2) (a:=n) (by decide)
 have h2:irt 2 n≤r:=by
  refine Nat.le_of_not_lt fun c=>?_
  have:=qAk (Nat.succ_le_of_lt c) (Nat.succ_le_of_lt c)
  rw[Nat.pow_two] at h1
  have e:(r+1)*(r+1)=r*r+2*r+1:=by rw[Nat.add_mul,qAm];omega
  have:(r+1)*(r+1)≤irt 2 n*irt 2 n:=this
  omega
 unfold rtUp
 split
 ·exact h2
 ·rename_i hne
  rcases Nat.lt_or_eq_of_le h2 with c |c
  ·omega
  ·rw[c,Nat.pow_two] at hne h1;omega
theorem xU {a b w:Nat} (h:a≤b):hvL a w≤hvL b w:=by
 obtain⟨d,rfl⟩:=Nat.exists_eq_add_of_le h
 unfold hvL
 have hU:=τ (am w)
 have h1:=wC (2^(2*w)+a*a)
 have hp:=τ (am (2*w))
 have ra:a≤rtUp (2^(2*w)+a*a):=by
  refine Nat.le_of_not_lt fun c=>?_
  have:=Nat.mul_lt_mul'' c c
  omega
 have h2:rtUp (2^(2*w)+(a+d)*(a+d))≤rtUp (2^(2*w)+a*a)+d:=by
  refine rtUp_le ?_
  generalize rtUp (2^(2*w)+a*a)=r at*
  have e1:(r+d)*(r+d)=r*r+2*(r*d)+d*d:=by rw[Nat.add_mul,qAm,qAm,ρ d r];omega
  have e2:(a+d)*(a+d)=a*a+2*(a*d)+d*d:=by rw[Nat.add_mul,qAm,qAm,ρ d a];omega
  have:=ψ d ra
  omega
 generalize rtUp (2^(2*w)+a*a)=r at*
 generalize rtUp (2^(2*w)+(a+d)*(a+d))=q at*
 generalize 2^w=U at*
 refine(Nat.le_div_iff_mul_le (by omega)).2 ?_
 have c1:=Nat.div_mul_le_self (a*U) (U+r)
 have c2:a*U / (U+r)≤a*U / (U+r):=η _
 have c3:a*U / (U+r)≤U:=Nat.div_le_of_le_mul (by rw[Nat.add_mul,ρ a U];have:=ψ U ra;rw[ρ U a];omega)
 generalize a*U / (U+r)=m at*
 have c4:m*(U+q)≤m*(U+r+d):=ω _ (by omega)
 have c5:m*d≤U*d:=ψ _ c3
 rw[qAm m (U+r) d] at c4
 rw[Nat.add_mul,ρ d U]
 omega
theorem hv_le (b w:Nat):hvL b w≤hvH b w:=by
 unfold hvL hvH
 have hU:=τ (am w)
 have h:=Jv (2^(2*w)+b*b)
 refine χ (Nat.div_le_div_left (Nat.add_le_add_left h _) (by omega)) (i8 _ (by omega))
theorem dN {a b w:Nat} (h:a≤b):hvL a w≤hvH b w:=χ (xU h) (hv_le b w)
theorem xA {a1 b1 a2 b2 w:Nat} (hw:20≤w) (h1:a1≤b1) (h2:a2≤b2) (h:a1≤b2) (l1:b1≤2^w) (l2:b2≤2^w):anL a1 b1 w≤anH a2 b2 w:=by
 unfold anL anH
 refine ψ _ (arc_ord hw (dN (dN h1)) (dN (dN h2)) (dN (dN h)) ?_ ?_)
 ·exact χ (dk _ _) (χ (dk _ _) l1)
 ·exact χ (dk _ _) (χ (dk _ _) l2)
def sqA (n:Nat):Nat→Nat→Nat
 |0,r=>r
 |k+1,r=>if Nat.ble ((r+2^k)*(r+2^k)) n then sqA n k (r+2^k) else sqA n k r
def topC (w a r:Nat):Nat:=a*2^w / (2^w+r)
def topR (w a:Nat):Nat:=sqA (2^(2*w)+a*a) (w+1) 0+1
def topA (w:Nat):Nat:=topC w (2^w) (topR w (2^w))
def topB (w:Nat):Nat:=topC w (topA w) (topR w (topA w))
def topL (w a:Nat):Bool:=Nat.blt ((topR w a - 1)*(topR w a - 1)) (2^(2*w)+a*a)
def topOk (w:Nat):Bool:=topL w (2^w) && topL w (topA w) && Nat.ble (16*arcH (topB w*2^64) (topB w*2^64) (w+64)) (piH w*2^64)
theorem JZ:((List.range 129).all fun i=>topOk (i+32))=true:=by decide+kernel
theorem top_ok {w:Nat} (h1:32≤w) (h2:w≤160):topL w (2^w)=true∧topL w (topA w)=true∧16*arcH (topB w*2^64) (topB w*2^64) (w+64)≤piH w*2^64:=by
 have h:=qBd.1 JZ (w - 32) (List.mem_range.2 (by omega))
 rw[show w - 32+32=w by omega] at h
 unfold topOk at h
 simp only[φ,Nat.ble_eq] at h
 exact⟨h.1.1,h.1.2,h.2⟩
theorem G4 {w a:Nat} (h:topL w a=true):hvL a w≤topC w a (topR w a):=by
 unfold topL at h
 have h:(topR w a - 1)*(topR w a - 1)+1≤2^(2*w)+a*a:=by simpa[Nat.blt,Nat.ble_eq] using h
 have k:topR w a≤rtUp (2^(2*w)+a*a):=by
  refine Nat.le_of_not_lt fun c=>?_
  have h1:=wC (2^(2*w)+a*a)
  have:=qAk (show rtUp (2^(2*w)+a*a)≤topR w a - 1 by omega) (show rtUp (2^(2*w)+a*a)≤topR w a - 1 by omega)
  omega
 unfold hvL topC
 have hU:=τ (am w)
 exact Nat.div_le_div_left (Nat.add_le_add_left k _) (by omega)
theorem sQ {a b w:Nat} (h1:32≤w) (h2:w≤160) (ha:a≤2^w) (hab:hvL (hvL a w) w≤b) (lb:b≤2^w):16*arcL (hvL (hvL a w) w) b w≤piH w:=by
 obtain⟨t1,t2,t3⟩:=top_ok h1 h2
 have ht:hvL (hvL a w) w≤topB w:=by
  have k1:=χ (xU ha) (G4 t1)
  exact χ (xU k1) (G4 t2)
 have tA:topA w≤2^w:=by
  unfold topA topC
  have hU:=τ (am w)
  exact Nat.div_le_of_le_mul (by rw[Nat.add_mul];omega)
 have tB:topB w≤2^w:=by
  refine χ ?_ tA
  unfold topB topC
  have hU:=τ (am w)
  exact Nat.div_le_of_le_mul (by rw[Nat.add_mul,ρ (topA w)];exact Nat.le_add_right _ _)
 have u0:=u_pos w
 have v0:=u_pos (w+64)
 have ew:((2^(w+64):Nat):Rat)=((2^w:Nat):Rat)*((2^64:Nat):Rat):=by rw[qAs,qAl]
 have k1:=(nQ (by omega) (η (hvL (hvL a w) w)) hab lb).1
 have lb':topB w*2^64≤2^(w+64):=by rw[qAs];exact ψ _ tB
 have k2:=(nQ (w:=w+64) (by omega) (η (topB w*2^64)) (η _) lb').2
 have p0:(0:Rat) < ((2^64:Nat):Rat):=by decide+kernel
 have ey:((topB w*2^64:Nat):Rat) / ((2^(w+64):Nat):Rat)=(topB w:Rat) / ((2^w:Nat):Rat):=by
  have a1:((topB w*2^64:Nat):Rat) / ((2^(w+64):Nat):Rat)*((2^(w+64):Nat):Rat)=((topB w*2^64:Nat):Rat):=Rat.div_mul_cancel (by grind)
  have a2:(topB w:Rat) / ((2^w:Nat):Rat)*((2^w:Nat):Rat)=(topB w:Rat):=Rat.div_mul_cancel (by grind)
  rw[qAl] at a1 ⊢
  rw[ew] at a1 v0 ⊢
  generalize(topB w:Rat)*((2^64:Nat):Rat) / (((2^w:Nat):Rat)*((2^64:Nat):Rat))=z1 at*
  generalize(topB w:Rat) / ((2^w:Nat):Rat)=z2 at*
  rw[←a2] at a1
  have:(z1 - z2)*(((2^w:Nat):Rat)*((2^64:Nat):Rat))=0:=by grind
  rcases Rat.mul_eq_zero.1 this with c |c
  ·grind
  ·grind
 rw[ey] at k2
 have x0:0≤(hvL (hvL a w) w:Rat) / ((2^w:Nat):Rat):=by
  rw[qAx]
  exact mnn (by exact_mod_cast qBh _) (llt (Rat.inv_pos.2 u0))
 have y1:(topB w:Rat) / ((2^w:Nat):Rat)≤1:=by
  have:=fT (w:=w) tB
  have e:((2^w:Nat):Rat) / ((2^w:Nat):Rat)=1:=by rw[qAx];exact qBf _ (by grind)
  rw[e] at this
  exact this
 have k3:=ut x0 (fT (w:=w) ht) y1
 have k4:=mlr k3 (llt u0)
 have k5:=mlr (qAq k1 k4) (llt p0)
 rw[ew] at k2
 have k6:((arcL (hvL (hvL a w) w) b w:Nat):Rat)*((2^64:Nat):Rat)≤((arcH (topB w*2^64) (topB w*2^64) (w+64):Nat):Rat):=by
  refine qAq k5 (qAq ?_ k2)
  rw[Rat.mul_assoc _ ((2^w:Nat):Rat)]
  exact qBk
 have k7:arcL (hvL (hvL a w) w) b w*2^64≤arcH (topB w*2^64) (topB w*2^64) (w+64):=by exact_mod_cast k6
 have k8:16*arcL (hvL (hvL a w) w) b w*2^64≤piH w*2^64:=by
  rw[σ]
  exact χ (ω 16 k7) t3
 exact Nat.le_of_mul_le_mul_right k8 (qAo (by decide))
theorem fv {x y:Rat} (hx:0≤x) (h:x≤y):x.num.natAbs*y.den≤y.num.natAbs*x.den:=by
 have h1:=(Rat.le_iff x y).1 h
 have a1:=Rat.num_nonneg.2 hx
 have a2:=Rat.num_nonneg.2 (qAq hx h)
 have e1:((x.num.natAbs*y.den:Nat):Int)=x.num*y.den:=by rw[Int.natCast_mul,Int.natAbs_of_nonneg a1]
 have e2:((y.num.natAbs*x.den:Nat):Int)=y.num*x.den:=by rw[Int.natCast_mul,Int.natAbs_of_nonneg a2]
 omega
theorem iB {x y:Rat} {w:Nat} (h:x.num.natAbs*y.den≤y.num.natAbs*x.den):glo x w≤ghi y w:=by
 unfold glo ghi
 refine AF y.den_nz ?_
 have h1:=Nat.div_mul_le_self (x.num.natAbs*2^w) x.den
 generalize x.num.natAbs*2^w / x.den=q at*
 refine Nat.le_of_mul_le_mul_right (c:=x.den) ?_ (τ x.den_nz)
 have h2:=ψ y.den h1
 have h3:=ψ (2^w) h
 rw[show y.den*q*x.den=q*x.den*y.den by rw[ρ y.den,Nat.mul_right_comm]]
 rw[show x.num.natAbs*2^w*y.den=x.num.natAbs*y.den*2^w by rw[Nat.mul_right_comm]] at h2
 rw[show y.num.natAbs*2^w*x.den=y.num.natAbs*x.den*2^w by rw[Nat.mul_right_comm]]
 exact χ h2 h3
theorem num_le {x y:Rat} (hx:0≤x) (h:x≤y):x.den < x.num.natAbs→y.den < y.num.natAbs:=by
 intro k
 have h1:=fv hx h
 have p1:=x.den_pos
 refine Nat.lt_of_not_le fun c=>?_
 have h2:=ψ x.den c
 have h3:=Nat.mul_lt_mul_of_pos_right k y.den_pos
 rw[ρ y.den] at h2
 omega
theorem cD (n w:Nat):0≤sgn false n (2^w):=by
 have h1:=sgn_u n w
 have u0:=u_pos w
 have h2:(0:Rat)≤(n:Rat):=by exact_mod_cast qBh n
 rw[←h1] at h2
 refine lmm (c:=((2^w:Nat):Rat)) ?_ u0
 grind
theorem HC {D:Rat→Prop} {lo hi:Rat→Rat} (hD:∀x,D x→D (-x)) (hp:∀x y,0 < x→x≤y→D x→D y→lo x≤hi y) (hn:∀x,0 < x→0≤hi x) (ho:∀x,x≠0→lo (-x)= -hi x∧hi (-x)= -lo x) {x y:Rat} (hx:x≠0) (hy:y≠0) (h:x≤y) (dx:D x) (dy:D y):lo x≤hi y:=by
 by_cases h1:0 < x
 ·exact hp x y h1 h dx dy
 ·have e1:=(ho (-x) (by grind)).1
  rw[Rat.neg_neg] at e1
  by_cases h2:0 < y
  ·have:=hn (-x) (by grind)
   have:=hn y h2
   grind
  ·have e2:=(ho (-y) (by grind)).2
   rw[Rat.neg_neg] at e2
   have:=hp (-y) (-x) (by grind) (by grind) (hD _ dy) (hD _ dx)
   grind
theorem bZ {x:Rat} (h:0 < x):¬x.num < 0∧x.num.natAbs≠0:=by
 have h1:=Rat.num_nonneg.2 (llt h)
 have h2:x.num≠0:=fun c=>by have:=Rat.num_eq_zero.1 c;grind
 omega
theorem num_lt0 {x:Rat}:x.num < 0↔x < 0:=by
 have:=Rat.num_nonneg (q:=x)
 constructor
 ·intro h
  refine Decidable.byContradiction fun c=>?_
  have:=this.2 (by grind)
  omega
 ·intro h
  refine Int.not_le.1 fun c=>?_
  have:=this.1 c
  grind
theorem at_pos {x y:Rat} {p:Nat} (hp:p≤128) (hx:0 < x) (h:x≤y):atLo x p≤atHi y p:=by
 have hy:0 < y:=by grind
 obtain⟨n1,n2⟩:=bZ hx
 obtain⟨n3,n4⟩:=bZ hy
 unfold atLo atHi bkL bkH
 rw[decide_eq_false n1,decide_eq_false n3,if_neg (by decide),if_neg (by decide)]
 refine fJ ?_
 have c1:=fv (llt hx) h
 unfold atA atB atK
 by_cases bx:x.den < x.num.natAbs
 ·have by_:=num_le (llt hx) h bx
  rw[if_pos bx,if_pos bx,if_pos by_,if_pos by_]
  obtain⟨i1,i2⟩:=gC n2
  obtain⟨i3,i4⟩:=gC n4
  obtain⟨l1,l2⟩:=g_le (x:=invQ x) (w:=p+32) (by rw[i1,i2,Int.natAbs_natCast];omega)
  obtain⟨l3,l4⟩:=g_le (x:=invQ y) (w:=p+32) (by rw[i3,i4,Int.natAbs_natCast];omega)
  have o:=xA (w:=p+32) (by omega) (dH (invQ y) _) (dH (invQ x) _) (iB (by rw[i1,i2,i3,i4,Int.natAbs_natCast,Int.natAbs_natCast,ρ y.den,ρ x.den];exact c1)) l4 l2
  have:=pn (w:=p+32) (by omega) (by omega)
  exact de (am 33) (by omega)
 ·obtain⟨l1,l2⟩:=g_le (x:=x) (w:=p+32) bx
  rw[if_neg bx,if_neg bx]
  by_cases by_:y.den < y.num.natAbs
  ·rw[if_pos by_,if_pos by_]
   obtain⟨i3,i4⟩:=gC n4
   obtain⟨l3,l4⟩:=g_le (x:=invQ y) (w:=p+32) (by rw[i3,i4,Int.natAbs_natCast];omega)
   have t1:=sQ (w:=p+32) (by omega) (by omega) l1 (dN (dN (dH x _))) (χ (dk _ _) (χ (dk _ _) l2))
   have t2:=sQ (w:=p+32) (by omega) (by omega) l3 (dN (dN (dH (invQ y) _))) (χ (dk _ _) (χ (dk _ _) l4))
   have e1:anL (glo x (p+32)) (ghi x (p+32)) (p+32) / 2^32=anL (glo x (p+32)) (ghi x (p+32)) (p+32)*2 / 2^33:=by rw[show 2^33=2^32*2 from rfl,Nat.mul_div_mul_right _ _ (by decide)]
   rw[e1]
   refine de (am 33) ?_
   unfold anL
   omega
  ·obtain⟨l3,l4⟩:=g_le (x:=y) (w:=p+32) by_
   rw[if_neg by_,if_neg by_]
   exact de (am 32) (xA (by omega) (dH x _) (dH y _) (iB c1) l2 l4)
theorem at_ord {x y:Rat} {p:Nat} (hp:p≤128) (hx:x≠0) (hy:y≠0) (h:x≤y):atLo x p≤atHi y p:=by
 refine HC (D:=fun _=>True) (lo:=fun x=>atLo x p) (hi:=fun x=>atHi x p) (fun _ _=>trivial) (fun x y h1 h2 _ _=>at_pos hp h1 h2) (fun x h0=>?_) (fun x h0=>xD h0) hx hy h trivial trivial
 show 0≤atHi x p
 unfold atHi bkH
 rw[decide_eq_false (bZ h0).1,if_neg (by decide)]
 exact cD _ _
theorem at_sign {x:Rat} {p:Nat}:(0 < x→0≤atLo x p∧0≤atHi x p)∧(x < 0→atLo x p≤0∧atHi x p≤0):=by
 have k:∀{x:Rat},0 < x→0≤atLo x p∧0≤atHi x p:=fun {x} h0=>by
  unfold atLo atHi bkL bkH
  rw[decide_eq_false (bZ h0).1,if_neg (by decide),if_neg (by decide)]
  exact⟨cD _ _,cD _ _⟩
 refine⟨k,fun h=>?_⟩
 obtain⟨a,b⟩:=k (x:=-x) (by grind)
 obtain⟨e1,e2⟩:=xD (x:=-x) (p:=p) (by grind)
 rw[Rat.neg_neg] at e1 e2
 grind
theorem fp {a b:Rat} (ha:0 < a) (h:a≤b):b⁻¹≤a⁻¹:=by
 have hb:0 < b:=by grind
 have i1:a*a⁻¹=1:=qBf _ (by grind)
 have i2:b*b⁻¹=1:=qBf _ (by grind)
 refine Rat.le_of_mul_le_mul_left (c:=a*b) ?_ (Rat.mul_pos ha hb)
 have e1:a*b*b⁻¹=a:=by rw[Rat.mul_assoc,i2,Rat.mul_one]
 have e2:a*b*a⁻¹=b:=by rw[Rat.mul_comm a b,Rat.mul_assoc,i1,Rat.mul_one]
 rw[e1,e2]
 exact h
theorem nv {x y:Rat} {w:Nat} (dx:x.num.natAbs≤x.den) (dy:y.num.natAbs≤y.den) (h:abQ x≤abQ y):asH true x w≤asH false y w:=by
 obtain⟨a0,a1⟩:=pR dx
 obtain⟨b0,b1⟩:=pR dy
 have g1:=(nS (u:=true) (w:=w) dx).1
 have g2:=(nS (u:=false) (w:=w) dy).1
 have hr:asR y≤asR x:=by
  unfold asR
  have m1:=mll h a0
  have m2:=mlr h b0
  grind
 have hg:asG false y w≤asG true x w:=uO hr (by decide) w
 have hi:=fp (a:=1+asG false y w) (b:=1+asG true x w) (by grind) (by grind)
 have i0:0≤(1+asG true x w)⁻¹:=llt (Rat.inv_pos.2 (by grind))
 unfold asH
 exact qAq (mlr h i0) (mll hi b0)
theorem ES {x y:Rat} {w:Nat} (hw:20≤w) (dx:x.num.natAbs≤x.den) (dy:y.num.natAbs≤y.den) (h:abQ x≤abQ y):asL x w≤asU y w:=by
 have g:∀{a b:Rat},0≤a→a≤b→glo a w≤ghi b w:=fun ha h=>iB (fv ha h)
 unfold asL asU
 exact ψ _ (xA hw (g (js dx).1 (nv dx dx qBk)) (g (js dy).1 (nv dy dy qBk)) (g (js dx).1 (nv dx dy h)) (mU dx).2 (mU dy).2)
theorem as_pi {x:Rat} {w:Nat} (h1:32≤w) (h2:w≤160) (dx:x.num.natAbs≤x.den):asL x w*2^1≤piH w:=by
 have g:glo (asH true x w) w≤ghi (asH false x w) w:=iB (fv (js dx).1 (nv dx dx qBk))
 obtain⟨a1,a2⟩:=mU (w:=w) dx
 have:=sQ h1 h2 a1 (dN (dN g)) (χ (dk _ _) (χ (dk _ _) a2))
 unfold asL anL
 omega
theorem jr {x:Rat} (h:0≤x):abQ x=x:=by
 obtain⟨e1,e2⟩:=qD x
 refine Rat.ext ?_ e2
 rw[e1,Int.natAbs_of_nonneg (Rat.num_nonneg.2 h)]
theorem vP (x:Rat):abQ (-x)=abQ x:=by unfold abQ;rw[(aN x).2.1,(aN x).2.2]
theorem asin_ord {x y:Rat} {p:Nat} (hx:x≠0) (hy:y≠0) (h:x≤y) (dx:x.num.natAbs≤x.den) (dy:y.num.natAbs≤y.den):fg x p≤dM y p:=by
 refine HC (D:=fun x=>x.num.natAbs≤x.den) (lo:=fun x=>fg x p) (hi:=fun x=>dM x p) (fun x k=>by rw[(aN x).2.1,(aN x).2.2];exact k) (fun x y h1 h2 dx dy=>?_) (fun x h0=>?_) (fun x h0=>ux h0) hx hy h dx dy
 ·show fg x p≤dM y p
  unfold fg dM bkL bkH
  rw[decide_eq_false (bZ h1).1,decide_eq_false (bZ (show 0 < y by grind)).1,if_neg (by decide),if_neg (by decide)]
  refine fJ (de (am 32) (ES (by omega) dx dy ?_))
  rw[jr (llt h1),jr (show 0≤y by grind)]
  exact h2
 ·show 0≤dM x p
  unfold dM bkH
  rw[decide_eq_false (bZ h0).1,if_neg (by decide)]
  exact cD _ _
theorem asin_sign {x:Rat} {p:Nat}:(0 < x→0≤fg x p∧0≤dM x p)∧(x < 0→fg x p≤0∧dM x p≤0):=by
 have k:∀{x:Rat},0 < x→0≤fg x p∧0≤dM x p:=fun {x} h0=>by
  unfold fg dM bkL bkH
  rw[decide_eq_false (bZ h0).1,if_neg (by decide),if_neg (by decide)]
  exact⟨cD _ _,cD _ _⟩
 refine⟨k,fun h=>?_⟩
 obtain⟨a,b⟩:=k (x:=-x) (by grind)
 obtain⟨e1,e2⟩:=ux (x:=-x) (p:=p) (by grind)
 rw[Rat.neg_neg] at e1 e2
 grind
theorem mK (a p:Nat):sgn false (a / 2^33) (2^p)≤sgn false a (2^(p+32+1))∧sgn false a (2^(p+32+1))≤sgn false (cdiv a (2^33)) (2^p):=by
 have e1:=sgn_u (a / 2^33) p
 have e2:=sgn_u a (p+32+1)
 have e3:=sgn_u (cdiv a (2^33)) p
 have eu:((2^(p+32+1):Nat):Rat)=((2^p:Nat):Rat)*((2^33:Nat):Rat):=by rw[←qAl,←qAs]
 have d1:((a / 2^33:Nat):Rat)*((2^33:Nat):Rat)≤(a:Rat):=dY (by decide)
 have d2:(a:Rat)≤((cdiv a (2^33):Nat):Rat)*((2^33:Nat):Rat):=cZ (by decide)
 have u0:=u_pos p
 have v0:(0:Rat) < ((2^33:Nat):Rat):=u_pos 33
 rw[←e1,←e2,eu] at d1
 rw[←e2,←e3,eu] at d2
 generalize((2^33:Nat):Rat)=v at*
 generalize((2^p:Nat):Rat)=u at*
 have uv:=Rat.mul_pos u0 v0
 exact⟨lmm (c:=u*v) (by grind) uv,lmm (c:=u*v) (by grind) uv⟩
def acA (x:Rat) (w:Nat):Rat:=if x=0 then sgn false (piL w) (2^(w+1)) else if x.num < 0 then sgn false (piL w+asL x w*2^1) (2^(w+1)) else sgn false (piL w) (2^(w+1))+ -sgn false (asU x w*2^1) (2^(w+1))
def acB (x:Rat) (w:Nat):Rat:=if x=0 then sgn false (piH w) (2^(w+1)) else if x.num < 0 then sgn false (piH w+asU x w*2^1) (2^(w+1)) else sgn false (piH w) (2^(w+1))+ -sgn false (asL x w*2^1) (2^(w+1))
theorem Au (x:Rat) (p:Nat):acLo x p≤acA x (p+32)∧acB x (p+32)≤acHi x p:=by
  unfold acLo acHi acA acB bkL bkH
  by_cases h0:x=0
  · simp only[if_pos h0,qAw,if_false]
    exact⟨(mK _ p).1,(mK _ p).2⟩
  · by_cases h1:x.num < 0
    · simp only[if_neg h0,if_pos h1,qAw,if_false]
      exact⟨(mK _ p).1,(mK _ p).2⟩
    · simp only[if_neg h0,if_neg h1]
      exact⟨dV _ _,jc _ _⟩
theorem pu (a b w:Nat):sgn false (a+b) (2^w)=sgn false a (2^w)+sgn false b (2^w):=by
 have e1:=sgn_u a w
 have e2:=sgn_u b w
 have e3:=sgn_u (a+b) w
 have u0:=u_pos w
 rw[Rat.natCast_add,←e1,←e2] at e3
 generalize sgn false (a+b) (2^w)=s at*
 generalize sgn false a (2^w)=t at*
 generalize sgn false b (2^w)=r at*
 generalize((2^w:Nat):Rat)=u at*
 have:(s - (t+r))*u=0:=by grind
 rcases Rat.mul_eq_zero.1 this with c |c<;>grind
theorem ac_ord {x y:Rat} {p:Nat} (hp:p≤128) (h:x≤y) (dx:x.num.natAbs≤x.den) (dy:y.num.natAbs≤y.den):acLo y p≤acHi x p:=by
 refine qAq (Au y p).1 (qAq ?_ (Au x p).2)
 have hw:32≤p+32:=by omega
 have pl:=pn (w:=p+32) (by omega) (by omega)
 have s0:=fJ (p:=p+32+1) (show piL (p+32)≤piH (p+32) by omega)
 have n1:=cD (asL x (p+32)*2^1) (p+32+1)
 have n2:=cD (asU x (p+32)*2^1) (p+32+1)
 have n3:=cD (asL y (p+32)*2^1) (p+32+1)
 have n4:=cD (asU y (p+32)*2^1) (p+32+1)
 have O:∀{a b:Rat},a.num.natAbs≤a.den→b.num.natAbs≤b.den→abQ a≤abQ b→sgn false (asL a (p+32)*2^1) (2^(p+32+1))≤sgn false (asU b (p+32)*2^1) (2^(p+32+1)):=fun da db hab=>fJ (ψ _ (ES (by omega) da db hab))
 have nx:x.num < 0↔x < 0:=num_lt0
 have ny:y.num < 0↔y < 0:=num_lt0
 unfold acA acB
 rw[pu,pu]
 by_cases x0:x=0
 ·rw[if_pos x0]
  by_cases y0:y=0
  ·rw[if_pos y0];exact s0
  ·rw[if_neg y0,if_neg (by grind)];grind
 ·rw[if_neg x0]
  by_cases x1:x.num < 0
  ·rw[if_pos x1]
   by_cases y0:y=0
   ·rw[if_pos y0];grind
   ·rw[if_neg y0]
    by_cases y1:y.num < 0
    ·rw[if_pos y1]
     have hxn:=nx.1 x1
     have hyn:=ny.1 y1
     have:=O dy dx (by
      rw[←vP y,←vP x,jr (show 0≤ -y by grind),jr (show 0≤ -x by grind)]
      grind)
     grind
    ·rw[if_neg y1];grind
  ·have hx0:0 < x:=by
    have:¬x < 0:=fun c=>x1 (nx.2 c)
    grind
   rw[if_neg x1,if_neg (show y≠0 by grind),if_neg (show ¬y.num < 0 from fun c=>by have:=ny.1 c;grind)]
   have:=O dx dy (by rw[jr (llt hx0),jr (show 0≤y by grind)];exact h)
   grind
theorem acHi_0 {x:Rat} {p:Nat} (hp:p≤128) (dx:x.num.natAbs≤x.den):0≤acHi x p:=by
 refine qAq ?_ (Au x p).2
 have n0:=cD (piH (p+32)) (p+32+1)
 have n1:=cD (asU x (p+32)*2^1) (p+32+1)
 have:=fJ (p:=p+32+1) (as_pi (x:=x) (w:=p+32) (by omega) (by omega) dx)
 unfold acB
 rw[pu]
 split
 ·exact n0
 ·split<;>grind
theorem mX {n d:Nat} (hd:d≠0):lgn n (lge n d) < 2*lgd d (lge n d):=by
 obtain⟨d1,d2⟩:=xG hd
 have n2:n < 2^bl n:=bl_le.1 (η _)
 have e2:2^bl d=2*2^(bl d - 1):=by rw[←Nat.pow_succ'];congr 1;omega
 unfold lge
 split
 ·rename_i h
  unfold lgn lgd at h ⊢
  by_cases c:1≤lge0 n d
  ·obtain⟨k,hk⟩:∃k:Nat,lge0 n d=k+1:=⟨(lge0 n d - 1).toNat,by omega⟩
   rw[hk] at h ⊢
   rw[show(max 0 (-((k:Int)+1))).toNat=0 by omega,show(max 0 ((k:Int)+1)).toNat=k+1 by omega,Nat.pow_zero,qAz,qAn] at h
   rw[show(max 0 (-((k:Int)+1 - 1))).toNat=0 by omega,show(max 0 ((k:Int)+1 - 1)).toNat=k by omega,Nat.pow_zero,qAz]
   rw[←σ] at h
   omega
  ·obtain⟨k,hk⟩:∃k:Nat,lge0 n d= -(k:Int):=⟨(-lge0 n d).toNat,by omega⟩
   rw[hk] at h ⊢
   rw[show(max 0 (- -(k:Int))).toNat=k by omega,show(max 0 (-(k:Int))).toNat=0 by omega,Nat.pow_zero,qAz] at h
   rw[show(max 0 (-(-(k:Int) - 1))).toNat=k+1 by omega,show(max 0 (-(k:Int) - 1)).toNat=0 by omega,Nat.pow_zero,qAz,qAn,←σ]
   omega
 ·unfold lgn lgd lge0
  by_cases c:bl d≤bl n
  ·obtain⟨k,hk⟩:=Nat.exists_eq_add_of_le c
   rw[show(max 0 (-((bl n:Int) - bl d))).toNat=0 by omega,show(max 0 ((bl n:Int) - bl d)).toNat=k by omega,Nat.pow_zero,qAz]
   rw[hk,qAs,e2] at n2
   have:=ψ (2^k) (ω 2 d2)
   rw[σ 2 d] at this
   omega
  ·obtain⟨k,hk⟩:=Nat.exists_eq_add_of_le (show bl n≤bl d by omega)
   rw[show(max 0 (-((bl n:Int) - bl d))).toNat=k by omega,show(max 0 ((bl n:Int) - bl d)).toNat=0 by omega,Nat.pow_zero,qAz]
   rw[hk,qAs] at e2
   have:=Nat.mul_lt_mul_of_pos_right n2 (qAo (n:=k) (show 0 < 2 by decide))
   rw[hk] at d2
   rw[e2] at this
   omega
theorem lge_mono {n1 d1 n2 d2:Nat} (h1:n1≠0) (g1:d1≠0) (g2:d2≠0) (h:n1*d2≤n2*d1):lge n1 d1≤lge n2 d2:=by
 refine Int.not_lt.1 fun c=>?_
 have k1:=jy (d:=d1) h1
 have k2:=mX (n:=n2) g2
 unfold lgn lgd at k1 k2
 generalize lge n1 d1=e1 at*
 generalize lge n2 d2=e2 at*
 obtain⟨A,hA⟩:∃A,(max 0 e1).toNat=A:=⟨_,rfl⟩
 obtain⟨B,hB⟩:∃B,(max 0 (-e1)).toNat=B:=⟨_,rfl⟩
 obtain⟨C,hC⟩:∃C,(max 0 (-e2)).toNat=C:=⟨_,rfl⟩
 obtain⟨D,hD⟩:∃D,(max 0 e2).toNat=D:=⟨_,rfl⟩
 rw[hA,hB] at k1
 rw[hC,hD] at k2
 have hs:B+D+1≤A+C:=by omega
 have p1:0 < d1*2^A:=Nat.mul_pos (τ g1) (qAo (by decide))
 have m1:d1*2^A*(n2*2^C) < d1*2^A*(2*(d2*2^D)):=Nat.mul_lt_mul_of_pos_left k2 p1
 have m2:d1*2^A*(2*(d2*2^D))≤n1*2^B*(2*(d2*2^D)):=ψ _ k1
 have m3:n1*2^B*(2*(d2*2^D))=n1*d2*2^(B+D+1):=by
  rw[qAn,qAs]
  generalize 2^B=b;generalize 2^D=d
  rw[qBg 2,Nat.mul_mul_mul_comm,ρ 2 d,σ b d 2]
 have m4:d1*2^A*(n2*2^C)=n2*d1*2^(A+C):=by
  rw[qAs,Nat.mul_mul_mul_comm,ρ d1 n2]
 have m5:=qAk h (qAv (show 0 < 2 by decide) hs)
 omega
theorem AX {a b c d:Nat} (hb:b≠0) (hd:d≠0) (h:a*d≤c*b):a / b≤cdiv c d:=by
 refine AF hd (Nat.le_of_mul_le_mul_right (c:=b) ?_ (τ hb))
 have h1:=ψ d (Nat.div_mul_le_self a b)
 rw[show d*(a / b)*b=a / b*b*d by rw[ρ d,Nat.mul_right_comm]]
 exact χ h1 h
theorem Dp {w s t s' t':Nat} (h:s≤t'):∀j,j≤54→logV w s t false j≤logV w s' t' true j
 | 0,_=>by
  rw[yf,tD]
  exact AX (by decide) (by decide) (by omega)
 | j+1,hj=>by
  rw[uI,qQ]
  have hk:(109 - 2*j)*2^w≠0:=qBe (by omega) (am w)
  exact de hk (Nat.add_le_add_left (ψ _ (qAk h (Dp h j (by omega)))) _)
theorem logV_top {w s t s' t':Nat} (h:s≤t'):logV w s t false 55≤logV w s' t' true 55:=by
 rw[uI,qQ]
 have hk:(109 - 2*54)*2^w≠0:=qBe (by decide) (am w)
 exact de hk (Nat.add_le_add_left (ψ _ (qAk h (Dp h 54 (η _)))) _)
theorem wi {a b a' b' w:Nat} (h:a≤b'):logL a b w≤logH a' b' w:=by
 have hs:sqL a w≤sqH b' w:=de (am w) (qAk h h)
 unfold logL logH
 exact de (am w) (ψ _ (qAk h (logV_top hs)))
theorem Hh {n d w:Nat} (hn:n≠0) (hd:d≠0):lgmL n d w≤lg2H w:=by
 have k:=mX (n:=n) hd
 unfold lgmL lg2H
 refine wi (AX (lP hn) (by decide) ?_)
 unfold lgT lgB
 rw[Nat.mul_right_comm,ρ (2^w)]
 exact ψ _ (by omega)
theorem Hg {n1 d1 n2 d2 w:Nat} (h1:n1≠0) (h2:n2≠0) (he:lge n1 d1=lge n2 d2) (h:n1*d2≤n2*d1):lgmL n1 d1 w≤lgmH n2 d2 w:=by
 have b1:=jy (d:=d1) h1
 have b2:=jy (d:=d2) h2
 unfold lgmL lgmH
 refine wi (AX (lP h1) (lP h2) ?_)
 unfold lgT lgB
 have hc:lgn n1 (lge n1 d1)*lgd d2 (lge n2 d2)≤lgn n2 (lge n2 d2)*lgd d1 (lge n1 d1):=by
  rw[he]
  unfold lgn lgd
  rw[Nat.mul_mul_mul_comm,Nat.mul_mul_mul_comm n2]
  exact ψ _ h
 generalize lgn n1 (lge n1 d1)=a at*
 generalize lgd d1 (lge n1 d1)=b at*
 generalize lgn n2 (lge n2 d2)=c at*
 generalize lgd d2 (lge n2 d2)=d at*
 rw[Nat.mul_right_comm,Nat.mul_right_comm (c - d)]
 refine ψ _ ?_
 obtain⟨i,rfl⟩:=Nat.exists_eq_add_of_le b1
 obtain⟨j,rfl⟩:=Nat.exists_eq_add_of_le b2
 rw[Nat.add_sub_cancel_left,Nat.add_sub_cancel_left]
 rw[Nat.add_mul,Nat.add_mul,ρ b d] at hc
 have e1:i*(d+j+d)=2*(i*d)+i*j:=by rw[qAm,qAm];omega
 have e2:j*(b+i+b)=2*(j*b)+i*j:=by rw[qAm,qAm,ρ j i];omega
 omega
theorem lg2_le (w:Nat):lg2L w≤lg2H w:=wi (de (by decide) (η _))
theorem p8 (a p:Nat):sgn false (a / 2^32) (2^p)≤sgn false a (2^(p+32))∧sgn false a (2^(p+32))≤sgn false (cdiv a (2^32)) (2^p):=by
 have e1:=sgn_u (a / 2^32) p
 have e2:=sgn_u a (p+32)
 have e3:=sgn_u (cdiv a (2^32)) p
 have eu:((2^(p+32):Nat):Rat)=((2^p:Nat):Rat)*((2^32:Nat):Rat):=by rw[←qAl,←qAs]
 have d1:((a / 2^32:Nat):Rat)*((2^32:Nat):Rat)≤(a:Rat):=dY (by decide)
 have d2:(a:Rat)≤((cdiv a (2^32):Nat):Rat)*((2^32:Nat):Rat):=cZ (by decide)
 have u0:=u_pos p
 have v0:(0:Rat) < ((2^32:Nat):Rat):=u_pos 32
 rw[←e1,←e2,eu] at d1
 rw[←e2,←e3,eu] at d2
 generalize((2^32:Nat):Rat)=v at*
 generalize((2^p:Nat):Rat)=u at*
 have uv:=Rat.mul_pos u0 v0
 exact⟨lmm (c:=u*v) (by grind) uv,lmm (c:=u*v) (by grind) uv⟩
def lnA (n d w:Nat):Rat:=if 0≤lge n d then sgn false (lg2L w*(lge n d).toNat+lgmL n d w) (2^w) else sgn false (lgmL n d w) (2^w)+ -sgn false (lg2H w*(0 - lge n d).toNat) (2^w)
def lnB (n d w:Nat):Rat:=if 0≤lge n d then sgn false (lg2H w*(lge n d).toNat+lgmH n d w) (2^w) else sgn false (lgmH n d w) (2^w)+ -sgn false (lg2L w*(0 - lge n d).toNat) (2^w)
theorem ye (n d p:Nat):lnLo n d p≤lnA n d (p+32)∧lnB n d (p+32)≤lnHi n d p:=by
 unfold lnLo lnHi lnA lnB
 by_cases h:0≤lge n d
 ·simp only[if_pos h]
  exact⟨(p8 _ p).1,(p8 _ p).2⟩
 ·simp only[if_neg h]
  exact⟨dV _ _,jc _ _⟩
theorem HS {a b c d w:Nat} (h:a+d≤c+b):sgn false a (2^w)+ -sgn false b (2^w)≤sgn false c (2^w)+ -sgn false d (2^w):=by
 have:=fJ (p:=w) h
 rw[pu,pu] at this
 grind
theorem wg {n d w:Nat} (hn:n≠0) (hd:d≠0):(0≤lge n d→0≤lnA n d w∧0≤lnB n d w)∧(lge n d < 0→lnA n d w≤0):=by
 constructor
 ·intro h
  unfold lnA lnB
  rw[if_pos h,if_pos h]
  exact⟨cD _ _,cD _ _⟩
 ·intro h
  unfold lnA
  rw[if_neg (by omega)]
  have h1:=Hh (w:=w) hn hd
  have h2:lg2H w*1≤lg2H w*(0 - lge n d).toNat:=ω _ (by omega)
  have:=fJ (p:=w) (show lgmL n d w≤lg2H w*(0 - lge n d).toNat by omega)
  grind
theorem ln_ord0 {n1 d1 n2 d2 w:Nat} (h1:n1≠0) (g1:d1≠0) (h2:n2≠0) (g2:d2≠0) (h:n1*d2≤n2*d1):lnA n1 d1 w≤lnB n2 d2 w:=by
  have he:=lge_mono h1 g1 g2 h
  have k1:=Hh (w:=w) h1 g1
  have k2:=lg2_le w
  by_cases c1:0≤lge n1 d1
  · unfold lnA lnB
    rw[if_pos c1,if_pos (by omega)]
    refine fJ ?_
    rcases Int.lt_or_eq_of_le he with c |c
    · have m1:=ψ (lge n1 d1).toNat k2
      have m2:lg2H w*((lge n1 d1).toNat+1)≤lg2H w*(lge n2 d2).toNat:=ω _ (by omega)
      rw[Nat.mul_succ] at m2
      omega
    · have m1:=ψ (lge n1 d1).toNat k2
      have k3:=Hg (w:=w) h1 h2 c h
      rw[←c]
      omega
  · by_cases c2:0≤lge n2 d2
    · exact qAq ((wg h1 g1).2 (by omega)) ((wg h2 g2).1 c2).2
    · unfold lnA lnB
      rw[if_neg c1,if_neg c2]
      refine HS ?_
      rcases Int.lt_or_eq_of_le he with c |c
      · have m1:=ψ (0 - lge n2 d2).toNat k2
        have m2:lg2H w*((0 - lge n2 d2).toNat+1)≤lg2H w*(0 - lge n1 d1).toNat:=ω _ (by omega)
        rw[Nat.mul_succ] at m2
        omega
      · have m1:=ψ (0 - lge n1 d1).toNat k2
        have k3:=Hg (w:=w) h1 h2 c h
        rw[←c]
        omega
theorem Hf {n d:Nat} (hn:n≠0) (hd:d≠0):(d≤n→0≤lge n d)∧(n < d→lge n d < 0):=by
 have a:=mX (n:=n) hd
 have b:=jy (d:=d) hn
 unfold lgn lgd at a b
 constructor
 ·intro h
  refine Int.not_lt.1 fun c=>?_
  obtain⟨k,hk⟩:∃k:Nat,lge n d= -((k:Int)+1):=⟨(-lge n d - 1).toNat,by omega⟩
  rw[hk,show(max 0 (- -((k:Int)+1))).toNat=k+1 by omega,show(max 0 (-((k:Int)+1))).toNat=0 by omega,Nat.pow_zero,qAz,qAn,←σ] at a
  have:=ω n (qAo (n:=k) (show 0 < 2 by decide))
  omega
 ·intro h
  refine Int.not_le.1 fun c=>?_
  obtain⟨k,hk⟩:∃k:Nat,lge n d=(k:Int):=⟨(lge n d).toNat,by omega⟩
  rw[hk,show(max 0 (-(k:Int))).toNat=0 by omega,show(max 0 (k:Int)).toNat=k by omega,Nat.pow_zero,qAz] at b
  have:=ω d (qAo (n:=k) (show 0 < 2 by decide))
  omega
theorem sgn_unit (p:Nat):sgn false (2^p) (2^p)=1:=by
 have e:=sgn_u (2^p) p
 have u0:=u_pos p
 generalize sgn false (2^p) (2^p)=s at*
 generalize((2^p:Nat):Rat)=u at*
 have:(s - 1)*u=0:=by grind
 rcases Rat.mul_eq_zero.1 this with c |c<;>grind
theorem xO (x:Rat) (p:Nat):2^(p+112)≤expL x p∧2^(p+112)≤expH x p:=⟨FK (eLo_ge _ _ 40) 8,FJ (eHi_ge _ _ 40) 8⟩
theorem exp_one {x:Rat} {p:Nat}:(x < 0→expLo x p≤1)∧(0 < x→1≤expHi x p):=by
 constructor
 ·intro h
  unfold expLo
  rw[if_pos (num_lt0.2 h),←sgn_unit p]
  refine fJ (Nat.div_le_of_le_mul ?_)
  rw[qAs]
  exact ψ _ (xO x p).2
 ·intro h
  unfold expHi
  rw[if_neg (bZ h).1,←sgn_unit p]
  refine fJ (AF (am 112) ?_)
  rw[←qAs,Nat.add_comm 112]
  exact(xO x p).2
theorem exp_ord {x y:Rat} {p:Nat} (h:x≤y) (hx:x≠0) (hy:y≠0):expLo x p≤expHi y p:=by
  by_cases h1:0 < x
  · unfold expLo expHi
    rw[if_neg (bZ h1).1,if_neg (bZ (show 0 < y by grind)).1]
    exact fJ (de (am 112) (AU (iB (fv (llt h1) h))))
  · by_cases h2:0 < y
    · exact qAq (exp_one.1 (by grind)) (exp_one.2 h2)
    · unfold expLo expHi
      rw[if_pos (num_lt0.2 (by grind)),if_pos (num_lt0.2 (by grind))]
      have c:=fv (x:=-y) (y:=-x) (by grind) (by grind)
      rw[(aN x).2.1,(aN x).2.2,(aN y).2.1,(aN y).2.2] at c
      have k:expL y p≤expH x p:=AU (iB c)
      have l:=(xO y p).1
      have l0:=τ (am (p+112))
      exact fJ (χ (Nat.div_le_div_left k (by omega)) (i8 _ (by omega)))
theorem br_e {fn:Int} {x:Rat} {p:Int} (h:brE fn x p=0):eErr fn x p=0:=by
 unfold brE at h
 split at h
 ·cases h
 ·unfold elE at h
  refine Decidable.byContradiction fun he=>?_
  rw[if_pos he] at h
  exact he h
theorem wx {x:Rat} (h:0 < x):(x≤1→x.num.natAbs≤x.den)∧(1≤x→x.den≤x.num.natAbs):=by
 constructor
 ·intro k
  have:=fv (llt h) k
  rw[show(1:Rat).num.natAbs=1 from rfl,show(1:Rat).den=1 from rfl] at this
  omega
 ·intro k
  have:=fv (x:=1) (y:=x) (by decide) k
  rw[show(1:Rat).num.natAbs=1 from rfl,show(1:Rat).den=1 from rfl] at this
  omega
theorem FB {x:Rat} (h:0≤x) (e:x.num.natAbs=x.den):x=1:=by
 have h1:=Rat.num_nonneg.2 h
 have hr:x.den=1:=by
  have k:=x.reduced
  unfold Nat.Coprime at k
  rw[e,Nat.gcd_self] at k
  exact k
 refine Rat.ext ?_ (by rw[hr];rfl)
 rw[show(1:Rat).num=1 from rfl]
 omega
theorem ln_ord {x y:Rat} {p:Nat} (hx:0 < x) (h:x≤y):lnLo x.num.natAbs x.den p≤lnHi y.num.natAbs y.den p:=
 qAq (ye _ _ p).1 (qAq (ln_ord0 (bZ hx).2 x.den_nz (bZ (show 0 < y by grind)).2 y.den_nz (fv (llt hx) h)) (ye _ _ p).2)
theorem Hl {x:Rat} {p:Nat} (hx:0 < x) (h1:x≠1):(x≤1→lnLo x.num.natAbs x.den p≤0)∧(1≤x→0≤lnHi x.num.natAbs x.den p):=by
 have n0:=(bZ hx).2
 constructor
 ·intro h
  have a:=(wx hx).1 h
  have b:x.num.natAbs≠x.den:=fun c=>h1 (FB (llt hx) c)
  exact qAq (ye _ _ p).1 ((wg n0 x.den_nz).2 ((Hf n0 x.den_nz).2 (by omega)))
 ·intro h
  have a:=(wx hx).2 h
  exact qAq ((wg n0 x.den_nz).1 ((Hf n0 x.den_nz).1 a)).2 (ye _ _ p).2
theorem CS {x:Rat} (h:x.num.natAbs≤x.den):x≤1:=by
 have a:=(pR h).2
 by_cases c:0≤x
 ·rw[jr c] at a;exact a
 ·grind
theorem br_ord {fn:Int} {x y:Rat} {p:Int} (hf:fn=1∨fn=2∨fn=6∨fn=8) (h:x≤y) (hx:brE fn x p=0) (hy:brE fn y p=0):brL fn x p≤brH fn y p:=by
 obtain⟨_,p0,p1⟩:=br_p hx
 obtain⟨_,_,_,dx,_⟩:=dw (br_e hx)
 obtain⟨_,_,_,dy,_⟩:=dw (br_e hy)
 rw[(cC hx).1,(cC hy).2]
 have hq:p.toNat≤128:=by omega
 generalize p.toNat=q at*
 clear hx hy p0 p1
 rcases hf with rfl |rfl |rfl |rfl
 ·have eB:∀z,exB 1 z=decide (z=0):=fun z=>rfl
  have eV:exV 1 0=1:=by decide+kernel
  show(if exB 1 x=true then exV 1 x else expLo x q)≤(if exB 1 y=true then exV 1 y else expHi y q)
  rw[eB,eB]
  by_cases x0:x=0<;>by_cases y0:y=0
  ·rw[decide_eq_true x0,decide_eq_true y0,if_pos rfl,if_pos rfl,x0,y0];exact qBk
  ·rw[decide_eq_true x0,decide_eq_false y0,if_pos rfl,if_neg (by decide),x0,eV]
   exact exp_one.2 (by grind)
  ·rw[decide_eq_true y0,decide_eq_false x0,if_pos rfl,if_neg (by decide),y0,eV]
   exact exp_one.1 (by grind)
  ·rw[decide_eq_false y0,decide_eq_false x0,if_neg (by decide),if_neg (by decide)]
   exact exp_ord h x0 y0
 ·have eB:∀z,exB 2 z=decide (z=1):=fun z=>rfl
  have eV:∀z,exV 2 z=0:=fun z=>by unfold exV;rw[if_neg (by omega)]
  have x0:0 < x:=of_decide_eq_true dx
  have y0:0 < y:=of_decide_eq_true dy
  show(if exB 2 x=true then exV 2 x else lnLo x.num.natAbs x.den q)≤(if exB 2 y=true then exV 2 y else lnHi y.num.natAbs y.den q)
  rw[eB,eB,eV,eV]
  by_cases x1:x=1<;>by_cases y1:y=1
  ·rw[decide_eq_true x1,decide_eq_true y1,if_pos rfl,if_pos rfl];exact qBk
  ·rw[decide_eq_true x1,decide_eq_false y1,if_pos rfl,if_neg (by decide)]
   exact(Hl y0 y1).2 (by grind)
  ·rw[decide_eq_true y1,decide_eq_false x1,if_pos rfl,if_neg (by decide)]
   exact(Hl x0 x1).1 (by grind)
  ·rw[decide_eq_false y1,decide_eq_false x1,if_neg (by decide),if_neg (by decide)]
   exact ln_ord x0 h
 ·have eB:∀z,exB 6 z=decide (z=0):=fun z=>rfl
  have eV:∀z,exV 6 z=0:=fun z=>by unfold exV;rw[if_neg (by omega)]
  have d1:x.num.natAbs≤x.den:=of_decide_eq_true dx
  have d2:y.num.natAbs≤y.den:=of_decide_eq_true dy
  show(if exB 6 x=true then exV 6 x else fg x q)≤(if exB 6 y=true then exV 6 y else dM y q)
  rw[eB,eB,eV,eV]
  by_cases x1:x=0<;>by_cases y1:y=0
  ·rw[decide_eq_true x1,decide_eq_true y1,if_pos rfl,if_pos rfl];exact qBk
  ·rw[decide_eq_true x1,decide_eq_false y1,if_pos rfl,if_neg (by decide)]
   exact(asin_sign.1 (by grind)).2
  ·rw[decide_eq_true y1,decide_eq_false x1,if_pos rfl,if_neg (by decide)]
   exact(asin_sign.2 (by grind)).1
  ·rw[decide_eq_false y1,decide_eq_false x1,if_neg (by decide),if_neg (by decide)]
   exact asin_ord x1 y1 h d1 d2
 ·have eB:∀z,exB 8 z=decide (z=0):=fun z=>rfl
  have eV:∀z,exV 8 z=0:=fun z=>by unfold exV;rw[if_neg (by omega)]
  show(if exB 8 x=true then exV 8 x else atLo x q)≤(if exB 8 y=true then exV 8 y else atHi y q)
  rw[eB,eB,eV,eV]
  by_cases x1:x=0<;>by_cases y1:y=0
  ·rw[decide_eq_true x1,decide_eq_true y1,if_pos rfl,if_pos rfl];exact qBk
  ·rw[decide_eq_true x1,decide_eq_false y1,if_pos rfl,if_neg (by decide)]
   exact(at_sign.1 (by grind)).2
  ·rw[decide_eq_true y1,decide_eq_false x1,if_pos rfl,if_neg (by decide)]
   exact(at_sign.2 (by grind)).1
  ·rw[decide_eq_false y1,decide_eq_false x1,if_neg (by decide),if_neg (by decide)]
   exact at_ord hq x1 y1 h
theorem br_ord7 {x y:Rat} {p:Int} (h:x≤y) (hx:brE 7 x p=0) (hy:brE 7 y p=0):brL 7 y p≤brH 7 x p:=by
 obtain⟨_,p0,p1⟩:=br_p hx
 obtain⟨_,_,_,dx,_⟩:=dw (br_e hx)
 obtain⟨_,_,_,dy,_⟩:=dw (br_e hy)
 rw[(cC hx).2,(cC hy).1]
 have hq:p.toNat≤128:=by omega
 generalize p.toNat=q at*
 clear hx hy p0 p1
 have eB:∀z,exB 7 z=decide (z=1):=fun z=>rfl
 have eV:∀z,exV 7 z=0:=fun z=>by unfold exV;rw[if_neg (by omega)]
 have d1:x.num.natAbs≤x.den:=of_decide_eq_true dx
 have d2:y.num.natAbs≤y.den:=of_decide_eq_true dy
 show(if exB 7 y=true then exV 7 y else acLo y q)≤(if exB 7 x=true then exV 7 x else acHi x q)
 rw[eB,eB,eV,eV]
 by_cases x1:x=1<;>by_cases y1:y=1
 ·rw[decide_eq_true x1,decide_eq_true y1,if_pos rfl,if_pos rfl];exact qBk
 ·have:=CS d2
  exact absurd (Rat.le_antisymm (CS d2) (by rw[←x1];exact h)) y1
 ·rw[decide_eq_true y1,decide_eq_false x1,if_pos rfl,if_neg (by decide)]
  exact acHi_0 hq d1
 ·rw[decide_eq_false y1,decide_eq_false x1,if_neg (by decide),if_neg (by decide)]
  exact ac_ord hq h d1 d2

theorem pt (n w:Nat):sgn false (n*2^1) (2^(w+1))=sgn false n (2^w)∧sgn false n (2^(w+1))*2=sgn false n (2^w):=by
 have e1:=sgn_u (n*2^1) (w+1)
 have e2:=sgn_u n w
 have e3:=sgn_u n (w+1)
 have u0:=u_pos w
 have eu:((2^(w+1):Nat):Rat)=((2^w:Nat):Rat)*2:=by rw[qAn,qAl];rfl
 have en:((n*2^1:Nat):Rat)=(n:Rat)*2:=by rw[qAl];rfl
 rw[eu] at e1 e3
 rw[en,←e2] at e1
 rw[←e2] at e3
 generalize sgn false (n*2^1) (2^(w+1))=a at*
 generalize sgn false n (2^(w+1))=b at*
 generalize sgn false n (2^w)=c at*
 generalize((2^w:Nat):Rat)=u at*
 have k1:(a - c)*u=0:=by grind
 have k2:(b*2 - c)*u=0:=by grind
 constructor
 ·rcases Rat.mul_eq_zero.1 k1 with h |h<;>grind
 ·rcases Rat.mul_eq_zero.1 k2 with h |h<;>grind
theorem Bu (p:Nat):(piLo p+0) / 2≤sgn false (piL (p+32)) (2^(p+32+1))∧sgn false (piH (p+32)) (2^(p+32+1))≤(piHi p+0) / 2:=by
 have h1:piLo p≤sgn false (piL (p+32)) (2^(p+32)):=(p8 _ p).1
 have h2:sgn false (piH (p+32)) (2^(p+32))≤piHi p:=(p8 _ p).2
 rw[←(pt _ _).2] at h1 h2
 constructor<;>grind
theorem an_top {w:Nat} (h1:32≤w) (h2:w≤160):anL (2^w) (2^w) w*2^1*2^1≤piH w:=by
 have:=sQ (a:=2^w) (b:=hvH (hvH (2^w) w) w) h1 h2 (η _) (dN (dN (η _))) (χ (dk _ _) (dk _ _))
 unfold anL
 omega
theorem xF {x:Rat} {p:Nat} (h:0 < x):(x.den < x.num.natAbs→atLo x p≤sgn false (piL (p+32) - anH (glo (invQ x) (p+32)) (ghi (invQ x) (p+32)) (p+32)*2^1) (2^(p+32+1))∧sgn false (piH (p+32) - anL (glo (invQ x) (p+32)) (ghi (invQ x) (p+32)) (p+32)*2^1) (2^(p+32+1))≤atHi x p)∧(¬x.den < x.num.natAbs→atLo x p≤sgn false (anL (glo x (p+32)) (ghi x (p+32)) (p+32)*2^1) (2^(p+32+1))∧sgn false (anH (glo x (p+32)) (ghi x (p+32)) (p+32)*2^1) (2^(p+32+1))≤atHi x p):=by
 unfold atLo atHi bkL bkH
 rw[decide_eq_false (bZ h).1,if_neg (by decide),if_neg (by decide)]
 constructor
 ·intro c
  unfold atA atB atK
  rw[if_pos c,if_pos c,if_pos c]
  exact⟨(mK _ p).1,(mK _ p).2⟩
 ·intro c
  unfold atA atB atK
  rw[if_neg c,if_neg c,if_neg c,(pt _ _).1,(pt _ _).1]
  exact⟨(p8 _ p).1,(p8 _ p).2⟩
theorem sgn_subN {a b w:Nat} (h:b≤a):sgn false (a - b) (2^w)=sgn false a (2^w) - sgn false b (2^w):=by
 have:=pu (a - b) b w
 rw[Nat.sub_add_cancel h] at this
 grind
def waQ (f:Nat) (x:Rat):Bool→Nat→Rat
 |false,0=>0
 |true,0=>1
 |false,j+1=>1 - x*waQ f x true j*((wav f (23 - j):Nat):Rat)⁻¹
 |true,j+1=>1 - x*waQ f x false j*((wav f (23 - j):Nat):Rat)⁻¹
theorem waQ_s (f:Nat) (x:Rat) (c:Bool) (j:Nat):waQ f x c (j+1)=1 - x*waQ f x (!c) j*((wav f (23 - j):Nat):Rat)⁻¹:=by cases c<;>rfl
theorem tW {f:Nat} (hf:1≤f) (i:Nat):0≤((wav f i:Nat):Rat)⁻¹∧((wav f i:Nat):Rat)*((wav f i:Nat):Rat)⁻¹=1:=by
 have h:(0:Rat) < ((wav f i:Nat):Rat):=by exact_mod_cast τ (nJ hf)
 exact⟨llt (Rat.inv_pos.2 h),qBf _ (by grind)⟩
theorem wav_r1 (i:Nat):((wav 1 i:Nat):Rat)⁻¹≤1 / 2:=by
 have h:(2:Rat)≤((wav 1 i:Nat):Rat):=by
  have:1*2≤wav 1 i:=qAk (by omega) (by omega)
  exact_mod_cast this
 have:=fp (by decide) h
 rw[show(1 / 2:Rat)=(2:Rat)⁻¹ by decide+kernel]
 exact this
theorem wav_r2 (i:Nat):((wav 2 i:Nat):Rat)⁻¹≤1 / 6:=by
 have h:(6:Rat)≤((wav 2 i:Nat):Rat):=by
  have:2*3≤wav 2 i:=qAk (by omega) (by omega)
  exact_mod_cast this
 have:=fp (by decide) h
 rw[show(1 / 6:Rat)=(6:Rat)⁻¹ by decide+kernel]
 exact this
theorem wa_step {x y Q R e r:Rat} (hx:0≤x) (h:x≤y) (hy:y≤1) (r0:0≤r) (r1:r*2≤1) (e0:0≤e) (e1:e≤r) (q1:1 - r≤R) (q2:R≤Q) (q3:Q≤1) (q4:Q - R≤(y - x)*r):
  1 - r≤1 - y*R*e∧1 - y*R*e≤1 - x*Q*e∧1 - x*Q*e≤1∧(1 - x*Q*e) - (1 - y*R*e)≤(y - x)*r:=by
 have d0:0≤y - x:=by grind
 have R0:0≤R:=by grind
 have t1:0≤(y - x)*(R - (1 - r)):=mnn d0 (by grind)
 have t2:0≤x*((y - x)*r - (Q - R)):=mnn hx (by grind)
 have t3:0≤(1 - x)*((y - x)*r):=mnn (by grind) (mnn d0 r0)
 have t4:0≤(y - x)*(1 - r*2):=mnn d0 (by grind)
 have a1:x*Q≤y*R:=by grind
 have t5:0≤(1 - y)*R:=mnn (by grind) R0
 have a2:y*R≤1:=by grind
 have t6:0≤(y - x)*(1 - R):=mnn d0 (by grind)
 have t7:0≤x*(Q - R):=mnn hx (by grind)
 have a3:y*R - x*Q≤y - x:=by grind
 have a0:0≤x*Q:=mnn hx (by grind)
 have m1:=mlr a1 e0
 have m2:=mlr a2 e0
 have m3:=mlr a3 e0
 have m4:=mll e1 d0
 have m5:=mnn a0 e0
 clear t1 t2 t3 t4 t5 t6 t7
 refine⟨?_,?_,?_,?_⟩<;>grind
theorem yO {f:Nat} {x y r:Rat} (hf:1≤f) (r0:0≤r) (r1:r*2≤1) (hr:∀i,((wav f i:Nat):Rat)⁻¹≤r) (hx:0≤x) (h:x≤y) (hy:y≤1):
  ∀(j:Nat) (c:Bool),c=true∨1≤j→1 - r≤waQ f y c j∧waQ f y c j≤waQ f x c j∧waQ f x c j≤1∧waQ f x c j - waQ f y c j≤(y - x)*r
 | 0,c,hc=>by
  have:c=true:=hc.elim id fun k=>absurd k (by decide)
  subst this
  have:=mnn (show 0≤y - x by grind) r0
  show 1 - r≤1∧(1:Rat)≤1∧(1:Rat)≤1∧1 - 1≤(y - x)*r
  grind
 | j +1,c,_=>by
  rw[waQ_s,waQ_s]
  obtain⟨e0,_⟩:=tW hf (23 - j)
  have e1:=hr (23 - j)
  by_cases hc:(!c)=true∨1≤j
  ·obtain⟨q1,q2,q3,q4⟩:=yO hf r0 r1 hr hx h hy j (!c) hc
   exact wa_step hx h hy r0 r1 e0 e1 q1 q2 q3 q4
  ·have j0:j=0:=by omega
   have c1:(!c)=false:=by simpa using fun k=>hc (.inl k)
   subst j0
   rw[c1,show waQ f x false 0=0 from rfl,show waQ f y false 0=0 from rfl]
   have:=mnn (show 0≤y - x by grind) r0
   refine⟨?_,?_,?_,?_⟩<;>grind
theorem waQ_c {x y:Rat} (hx:0≤x) (h:x≤y) (hy:y≤1) (c:Bool):1 / 2≤waQ 1 y c 24∧waQ 1 y c 24≤waQ 1 x c 24∧waQ 1 x c 24≤1:=by
 obtain⟨h1,h2,h3,_⟩:=yO (r:=1 / 2) (η 1) (by decide+kernel) (by decide+kernel) wav_r1 hx h hy 24 c (.inr (by decide))
 exact⟨by grind,h2,h3⟩
theorem uX {x y:Rat} (hx:0≤x) (h:x≤y) (hy:y≤1) (c:Bool):5 / 6≤waQ 2 (y^2) c 24∧x*waQ 2 (x^2) c 24≤y*waQ 2 (y^2) c 24∧y*waQ 2 (y^2) c 24 - x*waQ 2 (x^2) c 24≤y - x∧waQ 2 (x^2) c 24≤1:=by
 have sq:∀z:Rat,z^2=z*z:=fun z=>by rw[show(2:Nat)=1+1 from rfl,Rat.pow_succ,Rat.pow_one]
 have y0:0≤y:=qAq hx h
 have t0:x*x≤x*y:=mll h hx
 have t1:x*y≤y*y:=mlr h y0
 have t2:y*y≤y*1:=mll hy y0
 obtain⟨h1,h2,h3,h4⟩:=yO (f:=2) (x:=x^2) (y:=y^2) (r:=1 / 6) (by decide) (by decide+kernel) (by decide+kernel) wav_r2 (by rw[sq];exact mnn hx hx) (by rw[sq,sq];grind) (by rw[sq];grind) 24 c (.inr (by decide))
 generalize waQ 2 (x^2) c 24=Q at*
 generalize waQ 2 (y^2) c 24=R at*
 rw[sq,sq] at h4
 have d0:0≤y - x:=by grind
 have u1:0≤(y - x)*(R - 5 / 6):=mnn d0 (by grind)
 have u2:0≤x*((y*y - x*x)*(1 / 6) - (Q - R)):=mnn hx (by grind)
 have u3:0≤(1 - x)*((y - x)*(y+x)):=mnn (by grind) (mnn d0 (by grind))
 have u4:0≤(y - x)*(2 - (y+x)):=mnn d0 (by grind)
 have u5:0≤(y - x)*(1 - R):=mnn d0 (by grind)
 have u6:0≤x*(Q - R):=mnn hx (by grind)
 refine⟨by grind,by grind,by grind,h3⟩
theorem waV_Q {w f s t:Nat} {x:Rat} (hf:1≤f) (hx:0≤x) (hs:(s:Rat)≤x*((2^w:Nat):Rat)) (ht:x*((2^w:Nat):Rat)≤(t:Rat)) (ls:s≤2^w) (lt:t≤2^w):
  ∀j,((waV w f s t false j:Nat):Rat)≤((2^w:Nat):Rat)*waQ f x false j∧((2^w:Nat):Rat)*waQ f x true j≤((waV w f s t true j:Nat):Rat)
 | 0=>by
  rw[waV_0,Gd,show waQ f x false 0=0 from rfl,show waQ f x true 0=1 from rfl,Rat.mul_zero,Rat.mul_one]
  exact⟨qBk,qBk⟩
 | j + 1=>by
  obtain⟨h1,h2⟩:=waV_Q hf hx hs ht ls lt j
  obtain⟨b1,b2⟩:=B6 (j:=j) hf ls lt
  have u0:=u_pos w
  have hk:wav f (23 - j)*2^w≠0:=qBe (nJ hf) (am w)
  obtain⟨_,i1⟩:=tW hf (23 - j)
  have k0:(0:Rat) < ((wav f (23 - j):Nat):Rat):=by exact_mod_cast τ (nJ hf)
  have v1:(0:Rat)≤((waV w f s t true j:Nat):Rat):=by exact_mod_cast qBh _
  have v2:(0:Rat)≤((waV w f s t false j:Nat):Rat):=by exact_mod_cast qBh _
  have xu:0≤x*((2^w:Nat):Rat):=mnn hx (llt u0)
  have m1:=mlr ht v1
  have m2:=mll h2 xu
  have m3:=mlr hs v2
  have m4:=mll h1 xu
  rw[waV_s,qp,waQ_s,waQ_s]
  have c1:=dY (a:=2^w*2^w*wav f (23 - j) - t*waV w f s t true j) hk
  have c2:=cZ (a:=2^w*2^w*wav f (23 - j) - s*waV w f s t false j) hk
  have e1:((2^w*2^w*wav f (23 - j) - t*waV w f s t true j:Nat):Rat)=((2^w:Nat):Rat)*((2^w:Nat):Rat)*((wav f (23 - j):Nat):Rat) - (t:Rat)*((waV w f s t true j:Nat):Rat):=by
   have:((2^w*2^w*wav f (23 - j) - t*waV w f s t true j:Nat):Rat)+((t*waV w f s t true j:Nat):Rat)=((2^w*2^w*wav f (23 - j):Nat):Rat):=by
    rw[←Rat.natCast_add,Nat.sub_add_cancel b1]
   rw[qAl,qAl,qAl] at this
   generalize((2^w*2^w*wav f (23 - j) - t*waV w f s t true j:Nat):Rat)=z at*
   grind
  have e2:((2^w*2^w*wav f (23 - j) - s*waV w f s t false j:Nat):Rat)=((2^w:Nat):Rat)*((2^w:Nat):Rat)*((wav f (23 - j):Nat):Rat) - (s:Rat)*((waV w f s t false j:Nat):Rat):=by
   have:((2^w*2^w*wav f (23 - j) - s*waV w f s t false j:Nat):Rat)+((s*waV w f s t false j:Nat):Rat)=((2^w*2^w*wav f (23 - j):Nat):Rat):=by
    rw[←Rat.natCast_add,Nat.sub_add_cancel b2]
   rw[qAl,qAl,qAl] at this
   generalize((2^w*2^w*wav f (23 - j) - s*waV w f s t false j:Nat):Rat)=z at*
   grind
  rw[e1,qAl (wav f (23 - j))] at c1
  rw[e2,qAl (wav f (23 - j))] at c2
  clear e1 e2 b1 b2 hk
  generalize(((2^w*2^w*wav f (23 - j) - t*waV w f s t true j) / (wav f (23 - j)*2^w):Nat):Rat)=Z1 at*
  generalize((cdiv (2^w*2^w*wav f (23 - j) - s*waV w f s t false j) (wav f (23 - j)*2^w):Nat):Rat)=Z2 at*
  generalize((waV w f s t true j:Nat):Rat)=V at*
  generalize((waV w f s t false j:Nat):Rat)=W at*
  generalize((wav f (23 - j):Nat):Rat)=K at*
  generalize((2^w:Nat):Rat)=u at*
  simp only[Bool.not_false,Bool.not_true]
  generalize waQ f x true j=Q at*
  generalize waQ f x false j=R at*
  have ku:0 < K*u:=Rat.mul_pos k0 u0
  constructor
  ·refine lmm (c:=K*u) ?_ ku
   have:u*(1 - x*Q*K⁻¹)*(K*u)=u*u*K - x*u*(u*Q)*(K*K⁻¹):=by grind
   rw[this,i1]
   grind
  ·refine lmm (c:=K*u) ?_ ku
   have:u*(1 - x*R*K⁻¹)*(K*u)=u*u*K - x*u*(u*R)*(K*K⁻¹):=by grind
   rw[this,i1]
   grind
theorem nw {y w:Nat} (h:y≤2^w):0≤(y:Rat) / ((2^w:Nat):Rat)∧(y:Rat) / ((2^w:Nat):Rat)≤1:=by
 have u0:=u_pos w
 have e:((2^w:Nat):Rat) / ((2^w:Nat):Rat)=1:=by rw[qAx];exact qBf _ (by grind)
 have h1:=fT (w:=w) h
 have h0:=fT (w:=w) (qBh y)
 rw[e] at h1
 have z:((0:Nat):Rat) / ((2^w:Nat):Rat)=0:=by rw[qAx,show((0:Nat):Rat)=0 from rfl,Rat.zero_mul]
 rw[z] at h0
 exact⟨h0,h1⟩
theorem wv_Q {y w f:Nat} (hf:1≤f) (hy:y≤2^w):((wvL y w f:Nat):Rat)≤((2^w:Nat):Rat)*waQ f (((y:Rat) / ((2^w:Nat):Rat))^2) false 24∧((2^w:Nat):Rat)*waQ f (((y:Rat) / ((2^w:Nat):Rat))^2) true 24≤((wvH y w f:Nat):Rat):=by
 obtain⟨q1,q2⟩:=sq_in (w:=w) (η y) (η y)
 exact waV_Q hf (Rat.pow_nonneg (nw hy).1) q1 q2 (mj hy) (jV hy) 24
theorem cs_Q {y w:Nat} (hy:y≤2^w):sgn false (wvL y w 1) (2^w)≤waQ 1 (((y:Rat) / ((2^w:Nat):Rat))^2) false 24∧waQ 1 (((y:Rat) / ((2^w:Nat):Rat))^2) true 24≤sgn false (wvH y w 1) (2^w):=by
 obtain⟨h1,h2⟩:=wv_Q (f:=1) (by decide) hy
 have e1:=sgn_u (wvL y w 1) w
 have e2:=sgn_u (wvH y w 1) w
 have u0:=u_pos w
 rw[←e1,Rat.mul_comm] at h1
 rw[←e2,Rat.mul_comm _ ((2^w:Nat):Rat)] at h2
 exact⟨Rat.le_of_mul_le_mul_left h1 u0,Rat.le_of_mul_le_mul_left h2 u0⟩
def snX (a:Rat) (low:Bool):Rat:=a*waQ 2 (a^2) (low == decide (a < 0)) 24
theorem sn_Q {y w:Nat} (hy:y≤2^w):sgn false (y*wvL y w 2 / 2^w) (2^w)≤(y:Rat) / ((2^w:Nat):Rat)*waQ 2 (((y:Rat) / ((2^w:Nat):Rat))^2) false 24∧(y:Rat) / ((2^w:Nat):Rat)*waQ 2 (((y:Rat) / ((2^w:Nat):Rat))^2) true 24≤sgn false (cdiv (y*wvH y w 2) (2^w)) (2^w):=by
 obtain⟨h1,h2⟩:=wv_Q (f:=2) (by decide) hy
 have e1:=sgn_u (y*wvL y w 2 / 2^w) w
 have e2:=sgn_u (cdiv (y*wvH y w 2) (2^w)) w
 have u0:=u_pos w
 have d1:=dY (a:=y*wvL y w 2) (am w)
 have d2:=cZ (a:=y*wvH y w 2) (am w)
 have ey:(y:Rat) / ((2^w:Nat):Rat)*((2^w:Nat):Rat)=(y:Rat):=Rat.div_mul_cancel (by grind)
 have y0:=(nw hy).1
 rw[qAl,←e1] at d1
 rw[qAl,←e2] at d2
 generalize sgn false (y*wvL y w 2 / 2^w) (2^w)=A at*
 generalize sgn false (cdiv (y*wvH y w 2) (2^w)) (2^w)=B at*
 generalize((wvL y w 2:Nat):Rat)=L at*
 generalize((wvH y w 2:Nat):Rat)=H at*
 generalize waQ 2 (((y:Rat) / ((2^w:Nat):Rat))^2) false 24=Q at*
 generalize waQ 2 (((y:Rat) / ((2^w:Nat):Rat))^2) true 24=R at*
 rw[←ey] at d1 d2
 clear e1 e2 ey
 generalize(y:Rat) / ((2^w:Nat):Rat)=z at*
 generalize((2^w:Nat):Rat)=u at*
 have zu:=mnn y0 (llt u0)
 have m1:=mll h1 zu
 have m2:=mll h2 zu
 have uu:=Rat.mul_pos u0 u0
 constructor
 ·refine lmm (c:=u*u) ?_ uu
  grind
 ·refine lmm (c:=u*u) ?_ uu
  grind
theorem Dd {q:Rat} {w:Nat} (hq:∃z:Int,q=(z:Rat) / 2^w):(0≤q→((glo q w:Nat):Rat) / ((2^w:Nat):Rat)=q)∧(q < 0→((glo q w:Nat):Rat) / ((2^w:Nat):Rat)= -q):=by
 obtain⟨z,rfl⟩:=hq
 rw[iC]
 have u0:=u_pos w
 have eu:((2^w:Nat):Rat)=(2:Rat)^w:=by push_cast;rfl
 rw[eu] at u0 ⊢
 generalize(2:Rat)^w=u at*
 have i0:=Rat.inv_pos.2 u0
 have iz:u*u⁻¹=1:=qBf _ (by grind)
 have ez:(z:Rat)*u⁻¹*u=(z:Rat):=by grind
 rw[qAx,qAx]
 have en:((z.natAbs:Nat):Rat)=((z.natAbs:Int):Rat):=rfl
 constructor
 ·intro h
  have:(0:Rat)≤(z:Rat):=by
   have:=mnn h (llt u0)
   rw[ez] at this
   exact this
  have:0≤z:=by exact_mod_cast this
  rw[en,Int.natAbs_of_nonneg this]
 ·intro h
  have:(z:Rat) < (0:Rat):=by
   have:=Rat.mul_lt_mul_of_pos_right h u0
   rw[ez,Rat.zero_mul] at this
   exact this
  have:z < 0:=by exact_mod_cast this
  rw[en,show((z.natAbs:Nat):Int)= -z by omega,Rat.intCast_neg,Rat.neg_mul]
theorem BO {q:Rat} {w:Nat} (hq:∃z:Int,q=(z:Rat) / 2^w) (hy:glo q w≤2^w):snAt q w true≤snX q true∧snX q false≤snAt q w false:=by
 obtain⟨g1,g2⟩:=Dd hq
 obtain⟨s1,s2⟩:=sn_Q hy
 unfold snAt snX
 have sq:∀z:Rat,(-z)^2=z^2:=fun z=>by rw[show(2:Nat)=1+1 from rfl,Rat.pow_succ,Rat.pow_one,Rat.pow_succ,Rat.pow_one];grind
 by_cases h:q < 0
 ·have hn:=num_lt0.2 h
  rw[g2 h,sq] at s1 s2
  rw[decide_eq_true h,decide_eq_true hn,if_neg (by decide),if_pos (by decide),qk,qk,show((true:Bool) == true)=true from rfl,show(false == true)=false from rfl]
  constructor<;>grind
 ·have hn:¬q.num < 0:=fun c=>h (num_lt0.1 c)
  rw[g1 (by grind)] at s1 s2
  rw[decide_eq_false h,decide_eq_false hn,if_pos (by decide),if_neg (by decide),show(true == false)=false from rfl,show(false == false)=true from rfl]
  exact⟨s1,s2⟩
theorem iK {a d:Nat} (_:d≠0):cdiv a d*d≤a+d:=by
 have h:=Nat.div_mul_le_self (a+(d - 1)) d
 unfold cdiv
 omega
theorem iw {a d:Nat} (hd:d≠0):a≤a / d*d+d:=by
 have h1:=Nat.div_add_mod a d
 have h2:=qBl a (τ hd)
 rw[ρ] at h1
 omega
theorem Bo {a b c d P U:Nat} (hP:0 < P) (hU:U≤c*P) (h:a*P≤b*P+U+P*d):a≤b+c+d:=by
 refine Nat.le_of_mul_le_mul_right (c:=P) ?_ hP
 rw[Nat.add_mul,Nat.add_mul,ρ d P]
 omega
theorem FV {a b w:Nat} (h:a≤b) (hb:b≤2^w):sqL a w≤sqH b w∧sqH b w≤sqL a w+2*(b - a)+2:=by
 have hU:=τ (am w)
 have h1:=iK (a:=b*b) (am w)
 have h2:=iw (a:=a*a) (am w)
 refine⟨de (am w) (qAk h h),?_⟩
 unfold sqL sqH
 generalize a*a / 2^w=m at*
 generalize cdiv (b*b) (2^w)=n at*
 generalize 2^w=U at*
 obtain⟨d,rfl⟩:=Nat.exists_eq_add_of_le h
 rw[show a+d - a=d by omega]
 have k:d*(a+(a+d))≤d*(2*U):=ω _ (by omega)
 refine Nat.le_of_mul_le_mul_right (c:=U) ?_ hU
 grind
theorem arc_step {U K P s t F T d A B:Nat} (hU:0 < U) (hK:0 < K) (hs:s*16≤U) (hF:F≤T) (hT:T≤2*U) (e:t=s+d) (h1:A*(K*U)+s*F*K≤U*U+K*U) (h2:U*U≤B*(K*U)+K*U+t*T*K) (ih:T*P≤F*P+U+P*(3*d+3)):A*(P*16)≤B*(P*16)+U+(P*16)*(3*d+3):=by
 obtain⟨g,rfl⟩:=Nat.exists_eq_add_of_le hF
 subst e
 have k0:(A*U)*K≤(B*U+2*U+s*g+d*(F+g))*K:=by grind
 have k0:=Nat.le_of_mul_le_mul_right k0 hK
 have k1:(s*16)*g≤U*g:=ψ _ hs
 have k2:d*(F+g)≤d*(2*U):=ω _ hT
 have k3:(A*16)*U≤(B*16+32+g+32*d)*U:=by grind
 have k4:=Nat.le_of_mul_le_mul_right k3 hU
 have k5:=ψ P k4
 grind
theorem CQ {w s t d:Nat} (hw:20≤w) (hs:s*16≤2^w) (ht:t≤2^w) (e:t=s+d):
  ∀j,j≤39→arcV w s t false j≤arcV w s t true j∧arcV w s t true j*16^j≤arcV w s t false j*16^j+2^w+16^j*(3*d+3)
 | 0,_=>by
  obtain⟨l1,l2⟩:=Ay (w:=w) (s:=s) (t:=t) (j:=0) (by decide)
  have hU:=qAv (n:=2) (by decide) hw
  rw[Nat.pow_zero]
  refine⟨?_,?_⟩
  ·refine χ l2 ?_
   rw[vR]
   exact i8 _ (by decide)
  ·have:=Nat.div_le_self (2^w) (79 - 2*0)
   omega
 | j +1,hj=>by
  obtain⟨i1,i2⟩:=CQ hw hs ht e j (by omega)
  obtain⟨b1,b2⟩:=sR (w:=w) (s:=s) (t:=t) (j:=j) hw (by omega) ht (by omega)
  have l1:=mT (w:=w) (s:=s) (t:=t) (j:=j) (c:=true) (by omega)
  have hk:(77 - 2*j)*2^w≠0:=qBe (by omega) (am w)
  have m1:s*arcV w s t false j*(77 - 2*j)≤t*arcV w s t true j*(77 - 2*j):=ψ _ (qAk (by omega) i1)
  have hU:=qAv (n:=2) (by decide) hw
  rw[Az,vT,qAn]
  constructor
  ·exact de hk (by omega)
  ·have c1:=iK (a:=2^w*2^w - s*arcV w s t false j*(77 - 2*j)) hk
   have c2:=iw (a:=2^w*2^w - t*arcV w s t true j*(77 - 2*j)) hk
   exact arc_step (K:=77 - 2*j) (τ (am w)) (by omega) hs i1 (by omega) e (by omega) (by omega) i2
theorem arc_wid {a b w:Nat} (h1:20≤w) (h2:w≤160) (h:a≤b) (hb:b≤2^w) (ha:a*4≤2^w):arcH a b w≤arcL a b w+8*(b - a)+27:=by
 obtain⟨q1,q2⟩:=FV h hb
 obtain⟨d,hd⟩:=Nat.exists_eq_add_of_le q1
 have hU:=τ (am w)
 have hs:sqL a w*16≤2^w:=by
  have k:=Nat.div_mul_le_self (a*a) (2^w)
  have k2:=qAk ha ha
  unfold sqL
  generalize a*a / 2^w=m at*
  generalize 2^w=U at*
  refine Nat.le_of_mul_le_mul_right (c:=U) ?_ hU
  grind
 obtain⟨i1,i2⟩:=CQ h1 hs (jV hb) hd 39 (η _)
 have i3:=Bo (c:=16) (by decide) (χ (qAv (by decide) h2) (by decide+kernel)) i2
 have l1:=mT (w:=w) (s:=sqL a w) (t:=sqH b w) (j:=39) (c:=true) (by omega)
 have c1:=iK (a:=b*arcV w (sqL a w) (sqH b w) true 39) (am w)
 have c2:=iw (a:=a*arcV w (sqL a w) (sqH b w) false 39) (am w)
 have h20:=qAv (n:=2) (by decide) h1
 unfold arcH arcL
 generalize arcV w (sqL a w) (sqH b w) true 39=T at*
 generalize arcV w (sqL a w) (sqH b w) false 39=F at*
 generalize cdiv (b*T) (2^w)=A at*
 generalize a*F / 2^w=B at*
 generalize 2^w=U at*
 obtain⟨c,rfl⟩:=Nat.exists_eq_add_of_le h
 rw[show a+c - a=c by omega] at*
 have k1:a*T≤a*(F+(3*d+19)):=ω _ (by omega)
 have k2:c*T≤c*(2*U):=ω _ (by omega)
 have k3:a*(3*d+19)≤U*(3*d+19):=ψ _ (by omega)
 have k4:A*U≤(B+(3*d+19)+2*c+2)*U:=by grind
 have k5:=Nat.le_of_mul_le_mul_right k4 hU
 omega
theorem hv_wid {a b w:Nat} (h:a≤b) (hb:b≤2^w):hvL a w≤hvH b w∧hvH b w≤hvL a w+(b - a)+3∧hvL a w*2≤a:=by
 have hU:=τ (am w)
 refine⟨dN h,?_,?_⟩
 ·have r1:rtUp (2^(2*w)+a*a)≤irt 2 (2^(2*w)+b*b)+1:=by
   have h1:irt 2 (2^(2*w)+a*a)≤irt 2 (2^(2*w)+b*b):=by
    refine jx (by decide) (χ (jS (by decide)) ?_)
    have:=qAk h h
    omega
   unfold rtUp
   split<;>omega
  unfold hvL hvH
  generalize rtUp (2^(2*w)+a*a)=R at*
  generalize irt 2 (2^(2*w)+b*b)=r at*
  have c2:=iw (a:=a*2^w) (d:=2^w+R) (by omega)
  have ma:a*2^w / (2^w+R)≤a:=Nat.div_le_of_le_mul (by rw[Nat.add_mul,ρ (2^w) a];omega)
  refine(az (by omega)).2 ?_
  generalize a*2^w / (2^w+R)=m at*
  generalize 2^w=U at*
  obtain⟨c,rfl⟩:=Nat.exists_eq_add_of_le h
  rw[show a+c - a=c by omega] at*
  have k1:m*(U+R)≤m*(U+(r+1)):=ω _ (by omega)
  have k2:m≤U:=by omega
  have k3:=qBh (c*r)
  grind
 ·have r1:=zV w a
  unfold hvL
  generalize rtUp (2^(2*w)+a*a)=R at*
  have c:=Nat.div_mul_le_self (a*2^w) (2^w+R)
  generalize a*2^w / (2^w+R)=m at*
  generalize 2^w=U at*
  have k:m*(U+U)≤m*(U+R):=ω _ (by omega)
  exact Nat.le_of_mul_le_mul_right (c:=U) (by grind) hU
theorem an_wid {a b w:Nat} (h1:20≤w) (h2:w≤160) (h:a≤b) (hb:b≤2^w):anH a b w≤anL a b w+32*(b - a)+300:=by
 obtain⟨a1,a2,a3⟩:=hv_wid h hb
 have b1:hvH b w≤2^w:=χ (dk b w) hb
 obtain⟨a4,a5,a6⟩:=hv_wid a1 b1
 have b2:hvH (hvH b w) w≤2^w:=χ (dk _ w) b1
 have:=arc_wid h1 h2 a4 b2 (by omega)
 unfold anH anL
 omega
theorem Fj (x:Rat) (w:Nat):ghi x w≤glo x w+1:=by
 have h:=iw (a:=x.num.natAbs*2^w) x.den_nz
 unfold ghi glo
 exact(az x.den_nz).2 (by rw[qAm,qAz,ρ x.den];exact h)
def Fin2 (p:Nat) (x y:Rat):Prop:=(∃a b:Int,x*2^p=(a:Rat)∧y*2^p=(b:Rat)∧a≤b∧b≤a+2)
theorem eG (neg:Bool) (n p:Nat):sgn neg n (2^p)*2^p=((if neg then -(n:Int) else n:Int):Rat):=by
 have h:=sgn_u n p
 push_cast at h
 rw[yC]
 cases neg
 ·rw[if_neg (by decide),if_neg (by decide),h];rfl
 ·rw[if_pos rfl,if_pos rfl,Rat.neg_mul,h];push_cast;rfl
theorem two_out {a b k:Nat} (h:b≤a+2^k):cdiv b (2^k)≤a / 2^k+2:=by
 have h1:=iw (a:=a) (am k)
 exact(az (am k)).2 (by rw[qAm,ρ (2^k)];omega)
theorem ph {neg:Bool} {a b k p:Nat} (h:a≤b) (h2:b≤a+2^k):Fin2 p (bkL neg a b k p) (bkH neg a b k p):=by
 have h3:=two_out h2
 have h4:=de (am k) h
 unfold bkL bkH
 cases neg
 ·exact⟨_,_,eG _ _ _,eG _ _ _,by simp only[qAw,if_false];omega,by simp only[qAw,if_false];omega⟩
 ·exact⟨_,_,eG _ _ _,eG _ _ _,by simp only[if_true];omega,by simp only[if_true];omega⟩
theorem Fin2.same {p:Nat} {x:Rat} (a:Int) (h:x*2^p=(a:Rat)):Fin2 p x x:=⟨a,a,h,h,by omega,by omega⟩
def piNear (w:Nat):Bool:=Nat.ble (piH w) (piL w+1024)
theorem FF:((List.range 129).all fun i=>piNear (i+32))=true:=by decide+kernel
theorem HG {w:Nat} (h1:32≤w) (h2:w≤160):piL w≤piH w∧piH w≤piL w+1024:=by
 have h:=qBd.1 FF (w - 32) (List.mem_range.2 (by omega))
 rw[show w - 32+32=w by omega] at h
 exact⟨Nat.le_of_lt (pn h1 (by omega)).2.1,by simpa[piNear] using h⟩
theorem Av {a b w:Nat} (h1:20≤w) (h2:w≤160) (h:a≤b) (hb:b≤2^w) (h3:b≤a+3):anL a b w≤anH a b w∧anH a b w≤anL a b w+396:=by
 have:=an_wid h1 h2 h hb
 exact⟨xA h1 h h h hb hb,by omega⟩
theorem at_fine {x:Rat} {p:Nat} (hp:p≤128):Fin2 p (atLo x p) (atHi x p):=by
 unfold atLo atHi
 obtain⟨p1,p2⟩:=HG (w:=p+32) (by omega) (by omega)
 by_cases hb:x.den < x.num.natAbs
 ·obtain⟨i1,i2⟩:=gC (x:=x) (by omega)
  obtain⟨l1,l2⟩:=g_le (x:=invQ x) (w:=p+32) (by rw[i1,i2];simp only[Int.natAbs_natCast];omega)
  obtain⟨a1,a2⟩:=Av (w:=p+32) (by omega) (by omega) (dH (invQ x) _) l2 (by have:=Fj (invQ x) (p+32);omega)
  refine ph ?_ ?_
  ·unfold atA atB;rw[if_pos hb,if_pos hb];omega
  ·unfold atA atB atK;rw[if_pos hb,if_pos hb,if_pos hb];omega
 ·obtain⟨l1,l2⟩:=g_le (w:=p+32) hb
  obtain⟨a1,a2⟩:=Av (w:=p+32) (by omega) (by omega) (dH x _) l2 (by have:=Fj x (p+32);omega)
  refine ph ?_ ?_
  ·unfold atA atB;rw[if_neg hb,if_neg hb];exact a1
  ·unfold atA atB atK;rw[if_neg hb,if_neg hb,if_neg hb];omega
end Go.Q
