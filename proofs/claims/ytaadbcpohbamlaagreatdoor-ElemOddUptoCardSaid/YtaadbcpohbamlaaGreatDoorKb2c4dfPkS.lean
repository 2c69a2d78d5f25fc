/-
  The statement ElemOdd. Conditions: the argument is a number as it comes in (Rw).
-/
import Derived.Test.YtaadbcpohbamlaaGreatDoorK309e69PkF
import Derived.Test.YtaadbcpohbamlaaGreatDoorK1c8271PkR
set_option linter.unusedVariables false
set_option linter.unusedSimpArgs false
namespace Go.Q
open Go.Proofs
set_option maxRecDepth 100000
set_option maxHeartbeats 8000000
theorem LTie_spec {h0 h:PH} [Le h0 h] {v:Value} {x:Rat} {p:Nat} (hx:Qr h0 v x) (bx:sz x≤2048) (hp:p≤128):Spec mach 10 #[v,.int .i64 p] h (fun r _=>r=.bool (decide (rsK x (p+64)+rsK (-x) (p+64)≠0))) NP:=by
  have kR:=fun {h0 h:PH} {w:Value} [Le h0 h] (c:Qr h0 w x)=>RRest_spec (h:=h) (w:=p+64) c bx (by omega) (by omega)
  have kS:=fun {h0 h:PH} {w:Value} [Le h0 h] (c:Qr h0 w (-x))=>RRest_spec (h:=h) (w:=p+64) c (by rw[sz_neg];exact bx) (by omega) (by omega)
  have ew:IntKind.i64.wrap ((p:Int)+64)=((p+64:Nat):Int):=by rw[wi64 (by omega) (by omega)];omega
  have z1:sz ((rsK x (p+64):Int):Rat)≤2^20:=by
    have:=sz_floor (x*(fW (p+64))⁻¹+1 / 2)
    have:=sz_add (x*(fW (p+64))⁻¹) (1 / 2)
    have:=sz_mul x (fW (p+64))⁻¹
    have:=sz_inv (fW (p+64))
    have:=(fWq_sz (w:=p+64) (by omega)).1
    have:sz (1 / 2:Rat)≤64:=by decide+kernel
    unfold rsK
    omega
  have z2:sz ((rsK (-x) (p+64):Int):Rat)≤2^20:=by
    have:=sz_floor (-x*(fW (p+64))⁻¹+1 / 2)
    have:=sz_add (-x*(fW (p+64))⁻¹) (1 / 2)
    have:=sz_mul (-x) (fW (p+64))⁻¹
    have:=sz_neg x
    have:=sz_inv (fW (p+64))
    have:=(fWq_sz (w:=p+64) (by omega)).1
    have:sz (1 / 2:Rat)≤64:=by decide+kernel
    unfold rsK
    omega
  have es:(sgn3 ((rsK x (p+64):Rat)+(rsK (-x) (p+64):Rat)) != 0)=decide (rsK x (p+64)+rsK (-x) (p+64)≠0):=by
    rw[←Rat.intCast_add]
    generalize rsK x (p+64)+rsK (-x) (p+64)=z
    have:(z:Rat)=0↔z=0:=Rat.intCast_eq_zero_iff
    unfold sgn3
    rw[Bool.eq_iff_iff]
    by_cases hz:z=0
    · subst hz;simp
    · have hz':(z:Rat)≠0:=fun c=>hz (this.1 c)
      simp only[hz,ne_eq,not_false_eq_true,decide_true,iff_true]
      by_cases g1:(z:Rat) < 0
      · rw[if_pos g1];rfl
      · rw[if_neg g1,if_pos (by grind)];rfl
  generalize rsK x (p+64)=k at*
  generalize rsK (-x) (p+64)=l at*
  generalize rsA x (p+64)=A at*
  generalize rsB x (p+64)=B at*
  generalize rsA (-x) (p+64)=A' at*
  generalize rsB (-x) (p+64)=B' at*
  have z1:=Hid.mk z1
  have z2:=Hid.mk z2
  obtain⟨_,_,_,_,_,_,_,rfl,hx⟩:=hx.sa
  refine Spec.go [] Tryz.func10 rfl rfl (by kernel_rfl) fun C _=>?_
  try simp(maxSteps:=999999) (disch:=omega) only[go_sem,Nat.reduceBEq,Nat.reduceAdd,ew]
  refine caN (by exact kR hx) ?_;rintro v1 g1 s1 ⟨_,_,_,_,_,_,_,_,_,_,_,_,_,_,_,_,_,_,_,_,_,rfl,q1,_,_⟩
  try simp(maxSteps:=999999) (disch:=omega) only[go_sem,Nat.reduceBEq,Nat.reduceAdd]
  refine caN (by exact Opp_spec (hx.to (h':=g1))) ?_;rintro v2 g2 s2 q2;obtain⟨_,_,_,_,_,_,_,rfl,q2⟩:=q2.sa
  try simp(maxSteps:=999999) (disch:=omega) only[go_sem,Nat.reduceBEq,Nat.reduceAdd,ew]
  refine caN (by exact kS q2) ?_;rintro v3 g3 s3 ⟨_,_,_,_,_,_,_,_,_,_,_,_,_,_,_,_,_,_,_,_,_,rfl,q3,_,_⟩
  try simp(maxSteps:=999999) (disch:=omega) only[go_sem,Nat.reduceBEq,Nat.reduceAdd]
  refine caN (by exact Sum_spec (q1.to (h':=g3)) q3 (Nat.le_trans z1.out (by decide)) (Nat.le_trans z2.out (by decide))) ?_;rintro v4 g4 s4 q4;obtain⟨_,_,_,_,_,_,_,rfl,q4⟩:=q4.sa
  try simp(maxSteps:=999999) (disch:=omega) only[go_sem,Nat.reduceBEq,Nat.reduceAdd]
  refine caN (by exact Sgn_spec q4) ?_;rintro v5 g5 s5 rfl
  try simp(maxSteps:=999999) (disch:=omega) only[go_sem,Nat.reduceBEq,Nat.reduceAdd]
  rw[es]
theorem Rw.sz35 {h:PH} {v:Value} {neg:Bool} {n d:Nat} (r:Rw h v neg n d):sz (qof neg n d)≤2^35:=by
  obtain⟨a,c,xs,a',c',ys,rfl,ha,ha',en,ed,lx,ly⟩:=r
  have bn:=val_bl ha.lt
  have bd:=val_bl ha'.lt
  rw[en] at bn
  rw[ed] at bd
  have b:=sz_sgn neg n (dz_ne d)
  have b':bl (dz d)≤max (bl d) 1:=by unfold dz;split;exact Nat.le_max_right _ _;exact Nat.le_max_left _ _
  unfold qof
  omega
theorem cmpQ_self (x:Rat):(cmpQ x x == 0)=true:=by unfold cmpQ;grind
theorem Odd_core {h0 h:PH} [Le h0 h] {v:Value} {neg:Bool} {n d:Nat} {x lo hi a b:Rat} {fn p:Int} {ok is t:Bool} (hf:fn=3∨fn=4∨fn=5∨fn=6∨fn=8)
    (kO:∀{h:PH} [Le h0 h],Spec mach 7 #[v] h (fun v h'=>Qr h' v x) NP)
    (sv:∃b na nl nc da dl dc,v=.agg #[.bool b,.slice na nl nc,.slice da dl dc])
    (k1:∀{h0 h:PH} {w:Value} [Le h0 h],Qr h0 w x→Spec mach 8 #[.int .i64 fn,w,.int .i64 p] h (fun r h'=>Qb h' r lo hi ok) NP)
    (k2:∀{h0 h:PH} {w:Value} [Le h0 h],Qr h0 w (-x)→Spec mach 8 #[.int .i64 fn,w,.int .i64 p] h (fun r h'=>Qb h' r a b is) NP)
    (kT:(ok=true∨is=true)→∀{h0 h:PH} {w:Value} [Le h0 h],Qr h0 w x→Spec mach 10 #[w,.int .i64 p] h (fun r _=>r=.bool t) NP)
    (hn:ok≠is→fn=5∧t=true) (hE:ok=true→is=true→fn=4→t=false→a=lo∧b=hi) (hO:ok=true→is=true→fn≠4→(fn=6∨fn=8∨t=false)→a= -hi∧b= -lo)
    (sl:sz lo≤2048) (sh:sz hi≤2048):
    Spec mach 3 #[.int .i64 fn,v,.int .i64 p] h (fun r _=>r=.bool true) NP:=by
  have el:=cmpQ_self lo
  have eh:=cmpQ_self hi
  have sl:=Hid.mk (Nat.le_trans sl (show 2048≤2^34 by decide))
  have sh:=Hid.mk (Nat.le_trans sh (show 2048≤2^34 by decide))
  obtain⟨_,_,_,_,_,_,_,rfl⟩:=sv
  by_cases hd:ok=is
  · subst hd
    cases ok with
    | false=>
      clear hE hO hn kT
      rcases hf with rfl |rfl |rfl |rfl |rfl
      all_goals
        refine Spec.go [] Tryz.func3 rfl rfl (by kernel_rfl) fun C _=>?_
        try simp(maxSteps:=999999) (disch:=omega) only[go_sem,Nat.reduceBEq,Nat.reduceAdd]
        refine caN (by exact kO) ?_;rintro v1 g1 s1 q1;obtain⟨_,_,_,_,_,_,_,rfl,q1⟩:=q1.sa
        try simp(maxSteps:=999999) (disch:=omega) only[go_sem,Nat.reduceBEq,Nat.reduceAdd]
        refine caN (by exact k1 q1) ?_;rintro v2 g2 s2 ⟨_,_,_,_,_,_,_,_,_,_,_,_,_,_,rfl,_,_⟩
        try simp(maxSteps:=999999) (disch:=omega) only[go_sem,Nat.reduceBEq,Nat.reduceAdd]
        refine caN (by exact Opp_spec (q1.to (h':=g2))) ?_;rintro v3 g3 s3 q3;obtain⟨_,_,_,_,_,_,_,rfl,q3⟩:=q3.sa
        try simp(maxSteps:=999999) (disch:=omega) only[go_sem,Nat.reduceBEq,Nat.reduceAdd]
        refine caN (by exact k2 q3) ?_;rintro v4 g4 s4 ⟨_,_,_,_,_,_,_,_,_,_,_,_,_,_,rfl,_,_⟩
        try simp(maxSteps:=999999) (disch:=omega) only[go_sem,Nat.reduceBEq,Nat.reduceAdd]
        refine caN (by exact sane_spec) ?_;rintro v5 g5 s5 rfl
        try simp(maxSteps:=999999) (disch:=omega) only[go_sem,Nat.reduceBEq,Nat.reduceAdd]
    | true=>
      have kT:=fun {h0 h:PH} {w:Value} [Le h0 h] (c:Qr h0 w x)=>kT (.inl rfl) (h:=h) c
      have hE:=hE rfl rfl
      have hO:=hO rfl rfl
      clear hn
      rcases hf with rfl |rfl |rfl |hf
      · cases t with
        | true=>
          clear hE hO
          refine Spec.go [] Tryz.func3 rfl rfl (by kernel_rfl) fun C _=>?_
          try simp(maxSteps:=999999) (disch:=omega) only[go_sem,Nat.reduceBEq,Nat.reduceAdd]
          refine caN (by exact kO) ?_;rintro v1 g1 s1 q1;obtain⟨_,_,_,_,_,_,_,rfl,q1⟩:=q1.sa
          try simp(maxSteps:=999999) (disch:=omega) only[go_sem,Nat.reduceBEq,Nat.reduceAdd]
          refine caN (by exact k1 q1) ?_;rintro v2 g2 s2 ⟨_,_,_,_,_,_,_,_,_,_,_,_,_,_,rfl,_,_⟩
          try simp(maxSteps:=999999) (disch:=omega) only[go_sem,Nat.reduceBEq,Nat.reduceAdd]
          refine caN (by exact Opp_spec (q1.to (h':=g2))) ?_;rintro v3 g3 s3 q3;obtain⟨_,_,_,_,_,_,_,rfl,q3⟩:=q3.sa
          try simp(maxSteps:=999999) (disch:=omega) only[go_sem,Nat.reduceBEq,Nat.reduceAdd]
          refine caN (by exact k2 q3) ?_;rintro v4 g4 s4 ⟨_,_,_,_,_,_,_,_,_,_,_,_,_,_,rfl,_,_⟩
          try simp(maxSteps:=999999) (disch:=omega) only[go_sem,Nat.reduceBEq,Nat.reduceAdd]
          refine caN (by exact sane_spec) ?_;rintro v5 g5 s5 rfl
          try simp(maxSteps:=999999) (disch:=omega) only[go_sem,Nat.reduceBEq,Nat.reduceAdd]
          refine caN (by exact kT (q1.to (h':=g5))) ?_;rintro v6 g6 s6 rfl
          try simp(maxSteps:=999999) (disch:=omega) only[go_sem,Nat.reduceBEq,Nat.reduceAdd]
        | false=>
          obtain⟨rfl,rfl⟩:=hO (by decide) (.inr (.inr rfl))
          clear hE hO
          refine Spec.go [] Tryz.func3 rfl rfl (by kernel_rfl) fun C _=>?_
          try simp(maxSteps:=999999) (disch:=omega) only[go_sem,Nat.reduceBEq,Nat.reduceAdd]
          refine caN (by exact kO) ?_;rintro v1 g1 s1 q1;obtain⟨_,_,_,_,_,_,_,rfl,q1⟩:=q1.sa
          try simp(maxSteps:=999999) (disch:=omega) only[go_sem,Nat.reduceBEq,Nat.reduceAdd]
          refine caN (by exact k1 q1) ?_;rintro v2 g2 s2 ⟨_,_,_,_,_,_,_,_,_,_,_,_,_,_,rfl,r1,r2⟩
          try simp(maxSteps:=999999) (disch:=omega) only[go_sem,Nat.reduceBEq,Nat.reduceAdd]
          refine caN (by exact Opp_spec (q1.to (h':=g2))) ?_;rintro v3 g3 s3 q3;obtain⟨_,_,_,_,_,_,_,rfl,q3⟩:=q3.sa
          try simp(maxSteps:=999999) (disch:=omega) only[go_sem,Nat.reduceBEq,Nat.reduceAdd]
          refine caN (by exact k2 q3) ?_;rintro v4 g4 s4 ⟨_,_,_,_,_,_,_,_,_,_,_,_,_,_,rfl,r3,r4⟩
          try simp(maxSteps:=999999) (disch:=omega) only[go_sem,Nat.reduceBEq,Nat.reduceAdd]
          refine caN (by exact sane_spec) ?_;rintro v5 g5 s5 rfl
          try simp(maxSteps:=999999) (disch:=omega) only[go_sem,Nat.reduceBEq,Nat.reduceAdd]
          refine caN (by exact kT (q1.to (h':=g5))) ?_;rintro v6 g6 s6 rfl
          try simp(maxSteps:=999999) (disch:=omega) only[go_sem,Nat.reduceBEq,Nat.reduceAdd]
          refine caN (by exact Opp_spec (r4.to (h':=g6))) ?_;rintro v7 g7 s7 q7;rw[Rat.neg_neg] at q7;obtain⟨_,_,_,_,_,_,_,rfl,q7⟩:=q7.sa
          try simp(maxSteps:=999999) (disch:=omega) only[go_sem,Nat.reduceBEq,Nat.reduceAdd]
          refine caN (by exact QCmp_spec (r1.to (h':=g7)) q7 sl.out sl.out) ?_;rintro v8 g8 s8 rfl
          try simp(maxSteps:=999999) (disch:=omega) only[go_sem,Nat.reduceBEq,Nat.reduceAdd,el]
          refine caN (by exact Opp_spec (r3.to (h':=g8))) ?_;rintro v9 g9 s9 q9;rw[Rat.neg_neg] at q9;obtain⟨_,_,_,_,_,_,_,rfl,q9⟩:=q9.sa
          try simp(maxSteps:=999999) (disch:=omega) only[go_sem,Nat.reduceBEq,Nat.reduceAdd]
          refine caN (by exact QCmp_spec (r2.to (h':=g9)) q9 sh.out sh.out) ?_;rintro v10 g10 s10 rfl
          try simp(maxSteps:=999999) (disch:=omega) only[go_sem,Nat.reduceBEq,Nat.reduceAdd,eh]
      · cases t with
        | true=>
          clear hE hO
          refine Spec.go [] Tryz.func3 rfl rfl (by kernel_rfl) fun C _=>?_
          try simp(maxSteps:=999999) (disch:=omega) only[go_sem,Nat.reduceBEq,Nat.reduceAdd]
          refine caN (by exact kO) ?_;rintro v1 g1 s1 q1;obtain⟨_,_,_,_,_,_,_,rfl,q1⟩:=q1.sa
          try simp(maxSteps:=999999) (disch:=omega) only[go_sem,Nat.reduceBEq,Nat.reduceAdd]
          refine caN (by exact k1 q1) ?_;rintro v2 g2 s2 ⟨_,_,_,_,_,_,_,_,_,_,_,_,_,_,rfl,_,_⟩
          try simp(maxSteps:=999999) (disch:=omega) only[go_sem,Nat.reduceBEq,Nat.reduceAdd]
          refine caN (by exact Opp_spec (q1.to (h':=g2))) ?_;rintro v3 g3 s3 q3;obtain⟨_,_,_,_,_,_,_,rfl,q3⟩:=q3.sa
          try simp(maxSteps:=999999) (disch:=omega) only[go_sem,Nat.reduceBEq,Nat.reduceAdd]
          refine caN (by exact k2 q3) ?_;rintro v4 g4 s4 ⟨_,_,_,_,_,_,_,_,_,_,_,_,_,_,rfl,_,_⟩
          try simp(maxSteps:=999999) (disch:=omega) only[go_sem,Nat.reduceBEq,Nat.reduceAdd]
          refine caN (by exact sane_spec) ?_;rintro v5 g5 s5 rfl
          try simp(maxSteps:=999999) (disch:=omega) only[go_sem,Nat.reduceBEq,Nat.reduceAdd]
          refine caN (by exact kT (q1.to (h':=g5))) ?_;rintro v6 g6 s6 rfl
          try simp(maxSteps:=999999) (disch:=omega) only[go_sem,Nat.reduceBEq,Nat.reduceAdd]
        | false=>
          obtain⟨rfl,rfl⟩:=hE rfl rfl
          clear hE hO
          refine Spec.go [] Tryz.func3 rfl rfl (by kernel_rfl) fun C _=>?_
          try simp(maxSteps:=999999) (disch:=omega) only[go_sem,Nat.reduceBEq,Nat.reduceAdd]
          refine caN (by exact kO) ?_;rintro v1 g1 s1 q1;obtain⟨_,_,_,_,_,_,_,rfl,q1⟩:=q1.sa
          try simp(maxSteps:=999999) (disch:=omega) only[go_sem,Nat.reduceBEq,Nat.reduceAdd]
          refine caN (by exact k1 q1) ?_;rintro v2 g2 s2 ⟨_,_,_,_,_,_,_,_,_,_,_,_,_,_,rfl,r1,r2⟩
          try simp(maxSteps:=999999) (disch:=omega) only[go_sem,Nat.reduceBEq,Nat.reduceAdd]
          refine caN (by exact Opp_spec (q1.to (h':=g2))) ?_;rintro v3 g3 s3 q3;obtain⟨_,_,_,_,_,_,_,rfl,q3⟩:=q3.sa
          try simp(maxSteps:=999999) (disch:=omega) only[go_sem,Nat.reduceBEq,Nat.reduceAdd]
          refine caN (by exact k2 q3) ?_;rintro v4 g4 s4 ⟨_,_,_,_,_,_,_,_,_,_,_,_,_,_,rfl,r3,r4⟩
          try simp(maxSteps:=999999) (disch:=omega) only[go_sem,Nat.reduceBEq,Nat.reduceAdd]
          refine caN (by exact sane_spec) ?_;rintro v5 g5 s5 rfl
          try simp(maxSteps:=999999) (disch:=omega) only[go_sem,Nat.reduceBEq,Nat.reduceAdd]
          refine caN (by exact kT (q1.to (h':=g5))) ?_;rintro v6 g6 s6 rfl
          try simp(maxSteps:=999999) (disch:=omega) only[go_sem,Nat.reduceBEq,Nat.reduceAdd]
          refine caN (by exact QCmp_spec (r1.to (h':=g6)) (r3.to (h':=g6)) sl.out sl.out) ?_;rintro v8 g8 s8 rfl
          try simp(maxSteps:=999999) (disch:=omega) only[go_sem,Nat.reduceBEq,Nat.reduceAdd,el]
          refine caN (by exact QCmp_spec (r2.to (h':=g8)) (r4.to (h':=g8)) sh.out sh.out) ?_;rintro v10 g10 s10 rfl
          try simp(maxSteps:=999999) (disch:=omega) only[go_sem,Nat.reduceBEq,Nat.reduceAdd,eh]
      · cases t with
        | true=>
          clear hE hO
          refine Spec.go [] Tryz.func3 rfl rfl (by kernel_rfl) fun C _=>?_
          try simp(maxSteps:=999999) (disch:=omega) only[go_sem,Nat.reduceBEq,Nat.reduceAdd]
          refine caN (by exact kO) ?_;rintro v1 g1 s1 q1;obtain⟨_,_,_,_,_,_,_,rfl,q1⟩:=q1.sa
          try simp(maxSteps:=999999) (disch:=omega) only[go_sem,Nat.reduceBEq,Nat.reduceAdd]
          refine caN (by exact k1 q1) ?_;rintro v2 g2 s2 ⟨_,_,_,_,_,_,_,_,_,_,_,_,_,_,rfl,_,_⟩
          try simp(maxSteps:=999999) (disch:=omega) only[go_sem,Nat.reduceBEq,Nat.reduceAdd]
          refine caN (by exact Opp_spec (q1.to (h':=g2))) ?_;rintro v3 g3 s3 q3;obtain⟨_,_,_,_,_,_,_,rfl,q3⟩:=q3.sa
          try simp(maxSteps:=999999) (disch:=omega) only[go_sem,Nat.reduceBEq,Nat.reduceAdd]
          refine caN (by exact k2 q3) ?_;rintro v4 g4 s4 ⟨_,_,_,_,_,_,_,_,_,_,_,_,_,_,rfl,_,_⟩
          try simp(maxSteps:=999999) (disch:=omega) only[go_sem,Nat.reduceBEq,Nat.reduceAdd]
          refine caN (by exact sane_spec) ?_;rintro v5 g5 s5 rfl
          try simp(maxSteps:=999999) (disch:=omega) only[go_sem,Nat.reduceBEq,Nat.reduceAdd]
          refine caN (by exact kT (q1.to (h':=g5))) ?_;rintro v6 g6 s6 rfl
          try simp(maxSteps:=999999) (disch:=omega) only[go_sem,Nat.reduceBEq,Nat.reduceAdd]
        | false=>
          obtain⟨rfl,rfl⟩:=hO (by decide) (.inr (.inr rfl))
          clear hE hO
          refine Spec.go [] Tryz.func3 rfl rfl (by kernel_rfl) fun C _=>?_
          try simp(maxSteps:=999999) (disch:=omega) only[go_sem,Nat.reduceBEq,Nat.reduceAdd]
          refine caN (by exact kO) ?_;rintro v1 g1 s1 q1;obtain⟨_,_,_,_,_,_,_,rfl,q1⟩:=q1.sa
          try simp(maxSteps:=999999) (disch:=omega) only[go_sem,Nat.reduceBEq,Nat.reduceAdd]
          refine caN (by exact k1 q1) ?_;rintro v2 g2 s2 ⟨_,_,_,_,_,_,_,_,_,_,_,_,_,_,rfl,r1,r2⟩
          try simp(maxSteps:=999999) (disch:=omega) only[go_sem,Nat.reduceBEq,Nat.reduceAdd]
          refine caN (by exact Opp_spec (q1.to (h':=g2))) ?_;rintro v3 g3 s3 q3;obtain⟨_,_,_,_,_,_,_,rfl,q3⟩:=q3.sa
          try simp(maxSteps:=999999) (disch:=omega) only[go_sem,Nat.reduceBEq,Nat.reduceAdd]
          refine caN (by exact k2 q3) ?_;rintro v4 g4 s4 ⟨_,_,_,_,_,_,_,_,_,_,_,_,_,_,rfl,r3,r4⟩
          try simp(maxSteps:=999999) (disch:=omega) only[go_sem,Nat.reduceBEq,Nat.reduceAdd]
          refine caN (by exact sane_spec) ?_;rintro v5 g5 s5 rfl
          try simp(maxSteps:=999999) (disch:=omega) only[go_sem,Nat.reduceBEq,Nat.reduceAdd]
          refine caN (by exact kT (q1.to (h':=g5))) ?_;rintro v6 g6 s6 rfl
          try simp(maxSteps:=999999) (disch:=omega) only[go_sem,Nat.reduceBEq,Nat.reduceAdd]
          refine caN (by exact Opp_spec (r4.to (h':=g6))) ?_;rintro v7 g7 s7 q7;rw[Rat.neg_neg] at q7;obtain⟨_,_,_,_,_,_,_,rfl,q7⟩:=q7.sa
          try simp(maxSteps:=999999) (disch:=omega) only[go_sem,Nat.reduceBEq,Nat.reduceAdd]
          refine caN (by exact QCmp_spec (r1.to (h':=g7)) q7 sl.out sl.out) ?_;rintro v8 g8 s8 rfl
          try simp(maxSteps:=999999) (disch:=omega) only[go_sem,Nat.reduceBEq,Nat.reduceAdd,el]
          refine caN (by exact Opp_spec (r3.to (h':=g8))) ?_;rintro v9 g9 s9 q9;rw[Rat.neg_neg] at q9;obtain⟨_,_,_,_,_,_,_,rfl,q9⟩:=q9.sa
          try simp(maxSteps:=999999) (disch:=omega) only[go_sem,Nat.reduceBEq,Nat.reduceAdd]
          refine caN (by exact QCmp_spec (r2.to (h':=g9)) q9 sh.out sh.out) ?_;rintro v10 g10 s10 rfl
          try simp(maxSteps:=999999) (disch:=omega) only[go_sem,Nat.reduceBEq,Nat.reduceAdd,eh]
      · obtain⟨rfl,rfl⟩:=hO (by omega) (by omega)
        clear hE hO
        rcases hf with rfl |rfl
        all_goals
          refine Spec.go [] Tryz.func3 rfl rfl (by kernel_rfl) fun C _=>?_
          try simp(maxSteps:=999999) (disch:=omega) only[go_sem,Nat.reduceBEq,Nat.reduceAdd]
          refine caN (by exact kO) ?_;rintro v1 g1 s1 q1;obtain⟨_,_,_,_,_,_,_,rfl,q1⟩:=q1.sa
          try simp(maxSteps:=999999) (disch:=omega) only[go_sem,Nat.reduceBEq,Nat.reduceAdd]
          refine caN (by exact k1 q1) ?_;rintro v2 g2 s2 ⟨_,_,_,_,_,_,_,_,_,_,_,_,_,_,rfl,r1,r2⟩
          try simp(maxSteps:=999999) (disch:=omega) only[go_sem,Nat.reduceBEq,Nat.reduceAdd]
          refine caN (by exact Opp_spec (q1.to (h':=g2))) ?_;rintro v3 g3 s3 q3;obtain⟨_,_,_,_,_,_,_,rfl,q3⟩:=q3.sa
          try simp(maxSteps:=999999) (disch:=omega) only[go_sem,Nat.reduceBEq,Nat.reduceAdd]
          refine caN (by exact k2 q3) ?_;rintro v4 g4 s4 ⟨_,_,_,_,_,_,_,_,_,_,_,_,_,_,rfl,r3,r4⟩
          try simp(maxSteps:=999999) (disch:=omega) only[go_sem,Nat.reduceBEq,Nat.reduceAdd]
          refine caN (by exact sane_spec) ?_;rintro v5 g5 s5 rfl
          try simp(maxSteps:=999999) (disch:=omega) only[go_sem,Nat.reduceBEq,Nat.reduceAdd]
          refine caN (by exact Opp_spec (r4.to (h':=g5))) ?_;rintro v7 g7 s7 q7;rw[Rat.neg_neg] at q7;obtain⟨_,_,_,_,_,_,_,rfl,q7⟩:=q7.sa
          try simp(maxSteps:=999999) (disch:=omega) only[go_sem,Nat.reduceBEq,Nat.reduceAdd]
          refine caN (by exact QCmp_spec (r1.to (h':=g7)) q7 sl.out sl.out) ?_;rintro v8 g8 s8 rfl
          try simp(maxSteps:=999999) (disch:=omega) only[go_sem,Nat.reduceBEq,Nat.reduceAdd,el]
          refine caN (by exact Opp_spec (r3.to (h':=g8))) ?_;rintro v9 g9 s9 q9;rw[Rat.neg_neg] at q9;obtain⟨_,_,_,_,_,_,_,rfl,q9⟩:=q9.sa
          try simp(maxSteps:=999999) (disch:=omega) only[go_sem,Nat.reduceBEq,Nat.reduceAdd]
          refine caN (by exact QCmp_spec (r2.to (h':=g9)) q9 sh.out sh.out) ?_;rintro v10 g10 s10 rfl
          try simp(maxSteps:=999999) (disch:=omega) only[go_sem,Nat.reduceBEq,Nat.reduceAdd,eh]
  · obtain⟨rfl,rfl⟩:=hn hd
    have kU:=fun {h0 h:PH} {w:Value} [Le h0 h] (c:Qr h0 w x)=>kT (by cases ok<;>cases is<;>simp_all) (h:=h) c
    clear hE hO hn hf kT
    cases ok<;>cases is
    · exact absurd rfl hd
    · refine Spec.go [] Tryz.func3 rfl rfl (by kernel_rfl) fun C _=>?_
      try simp(maxSteps:=999999) (disch:=omega) only[go_sem,Nat.reduceBEq,Nat.reduceAdd]
      refine caN (by exact kO) ?_;rintro v1 g1 s1 q1;obtain⟨_,_,_,_,_,_,_,rfl,q1⟩:=q1.sa
      try simp(maxSteps:=999999) (disch:=omega) only[go_sem,Nat.reduceBEq,Nat.reduceAdd]
      refine caN (by exact k1 q1) ?_;rintro v2 g2 s2 ⟨_,_,_,_,_,_,_,_,_,_,_,_,_,_,rfl,_,_⟩
      try simp(maxSteps:=999999) (disch:=omega) only[go_sem,Nat.reduceBEq,Nat.reduceAdd]
      refine caN (by exact Opp_spec (q1.to (h':=g2))) ?_;rintro v3 g3 s3 q3;obtain⟨_,_,_,_,_,_,_,rfl,q3⟩:=q3.sa
      try simp(maxSteps:=999999) (disch:=omega) only[go_sem,Nat.reduceBEq,Nat.reduceAdd]
      refine caN (by exact k2 q3) ?_;rintro v4 g4 s4 ⟨_,_,_,_,_,_,_,_,_,_,_,_,_,_,rfl,_,_⟩
      try simp(maxSteps:=999999) (disch:=omega) only[go_sem,Nat.reduceBEq,Nat.reduceAdd]
      refine caN (by exact sane_spec) ?_;rintro v5 g5 s5 rfl
      try simp(maxSteps:=999999) (disch:=omega) only[go_sem,Nat.reduceBEq,Nat.reduceAdd]
      refine caN (by exact kU (q1.to (h':=g5))) ?_;rintro v6 g6 s6 rfl
      try simp(maxSteps:=999999) (disch:=omega) only[go_sem,Nat.reduceBEq,Nat.reduceAdd]
    · refine Spec.go [] Tryz.func3 rfl rfl (by kernel_rfl) fun C _=>?_
      try simp(maxSteps:=999999) (disch:=omega) only[go_sem,Nat.reduceBEq,Nat.reduceAdd]
      refine caN (by exact kO) ?_;rintro v1 g1 s1 q1;obtain⟨_,_,_,_,_,_,_,rfl,q1⟩:=q1.sa
      try simp(maxSteps:=999999) (disch:=omega) only[go_sem,Nat.reduceBEq,Nat.reduceAdd]
      refine caN (by exact k1 q1) ?_;rintro v2 g2 s2 ⟨_,_,_,_,_,_,_,_,_,_,_,_,_,_,rfl,_,_⟩
      try simp(maxSteps:=999999) (disch:=omega) only[go_sem,Nat.reduceBEq,Nat.reduceAdd]
      refine caN (by exact Opp_spec (q1.to (h':=g2))) ?_;rintro v3 g3 s3 q3;obtain⟨_,_,_,_,_,_,_,rfl,q3⟩:=q3.sa
      try simp(maxSteps:=999999) (disch:=omega) only[go_sem,Nat.reduceBEq,Nat.reduceAdd]
      refine caN (by exact k2 q3) ?_;rintro v4 g4 s4 ⟨_,_,_,_,_,_,_,_,_,_,_,_,_,_,rfl,_,_⟩
      try simp(maxSteps:=999999) (disch:=omega) only[go_sem,Nat.reduceBEq,Nat.reduceAdd]
      refine caN (by exact sane_spec) ?_;rintro v5 g5 s5 rfl
      try simp(maxSteps:=999999) (disch:=omega) only[go_sem,Nat.reduceBEq,Nat.reduceAdd]
      refine caN (by exact kU (q1.to (h':=g5))) ?_;rintro v6 g6 s6 rfl
      try simp(maxSteps:=999999) (disch:=omega) only[go_sem,Nat.reduceBEq,Nat.reduceAdd]
    · exact absurd rfl hd
theorem Odd_law {h0 h:PH} [Le h0 h] {v:Value} {neg:Bool} {n d:Nat} {fn p:Int} (hv:Rw h0 v neg n d):Spec mach 3 #[.int .i64 fn,v,.int .i64 p] h (fun r _=>r=.bool true) NP:=by
  by_cases hf:fn=3∨fn=4∨fn=5∨fn=6∨fn=8
  · have kO:=fun {h} [Le h0 h]=>QOf_spec (h:=h) hv
    have bx:=hv.sz35
    have sv:∃b na nl nc da dl dc,v=.agg #[.bool b,.slice na nl nc,.slice da dl dc]:=by
      obtain⟨_,_,_,_,_,_,_,rfl,_⟩:=hv.sa
      exact⟨_,_,_,_,_,_,_,rfl⟩
    generalize qof neg n d=x at*
    obtain⟨z1,z2⟩:=br_sz fn x p
    refine Odd_core (t:=decide (rsK x (p.toNat+64)+rsK (-x) (p.toNat+64)≠0)) (neg:=neg) (n:=n) (d:=d) hf (fun {h} i=>@kO h i) sv (fun {h0 h w} _ c=>LBracket_spec (Apply_odd hf) c bx) (fun {h0 h w} _ c=>LBracket_spec (Apply_odd hf) c (by rw[sz_neg];exact bx)) ?_ ?_ ?_ ?_ z1 z2
    · intro hk h0 h w _ c
      have hp:sz x≤2048∧0≤p∧p≤128:=by
        rcases hk with hk |hk
        · have:=br_p (of_decide_eq_true hk);omega
        · have:=br_p (of_decide_eq_true hk);rw[sz_neg] at this;omega
      have:=LTie_spec (h:=h) (p:=p.toNat) c hp.1 (by omega)
      rw[show((p.toNat:Nat):Int)=p by omega] at this
      exact this
    · intro hne
      rcases Classical.em (fn≠5∨rsK (-x) (p.toNat+64)= -rsK x (p.toNat+64)) with hc |hc
      · exact absurd (by rw[brE_opp (by omega) (by omega) hc]) hne
      · exact⟨by omega,decide_eq_true (by omega)⟩
    · intro k1 k2 k3 k4
      subst k3
      have:=of_decide_eq_false k4
      exact br_even (of_decide_eq_true k1) (of_decide_eq_true k2) (by omega)
    · intro k1 k2 k3 k4
      refine br_odd (by omega) (of_decide_eq_true k1) (of_decide_eq_true k2) ?_
      rcases k4 with k4 |k4 |k4
      · exact .inl k4
      · exact .inr (.inl k4)
      · have:=of_decide_eq_false k4
        exact .inr (.inr (by omega))
  · obtain⟨_,_,_,_,_,_,_,rfl,_⟩:=hv.sa
    clear hv
    rcases Int.lt_or_le fn 3 with f1 |f1
    · have e1:decide (fn < 3)=true:=decide_eq_true f1
      refine Spec.go [] Tryz.func3 rfl rfl (by kernel_rfl) fun C _=>?_
      try simp(maxSteps:=999999) (disch:=omega) only[go_sem,Nat.reduceBEq,Nat.reduceAdd,e1]
      refine caN (by exact sane_spec) ?_;rintro v5 g5 s5 rfl
      try simp(maxSteps:=999999) (disch:=omega) only[go_sem,Nat.reduceBEq,Nat.reduceAdd]
    · have e1:decide (fn < 3)=false:=decide_eq_false (by omega)
      by_cases f7:fn=7
      · subst f7
        refine Spec.go [] Tryz.func3 rfl rfl (by kernel_rfl) fun C _=>?_
        try simp(maxSteps:=999999) (disch:=omega) only[go_sem,Nat.reduceBEq,Nat.reduceAdd,e1]
        refine caN (by exact sane_spec) ?_;rintro v5 g5 s5 rfl
        try simp(maxSteps:=999999) (disch:=omega) only[go_sem,Nat.reduceBEq,Nat.reduceAdd]
      · have e2:(fn == 7)=false:=by simpa using f7
        have e3:decide (fn > 8)=true:=decide_eq_true (by omega)
        refine Spec.go [] Tryz.func3 rfl rfl (by kernel_rfl) fun C _=>?_
        try simp(maxSteps:=999999) (disch:=omega) only[go_sem,Nat.reduceBEq,Nat.reduceAdd,e1,e2,e3]
        refine caN (by exact sane_spec) ?_;rintro v5 g5 s5 rfl
        try simp(maxSteps:=999999) (disch:=omega) only[go_sem,Nat.reduceBEq,Nat.reduceAdd]
end Go.Q
