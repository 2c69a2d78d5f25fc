/-
  Contracts of package interval, and what stands on it. Conditions: each theorem's own.
-/
import Derived.Test.YtpipfclemmbmcabGreatDoorK3aad23PkF
import Derived.Test.YtpipfclemmbmcabGreatDoorK39f9e2PkQ
import Derived.Test.YtpipfclemmbmcabGreatDoorK693e93PkK
import Derived.Test.YtpipfclemmbmcabGreatDoorK3b89e4PkN
import Derived.Test.YtpipfclemmbmcabGreatDoorKe626caPkI
import Derived.Test.YtpipfclemmbmcabGreatDoorK66e2b1PkP
set_option linter.unusedVariables false
set_option linter.unusedSimpArgs false
open Nat renaming reduceBEq→ξ,reduceAdd→ζ,le_trans→χ
open Rat renaming le_trans→qAq,div_def→qAx,intCast_le_intCast→qBa,le_refl→qBk
open Bool renaming false_eq_true→qAw
namespace Go.Q
open Go.Proofs
set_option maxRecDepth 100000
set_option maxHeartbeats 8000000
theorem numberC {h0 h:PH} [Le h0 h] {v:Value} {x:Rat} (hv:Cn h0 v x) (hs:sz x≤2048):Spec mach 51 #[v] h (fun v h'=>Fr h' v x) NP:=by
 have hl:¬lg (decide (x.num < 0)) x.num.natAbs (if x.den=1 then 0 else x.den):=by rw[lg_cn];omega
 have:=iM (h:=h) (hv.rw (χ hs (by decide))) hl
 rwa[jA] at this
theorem cmpQ_lt (x y:Rat):decide (cmpQ x y < 0)=decide (x < y):=by unfold cmpQ;grind
def If (f:FuncId) (args:Array Value) (h:PH) (p:Prop) (e:Int) (R:Value→PH→Prop):Prop:=Spec mach f args h (fun v h'=>p∧R v h') (fun ch h'=>¬p∧fail e ch h')
theorem If.mk {f:FuncId} {args:Array Value} {h:PH} {p:Prop} {e:Int} {R:Value→PH→Prop} (h1:p→Spec mach f args h R NP) (h2:¬p→Spec mach f args h NR (fail e)):If f args h p e R:=by
 by_cases hp:p
 ·exact(h1 hp).mono (fun _ _ _ r=>⟨hp,r⟩) (fun _ _ _ r=>r.elim)
 ·exact(h2 hp).mono (fun _ _ _ r=>r.elim) (fun _ _ _ r=>⟨hp,r⟩)
theorem precise_any {h:PH} {n a b:Int}:If 16 #[.int .i64 n,.int .i64 a,.int .i64 b] h (a≤n∧n≤b) 2 fun _ _=>True:=
 .mk (fun k=>aU k.1 k.2) (fun k=>iN (by omega))
theorem must_any {h:PH} {e:Int}:If 50 #[.int .i64 e] h (e=0) e fun _ _=>True:=
 .mk (fun k=>by subst k;exact must_ok) jm
theorem dom_must {h:PH} {o:Bool} (ho:o=true):Spec mach 50 #[.int .i64 5] h NR (fun ch h'=>¬o=false∧fail 5 ch h'):=(jm (by decide)).mono (fun _ _ _ r=>r) (fun _ _ _ r=>⟨by simp[ho],r⟩)
theorem Domain_any {h0 h:PH} [Le h0 h] {v:Value} {a b:Option Rat} {fn:Int} (hv:Sn h0 v (.i a b)) (lx:(NS.i a b).le 2048):If 17 #[.int .i64 fn,v] h (outB fn a b=false) 5 fun _ _=>True:=by
 have kS:=fun {h} [Le h0 h]=>jT (h:=h) hv
 have k1:=fun {h}=>oQ (h:=h) (n:=-1) (by decide) (by decide)
 have k2:=fun {h}=>oQ (h:=h) (n:=1) (by decide) (by decide)
 have z1:sz ((-1:Int):Rat)≤2048:=tS (by decide)
 have z2:sz ((1:Int):Rat)≤2048:=tS (by decide)
 rw[NS.le_i] at lx
 unfold outB
 obtain⟨b1,a1,m1,c1,a2,m2,c2,b2,a3,m3,c3,a4,m4,c4,rfl,e1,e2⟩:=hv.ie
 generalize(NS.i a b).slo=sl at*
 generalize(NS.i a b).shi=sh at*
 generalize((-1:Int):Rat)=lo at*
 generalize((1:Int):Rat)=hi at*
 by_cases f2:fn=2
 ·subst f2
  rw[if_pos rfl]
  unfold If
  cases hd:decide (sl≤0)<;>
  ·refine Spec.go [] Tryz.func17 rfl rfl (by kernel_rfl) fun C _=>?_
   try simp(maxSteps:=999999) (disch:=omega) only[go_sem,ξ,ζ]
   refine caN (by exact k1) ?_;rintro v1 h1 s1 q1;obtain⟨_,_,_,_,_,_,_,rfl,q1⟩:=q1.sa
   try simp(maxSteps:=999999) (disch:=omega) only[go_sem,ξ,ζ]
   refine caN (by exact numberC q1 z1) ?_;rintro _ h2 _ q2;obtain⟨_,_,_,_,_,_,_,rfl,q2⟩:=q2.sa
   try simp(maxSteps:=999999) (disch:=omega) only[go_sem,ξ,ζ]
   refine caN (by exact k2) ?_;rintro v3 h3 s3 q3;obtain⟨_,_,_,_,_,_,_,rfl,q3⟩:=q3.sa
   try simp(maxSteps:=999999) (disch:=omega) only[go_sem,ξ,ζ]
   refine caN (by exact numberC q3 z2) ?_;rintro _ h4 _ q4;obtain⟨_,_,_,_,_,_,_,rfl,q4⟩:=q4.sa
   try simp(maxSteps:=999999) (disch:=omega) only[go_sem,ξ,ζ]
   refine caN (by exact kS) ?_;rintro w1 g1 t1 rfl
   try simp(maxSteps:=999999) (disch:=omega) only[go_sem,ξ,ζ,hd]
   try first |exact⟨rfl,trivial⟩ |exact caF (dom_must rfl) (fun _ _ r=>r)
 rw[if_neg f2]
 have t2:=eF f2
 by_cases f67:fn=6∨fn=7
 ·rw[if_pos f67]
  unfold If
  cases a with
  | none=>
   dsimp only[Option.isNone_none]
   rcases f67 with rfl |rfl<;>
   ·refine Spec.go [] Tryz.func17 rfl rfl (by kernel_rfl) fun C _=>?_
    try simp(maxSteps:=999999) (disch:=omega) only[go_sem,ξ,ζ]
    refine caN (by exact k1) ?_;rintro v1 h1 s1 q1;obtain⟨_,_,_,_,_,_,_,rfl,q1⟩:=q1.sa
    try simp(maxSteps:=999999) (disch:=omega) only[go_sem,ξ,ζ]
    refine caN (by exact numberC q1 z1) ?_;rintro _ h2 _ q2;obtain⟨_,_,_,_,_,_,_,rfl,q2⟩:=q2.sa
    try simp(maxSteps:=999999) (disch:=omega) only[go_sem,ξ,ζ]
    refine caN (by exact k2) ?_;rintro v3 h3 s3 q3;obtain⟨_,_,_,_,_,_,_,rfl,q3⟩:=q3.sa
    try simp(maxSteps:=999999) (disch:=omega) only[go_sem,ξ,ζ]
    refine caN (by exact numberC q3 z2) ?_;rintro _ h4 _ q4;obtain⟨_,_,_,_,_,_,_,rfl,q4⟩:=q4.sa
    try simp(maxSteps:=999999) (disch:=omega) only[go_sem,ξ,ζ]
    refine caN (by exact kS) ?_;rintro w1 g1 t1 rfl
    try simp(maxSteps:=999999) (disch:=omega) only[go_sem,ξ,ζ]
    exact caF (dom_must rfl) (fun _ _ r=>r)
  | some x=>
   cases b with
   | none=>
    dsimp only[Option.isNone_none,Option.isNone_some]
    rcases f67 with rfl |rfl<;>
    ·refine Spec.go [] Tryz.func17 rfl rfl (by kernel_rfl) fun C _=>?_
     try simp(maxSteps:=999999) (disch:=omega) only[go_sem,ξ,ζ]
     refine caN (by exact k1) ?_;rintro v1 h1 s1 q1;obtain⟨_,_,_,_,_,_,_,rfl,q1⟩:=q1.sa
     try simp(maxSteps:=999999) (disch:=omega) only[go_sem,ξ,ζ]
     refine caN (by exact numberC q1 z1) ?_;rintro _ h2 _ q2;obtain⟨_,_,_,_,_,_,_,rfl,q2⟩:=q2.sa
     try simp(maxSteps:=999999) (disch:=omega) only[go_sem,ξ,ζ]
     refine caN (by exact k2) ?_;rintro v3 h3 s3 q3;obtain⟨_,_,_,_,_,_,_,rfl,q3⟩:=q3.sa
     try simp(maxSteps:=999999) (disch:=omega) only[go_sem,ξ,ζ]
     refine caN (by exact numberC q3 z2) ?_;rintro _ h4 _ q4;obtain⟨_,_,_,_,_,_,_,rfl,q4⟩:=q4.sa
     try simp(maxSteps:=999999) (disch:=omega) only[go_sem,ξ,ζ]
     refine caN (by exact kS) ?_;rintro w1 g1 t1 rfl
     try simp(maxSteps:=999999) (disch:=omega) only[go_sem,ξ,ζ]
     exact caF (dom_must rfl) (fun _ _ r=>r)
   | some y=>
    have l1:=up36 (χ (lx.1 _ rfl) (by decide))
    have l2:=up36 (χ (lx.2 _ rfl) (by decide))
    have r1:=up36 (χ z1 (by decide))
    have r2:=up36 (χ z2 (by decide))
    have d1:=cmpQ_lt x lo
    have d2:=GD y hi
    dsimp only[Option.isNone_some]
    cases hd:decide (x < lo) with
    | true=>
     rw[hd] at d1
     rw[Bool.true_or]
     rcases f67 with rfl |rfl<;>
     ·refine Spec.go [] Tryz.func17 rfl rfl (by kernel_rfl) fun C _=>?_
      try simp(maxSteps:=999999) (disch:=omega) only[go_sem,ξ,ζ]
      refine caN (by exact k1) ?_;rintro v1 h1 s1 q1;obtain⟨_,_,_,_,_,_,_,rfl,q1⟩:=q1.sa
      try simp(maxSteps:=999999) (disch:=omega) only[go_sem,ξ,ζ]
      refine caN (by exact numberC q1 z1) ?_;rintro _ h2 _ q2;obtain⟨_,_,_,_,_,_,_,rfl,q2⟩:=q2.sa
      try simp(maxSteps:=999999) (disch:=omega) only[go_sem,ξ,ζ]
      refine caN (by exact k2) ?_;rintro v3 h3 s3 q3;obtain⟨_,_,_,_,_,_,_,rfl,q3⟩:=q3.sa
      try simp(maxSteps:=999999) (disch:=omega) only[go_sem,ξ,ζ]
      refine caN (by exact numberC q3 z2) ?_;rintro _ h4 _ q4;obtain⟨_,_,_,_,_,_,_,rfl,q4⟩:=q4.sa
      try simp(maxSteps:=999999) (disch:=omega) only[go_sem,ξ,ζ]
      refine caN (by exact kS) ?_;rintro w1 g1 t1 rfl
      try simp(maxSteps:=999999) (disch:=omega) only[go_sem,ξ,ζ]
      refine caN (by exact dq (e1.num.to (h':=g1)) (q2.to (h':=g1)) l1 r1) ?_;rintro w2 g2 t3 rfl
      try simp(maxSteps:=999999) (disch:=omega) only[go_sem,ξ,ζ,d1]
      exact caF (dom_must rfl) (fun _ _ r=>r)
    | false=>
     rw[hd] at d1
     rw[Bool.false_or]
     rw[←d2]
     rcases f67 with rfl |rfl<;>cases he:decide (cmpQ y hi > 0)<;>
     ·refine Spec.go [] Tryz.func17 rfl rfl (by kernel_rfl) fun C _=>?_
      try simp(maxSteps:=999999) (disch:=omega) only[go_sem,ξ,ζ]
      refine caN (by exact k1) ?_;rintro v1 h1 s1 q1;obtain⟨_,_,_,_,_,_,_,rfl,q1⟩:=q1.sa
      try simp(maxSteps:=999999) (disch:=omega) only[go_sem,ξ,ζ]
      refine caN (by exact numberC q1 z1) ?_;rintro _ h2 _ q2;obtain⟨_,_,_,_,_,_,_,rfl,q2⟩:=q2.sa
      try simp(maxSteps:=999999) (disch:=omega) only[go_sem,ξ,ζ]
      refine caN (by exact k2) ?_;rintro v3 h3 s3 q3;obtain⟨_,_,_,_,_,_,_,rfl,q3⟩:=q3.sa
      try simp(maxSteps:=999999) (disch:=omega) only[go_sem,ξ,ζ]
      refine caN (by exact numberC q3 z2) ?_;rintro _ h4 _ q4;obtain⟨_,_,_,_,_,_,_,rfl,q4⟩:=q4.sa
      try simp(maxSteps:=999999) (disch:=omega) only[go_sem,ξ,ζ]
      refine caN (by exact kS) ?_;rintro w1 g1 t1 rfl
      try simp(maxSteps:=999999) (disch:=omega) only[go_sem,ξ,ζ]
      refine caN (by exact dq (e1.num.to (h':=g1)) (q2.to (h':=g1)) l1 r1) ?_;rintro w2 g2 t3 rfl
      try simp(maxSteps:=999999) (disch:=omega) only[go_sem,ξ,ζ,d1]
      refine caN (by exact dq (e2.num.to (h':=g2)) (q4.to (h':=g2)) l2 r2) ?_;rintro w3 g3 t4 rfl
      try simp(maxSteps:=999999) (disch:=omega) only[go_sem,ξ,ζ,he]
      try first |exact⟨rfl,trivial⟩ |exact caF (dom_must rfl) (fun _ _ r=>r)
 rw[if_neg f67]
 have t6:=eF (fun e=>f67 (.inl e))
 have t7:=eF (fun e=>f67 (.inr e))
 by_cases f5:fn=5
 ·subst f5
  rw[if_pos rfl]
  unfold If
  cases a<;>cases b<;>dsimp only[Option.isNone_none,Option.isNone_some,Bool.or_true,Bool.or_false,Bool.true_or]<;>
  ·refine Spec.go [] Tryz.func17 rfl rfl (by kernel_rfl) fun C _=>?_
   try simp(maxSteps:=999999) (disch:=omega) only[go_sem,ξ,ζ]
   refine caN (by exact k1) ?_;rintro v1 h1 s1 q1;obtain⟨_,_,_,_,_,_,_,rfl,q1⟩:=q1.sa
   try simp(maxSteps:=999999) (disch:=omega) only[go_sem,ξ,ζ]
   refine caN (by exact numberC q1 z1) ?_;rintro _ h2 _ q2;obtain⟨_,_,_,_,_,_,_,rfl,q2⟩:=q2.sa
   try simp(maxSteps:=999999) (disch:=omega) only[go_sem,ξ,ζ]
   refine caN (by exact k2) ?_;rintro v3 h3 s3 q3;obtain⟨_,_,_,_,_,_,_,rfl,q3⟩:=q3.sa
   try simp(maxSteps:=999999) (disch:=omega) only[go_sem,ξ,ζ]
   refine caN (by exact numberC q3 z2) ?_;rintro _ h4 _ q4;obtain⟨_,_,_,_,_,_,_,rfl,q4⟩:=q4.sa
   try simp(maxSteps:=999999) (disch:=omega) only[go_sem,ξ,ζ]
   refine caN (by exact kS) ?_;rintro w1 g1 t1 rfl
   try simp(maxSteps:=999999) (disch:=omega) only[go_sem,ξ,ζ]
   try first |exact⟨rfl,trivial⟩ |exact caF (dom_must rfl) (fun _ _ r=>r)
 ·rw[if_neg f5]
  have t5:=eF f5
  unfold If
  refine Spec.go [] Tryz.func17 rfl rfl (by kernel_rfl) fun C _=>?_
  try simp(maxSteps:=999999) (disch:=omega) only[go_sem,ξ,ζ]
  refine caN (by exact k1) ?_;rintro v1 h1 s1 q1;obtain⟨_,_,_,_,_,_,_,rfl,q1⟩:=q1.sa
  try simp(maxSteps:=999999) (disch:=omega) only[go_sem,ξ,ζ]
  refine caN (by exact numberC q1 z1) ?_;rintro _ h2 _ q2;obtain⟨_,_,_,_,_,_,_,rfl,q2⟩:=q2.sa
  try simp(maxSteps:=999999) (disch:=omega) only[go_sem,ξ,ζ]
  refine caN (by exact k2) ?_;rintro v3 h3 s3 q3;obtain⟨_,_,_,_,_,_,_,rfl,q3⟩:=q3.sa
  try simp(maxSteps:=999999) (disch:=omega) only[go_sem,ξ,ζ]
  refine caN (by exact numberC q3 z2) ?_;rintro _ h4 _ q4;obtain⟨_,_,_,_,_,_,_,rfl,q4⟩:=q4.sa
  try simp(maxSteps:=999999) (disch:=omega) only[go_sem,ξ,ζ]
  refine caN (by exact kS) ?_;rintro w1 g1 t1 rfl
  try simp(maxSteps:=999999) (disch:=omega) only[go_sem,ξ,ζ,t2,t6,t7,t5]
theorem haveB_any {h:PH} {b1 b2:Bool} {a1 a2 a3 a4:Option Addr} {m1 c1 m2 c2 m3 c3 m4 c4:Nat} {e:Int}:If 59 #[.agg #[.bool b1,.slice a1 m1 c1,.slice a2 m2 c2,.bool b2,.slice a3 m3 c3,.slice a4 m4 c4],.int .i64 e] h (e=0) e fun w _=>w=.agg #[.bool b1,.slice a1 m1 c1,.slice a2 m2 c2,.bool b2,.slice a3 m3 c3,.slice a4 m4 c4]:=by
 unfold If
 refine Spec.go [] Tryz.func59 rfl rfl (by kernel_rfl) fun C _=>?_
 try simp(maxSteps:=999999) (disch:=omega) only[go_sem,ξ,ζ]
 refine caP (by exact must_any) ?_ (fun _ _ r=>r);rintro v1 h1 s1 ⟨e0,_⟩
 try simp(maxSteps:=999999) (disch:=omega) only[go_sem,ξ,ζ]
 try exact⟨e0,rfl⟩
theorem haveT_ok {h:PH} {t:Bool}:Spec mach 130 #[.bool t,.int .i64 0] h (fun w _=>w=.bool t) NP:=by
 refine Spec.go [] Tryz.func130 rfl rfl (by kernel_rfl) fun C _=>?_
 try simp(maxSteps:=999999) (disch:=omega) only[go_sem,ξ,ζ]
 refine caN (by exact must_ok) ?_;rintro v1 h1 s1 _
 try simp(maxSteps:=999999) (disch:=omega) only[go_sem,ξ,ζ]
theorem At_any {h0 h:PH} [Le h0 h] {v:Value} {x:Rat} {fn p:Int} {b:Nat} {cs:List Value} (hx:Cn h0 v x) (sx:sz x≤2048) (hb:h b=some (cells fn p cs).toArray):
  If 129 #[v,.pointer (some ⟨b,0,none⟩)] h (elE fn x p=0) (elE fn x p) fun r h'=>Vs h' r (some (elL fn x p)) (some (elH fn x p)):=by
 have kA:=fun {h} [Le h0 h]=>pH (h:=h) (fn:=fn) (p:=p) (Rv.of hx sx)
 obtain⟨s1,s2⟩:=el_sz (fn:=fn) (x:=x) (p:=p)
 generalize elE fn x p=E at*
 generalize elL fn x p=L at*
 generalize elH fn x p=H at*
 obtain⟨_,_,_,_,_,_,_,rfl,_⟩:=hx.sa
 unfold If
 refine Spec.go [(2,.o [0,1,3,4,2,5,6,7])] Tryz.func129 rfl rfl (by kernel_rfl) fun C _=>?_
 try simp(maxSteps:=999999) (disch:=omega) only[go_sem,ξ,ζ]
 refine aE (at_cell hb rfl) ?_
 try simp(maxSteps:=999999) (disch:=omega) only[go_sem,ξ,ζ]
 refine aE (at_cell hb rfl) ?_
 try simp(maxSteps:=999999) (disch:=omega) only[go_sem,ξ,ζ]
 refine caN (by exact kA) ?_;rintro v1 h1 t1 ⟨_,_,_,_,_,_,_,_,_,_,_,_,_,_,rfl,q1,q2⟩
 try simp(maxSteps:=999999) (disch:=omega) only[go_sem,ξ,ζ]
 refine caP (by exact haveB_any) ?_ (fun _ _ r=>r);rintro v2 h2 t2 ⟨e0,rfl⟩
 try simp(maxSteps:=999999) (disch:=omega) only[go_sem,ξ,ζ]
 refine caN (by exact numberC (q1.to (h':=h2)) s1) ?_;rintro _ h3 _ q3;obtain⟨_,_,_,_,_,_,_,rfl,q3⟩:=q3.sa
 try simp(maxSteps:=999999) (disch:=omega) only[go_sem,ξ,ζ]
 refine caN (by exact numberC (q2.to (h':=h3)) s2) ?_;rintro _ h4 _ q4;obtain⟨_,_,_,_,_,_,_,rfl,q4⟩:=q4.sa
 try simp(maxSteps:=999999) (disch:=omega) only[go_sem,ξ,ζ]
 exact⟨_,_,_,_,_,_,_,_,_,_,_,_,_,_,rfl,(En.of q3).to,(En.of q4).to⟩
def ClOf (h:PH) (v:Value) (fn p:Int) (a b:Option Rat):Prop:=∃b1 a1 m1 c1 a2 m2 c2 b2 a3 m3 c3 a4 m4 c4,v=.agg #[.int .i64 fn,.int .i64 p,.bool b1,.slice a1 m1 c1,.slice a2 m2 c2,.bool b2,.slice a3 m3 c3,.slice a4 m4 c4,.bool a.isNone,.bool b.isNone,.bool false]∧
 En h b1 (.slice a1 m1 c1) (.slice a2 m2 c2) a∧En h b2 (.slice a3 m3 c3) (.slice a4 m4 c4) b
theorem ClOf.to {h h':PH} {v:Value} {fn p:Int} {a b:Option Rat} (r:ClOf h v fn p a b) [Le h h']:ClOf h' v fn p a b:=by
 obtain⟨_,_,_,_,_,_,_,_,_,_,_,_,_,_,e,h1,h2⟩:=r
 exact⟨_,_,_,_,_,_,_,_,_,_,_,_,_,_,e,h1.to,h2.to⟩
theorem val_1 {fn p:Int} {a b:Option Rat} (h:¬vErr fn p a=0):valE fn p a b=vErr fn p a:=if_pos h
theorem val_2 {fn p:Int} {a b:Option Rat} (h:vErr fn p a=0):valE fn p a b=vErr fn p b:=if_neg (fun k=>k h)
def Vs2 (h:PH) (r:Value) (fn p:Int) (a b:Option Rat):Prop:=∃b1 a1 m1 c1 a2 m2 c2 b2 a3 m3 c3 a4 m4 c4 d1 g1 m5 c5 g2 m6 c6 d2 g3 m7 c7 g4 m8 c8,r=.tuple #[.agg #[.bool b1,.slice a1 m1 c1,.slice a2 m2 c2,.bool b2,.slice a3 m3 c3,.slice a4 m4 c4,.bool false,.bool false,.bool false],.agg #[.bool d1,.slice g1 m5 c5,.slice g2 m6 c6,.bool d2,.slice g3 m7 c7,.slice g4 m8 c8,.bool false,.bool false,.bool false]]∧
  En h b1 (.slice a1 m1 c1) (.slice a2 m2 c2) (vLow fn p a)∧En h b2 (.slice a3 m3 c3) (.slice a4 m4 c4) (vHig fn p a)∧En h d1 (.slice g1 m5 c5) (.slice g2 m6 c6) (vLow fn p b)∧En h d2 (.slice g3 m7 c7) (.slice g4 m8 c8) (vHig fn p b)
theorem Values_any {h0 h:PH} [Le h0 h] {v:Value} {fn p:Int} {a b:Option Rat} (hv:ClOf h0 v fn p a b) (lx:(NS.i a b).le 2048):If 55 #[v] h (valE fn p a b=0) (valE fn p a b) fun r h'=>Vs2 h' r fn p a b:=by
 rw[NS.le_i] at lx
 obtain⟨b1,a1,m1,c1,a2,m2,c2,b2,a3,m3,c3,a4,m4,c4,rfl,e1,e2⟩:=hv
 have kA:=fun {h0 h:PH} {w:Value} {k:Nat} {cs:List Value} {x:Rat} [Le h0 h] (l:sz x≤2048) (c:Cn h0 w x) (hb:h k=some (cells fn p cs).toArray)=>At_any (h:=h) c l hb
 unfold If
 cases a with
 | none=>
  rw[val_2 (a:=none) (b:=b) (p:=p) (fn:=fn) rfl]
  cases b with
  | none=>
   dsimp only[Option.isNone_none]
   refine Spec.go [(6,.h [(3,2)] [] [] [0,1,2,3]),(1,.t (.p 0 (.s [0,1] .d)))] Tryz.func55 rfl rfl (by kernel_rfl) fun C _=>?_
   try simp(maxSteps:=999999) (disch:=omega) only[go_sem,ξ,ζ]
   intro b h1 st1 hb
   try simp(maxSteps:=999999) (disch:=omega) only[go_sem,ξ,ζ]
   have hb:=hb (by simp)
   try simp(maxSteps:=999999) (disch:=omega) only[go_sem,ξ,ζ]
   refine aE (at_cell hb rfl) ?_
   try simp(maxSteps:=999999) (disch:=omega) only[go_sem,ξ,ζ]
   refine aE (at_cell hb rfl) ?_
   try simp(maxSteps:=999999) (disch:=omega) only[go_sem,ξ,ζ]
   exact⟨rfl,_,_,_,_,_,_,_,_,_,_,_,_,_,_,_,_,_,_,_,_,_,_,_,_,_,_,_,_,rfl,En.nil _,En.nil _,En.nil _,En.nil _⟩
  | some y=>
   have l2:=lx.2 _ rfl
   dsimp only[Option.isNone_none,Option.isNone_some]
   refine Spec.go [(6,.h [(3,2)] [] [] [0,1,2,3]),(1,.t (.p 0 (.s [0,1] .d)))] Tryz.func55 rfl rfl (by kernel_rfl) fun C _=>?_
   try simp(maxSteps:=999999) (disch:=omega) only[go_sem,ξ,ζ]
   intro b h1 st1 hb
   try simp(maxSteps:=999999) (disch:=omega) only[go_sem,ξ,ζ]
   have hb:=hb (by simp)
   try simp(maxSteps:=999999) (disch:=omega) only[go_sem,ξ,ζ]
   refine aE (at_cell hb rfl) ?_
   try simp(maxSteps:=999999) (disch:=omega) only[go_sem,ξ,ζ]
   refine aE (at_cell hb rfl) ?_
   try simp(maxSteps:=999999) (disch:=omega) only[go_sem,ξ,ζ]
   refine dL [_,_,_] rfl (at_part (off:=5) (m:=3) hb) ?_
   try simp(maxSteps:=999999) (disch:=omega) only[go_sem,ξ,ζ]
   refine caN (by exact cO (e2.num.to (h':=h1)) l2) ?_;rintro y1 k1 x1 ⟨u1,rfl,q1⟩;obtain⟨_,_,_,_,_,_,_,rfl,q1⟩:=q1.sa
   try simp(maxSteps:=999999) (disch:=omega) only[go_sem,ξ,ζ]
   refine caN (by exact fm q1) ?_;rintro y2 k2 x2 rfl
   try simp(maxSteps:=999999) (disch:=omega) only[go_sem,ξ,ζ]
   refine caP (by exact kA l2 (q1.to (h':=k2)) (pubO hb)) ?_ (fun _ _ r=>r);rintro y3 k3 x3 ⟨z,_,_,_,_,_,_,_,_,_,_,_,_,_,_,rfl,q3,q4⟩
   try simp(maxSteps:=999999) (disch:=omega) only[go_sem,ξ,ζ]
   exact⟨z,_,_,_,_,_,_,_,_,_,_,_,_,_,_,_,_,_,_,_,_,_,_,_,_,_,_,_,_,rfl,En.nil _,En.nil _,q3.to,q4.to⟩
 | some x=>
  have l1:=lx.1 _ rfl
  have v1:=fun k=>val_1 (fn:=fn) (p:=p) (a:=some x) (b:=b) k
  have v2:=fun k=>val_2 (fn:=fn) (p:=p) (a:=some x) (b:=b) k
  have v3:vErr fn p (some x)=elE fn x p:=rfl
  rw[v3] at v1 v2
  generalize valE fn p (some x) b=E at*
  clear v3
  cases b with
  | none=>
   dsimp only[Option.isNone_none,Option.isNone_some]
   refine Spec.go [(6,.h [(3,2)] [] [] [0,1,2,3]),(1,.t (.p 0 (.s [0,1] .d)))] Tryz.func55 rfl rfl (by kernel_rfl) fun C _=>?_
   try simp(maxSteps:=999999) (disch:=omega) only[go_sem,ξ,ζ]
   intro b h1 st1 hb
   try simp(maxSteps:=999999) (disch:=omega) only[go_sem,ξ,ζ]
   have hb:=hb (by simp)
   try simp(maxSteps:=999999) (disch:=omega) only[go_sem,ξ,ζ]
   refine aE (at_cell hb rfl) ?_
   try simp(maxSteps:=999999) (disch:=omega) only[go_sem,ξ,ζ]
   refine dL [_,_,_] rfl (at_part (off:=2) (m:=3) hb) ?_
   try simp(maxSteps:=999999) (disch:=omega) only[go_sem,ξ,ζ]
   refine caN (by exact cO (e1.num.to (h':=h1)) l1) ?_;rintro w1 g1 t1 ⟨u2,rfl,r1⟩;obtain⟨_,_,_,_,_,_,_,rfl,r1⟩:=r1.sa
   try simp(maxSteps:=999999) (disch:=omega) only[go_sem,ξ,ζ]
   refine caN (by exact fm r1) ?_;rintro w2 g2 t2 rfl
   try simp(maxSteps:=999999) (disch:=omega) only[go_sem,ξ,ζ]
   refine caP (by exact kA l1 (r1.to (h':=g2)) (pubO hb)) ?_ (fun _ _ r=>(by rw[v1 r.1];exact r));rintro w3 g3 t3 ⟨z,_,_,_,_,_,_,_,_,_,_,_,_,_,_,rfl,r3,r4⟩
   try simp(maxSteps:=999999) (disch:=omega) only[go_sem,ξ,ζ]
   refine aE (at_cell (pubO hb) rfl) ?_
   try simp(maxSteps:=999999) (disch:=omega) only[go_sem,ξ,ζ]
   exact⟨v2 z,_,_,_,_,_,_,_,_,_,_,_,_,_,_,_,_,_,_,_,_,_,_,_,_,_,_,_,_,rfl,r3.to,r4.to,En.nil _,En.nil _⟩
  | some y=>
   have l2:=lx.2 _ rfl
   dsimp only[Option.isNone_none,Option.isNone_some]
   refine Spec.go [(6,.h [(3,2)] [] [] [0,1,2,3]),(1,.t (.p 0 (.s [0,1] .d)))] Tryz.func55 rfl rfl (by kernel_rfl) fun C _=>?_
   try simp(maxSteps:=999999) (disch:=omega) only[go_sem,ξ,ζ]
   intro b h1 st1 hb
   try simp(maxSteps:=999999) (disch:=omega) only[go_sem,ξ,ζ]
   have hb:=hb (by simp)
   try simp(maxSteps:=999999) (disch:=omega) only[go_sem,ξ,ζ]
   refine aE (at_cell hb rfl) ?_
   try simp(maxSteps:=999999) (disch:=omega) only[go_sem,ξ,ζ]
   refine dL [_,_,_] rfl (at_part (off:=2) (m:=3) hb) ?_
   try simp(maxSteps:=999999) (disch:=omega) only[go_sem,ξ,ζ]
   refine caN (by exact cO (e1.num.to (h':=h1)) l1) ?_;rintro w1 g1 t1 ⟨u2,rfl,r1⟩;obtain⟨_,_,_,_,_,_,_,rfl,r1⟩:=r1.sa
   try simp(maxSteps:=999999) (disch:=omega) only[go_sem,ξ,ζ]
   refine caN (by exact fm r1) ?_;rintro w2 g2 t2 rfl
   try simp(maxSteps:=999999) (disch:=omega) only[go_sem,ξ,ζ]
   refine caP (by exact kA l1 (r1.to (h':=g2)) (pubO hb)) ?_ (fun _ _ r=>(by rw[v1 r.1];exact r));rintro w3 g3 t3 ⟨z,_,_,_,_,_,_,_,_,_,_,_,_,_,_,rfl,r3,r4⟩
   try simp(maxSteps:=999999) (disch:=omega) only[go_sem,ξ,ζ]
   refine aE (at_cell (pubO hb) rfl) ?_
   try simp(maxSteps:=999999) (disch:=omega) only[go_sem,ξ,ζ]
   refine dL [_,_,_] rfl (at_part (off:=5) (m:=3) (pubO hb)) ?_
   try simp(maxSteps:=999999) (disch:=omega) only[go_sem,ξ,ζ]
   refine caN (by exact cO (e2.num.to (h':=g3)) l2) ?_;rintro y1 k1 x1 ⟨u1,rfl,q1⟩;obtain⟨_,_,_,_,_,_,_,rfl,q1⟩:=q1.sa
   try simp(maxSteps:=999999) (disch:=omega) only[go_sem,ξ,ζ]
   refine caN (by exact fm q1) ?_;rintro y2 k2 x2 rfl
   try simp(maxSteps:=999999) (disch:=omega) only[go_sem,ξ,ζ]
   refine caP (by exact kA l2 (q1.to (h':=k2)) (pubO hb)) ?_ (fun _ _ r=>(by rw[v2 z];exact r));rintro y3 k3 x3 ⟨z',_,_,_,_,_,_,_,_,_,_,_,_,_,_,rfl,q3,q4⟩
   try simp(maxSteps:=999999) (disch:=omega) only[go_sem,ξ,ζ]
   exact⟨(v2 z).trans z',_,_,_,_,_,_,_,_,_,_,_,_,_,_,_,_,_,_,_,_,_,_,_,_,_,_,_,_,rfl,r3.to,r4.to,q3.to,q4.to⟩
theorem val_both {fn p:Int} {x y:Rat} (h:valE fn p (some x) (some y)=0):elE fn x p=0∧elE fn y p=0:=by
 by_cases k:vErr fn p (some x)=0
 ·rw[val_2 k] at h
  exact⟨k,h⟩
 ·rw[val_1 k] at h
  exact absurd h k
theorem LTurns_spec {h0 h:PH} [Le h0 h] {v:Value} {fn p r:Int} {x y:Rat} (hv:ClOf h0 v fn p (some x) (some y)) (l1:sz x≤2048) (l2:sz y≤2048) (ht:turnE x y r=0):Spec mach 58 #[v,.int .i64 r] h (fun q _=>q=.bool (turnB x y r)) NP:=by
 have kT:=fun {h0 h:PH} {v w:Value} [Le h0 h] (hx:Cn h0 v x) (hy:Cn h0 w y)=>uj (h:=h) (r:=r) (Rv.of hx l1) (Rv.of hy l2)
 rw[ht] at kT
 generalize turnB x y r=T at*
 clear ht
 obtain⟨b1,a1,m1,c1,a2,m2,c2,b2,a3,m3,c3,a4,m4,c4,rfl,e1,e2⟩:=hv
 refine Spec.go [(2,.o [0,1,2,3,8,4,5,6,7,9,10,11,12,13])] Tryz.func58 rfl rfl (by kernel_rfl) fun C _=>?_
 try simp(maxSteps:=999999) (disch:=omega) only[go_sem,ξ,ζ]
 refine caN (by exact cO e1.num l1) ?_;rintro w1 g1 t1 ⟨u2,rfl,r1⟩;obtain⟨_,_,_,_,_,_,_,rfl,r1⟩:=r1.sa
 try simp(maxSteps:=999999) (disch:=omega) only[go_sem,ξ,ζ]
 refine caN (by exact fm r1) ?_;rintro w2 g2 t2 rfl
 try simp(maxSteps:=999999) (disch:=omega) only[go_sem,ξ,ζ]
 refine caN (by exact cO (e2.num.to (h':=g2)) l2) ?_;rintro y1 k1 x1 ⟨u1,rfl,q1⟩;obtain⟨_,_,_,_,_,_,_,rfl,q1⟩:=q1.sa
 try simp(maxSteps:=999999) (disch:=omega) only[go_sem,ξ,ζ]
 refine caN (by exact fm q1) ?_;rintro y2 k2 x2 rfl
 try simp(maxSteps:=999999) (disch:=omega) only[go_sem,ξ,ζ]
 refine caN (by exact kT (r1.to (h':=k2)) (q1.to (h':=k2))) ?_;rintro y3 k3 x3 rfl
 try simp(maxSteps:=999999) (disch:=omega) only[go_sem,ξ,ζ]
 refine caN (by exact haveT_ok) ?_;rintro y4 k4 x4 rfl
 try simp(maxSteps:=999999) (disch:=omega) only[go_sem,ξ,ζ]
def SetP (f:FuncId) (args:Array Value) (h:PH) (o:Out):Prop:=Spec mach f args h (fun v h'=>∃x,o=.ok x∧Sn h' v x) (fun ch h'=>∃e,o=.error e∧fail e ch h')
theorem SetP.does {f:FuncId} {args:Array Value} {h:PH} {o:Out} (s:SetP f args h o):Does f args h o:=by
 cases o with
 |ok x=>exact Spec.mono s (fun _ _ _ ⟨_,e,r⟩=>by cases e;exact r) (fun _ _ _ ⟨_,e,_⟩=>nomatch e)
 |error x=>exact Spec.mono s (fun _ _ _ ⟨_,e,_⟩=>nomatch e) (fun _ _ _ ⟨_,e,r⟩=>by cases e;exact r)
theorem el_up {fn p:Int} {o:Option Rat}:sz (ozer (vLow fn p o))≤2^36∧sz (ozer (vHig fn p o))≤2^36:=by
 cases o with
 |none=>exact⟨show sz (0:Rat)≤_ by decide,show sz (0:Rat)≤_ by decide⟩
 | some x=>
  obtain⟨s1,s2⟩:=el_sz (fn:=fn) (x:=x) (p:=p)
  exact⟨χ s1 (by decide),χ s2 (by decide)⟩
theorem out_as {E:Int} {o:Out} {P:Out→Prop} (h:∀O,(¬E=0→O=.error E)→(E=0→O=o)→P O):P (if E≠0 then .error E else o):=h _ (fun k=>if_pos k) (fun k=>if_neg fun j=>j k)
def waveO (fn p:Int) (a b:Option Rat) (r s:Int):Out:=if (a.isNone || b.isNone)=true then .ok (.i (some ((-1:Int):Rat)) (some ((1:Int):Rat))) else if valE fn p a b≠0 then .error (valE fn p a b) else .ok (waveS fn p a b r s)
theorem Wave_any {h0 h:PH} [Le h0 h] {v:Value} {fn p r s:Int} {a b:Option Rat} (hv:ClOf h0 v fn p a b) (lx:(NS.i a b).le 2048) (hf:fn=3∨fn=4∨fn=5) (hr:0≤r∧r≤3) (hs:0≤s∧s≤3):SetP 18 #[v,.int .i64 r,.int .i64 s] h (waveO fn p a b r s):=by
 have k1:=fun {h}=>oQ (h:=h) (n:=-1) (by decide) (by decide)
 have k2:=fun {h}=>oQ (h:=h) (n:=1) (by decide) (by decide)
 have z1:sz ((-1:Int):Rat)≤2048:=tS (by decide)
 have z2:sz ((1:Int):Rat)≤2048:=tS (by decide)
 have kV:=fun {h} [Le h0 h]=>Values_any (h:=h) hv lx
 unfold waveO waveS
 generalize((-1:Int):Rat)=lo at*
 generalize((1:Int):Rat)=hi at*
 have hv0:=hv
 rw[NS.le_i] at lx
 obtain⟨b1,a1,m1,c1,a2,m2,c2,b2,a3,m3,c3,a4,m4,c4,rfl,e1,e2⟩:=hv
 cases hn:(a.isNone || b.isNone) with
 | true=>
  rw[if_pos rfl]
  cases a<;>cases b<;>first |cases hn |skip
  all_goals
   dsimp only[Option.isNone_none,Option.isNone_some]
   unfold SetP
   refine Spec.go [(5,.h [] [] [11] [11,0,1,2,3,5,6,7,8,4,9,10,12])] Tryz.func18 rfl rfl (by kernel_rfl) fun C _=>?_
   try simp(maxSteps:=999999) (disch:=omega) only[go_sem,ξ,ζ]
   refine caN (by exact k1) ?_;rintro v1 h1 s1 q1;obtain⟨_,_,_,_,_,_,_,rfl,q1⟩:=q1.sa
   try simp(maxSteps:=999999) (disch:=omega) only[go_sem,ξ,ζ]
   refine caN (by exact numberC q1 z1) ?_;rintro _ h2 _ q2;obtain⟨_,_,_,_,_,_,_,rfl,q2⟩:=q2.sa
   try simp(maxSteps:=999999) (disch:=omega) only[go_sem,ξ,ζ]
   refine caN (by exact k2) ?_;rintro v3 h3 s3 q3;obtain⟨_,_,_,_,_,_,_,rfl,q3⟩:=q3.sa
   try simp(maxSteps:=999999) (disch:=omega) only[go_sem,ξ,ζ]
   refine caN (by exact numberC q3 z2) ?_;rintro _ h4 _ q4;obtain⟨_,_,_,_,_,_,_,rfl,q4⟩:=q4.sa
   try simp(maxSteps:=999999) (disch:=omega) only[go_sem,ξ,ζ]
   exact⟨_,rfl,_,_,_,_,_,_,rfl,(En.of q2).to,En.of q4⟩
 | false=>
  rw[if_neg (by decide)]
  cases a with
  |none=>cases hn
  |some x=>
  cases b with
  |none=>cases hn
  |some y=>
  have kR:=fun {h} [Le h0 h] (ht:valE fn p (some x) (some y)=0)=>LTurns_spec (h:=h) hv0 (lx.1 _ rfl) (lx.2 _ rfl) (turn_el (r:=r) hf (val_both ht).1 (val_both ht).2 hr)
  have kS:=fun {h} [Le h0 h] (ht:valE fn p (some x) (some y)=0)=>LTurns_spec (h:=h) hv0 (lx.1 _ rfl) (lx.2 _ rfl) (turn_el (r:=s) hf (val_both ht).1 (val_both ht).2 hs)
  obtain⟨s1,s2⟩:=el_up (fn:=fn) (p:=p) (o:=some x)
  obtain⟨s3,s4⟩:=el_up (fn:=fn) (p:=p) (o:=some y)
  dsimp only[Option.isNone_some] at*
  have ew1:wvTr (some x) (some y) r=turnB x y r:=rfl
  have ew2:wvTr (some x) (some y) s=turnB x y s:=rfl
  rw[ew1,ew2]
  have ez:∀q:Rat,vLow fn p (some q)=some (ozer (vLow fn p (some q))):=fun _=>rfl
  have ez':∀q:Rat,vHig fn p (some q)=some (ozer (vHig fn p (some q))):=fun _=>rfl
  unfold Vs2 If at kV
  rw[ez x,ez y,ez' x,ez' y] at kV
  generalize ozer (vLow fn p (some x))=L1 at*
  generalize ozer (vLow fn p (some y))=L2 at*
  generalize ozer (vHig fn p (some x))=H1 at*
  generalize ozer (vHig fn p (some y))=H2 at*
  generalize valE fn p (some x) (some y)=E at*
  clear ez ez' ew1 ew2 hf
  cases t1:turnB x y r<;>cases t2:turnB x y s<;>rw[t1] at kR<;>rw[t2] at kS<;>
  ·simp only[if_true,qAw,if_false]
   refine out_as (P:=SetP _ _ _) fun O o1 o2=>?_
   unfold SetP
   refine Spec.go [(5,.h [] [] [11] [11,0,1,2,3,5,6,7,8,4,9,10,12])] Tryz.func18 rfl rfl (by kernel_rfl) fun C _=>?_
   try simp(maxSteps:=999999) (disch:=omega) only[go_sem,ξ,ζ]
   refine caN (by exact k1) ?_;rintro v1 h1 s1 q1;obtain⟨_,_,_,_,_,_,_,rfl,q1⟩:=q1.sa
   try simp(maxSteps:=999999) (disch:=omega) only[go_sem,ξ,ζ]
   refine caN (by exact numberC q1 z1) ?_;rintro _ h2 _ q2;obtain⟨_,_,_,_,_,_,_,rfl,q2⟩:=q2.sa
   try simp(maxSteps:=999999) (disch:=omega) only[go_sem,ξ,ζ]
   refine caN (by exact k2) ?_;rintro v3 h3 s3 q3;obtain⟨_,_,_,_,_,_,_,rfl,q3⟩:=q3.sa
   try simp(maxSteps:=999999) (disch:=omega) only[go_sem,ξ,ζ]
   refine caN (by exact numberC q3 z2) ?_;rintro _ h4 _ q4;obtain⟨_,_,_,_,_,_,_,rfl,q4⟩:=q4.sa
   try simp(maxSteps:=999999) (disch:=omega) only[go_sem,ξ,ζ]
   refine caP (by exact kV) ?_ (fun _ _ r=>(by exact⟨_,o1 r.1,r.2⟩));rintro v5 h5 s5 ⟨z,_,_,_,_,_,_,_,_,_,_,_,_,_,_,_,_,_,_,_,_,_,_,_,_,_,_,_,_,rfl,p1,p2,p3,p4⟩
   try simp(maxSteps:=999999) (disch:=omega) only[go_sem,ξ,ζ]
   refine caN (by exact dP p1.num p3.num (by assumption) (by assumption)) ?_;rintro _ h6 _ q6;obtain⟨_,_,_,_,_,_,_,rfl,q6⟩:=q6.sa
   try simp(maxSteps:=999999) (disch:=omega) only[go_sem,ξ,ζ]
   refine caN (by exact cE (p2.num.to (h':=h6)) (p4.num.to (h':=h6)) (by assumption) (by assumption)) ?_;rintro _ h7 _ q7;obtain⟨_,_,_,_,_,_,_,rfl,q7⟩:=q7.sa
   try simp(maxSteps:=999999) (disch:=omega) only[go_sem,ξ,ζ]
   refine caN (by exact kR z) ?_;rintro v8 h8 s8 rfl
   try simp(maxSteps:=999999) (disch:=omega) only[go_sem,ξ,ζ]
   refine caN (by exact kS z) ?_;rintro v9 h9 s9 rfl
   try simp(maxSteps:=999999) (disch:=omega) only[go_sem,ξ,ζ]
   exact⟨_,o2 z,_,_,_,_,_,_,rfl,by first |exact(En.of q2).to |exact(En.of q6).to,by first |exact(En.of q4).to |exact(En.of q7).to⟩
def tanO (p:Int) (a b:Option Rat):Out:=if valE 5 p a b≠0 then .error (valE 5 p a b) else if wvTr a b 1=true∨wvTr a b 3=true then .error 5 else .ok (.i (some (ozer (vLow 5 p a))) (some (ozer (vHig 5 p b))))
theorem Tangent_any {h0 h:PH} [Le h0 h] {v:Value} {p:Int} {x y:Rat} (hv:ClOf h0 v 5 p (some x) (some y)) (lx:(NS.i (some x) (some y)).le 2048):SetP 19 #[v] h (tanO p (some x) (some y)):=by
 have kV:=fun {h} [Le h0 h]=>Values_any (h:=h) hv lx
 unfold tanO
 have hv0:=hv
 rw[NS.le_i] at lx
 obtain⟨b1,a1,m1,c1,a2,m2,c2,b2,a3,m3,c3,a4,m4,c4,rfl,e1,e2⟩:=hv
 have kR:=fun {h} [Le h0 h] (ht:valE 5 p (some x) (some y)=0)=>LTurns_spec (h:=h) hv0 (lx.1 _ rfl) (lx.2 _ rfl) (turn_el (r:=1) (.inr (.inr rfl)) (val_both ht).1 (val_both ht).2 (by decide))
 have kS:=fun {h} [Le h0 h] (ht:valE 5 p (some x) (some y)=0)=>LTurns_spec (h:=h) hv0 (lx.1 _ rfl) (lx.2 _ rfl) (turn_el (r:=3) (.inr (.inr rfl)) (val_both ht).1 (val_both ht).2 (by decide))
 have ew1:wvTr (some x) (some y) 1=turnB x y 1:=rfl
 have ew2:wvTr (some x) (some y) 3=turnB x y 3:=rfl
 rw[ew1,ew2]
 dsimp only[Option.isNone_some] at*
 have ez:∀q:Rat,vLow 5 p (some q)=some (ozer (vLow 5 p (some q))):=fun _=>rfl
 have ez':∀q:Rat,vHig 5 p (some q)=some (ozer (vHig 5 p (some q))):=fun _=>rfl
 unfold Vs2 If at kV
 rw[ez x,ez y,ez' x,ez' y] at kV
 generalize ozer (vLow 5 p (some x))=L1 at*
 generalize ozer (vLow 5 p (some y))=L2 at*
 generalize ozer (vHig 5 p (some x))=H1 at*
 generalize ozer (vHig 5 p (some y))=H2 at*
 generalize valE 5 p (some x) (some y)=E at*
 clear ez ez' ew1 ew2
 cases t1:turnB x y 1 with
 | true=>
  rw[t1] at kR
  simp only[true_or,if_true]
  refine out_as (P:=SetP _ _ _) fun O o1 o2=>?_
  unfold SetP
  refine Spec.go [] Tryz.func19 rfl rfl (by kernel_rfl) fun C _=>?_
  try simp(maxSteps:=999999) (disch:=omega) only[go_sem,ξ,ζ]
  refine caP (by exact kV) ?_ (fun _ _ r=>(by exact⟨_,o1 r.1,r.2⟩));rintro v5 h5 s5 ⟨z,_,_,_,_,_,_,_,_,_,_,_,_,_,_,_,_,_,_,_,_,_,_,_,_,_,_,_,_,rfl,p1,p2,p3,p4⟩
  try simp(maxSteps:=999999) (disch:=omega) only[go_sem,ξ,ζ]
  refine caN (by exact kR z) ?_;rintro v8 h8 s8 rfl
  try simp(maxSteps:=999999) (disch:=omega) only[go_sem,ξ,ζ]
  exact caF (jm (by decide)) (fun _ _ r=>⟨_,o2 z,r⟩)
 | false=>
  rw[t1] at kR
  cases t2:turnB x y 3<;>rw[t2] at kS<;>
  ·simp only[or_true,qAw,or_self,if_true,if_false]
   refine out_as (P:=SetP _ _ _) fun O o1 o2=>?_
   unfold SetP
   refine Spec.go [] Tryz.func19 rfl rfl (by kernel_rfl) fun C _=>?_
   try simp(maxSteps:=999999) (disch:=omega) only[go_sem,ξ,ζ]
   refine caP (by exact kV) ?_ (fun _ _ r=>(by exact⟨_,o1 r.1,r.2⟩));rintro v5 h5 s5 ⟨z,_,_,_,_,_,_,_,_,_,_,_,_,_,_,_,_,_,_,_,_,_,_,_,_,_,_,_,_,rfl,p1,p2,p3,p4⟩
   try simp(maxSteps:=999999) (disch:=omega) only[go_sem,ξ,ζ]
   refine caN (by exact kR z) ?_;rintro v8 h8 s8 rfl
   try simp(maxSteps:=999999) (disch:=omega) only[go_sem,ξ,ζ]
   refine caN (by exact kS z) ?_;rintro v9 h9 s9 rfl
   try simp(maxSteps:=999999) (disch:=omega) only[go_sem,ξ,ζ]
   first |exact caF (jm (by decide)) (fun _ _ r=>⟨_,o2 z,r⟩) |exact⟨_,o2 z,_,_,_,_,_,_,rfl,p1.to,p4.to⟩




theorem Hull_raw {h0 h:PH} [Le h0 h] {neg:Bool} {na da:Option Addr} {nl nc dl dc m d p:Nat} (hn:N32 h0 (.slice na nl nc) m) (hd:N32 h0 (.slice da dl dc) d) (hd0:d≠0) (b1:bl m≤2^36) (b2:bl d≤2^36) (hp:p≤2^30):
  Spec mach 63 #[.agg #[.bool neg,.slice na nl nc,.slice da dl dc,.bool neg,.slice na nl nc,.slice da dl dc,.bool false,.bool false,.bool false],.int .i64 p] h (fun v h'=>Sn h' v (.i (some (gdown (sgn neg m d) p)) (some (gup (sgn neg m d) p)))) NP:=by
 have k1:=fun {h} [Le h0 h]=>Grid_raw (h:=h) (neg:=neg) (p:=p) (u:=false) hn hd hd0 b1 b2 (by omega)
 have k2:=fun {h} [Le h0 h]=>Grid_raw (h:=h) (neg:=neg) (p:=p) (u:=true) hn hd hd0 b1 b2 (by omega)
 rw[if_neg (by decide)] at k1
 rw[if_pos rfl] at k2
 generalize gdown (sgn neg m d) p=L at*
 generalize gup (sgn neg m d) p=H at*
 clear b1 b2 hd0 hn hd
 refine Spec.go [] Tryz.func63 rfl rfl (by kernel_rfl) fun C _=>?_
 try simp(maxSteps:=999999) (disch:=omega) only[go_sem,ξ,ζ]
 refine caN (by exact k1) ?_;rintro _ h1 _ q1;obtain⟨_,_,_,_,_,_,_,rfl,q1⟩:=q1.sa
 try simp(maxSteps:=999999) (disch:=omega) only[go_sem,ξ,ζ]
 refine caN (by exact k2) ?_;rintro _ h2 _ q2;obtain⟨_,_,_,_,_,_,_,rfl,q2⟩:=q2.sa
 try simp(maxSteps:=999999) (disch:=omega) only[go_sem,ξ,ζ]
 exact⟨_,_,_,_,_,_,rfl,(En.of q1).to,En.of q2⟩
theorem DT (x:Rat):sgn (decide (x.num < 0)) x.num.natAbs (x.den*2)=x / 2:=by
 have h1:=DW x
 unfold sgn at*
 have h2:=Rat.mkRat_mul_mkRat (if decide (x.num < 0)=true then -(x.num.natAbs:Int) else (x.num.natAbs:Int)) 1 x.den 2
 rw[h1,Int.mul_one] at h2
 rw[←h2,qAx]
 congr 1
 exact(by decide+kernel:mkRat 1 2=(2:Rat)⁻¹)
theorem One_raw {h:PH} {t:Bool} {a d:Option Addr} {l c m n:Nat}:Spec mach 62 #[.agg #[.bool t,.slice a l c,.slice d m n]] h (fun v _=>v=.agg #[.bool t,.slice a l c,.slice d m n,.bool t,.slice a l c,.slice d m n,.bool false,.bool false,.bool false]) NP:=by
 refine Spec.go [] Tryz.func62 rfl rfl (by kernel_rfl) fun C _=>?_
 try simp(maxSteps:=999999) (disch:=omega) only[go_sem,ξ,ζ]
def monoO (fn p:Int) (a b:Option Rat):Out:=if valE fn p a b≠0 then .error (valE fn p a b) else .ok (monoS fn p a b)
theorem Mono_atan {h0 h:PH} [Le h0 h] {v:Value} {r:Nat} {a b:Option Rat} (hv:ClOf h0 v 8 r a b) (lx:(NS.i a b).le 2048) (hr:r≤128):SetP 20 #[v] h (if valE 8 r a b≠0 then .error (valE 8 r a b) else .ok (.i (some (if a.isNone then -hf r else ozer (vLow 8 r a))) (some (if b.isNone then hf r else ozer (vHig 8 r b))))):=by
 have kV:=fun {h} [Le h0 h]=>Values_any (h:=h) hv lx
 have kP:=fun {h}=>FPi_ok (h:=h) hr
 have bp:sz (piHi r)≤2048:=by
  obtain⟨_,b2⟩:=bl_pi (w:=r+32)
  have b4:=fy (piH (r+32)) (am 32)
  exact χ (mD (k:=1024) (by omega) (by omega)) (by decide)
 have eh:hf r=gup (piHi r / 2) r:=by unfold hf;rw[Int.toNat_natCast]
 rw[←DT] at eh
 have bn:=bG (piHi r)
 have bd:=bB (piHi r)
 have b2:=cu (piHi r).den 1
 rw[Nat.pow_one] at b2
 have dn:(piHi r).den*2≠0:=by have:=(piHi r).den_nz;omega
 have kH:=fun {h0 h:PH} [Le h0 h] {na da:Option Addr} {nl nc dl dc:Nat} (hn:N32 h0 (.slice na nl nc) (piHi r).num.natAbs) (hd:N32 h0 (.slice da dl dc) ((piHi r).den*2))=>Hull_raw (h:=h) (neg:=decide ((piHi r).num < 0)) (p:=r) hn hd dn (by omega) (by omega) (by omega)
 rw[←eh] at kH
 have kS:=fun {h0 h:PH} [Le h0 h] {w:Value} (hd:N32 h0 w (piHi r).den)=>aL (h:=h) (n:=1) hd (by omega)
 have kN:=fun {h0 h:PH} {w:Value} [Le h0 h] (c:Cn h0 w (piHi r))=>numberC (h:=h) c bp
 generalize gdown (sgn (decide ((piHi r).num < 0)) (piHi r).num.natAbs ((piHi r).den*2)) r=G at*
 generalize hf r=H at*
 clear eh bn bd b2 dn bp lx
 generalize piHi r=Q at*
 generalize piLo r=Q' at*
 obtain⟨b1,a1,m1,c1,a2,m2,c2,b2,a3,m3,c3,a4,m4,c4,rfl,e1,e2⟩:=hv
 generalize valE 8 r a b=E at*
 cases a<;>cases b<;>dsimp only[Option.isNone_none,Option.isNone_some] at*<;>
 ·simp only[if_true,qAw,if_false]
  refine out_as (P:=SetP _ _ _) fun O o1 o2=>?_
  unfold SetP
  refine Spec.go [(8,.h [] [] [6] [6,0,2,3,1,4,5,7])] Tryz.func20 rfl rfl (by kernel_rfl) fun C _=>?_
  try simp(maxSteps:=999999) (disch:=omega) only[go_sem,ξ,ζ]
  refine caP (by exact kV) ?_ (fun _ _ r=>(by exact⟨_,o1 r.1,r.2⟩));rintro v5 h5 s5 ⟨z,_,_,_,_,_,_,_,_,_,_,_,_,_,_,_,_,_,_,_,_,_,_,_,_,_,_,_,_,rfl,p1,p2,p3,p4⟩
  try simp(maxSteps:=999999) (disch:=omega) only[go_sem,ξ,ζ]
  refine caN (by exact kP) ?_;rintro v6 h6 s6 ⟨_,_,_,_,_,_,_,_,_,_,_,_,_,_,rfl,q1,q2⟩
  try simp(maxSteps:=999999) (disch:=omega) only[go_sem,ξ,ζ]
  refine caP (by exact haveB_any) ?_ (fun _ _ r=>(by exact absurd rfl r.1));rintro v7 h7 s7 ⟨_,rfl⟩
  try simp(maxSteps:=999999) (disch:=omega) only[go_sem,ξ,ζ]
  refine caN (by exact kN (q2.to (h':=h7))) ?_;rintro v8 h8 s8 q8;obtain⟨_,_,_,_,_,_,rfl,n1,n2⟩:=q8.sl
  try simp(maxSteps:=999999) (disch:=omega) only[go_sem,ξ,ζ]
  refine caN (by exact kS n2) ?_;rintro _ h9 _ q9;obtain⟨v9,v9_l,v9_c,rfl,q9⟩:=q9.sl
  try simp(maxSteps:=999999) (disch:=omega) only[go_sem,ξ,ζ]
  have q9:N32 h9 (.slice v9 v9_l v9_c) (Q.den*2):=q9
  refine caN (by exact One_raw) ?_;rintro v10 h10 s10 rfl
  try simp(maxSteps:=999999) (disch:=omega) only[go_sem,ξ,ζ]
  refine caN (by exact kH (n1.to (h':=h10)) (q9.to (h':=h10))) ?_;rintro v11 h11 s11 q11;obtain⟨_,_,_,_,_,_,_,_,_,_,_,_,_,_,rfl,f1,f2⟩:=q11.ie
  try simp(maxSteps:=999999) (disch:=omega) only[go_sem,ξ,ζ]
  try dsimp only[Option.isNone_some]
  try refine caN (by exact kf f2.num) ?_;rintro _ h12 _ q12;obtain⟨_,_,_,_,_,_,_,rfl,q12⟩:=q12.sa;(try simp(maxSteps:=999999) (disch:=omega) only[go_sem,ξ,ζ])
  exact⟨_,o2 z,_,_,_,_,_,_,rfl,by first |exact(En.of q12).to |exact p1.to,by first |exact p4.to |exact f2.to⟩
theorem Mono_any {h0 h:PH} [Le h0 h] {v:Value} {fn p:Int} {a b:Option Rat} (hv:ClOf h0 v fn p a b) (lx:(NS.i a b).le 2048) (hp:0≤p∧p≤128) (h7:fn=7→a.isNone=false∧b.isNone=false):SetP 20 #[v] h (monoO fn p a b):=by
 have kV:=fun {h} [Le h0 h]=>Values_any (h:=h) hv lx
 unfold monoO monoS
 by_cases f7:fn=7
 ·subst f7
  rw[if_pos rfl]
  obtain⟨ga,gb⟩:=h7 rfl
  cases a with
  |none=>cases ga
  |some x=>
  cases b with
  |none=>cases gb
  |some y=>
  clear h7 ga gb lx
  have ez:∀q:Rat,vLow 7 p (some q)=some (ozer (vLow 7 p (some q))):=fun _=>rfl
  have ez':∀q:Rat,vHig 7 p (some q)=some (ozer (vHig 7 p (some q))):=fun _=>rfl
  unfold Vs2 If at kV
  rw[ez x,ez y,ez' x,ez' y] at kV
  generalize ozer (vLow 7 p (some x))=L1 at*
  generalize ozer (vLow 7 p (some y))=L2 at*
  generalize ozer (vHig 7 p (some x))=H1 at*
  generalize ozer (vHig 7 p (some y))=H2 at*
  generalize valE 7 p (some x) (some y)=E at*
  obtain⟨b1,a1,m1,c1,a2,m2,c2,b2,a3,m3,c3,a4,m4,c4,rfl,e1,e2⟩:=hv
  dsimp only[Option.isNone_some] at*
  refine out_as (P:=SetP _ _ _) fun O o1 o2=>?_
  unfold SetP
  refine Spec.go [(8,.h [] [] [6] [6,0,2,3,1,4,5,7])] Tryz.func20 rfl rfl (by kernel_rfl) fun C _=>?_
  try simp(maxSteps:=999999) (disch:=omega) only[go_sem,ξ,ζ]
  refine caP (by exact kV) ?_ (fun _ _ r=>(by exact⟨_,o1 r.1,r.2⟩));rintro v5 h5 s5 ⟨z,_,_,_,_,_,_,_,_,_,_,_,_,_,_,_,_,_,_,_,_,_,_,_,_,_,_,_,_,rfl,p1,p2,p3,p4⟩
  try simp(maxSteps:=999999) (disch:=omega) only[go_sem,ξ,ζ]
  exact⟨_,o2 z,_,_,_,_,_,_,rfl,p3.to,p2.to⟩
 ·rw[if_neg f7]
  by_cases f8:fn=8
  ·subst f8
   rw[if_pos rfl]
   obtain⟨r,rfl⟩:∃r:Nat,p=(r:Int):=⟨p.toNat,by omega⟩
   exact Mono_atan hv lx (by omega)
  ·rw[if_neg f8]
   have t7:=eF f7
   have t8:=eF f8
   clear h7 lx f7 f8
   obtain⟨b1,a1,m1,c1,a2,m2,c2,b2,a3,m3,c3,a4,m4,c4,rfl,e1,e2⟩:=hv
   generalize valE fn p a b=E at*
   cases a with
   | none=>
    have kZ:=fun {h}=>numberC (h0:=h) (h:=h) (Cn.zero h) (by decide)
    have ez:ozer (vLow fn p none)=0:=rfl
    rw[ez]
    cases b<;>dsimp only[Option.isNone_none,Option.isNone_some] at*<;>
    ·refine out_as (P:=SetP _ _ _) fun O o1 o2=>?_
     unfold SetP
     refine Spec.go [(8,.h [] [] [6] [6,0,2,3,1,4,5,7])] Tryz.func20 rfl rfl (by kernel_rfl) fun C _=>?_
     try simp(maxSteps:=999999) (disch:=omega) only[go_sem,ξ,ζ]
     refine caP (by exact kV) ?_ (fun _ _ r=>(by exact⟨_,o1 r.1,r.2⟩));rintro v5 h5 s5 ⟨z,_,_,_,_,_,_,_,_,_,_,_,_,_,_,_,_,_,_,_,_,_,_,_,_,_,_,_,_,rfl,p1,p2,p3,p4⟩
     try simp(maxSteps:=999999) (disch:=omega) only[go_sem,ξ,ζ,t7,t8]
     refine caN (by exact kZ) ?_;rintro _ h6 _ q6;obtain⟨_,_,_,_,_,_,_,rfl,q6⟩:=q6.sa
     try simp(maxSteps:=999999) (disch:=omega) only[go_sem,ξ,ζ]
     exact⟨_,o2 z,_,_,_,_,_,_,rfl,(En.of q6).to,p4.to⟩
   | some x=>
    have ez:vLow fn p (some x)=some (ozer (vLow fn p (some x))):=rfl
    unfold Vs2 If at kV
    rw[ez] at kV
    generalize ozer (vLow fn p (some x))=L at*
    cases b<;>dsimp only[Option.isNone_none,Option.isNone_some] at*<;>
    ·refine out_as (P:=SetP _ _ _) fun O o1 o2=>?_
     unfold SetP
     refine Spec.go [(8,.h [] [] [6] [6,0,2,3,1,4,5,7])] Tryz.func20 rfl rfl (by kernel_rfl) fun C _=>?_
     try simp(maxSteps:=999999) (disch:=omega) only[go_sem,ξ,ζ]
     refine caP (by exact kV) ?_ (fun _ _ r=>(by exact⟨_,o1 r.1,r.2⟩));rintro v5 h5 s5 ⟨z,_,_,_,_,_,_,_,_,_,_,_,_,_,_,_,_,_,_,_,_,_,_,_,_,_,_,_,_,rfl,p1,p2,p3,p4⟩
     try simp(maxSteps:=999999) (disch:=omega) only[go_sem,ξ,ζ,t7,t8]
     exact⟨_,o2 z,_,_,_,_,_,_,rfl,p1.to,p4.to⟩
theorem call_no {fn p:Int} {a b:Option Rat} (ho:¬outB fn a b=false):callS fn p (.i a b)=.error 5:=by
 show(if outB fn a b=true then _ else _)=_
 rw[if_pos (by simpa using ho)]
theorem call_yes {fn p:Int} {a b:Option Rat} (ho:outB fn a b=false):callS fn p (.i a b)=if fn=3 then waveO fn p a b 3 1 else if fn=4 then waveO fn p a b 2 0 else if fn=5 then tanO p a b else monoO fn p a b:=by
 have e:callS fn p (.i a b)=if (fn=3∨fn=4)∧(a.isNone || b.isNone)=true then .ok (.i (some ((-1:Int):Rat)) (some ((1:Int):Rat))) else if valE fn p a b≠0 then .error (valE fn p a b) else callV fn p a b:=by
  show(if outB fn a b=true then _ else _)=_
  rw[if_neg (by simp[ho])]
 rw[e]
 unfold callV waveO monoO
 by_cases h3:fn=3
 ·subst h3;simp only[if_true,true_or,true_and]
 ·rw[if_neg h3,if_neg h3]
  by_cases h4:fn=4
  ·subst h4;simp only[if_true,or_true,true_and]
  ·rw[if_neg h4,if_neg h4,if_neg (fun k=>k.1.elim h3 h4)]
   by_cases h5:fn=5
   ·subst h5;simp only[if_true];rfl
   ·rw[if_neg h5,if_neg h5]
theorem out_tan {a b:Option Rat} (h:outB 5 a b=false):∃x y,a=some x∧b=some y:=by
 cases a<;>cases b<;>first |exact⟨_,_,rfl,rfl⟩ |cases h
theorem out_7 {fn:Int} {a b:Option Rat} (h:outB fn a b=false) (e:fn=7):a.isNone=false∧b.isNone=false:=by
 subst e
 cases a<;>cases b<;>first |exact⟨rfl,rfl⟩ |cases h
theorem Tangent_out {h0 h:PH} [Le h0 h] {v:Value} {p:Int} {a b:Option Rat} (hv:ClOf h0 v 5 p a b) (lx:(NS.i a b).le 2048) (o:outB 5 a b=false):SetP 19 #[v] h (tanO p a b):=by
 obtain⟨x,y,rfl,rfl⟩:=out_tan o
 exact Tangent_any hv lx
theorem Call1 {h0 h:PH} [Le h0 h] {s:Value} {x:NS} {fn p:Int} {b1 b2:Nat} (hs:Sd h0 s x) (lx:x.le 2048) (hb1:h b1=some #[.int .i64 fn]) (hb2:h b2=some #[.int .i64 p]):Does 15 #[s,.pointer (some ⟨b1,0,none⟩),.pointer (some ⟨b2,0,none⟩)] h (callO fn p x):=by
 refine SetP.does ?_
 have hs0:=hs.sn
 have g1:¬(1≤fn∧fn≤8)→callO fn p x=.error 2:=fun k=>by
  unfold callO
  cases e:badf fn with
  |true=>rfl
  |false=>exact absurd (badf_no e) k
 have g2:¬(0≤p∧p≤128)→callO fn p x=.error 2:=fun k=>by
  unfold callO Out.prec
  cases badf fn with
  |true=>rfl
  | false=>
   cases e:bad p with
   |true=>rfl
   |false=>exact absurd (jt e) k
 have g3:1≤fn∧fn≤8→0≤p∧p≤128→callO fn p x=callS fn p x:=fun k1 k2=>by
  have e1:badf fn=false:=by simp[badf];omega
  have e2:bad p=false:=by simp[bad];omega
  unfold callO Out.prec
  rw[e1,e2];rfl
 cases x with
 | e=>
  generalize callO fn p .e=O at*
  have ve:NS.e.void=true:=rfl
  obtain⟨_,_,_,_,_,_,_,_,_,_,_,_,_,_,_,_,rfl,hs⟩:=hs.sa
  unfold SetP
  refine Spec.go [] Tryz.func15 rfl rfl (by kernel_rfl) fun C _=>?_
  try simp(maxSteps:=999999) (disch:=omega) only[go_sem,ξ,ζ]
  refine aE (aK hb1) ?_
  try simp(maxSteps:=999999) (disch:=omega) only[go_sem,ξ,ζ]
  refine caP (by exact precise_any) ?_ (fun _ _ r=>(by exact⟨_,g1 r.1,r.2⟩));rintro v1 h1 st1 ⟨z1,_⟩
  try simp(maxSteps:=999999) (disch:=omega) only[go_sem,ξ,ζ]
  refine aE (aK (pubO hb2)) ?_
  try simp(maxSteps:=999999) (disch:=omega) only[go_sem,ξ,ζ]
  refine caP (by exact precise_any) ?_ (fun _ _ r=>(by exact⟨_,g2 r.1,r.2⟩));rintro v2 h2 st2 ⟨z2,_⟩
  try simp(maxSteps:=999999) (disch:=omega) only[go_sem,ξ,ζ,ve]
  exact⟨_,g3 z1 z2,hs0.to⟩
 | i a b=>
  have kD:=fun {h} [Le h0 h]=>Domain_any (h:=h) (fn:=fn) hs0 lx
  obtain⟨B1,A1,M1,C1,A2,M2,C2,B2,A3,M3,C3,A4,M4,C4,rfl,e1,e2⟩:=hs0.ie
  have hc:ClOf h0 _ fn p a b:=⟨B1,A1,M1,C1,A2,M2,C2,B2,A3,M3,C3,A4,M4,C4,rfl,e1,e2⟩
  have n5:¬outB fn a b=false→callS fn p (.i a b)=.error 5:=call_no
  have y5:outB fn a b=false→_:=call_yes (p:=p)
  by_cases f3:fn=3
  ·subst f3
   have kW:=fun {h} [Le h0 h]=>Wave_any (h:=h) hc lx (.inl rfl) (r:=3) (s:=1) (by decide) (by decide)
   rw[if_pos rfl] at y5
   generalize waveO 3 p a b 3 1=W at*
   generalize callS 3 p (.i a b)=S at*
   generalize callO 3 p (.i a b)=O at*
   unfold SetP at*
   refine Spec.go [] Tryz.func15 rfl rfl (by kernel_rfl) fun C _=>?_
   try simp(maxSteps:=999999) (disch:=omega) only[go_sem,ξ,ζ]
   refine aE (aK hb1) ?_
   try simp(maxSteps:=999999) (disch:=omega) only[go_sem,ξ,ζ]
   refine caP (by exact precise_any) ?_ (fun _ _ r=>(by exact⟨_,g1 r.1,r.2⟩));rintro v1 h1 st1 ⟨z1,_⟩
   try simp(maxSteps:=999999) (disch:=omega) only[go_sem,ξ,ζ]
   refine aE (aK (pubO hb2)) ?_
   try simp(maxSteps:=999999) (disch:=omega) only[go_sem,ξ,ζ]
   refine caP (by exact precise_any) ?_ (fun _ _ r=>(by exact⟨_,g2 r.1,r.2⟩));rintro v2 h2 st2 ⟨z2,_⟩
   try simp(maxSteps:=999999) (disch:=omega) only[go_sem,ξ,ζ]
   refine aE (aK (pubO hb1)) ?_
   try simp(maxSteps:=999999) (disch:=omega) only[go_sem,ξ,ζ]
   refine caP (by exact kD) ?_ (fun _ _ r=>(by exact⟨_,(g3 z1 z2).trans (n5 r.1),r.2⟩));rintro v3 h3 st3 ⟨z3,_⟩
   try simp(maxSteps:=999999) (disch:=omega) only[go_sem,ξ,ζ]
   refine aE (aK (pubO hb1)) ?_
   try simp(maxSteps:=999999) (disch:=omega) only[go_sem,ξ,ζ]
   refine aE (aK (pubO hb2)) ?_
   try simp(maxSteps:=999999) (disch:=omega) only[go_sem,ξ,ζ]
   refine aE (aK (pubO hb1)) ?_
   try simp(maxSteps:=999999) (disch:=omega) only[go_sem,ξ,ζ]
   refine caP (by exact kW) ?_ (fun _ _ j=>(by obtain⟨_,r,k⟩:=j;exact⟨_,((g3 z1 z2).trans (y5 z3)).trans r,k⟩));rintro v4 h4 st4 ⟨_,z4,q4⟩;obtain⟨_,_,_,_,_,_,_,_,_,_,_,_,_,_,_,_,rfl,q4⟩:=q4.sa
   try simp(maxSteps:=999999) (disch:=omega) only[go_sem,ξ,ζ]
   exact⟨_,((g3 z1 z2).trans (y5 z3)).trans z4,q4.to⟩
  rw[if_neg f3] at y5
  have t3:=eF f3
  by_cases f4:fn=4
  ·subst f4
   have kW:=fun {h} [Le h0 h]=>Wave_any (h:=h) hc lx (.inr (.inl rfl)) (r:=2) (s:=0) (by decide) (by decide)
   rw[if_pos rfl] at y5
   generalize waveO 4 p a b 2 0=W at*
   generalize callS 4 p (.i a b)=S at*
   generalize callO 4 p (.i a b)=O at*
   unfold SetP at*
   refine Spec.go [] Tryz.func15 rfl rfl (by kernel_rfl) fun C _=>?_
   try simp(maxSteps:=999999) (disch:=omega) only[go_sem,ξ,ζ]
   refine aE (aK hb1) ?_
   try simp(maxSteps:=999999) (disch:=omega) only[go_sem,ξ,ζ]
   refine caP (by exact precise_any) ?_ (fun _ _ r=>(by exact⟨_,g1 r.1,r.2⟩));rintro v1 h1 st1 ⟨z1,_⟩
   try simp(maxSteps:=999999) (disch:=omega) only[go_sem,ξ,ζ]
   refine aE (aK (pubO hb2)) ?_
   try simp(maxSteps:=999999) (disch:=omega) only[go_sem,ξ,ζ]
   refine caP (by exact precise_any) ?_ (fun _ _ r=>(by exact⟨_,g2 r.1,r.2⟩));rintro v2 h2 st2 ⟨z2,_⟩
   try simp(maxSteps:=999999) (disch:=omega) only[go_sem,ξ,ζ]
   refine aE (aK (pubO hb1)) ?_
   try simp(maxSteps:=999999) (disch:=omega) only[go_sem,ξ,ζ]
   refine caP (by exact kD) ?_ (fun _ _ r=>(by exact⟨_,(g3 z1 z2).trans (n5 r.1),r.2⟩));rintro v3 h3 st3 ⟨z3,_⟩
   try simp(maxSteps:=999999) (disch:=omega) only[go_sem,ξ,ζ]
   refine aE (aK (pubO hb1)) ?_
   try simp(maxSteps:=999999) (disch:=omega) only[go_sem,ξ,ζ]
   refine aE (aK (pubO hb2)) ?_
   try simp(maxSteps:=999999) (disch:=omega) only[go_sem,ξ,ζ]
   refine aE (aK (pubO hb1)) ?_
   try simp(maxSteps:=999999) (disch:=omega) only[go_sem,ξ,ζ]
   refine caP (by exact kW) ?_ (fun _ _ j=>(by obtain⟨_,r,k⟩:=j;exact⟨_,((g3 z1 z2).trans (y5 z3)).trans r,k⟩));rintro v4 h4 st4 ⟨_,z4,q4⟩;obtain⟨_,_,_,_,_,_,_,_,_,_,_,_,_,_,_,_,rfl,q4⟩:=q4.sa
   try simp(maxSteps:=999999) (disch:=omega) only[go_sem,ξ,ζ]
   exact⟨_,((g3 z1 z2).trans (y5 z3)).trans z4,q4.to⟩
  rw[if_neg f4] at y5
  have t4:=eF f4
  by_cases f5:fn=5
  ·subst f5
   rw[if_pos rfl] at y5
   have kW:=fun {h} [Le h0 h] (z:outB 5 a b=false)=>Tangent_out (h:=h) hc lx z
   generalize tanO p a b=W at*
   generalize callS 5 p (.i a b)=S at*
   generalize callO 5 p (.i a b)=O at*
   unfold SetP at*
   refine Spec.go [] Tryz.func15 rfl rfl (by kernel_rfl) fun C _=>?_
   try simp(maxSteps:=999999) (disch:=omega) only[go_sem,ξ,ζ]
   refine aE (aK hb1) ?_
   try simp(maxSteps:=999999) (disch:=omega) only[go_sem,ξ,ζ]
   refine caP (by exact precise_any) ?_ (fun _ _ r=>(by exact⟨_,g1 r.1,r.2⟩));rintro v1 h1 st1 ⟨z1,_⟩
   try simp(maxSteps:=999999) (disch:=omega) only[go_sem,ξ,ζ]
   refine aE (aK (pubO hb2)) ?_
   try simp(maxSteps:=999999) (disch:=omega) only[go_sem,ξ,ζ]
   refine caP (by exact precise_any) ?_ (fun _ _ r=>(by exact⟨_,g2 r.1,r.2⟩));rintro v2 h2 st2 ⟨z2,_⟩
   try simp(maxSteps:=999999) (disch:=omega) only[go_sem,ξ,ζ]
   refine aE (aK (pubO hb1)) ?_
   try simp(maxSteps:=999999) (disch:=omega) only[go_sem,ξ,ζ]
   refine caP (by exact kD) ?_ (fun _ _ r=>(by exact⟨_,(g3 z1 z2).trans (n5 r.1),r.2⟩));rintro v3 h3 st3 ⟨z3,_⟩
   try simp(maxSteps:=999999) (disch:=omega) only[go_sem,ξ,ζ]
   refine aE (aK (pubO hb1)) ?_
   try simp(maxSteps:=999999) (disch:=omega) only[go_sem,ξ,ζ]
   refine aE (aK (pubO hb2)) ?_
   try simp(maxSteps:=999999) (disch:=omega) only[go_sem,ξ,ζ]
   refine aE (aK (pubO hb1)) ?_
   try simp(maxSteps:=999999) (disch:=omega) only[go_sem,ξ,ζ]
   refine caP (by exact kW z3) ?_ (fun _ _ j=>(by obtain⟨_,r,k⟩:=j;exact⟨_,((g3 z1 z2).trans (y5 z3)).trans r,k⟩));rintro v4 h4 st4 ⟨_,z4,q4⟩;obtain⟨_,_,_,_,_,_,_,_,_,_,_,_,_,_,_,_,rfl,q4⟩:=q4.sa
   try simp(maxSteps:=999999) (disch:=omega) only[go_sem,ξ,ζ]
   exact⟨_,((g3 z1 z2).trans (y5 z3)).trans z4,q4.to⟩
  rw[if_neg f5] at y5
  have t5:=eF f5
  have kW:=fun {h} [Le h0 h] (z:0≤p∧p≤128) (o:outB fn a b=false)=>Mono_any (h:=h) hc lx z (out_7 o)
  generalize monoO fn p a b=W at*
  generalize callS fn p (.i a b)=S at*
  generalize callO fn p (.i a b)=O at*
  unfold SetP at*
  refine Spec.go [] Tryz.func15 rfl rfl (by kernel_rfl) fun C _=>?_
  try simp(maxSteps:=999999) (disch:=omega) only[go_sem,ξ,ζ]
  refine aE (aK hb1) ?_
  try simp(maxSteps:=999999) (disch:=omega) only[go_sem,ξ,ζ]
  refine caP (by exact precise_any) ?_ (fun _ _ r=>(by exact⟨_,g1 r.1,r.2⟩));rintro v1 h1 st1 ⟨z1,_⟩
  try simp(maxSteps:=999999) (disch:=omega) only[go_sem,ξ,ζ]
  refine aE (aK (pubO hb2)) ?_
  try simp(maxSteps:=999999) (disch:=omega) only[go_sem,ξ,ζ]
  refine caP (by exact precise_any) ?_ (fun _ _ r=>(by exact⟨_,g2 r.1,r.2⟩));rintro v2 h2 st2 ⟨z2,_⟩
  try simp(maxSteps:=999999) (disch:=omega) only[go_sem,ξ,ζ]
  refine aE (aK (pubO hb1)) ?_
  try simp(maxSteps:=999999) (disch:=omega) only[go_sem,ξ,ζ]
  refine caP (by exact kD) ?_ (fun _ _ r=>(by exact⟨_,(g3 z1 z2).trans (n5 r.1),r.2⟩));rintro v3 h3 st3 ⟨z3,_⟩
  try simp(maxSteps:=999999) (disch:=omega) only[go_sem,ξ,ζ]
  refine aE (aK (pubO hb1)) ?_
  try simp(maxSteps:=999999) (disch:=omega) only[go_sem,ξ,ζ]
  refine aE (aK (pubO hb2)) ?_
  try simp(maxSteps:=999999) (disch:=omega) only[go_sem,ξ,ζ]
  refine aE (aK (pubO hb1)) ?_
  try simp(maxSteps:=999999) (disch:=omega) only[go_sem,ξ,ζ,t3,t4,t5]
  refine caP (by exact kW z2 z3) ?_ (fun _ _ j=>(by obtain⟨_,r,k⟩:=j;exact⟨_,((g3 z1 z2).trans (y5 z3)).trans r,k⟩));rintro v4 h4 st4 ⟨_,z4,q4⟩;obtain⟨_,_,_,_,_,_,_,_,_,_,_,_,_,_,_,_,rfl,q4⟩:=q4.sa
  try simp(maxSteps:=999999) (disch:=omega) only[go_sem,ξ,ζ]
  exact⟨_,((g3 z1 z2).trans (y5 z3)).trans z4,q4.to⟩
theorem CallI_spec {h0 h:PH} [Le h0 h] {v:Value} {x:RI} {fn p:Int} (hv:Iv h0 v x):Spec mach 5 #[.int .i64 fn,v,.int .i64 p] h (fun r h'=>Ir h' r (x.fin (callO fn p x.set))) NP:=by
 have hv0:=hv
 obtain⟨a1,m1,c1,a2,m2,c2,a3,m3,c3,a4,m4,c4,rfl,_,_⟩:=hv.sa
 refine Spec.go [(1,.t (.p 0 (.p 2 (.s [0,1,2,3,4,5,6] .d))))] Tryz.func5 rfl rfl (by kernel_rfl) fun C _=>?_
 try simp(maxSteps:=999999) (disch:=omega) only[go_sem,ξ,ζ]
 intro b h1 st1 hb
 try simp(maxSteps:=999999) (disch:=omega) only[go_sem,ξ,ζ]
 have hb:=hb (by simp)
 intro b' h2 st2 hb'
 try simp(maxSteps:=999999) (disch:=omega) only[go_sem,ξ,ζ]
 have hb':=hb' (by simp)
 try simp(maxSteps:=999999) (disch:=omega) only[go_sem,ξ,ζ]
 refine caN (by exact jX (hv0.to (h':=h2)) (fun g h' i s hs=>Call1 hs (RI.le g) (i.sub _ _ (st2.sub _ _ hb)) (i.sub _ _ hb'))) ?_;rintro r3 h3 st3 hr3;obtain⟨_,_,_,_,_,_,_,_,_,_,_,_,_,_,_,_,_,rfl,hr3⟩:=hr3.sa
 try simp(maxSteps:=999999) (disch:=omega) only[go_sem,ξ,ζ]
 exact hr3
theorem call_ne {fn p:Int} {x:NS} (e:Int) (h:callS fn p x=.error e):e≠0:=by
 cases x with
 |e=>cases h
 | i a b=>
  by_cases ho:outB fn a b=false
  ·rw[call_yes ho] at h
   have k:∀{o:Out},(if valE fn p a b≠0 then .error (valE fn p a b) else o:Out)=.error e→o≠.error 0→e≠0:=fun {o} h1 h2=>by
    by_cases hz:valE fn p a b=0
    ·rw[if_neg (fun k=>k hz)] at h1;intro c;subst c;exact h2 h1
    ·rw[if_pos hz] at h1;cases h1;exact hz
   have kw:∀{r s:Int},waveO fn p a b r s=.error e→e≠0:=fun h=>by
    unfold waveO at h
    split at h
    ·cases h
    ·exact k h (fun c=>by cases c)
   by_cases f3:fn=3
   ·rw[if_pos f3] at h;exact kw h
   rw[if_neg f3] at h
   by_cases f4:fn=4
   ·rw[if_pos f4] at h;exact kw h
   rw[if_neg f4] at h
   by_cases f5:fn=5
   ·subst f5
    rw[if_pos rfl] at h
    refine k h ?_
    split
    ·intro c;cases c
    ·intro c;cases c
   ·rw[if_neg f5] at h
    exact k h (fun c=>by cases c)
  ·rw[call_no ho] at h
   cases h
   decide
theorem N_par (t:Rat):cNN (-1) (-t)=cNN (-1) t∧sNN (-1) (-t)= -sNN (-1) t:=by
 have e: -t* -t=t*t:=by grind
 rw[(N_al t).1,(N_al t).2,(N_al (-t)).1,(N_al (-t)).2,e]
 exact⟨rfl,by grind⟩
theorem cf {x y d:Rat} (h:Ab x d) (e:x=y):Ab y d:=e▸h
theorem CB {r:Rat} (h:Ab r 2):Ab (sNN (-1) r*sNN (-1) r+cNN (-1) r*cNN (-1) r - 1) eps:=by
 have a:=(N_add (q:=-1) ⟨qBk,by decide⟩ h h.neg).2
 have e:r+ -r=0:=by grind
 rw[(N_par r).1,(N_par r).2,e,(rG _).1] at a
 exact cf a (by grind)
theorem v_circle {k:Int} {r:Rat} (h:Ab r 2):Ab (vS k r*vS k r+vC k r*vC k r - 1) eps:=by
 have a:=CB h
 unfold vS vC
 split
 ·exact cf a (by grind)
 split
 ·exact cf a (by grind)
 split
 ·exact cf a (by grind)
 ·exact cf a (by grind)
theorem v_add {k l:Int} {r t:Rat} (hr:Ab r 2) (ht:Ab t 2):Ab (vS k r*vC l t+vC k r*vS l t - vS (k+l) (r+t)) eps∧Ab (vC k r*vC l t - vS k r*vS l t - vC (k+l) (r+t)) eps:=by
 obtain⟨a1,a2⟩:=N_add (q:=-1) ⟨qBk,by decide⟩ hr ht
 have b1:=a1.neg
 have b2:=a2.neg
 have n1:¬(0:Int)=1:=by decide
 have n2:¬(0:Int)=2:=by decide
 have n3:¬(0:Int)=3:=by decide
 have n4:¬(2:Int)=1:=by decide
 have n5:¬(3:Int)=1:=by decide
 have n6:¬(3:Int)=2:=by decide
 have hk:k % 4=0∨k % 4=1∨k % 4=2∨k % 4=3:=by omega
 have hl:l % 4=0∨l % 4=1∨l % 4=2∨l % 4=3:=by omega
 unfold vS vC
 generalize sNN (-1) (r+t)=S at*
 generalize cNN (-1) (r+t)=C at*
 generalize sNN (-1) r=s at*
 generalize cNN (-1) r=c at*
 generalize sNN (-1) t=u at*
 generalize cNN (-1) t=v at*
 rcases hk with h |h |h |h<;>rcases hl with g |g |g |g<;>(
  have hm:(k+l) % 4=0∨(k+l) % 4=1∨(k+l) % 4=2∨(k+l) % 4=3:=by omega
  rcases hm with m |m |m |m<;>first
   |(exfalso;omega)
   |(simp only[h,g,m,n1,n2,n3,n4,n5,n6,if_false,if_true];first |exact⟨cf a1 (by grind),cf a2 (by grind)⟩ |exact⟨cf a2 (by grind),cf b1 (by grind)⟩ |exact⟨cf b1 (by grind),cf b2 (by grind)⟩ |exact⟨cf b2 (by grind),cf a1 (by grind)⟩))
theorem xW (p:Nat):∃z:Int,(0:Rat)*2^p=(z:Rat):=⟨0,by rw[Rat.zero_mul];rfl⟩
theorem qK (p:Nat):∃z:Int,(1:Rat)*2^p=(z:Rat):=⟨2^p,by rw[Rat.one_mul];push_cast;rfl⟩
theorem eps_256:eps*2^256 < 1∧400*eps*2^256 < 1:=by decide+kernel
theorem v_sum {x y:Rat} {w:Nat} (h1:64≤w) (h2:w≤192) (hx: -4294967296≤x∧x≤4294967296) (hy: -4294967296≤y∧y≤4294967296) (hs: -4294967296≤x+y∧x+y≤4294967296):
  Ab (vS (rsK x w) (rsR x w)*vC (rsK y w) (rsR y w)+vC (rsK x w) (rsR x w)*vS (rsK y w) (rsR y w) - vS (rsK (x+y) w) (rsR (x+y) w)) (400*eps)∧
  Ab (vC (rsK x w) (rsR x w)*vC (rsK y w) (rsR y w) - vS (rsK x w) (rsR x w)*vS (rsK y w) (rsR y w) - vC (rsK (x+y) w) (rsR (x+y) w)) (400*eps):=by
 obtain⟨_,_,a⟩:=pr h1 h2 hx
 obtain⟨_,_,b⟩:=pr h1 h2 hy
 obtain⟨_,_,c⟩:=pr h1 h2 hs
 obtain⟨_,_,q1,q2⟩:=qt_num
 have e0:(0:Rat)≤eps:=by decide+kernel
 obtain⟨m1,m2⟩:=v_add (k:=rsK x w) (l:=rsK y w) (a.le (by decide)) (b.le (by decide))
 have ab:Ab (rsR x w+rsR y w) 2:=(a.add b).le (by decide+kernel)
 have e:rsR (x+y) w - (rsR x w+rsR y w)=((rsK x w+rsK y w - rsK (x+y) w:Int):Rat)*qtR:=by unfold rsR;rw[Rat.intCast_sub,Rat.intCast_add];grind
 have hk: -1≤rsK x w+rsK y w - rsK (x+y) w∧rsK x w+rsK y w - rsK (x+y) w≤1:=by
  obtain⟨a1,a2⟩:=a
  obtain⟨b1,b2⟩:=b
  obtain⟨c1,c2⟩:=c
  generalize rsK x w+rsK y w - rsK (x+y) w=k at*
  constructor
  ·refine Decidable.byContradiction fun c=>?_
   have:(k:Rat)≤((-2:Int):Rat):=qBa.2 (by omega)
   have m:=mlr this (show 0≤qtR by grind)
   rw[show((-2:Int):Rat)= -2 from rfl,←e] at m
   have:qtR≥157 / 100:=by decide+kernel
   grind
  ·refine Decidable.byContradiction fun c=>?_
   have:((2:Int):Rat)≤(k:Rat):=qBa.2 (by omega)
   have m:=mlr this (show 0≤qtR by grind)
   rw[show((2:Int):Rat)=2 from rfl,←e] at m
   have:qtR≥157 / 100:=by decide+kernel
   grind
 have hk3:rsK x w+rsK y w - rsK (x+y) w=0∨rsK x w+rsK y w - rsK (x+y) w=1∨rsK x w+rsK y w - rsK (x+y) w= -1:=by omega
 have fin:Ab (vS (rsK x w+rsK y w) (rsR x w+rsR y w) - vS (rsK (x+y) w) (rsR (x+y) w)) (121*eps)∧Ab (vC (rsK x w+rsK y w) (rsR x w+rsR y w) - vC (rsK (x+y) w) (rsR (x+y) w)) (121*eps):=by
  rcases hk3 with k |k |k
  ·rw[k,show((0:Int):Rat)=0 from rfl] at e
   rw[show rsK x w+rsK y w=rsK (x+y) w by omega,show rsR x w+rsR y w=rsR (x+y) w by grind]
   have n:∀v:Rat,v - v=0:=fun v=>by grind
   rw[n,n]
   exact⟨Ab.zero (by grind),Ab.zero (by grind)⟩
  ·rw[k,show((1:Int):Rat)=1 from rfl] at e
   obtain⟨c1,c2⟩:=v_one (k:=rsK x w+rsK y w) ab
   rw[show rsR x w+rsR y w+qtR=rsR (x+y) w by grind,show rsK x w+rsK y w - 1=rsK (x+y) w by omega] at c1 c2
   exact⟨c1,c2⟩
  ·rw[k,show((-1:Int):Rat)= -1 from rfl] at e
   obtain⟨c1,c2⟩:=v_one (k:=rsK (x+y) w) (c.le (by decide))
   rw[show rsR (x+y) w+qtR=rsR x w+rsR y w by grind,show rsK (x+y) w - 1=rsK x w+rsK y w by omega] at c1 c2
   exact⟨cf c1.neg (by grind),cf c2.neg (by grind)⟩
 exact⟨(cf (m1.add fin.1) (by grind)).le (by grind),(cf (m2.add fin.2) (by grind)).le (by grind)⟩
theorem ceil_le {q:Rat} {z:Int}:q.ceil≤z↔q≤(z:Rat):=by
 rw[Rat.ceil_eq_neg_floor_neg]
 have h:(-z≤(-q).floor)↔((-z:Int):Rat)≤ -q:=Rat.le_floor_iff
 rw[Rat.intCast_neg] at h
 constructor
 ·intro k
  have:=h.1 (by omega)
  grind
 ·intro k
  have:=h.2 (by grind)
  omega
theorem jw {x y z:Rat} (hy:0 < y):(x*y⁻¹≤z↔x≤z*y)∧(z≤x*y⁻¹↔z*y≤x):=by
 have y0:y≠0:=by grind
 have e:x*y⁻¹*y=x:=by rw[Rat.mul_assoc,Rat.inv_mul_cancel _ y0,Rat.mul_one]
 generalize x*y⁻¹=q at*
 subst e
 have k:∀a b:Rat,a≤b→a*y≤b*y:=fun a b h=>mlr h (llt hy)
 have k2:∀a b:Rat,a < b→a*y < b*y:=fun a b h=>Rat.mul_lt_mul_of_pos_right h hy
 refine⟨⟨k _ _,fun h=>Decidable.byContradiction fun hc=>?_⟩,⟨k _ _,fun h=>Decidable.byContradiction fun hc=>?_⟩⟩
 ·have:=k2 z q (by grind);grind
 ·have:=k2 q z (by grind);grind
theorem qt_up {x y:Rat} (hy:0 < y) {z:Int}:qt x y true≤z↔x≤(z:Rat)*y:=by
 unfold qt
 rw[if_pos rfl,ceil_le,(jw hy).1]
theorem qt_dn {x y:Rat} (hy:0 < y) {z:Int}:z≤qt x y false↔(z:Rat)*y≤x:=by
 unfold qt
 rw[if_neg (by decide),Rat.le_floor_iff,(jw hy).2]
theorem f_pos:0 < fP:=by have:=fP_ge;grind
theorem g_pos:0 < gP:=by have:=gP_ge;grind
set_option maxHeartbeats 16000000

def xS (x:Rat) (p:Nat):Rat:=vS (rsK x (p+64)) (rsR x (p+64))
def xC (x:Rat) (p:Nat):Rat:=vC (rsK x (p+64)) (rsR x (p+64))
theorem xS_0 (p:Nat):xS 0 p=0∧xC 0 p=1:=by
 have k:rsK 0 (p+64)=0:=by unfold rsK;rw[Rat.zero_mul];decide+kernel
 have r:rsR 0 (p+64)=0:=by unfold rsR;rw[k];decide+kernel
 unfold xS xC
 rw[k,r]
 exact⟨(rG _).2,(rG _).1⟩
theorem g_in2 (y:Rat) (p:Nat):(∃z:Int,gdown y p*2^p=(z:Rat))∧∃z:Int,gup y p*2^p=(z:Rat):=by
 have hp:=co p
 have e:∀z:Rat,z / 2^p*2^p=z:=fun z=>Rat.div_mul_cancel (by grind)
 exact⟨⟨_,e _⟩,⟨_,e _⟩⟩
def Btw (p:Nat) (l v u:Rat):Prop:=(l≤v∧v≤u)∧(∃z:Int,l*2^p=(z:Rat))∧∃z:Int,u*2^p=(z:Rat)
theorem br_34 (x:Rat) (p:Int):brE 4 x p=brE 3 x p:=by
 have h:eErr 4 x p=eErr 3 x p:=by
  unfold eErr
  have d:defB 4 x=defB 3 x:=rfl
  rw[d]
  simp
 unfold brE elE
 rw[h]
 simp
theorem br_S {x:Rat} {p:Nat} (h:brE 3 x p=0):Btw p (brL 3 x p) (xS x p) (brH 3 x p)∧Btw p (brL 4 x p) (xC x p) (brH 4 x p)∧(-4294967296≤x∧x≤4294967296)∧p≤128∧Ab (rsR x (p+64)) 1:=by
 obtain⟨_,_,p1⟩:=br_p h
 obtain⟨_,_,_,_,_,_,k2⟩:=dw (br_e h)
 have hb:=k2 (.inl rfl)
 have h4:=(br_34 x p).trans h
 obtain⟨⟨a1,a2⟩,b1,b2⟩:=yF (w:=p+64) (by omega) (by omega) hb
 refine⟨?_,?_,iP hb,by omega,(pr (w:=p+64) (by omega) (by omega) (iP hb)).2.2⟩
 ·rw[(cC h).1,(cC h).2,show exB 3 x=decide (x=0) from rfl]
  by_cases x0:x=0
  ·subst x0
   rw[decide_eq_true rfl,if_pos rfl,if_pos rfl,(xS_0 p).1,show exV 3 0=0 by decide+kernel]
   exact⟨⟨qBk,qBk⟩,xW p,xW p⟩
  ·rw[decide_eq_false x0,if_neg (by decide),if_neg (by decide)]
   exact⟨⟨qAq (dV _ _) a1,qAq a2 (jc _ _)⟩,(g_in2 _ p).1,(g_in2 _ p).2⟩
 ·rw[(cC h4).1,(cC h4).2,show exB 4 x=decide (x=0) from rfl]
  by_cases x0:x=0
  ·subst x0
   rw[decide_eq_true rfl,if_pos rfl,if_pos rfl,(xS_0 p).2,show exV 4 0=1 by decide+kernel]
   exact⟨⟨qBk,qBk⟩,qK p,qK p⟩
  ·rw[decide_eq_false x0,if_neg (by decide),if_neg (by decide)]
   exact⟨⟨qAq (dV _ _) b1,qAq b2 (jc _ _)⟩,(g_in2 _ p).1,(g_in2 _ p).2⟩
theorem tan_pole {x:Rat} {p:Nat} (h:brE 5 x p=0) (hb:exB 5 x=false):¬pole x p:=by
 have he:=br_e h
 intro hp
 unfold brE at h
 split at h
 ·cases h
 ·unfold elE at h
  rw[if_neg (fun c=>c he),if_neg (by rw[hb];decide),if_pos ⟨rfl,hp⟩] at h
  cases h
theorem br_T {x:Rat} {p:Nat} (h:brE 5 x p=0):(brL 5 x p≤xS x p*(xC x p)⁻¹∧xS x p*(xC x p)⁻¹≤brH 5 x p)∧xC x p*(xC x p)⁻¹=1:=by
 obtain⟨_,_,p1⟩:=br_p h
 obtain⟨_,_,_,_,_,_,k2⟩:=dw (br_e h)
 have hb:=k2 (.inr (.inr rfl))
 rw[(cC h).1,(cC h).2]
 cases he:exB 5 x with
 | true=>
  have x0:x=0:=of_decide_eq_true he
  subst x0
  rw[if_pos rfl,if_pos rfl,(xS_0 p).1,(xS_0 p).2,show exV 5 0=0 by decide+kernel]
  decide+kernel
 | false=>
  have hn:=tan_pole h he
  rw[if_neg (by decide),if_neg (by decide)]
  obtain⟨t1,t2⟩:=BT (w:=p+64) (by omega) (by omega) hb hn
  exact⟨⟨qAq (dV _ _) t1,qAq t2 (jc _ _)⟩,(E0 (w:=p+64) (by omega) (by omega) hb hn).2⟩
theorem sc_bd {t:Rat} (h0:0≤t) (h1:t≤1):5 / 6*t≤sNN (-1) t∧sNN (-1) t≤t∧1 / 2≤cNN (-1) t∧cNN (-1) t≤1:=by
 have tt:=mZ (t:=t) ⟨by grind,h1⟩
 have t0:=cG t
 rw[(N_al t).1,(N_al t).2]
 obtain⟨a1,a2⟩:=al_01 (f:=1) (by decide) t0 tt 180 1
 obtain⟨b1,b2⟩:=al_01 (f:=2) (by decide) t0 tt 179 1
 have e1:al 1 (t*t) 0 181=1 - t*t*al 1 (t*t) 1 180*(1 / 2):=by
  show 1 - t*t*al 1 (t*t) 1 180*((wav 1 0:Nat):Rat)⁻¹=_
  rw[show((wav 1 0:Nat):Rat)⁻¹=1 / 2 by decide+kernel]
 have e2:al 2 (t*t) 0 180=1 - t*t*al 2 (t*t) 1 179*(1 / 6):=by
  show 1 - t*t*al 2 (t*t) 1 179*((wav 2 0:Nat):Rat)⁻¹=_
  rw[show((wav 2 0:Nat):Rat)⁻¹=1 / 6 by decide+kernel]
 rw[e1,e2]
 generalize al 1 (t*t) 1 180=A at*
 generalize al 2 (t*t) 1 179=B at*
 have m1:=mnn t0 a1
 have m2:=mlr tt a1
 have m3:=mnn t0 b1
 have m4:=mlr tt b1
 have q:5 / 6≤1 - t*t*B*(1 / 6):=by grind
 have q2:1 - t*t*B*(1 / 6)≤1:=by grind
 have n1:=mll q h0
 have n2:=mll q2 h0
 exact⟨by grind,by grind,by grind,by grind⟩
theorem ft (t:Rat):sNN (-1) (-t)= -sNN (-1) t∧cNN (-1) (-t)=cNN (-1) t:=by
 have e: -t* -t=t*t:=by grind
 rw[(N_al t).1,(N_al t).2,(N_al (-t)).1,(N_al (-t)).2,e]
 exact⟨by grind,rfl⟩
theorem ep_num:0 < eps∧eps≤1 / 1000000∧eps*2^1700≤1∧157 / 100≤qtR∧qtR≤158 / 100:=by decide+kernel
end Go.Q
