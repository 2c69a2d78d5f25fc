/-
  The values of sine, cosine and tangent and their brackets: no program. Conditions: the number has a bracket.
  The statement ElemCircle. Conditions: the argument is a number as it comes in (Rw).
-/
import Derived.Test.YtclajmpjcojhaaaGreatDoorK9b403cPkQ
import Derived.Test.YtclajmpjcojhaaaGreatDoorK6bf10bPkF
set_option linter.unusedVariables false
set_option linter.unusedSimpArgs false
namespace Go.Q
set_option maxRecDepth 100000
set_option maxHeartbeats 8000000
def xS (x:Rat) (p:Nat):Rat:=vS (rsK x (p+64)) (rsR x (p+64))
def xC (x:Rat) (p:Nat):Rat:=vC (rsK x (p+64)) (rsR x (p+64))
theorem xS_0 (p:Nat):xS 0 p=0∧xC 0 p=1:=by
  have k:rsK 0 (p+64)=0:=by unfold rsK;rw[Rat.zero_mul];decide+kernel
  have r:rsR 0 (p+64)=0:=by unfold rsR;rw[k];decide+kernel
  unfold xS xC
  rw[k,r]
  exact⟨(N_zero _).2,(N_zero _).1⟩
theorem g_in2 (y:Rat) (p:Nat):(∃z:Int,gdown y p*2^p=(z:Rat))∧∃z:Int,gup y p*2^p=(z:Rat):=by
  have hp:=pow2_pos p
  have e:∀z:Rat,z / 2^p*2^p=z:=fun z=>Rat.div_mul_cancel (by grind)
  exact⟨⟨_,e _⟩,⟨_,e _⟩⟩
def Btw (p:Nat) (l v u:Rat):Prop:=(l≤v∧v≤u)∧(∃z:Int,l*2^p=(z:Rat))∧∃z:Int,u*2^p=(z:Rat)
theorem br_34 (x:Rat) (p:Int):brE 4 x p=brE 3 x p:=by
  have h:eErr 4 x p=eErr 3 x p:=by
    unfold eErr
    have d:defB 4 x=defB 3 x:=rfl
    rw[d]
    simp
  unfold brE elE
  rw[h]
  simp
theorem br_S {x:Rat} {p:Nat} (h:brE 3 x p=0):Btw p (brL 3 x p) (xS x p) (brH 3 x p)∧Btw p (brL 4 x p) (xC x p) (brH 4 x p)∧(-4294967296≤x∧x≤4294967296)∧p≤128∧Ab (rsR x (p+64)) 1:=by
  obtain⟨_,_,p1⟩:=br_p h
  obtain⟨_,_,_,_,_,_,k2⟩:=eErr_p (br_e h)
  have hb:=k2 (.inl rfl)
  have h4:=(br_34 x p).trans h
  obtain⟨⟨a1,a2⟩,b1,b2⟩:=si_val (w:=p+64) (by omega) (by omega) hb
  refine⟨?_,?_,num_bd hb,by omega,(rsR_bd (w:=p+64) (by omega) (by omega) (num_bd hb)).2.2⟩
  · rw[(br_ser h).1,(br_ser h).2,show exB 3 x=decide (x=0) from rfl]
    by_cases x0:x=0
    · subst x0
      rw[decide_eq_true rfl,if_pos rfl,if_pos rfl,(xS_0 p).1,show exV 3 0=0 by decide+kernel]
      exact⟨⟨Rat.le_refl,Rat.le_refl⟩,int_zero p,int_zero p⟩
    · rw[decide_eq_false x0,if_neg (by decide),if_neg (by decide)]
      exact⟨⟨Rat.le_trans (gdown_le _ _) a1,Rat.le_trans a2 (le_gup _ _)⟩,(g_in2 _ p).1,(g_in2 _ p).2⟩
  · rw[(br_ser h4).1,(br_ser h4).2,show exB 4 x=decide (x=0) from rfl]
    by_cases x0:x=0
    · subst x0
      rw[decide_eq_true rfl,if_pos rfl,if_pos rfl,(xS_0 p).2,show exV 4 0=1 by decide+kernel]
      exact⟨⟨Rat.le_refl,Rat.le_refl⟩,int_one p,int_one p⟩
    · rw[decide_eq_false x0,if_neg (by decide),if_neg (by decide)]
      exact⟨⟨Rat.le_trans (gdown_le _ _) b1,Rat.le_trans b2 (le_gup _ _)⟩,(g_in2 _ p).1,(g_in2 _ p).2⟩
theorem tan_pole {x:Rat} {p:Nat} (h:brE 5 x p=0) (hb:exB 5 x=false):¬pole x p:=by
  have he:=br_e h
  intro hp
  unfold brE at h
  split at h
  · cases h
  · unfold elE at h
    rw[if_neg (fun c=>c he),if_neg (by rw[hb];decide),if_pos ⟨rfl,hp⟩] at h
    cases h
theorem br_T {x:Rat} {p:Nat} (h:brE 5 x p=0):(brL 5 x p≤xS x p*(xC x p)⁻¹∧xS x p*(xC x p)⁻¹≤brH 5 x p)∧xC x p*(xC x p)⁻¹=1:=by
  obtain⟨_,_,p1⟩:=br_p h
  obtain⟨_,_,_,_,_,_,k2⟩:=eErr_p (br_e h)
  have hb:=k2 (.inr (.inr rfl))
  rw[(br_ser h).1,(br_ser h).2]
  cases he:exB 5 x with
  | true=>
    have x0:x=0:=of_decide_eq_true he
    subst x0
    rw[if_pos rfl,if_pos rfl,(xS_0 p).1,(xS_0 p).2,show exV 5 0=0 by decide+kernel]
    decide+kernel
  | false=>
    have hn:=tan_pole h he
    rw[if_neg (by decide),if_neg (by decide)]
    obtain⟨t1,t2⟩:=tan_val (w:=p+64) (by omega) (by omega) hb hn
    exact⟨⟨Rat.le_trans (gdown_le _ _) t1,Rat.le_trans t2 (le_gup _ _)⟩,(co_big (w:=p+64) (by omega) (by omega) hb hn).2⟩
theorem circle_law {x:Rat} {p:Nat} (h:brE 3 x p=0):sqLo (brL 3 x p) (brH 3 x p)+sqLo (brL 4 x p) (brH 4 x p)≤1∧1≤sqHi (brL 3 x p) (brH 3 x p)+sqHi (brL 4 x p) (brH 4 x p):=by
  obtain⟨⟨a,ia,ib⟩,⟨c,ic,id⟩,_,hp,r⟩:=br_S h
  exact circle_core hp ia ib ic id a.1 a.2 c.1 c.2 (v_circle (r.le (by decide)))
theorem circle_tan {x:Rat} {p:Nat} (h:brE 3 x p=0) (ht:brE 5 x p=0):prLo (brL 5 x p) (brH 5 x p) (brL 4 x p) (brH 4 x p)≤brH 3 x p∧brL 3 x p≤prHi (brL 5 x p) (brH 5 x p) (brL 4 x p) (brH 4 x p):=by
  obtain⟨⟨a,_,_⟩,⟨c,_,_⟩,_⟩:=br_S h
  obtain⟨t,i⟩:=br_T ht
  have k:=pr_bd t.1 t.2 c.1 c.2
  have e:xS x p*(xC x p)⁻¹*xC x p=xS x p:=by rw[Rat.mul_assoc,Rat.mul_comm (xC x p)⁻¹,i,Rat.mul_one]
  rw[e] at k
  exact⟨Rat.le_trans k.1 a.2,Rat.le_trans a.1 k.2⟩
end Go.Q
namespace Go.Q
open Go.Proofs
set_option maxRecDepth 100000
set_option maxHeartbeats 8000000
theorem Circle_law {h0 h:PH} [Le h0 h] {v:Value} {neg:Bool} {n d:Nat} {p:Int} (hv:Rw h0 v neg n d):Spec mach 3 #[v,.int .i64 p] h (fun r _=>r=.bool true) NP:=by
  have kO:=fun {h} [Le h0 h]=>QOf_spec (h:=h) hv
  have bx:=hv.sz35
  have kA:=fun {h0 h:PH} {w:Value} [Le h0 h] (c:Qr h0 w (qof neg n d))=>LBracket_spec (h:=h) (fn:=3) (p:=p) Apply_e3 c bx
  have kB:=fun {h0 h:PH} {w:Value} [Le h0 h] (c:Qr h0 w (qof neg n d))=>LBracket_spec (h:=h) (fn:=4) (p:=p) Apply_e4 c bx
  have kT:=fun {h0 h:PH} {w:Value} [Le h0 h] (c:Qr h0 w (qof neg n d))=>LBracket_spec (h:=h) (fn:=5) (p:=p) Apply_e5 c bx
  generalize qof neg n d=x at*
  obtain⟨a1,a2⟩:=br_sz 3 x p
  obtain⟨b1,b2⟩:=br_sz 4 x p
  obtain⟨t1,t2⟩:=br_sz 5 x p
  rw[br_34] at kB
  obtain⟨_,_,_,_,_,_,_,rfl,_⟩:=hv.sa
  by_cases hE:brE 3 x p=0
  · obtain⟨_,p0,_⟩:=br_p hE
    obtain⟨q,rfl⟩:∃q:Nat,p=(q:Int):=⟨p.toNat,by omega⟩
    obtain⟨l1,l2⟩:=circle_law hE
    have tn:=circle_tan hE
    rw[decide_eq_true hE] at kA kB
    have s1:=sz_sq (Nat.le_trans a1 (show 2048≤2^20 by decide)) (Nat.le_trans a2 (show 2048≤2^20 by decide))
    have s2:=sz_sq (Nat.le_trans b1 (show 2048≤2^20 by decide)) (Nat.le_trans b2 (show 2048≤2^20 by decide))
    have s3:=sz_pr (Nat.le_trans t1 (show 2048≤2^20 by decide)) (Nat.le_trans t2 (show 2048≤2^20 by decide)) (Nat.le_trans b1 (show 2048≤2^20 by decide)) (Nat.le_trans b2 (show 2048≤2^20 by decide))
    generalize brL 3 x q=A at*
    generalize brH 3 x q=B at*
    generalize brL 4 x q=C at*
    generalize brH 4 x q=D at*
    have z1:=sz_add (sqLo A B) (sqLo C D)
    have z2:=sz_add (sqHi A B) (sqHi C D)
    have z1:sz (sqLo A B+sqLo C D)≤2^34:=by omega
    have z2:sz (sqHi A B+sqHi C D)≤2^34:=by omega
    have sOne:sz (((1:Int):Rat))≤2^34:=by decide
    have kI:=fun {h}=>QInt_spec (h:=h) (n:=1) (by decide) (by decide)
    rw[show(1:Rat)=((1:Int):Rat) from rfl] at l1 l2
    generalize((1:Int):Rat)=One at*
    have ta1:=Nat.le_trans a1 (show 2048≤2^20 by decide)
    have ta2:=Nat.le_trans a2 (show 2048≤2^20 by decide)
    have tb1:=Nat.le_trans b1 (show 2048≤2^20 by decide)
    have tb2:=Nat.le_trans b2 (show 2048≤2^20 by decide)
    have tt1:=Nat.le_trans t1 (show 2048≤2^20 by decide)
    have tt2:=Nat.le_trans t2 (show 2048≤2^20 by decide)
    have H:=Hid.mk (And.intro s1 (And.intro s2 (And.intro s3 (And.intro z1 (And.intro z2 (And.intro sOne (And.intro a1 (And.intro a2 bx))))))))
    have J:=Hid.mk (And.intro ta1 (And.intro ta2 (And.intro tb1 (And.intro tb2 (And.intro tt1 tt2)))))
    clear s1 s2 s3 z1 z2 sOne a1 a2 bx b1 b2 t1 t2 ta1 ta2 tb1 tb2 tt1 tt2 hE p0
    obtain⟨fine,hf⟩:∃c,decide (brE 5 x q=0)=c:=⟨_,rfl⟩
    rw[hf] at kT
    have tn':fine=true→_:=fun k=>tn (of_decide_eq_true (hf.trans k))
    clear tn hf
    generalize brL 5 x q=L at*
    generalize brH 5 x q=U at*
    refine Spec.go [(8,.o [0,1,2,3,4,6,7,5,8,9,10,11,12,13])] Tryz.func3 rfl rfl (by kernel_rfl) fun C _=>?_
    try simp(maxSteps:=999999) (disch:=omega) only[go_sem,Nat.reduceBEq,Nat.reduceAdd]
    refine caN (by exact kO) ?_;rintro v1 h1 r1 q1;obtain⟨_,_,_,_,_,_,_,rfl,q1⟩:=q1.sa
    try simp(maxSteps:=999999) (disch:=omega) only[go_sem,Nat.reduceBEq,Nat.reduceAdd]
    refine caN (by exact kA q1) ?_;rintro v2 h2 r2 ⟨_,_,_,_,_,_,_,_,_,_,_,_,_,_,rfl,c1,c2⟩
    try simp(maxSteps:=999999) (disch:=omega) only[go_sem,Nat.reduceBEq,Nat.reduceAdd]
    refine caN (by exact kB (q1.to (h':=h2))) ?_;rintro v3 h3 r3 ⟨_,_,_,_,_,_,_,_,_,_,_,_,_,_,rfl,c3,c4⟩
    try simp(maxSteps:=999999) (disch:=omega) only[go_sem,Nat.reduceBEq,Nat.reduceAdd]
    refine caN (by exact LSquare_spec (c1.to (h':=h3)) (c2.to (h':=h3)) J.out.1 J.out.2.1) ?_;rintro v4 h4 r4 ⟨_,_,_,_,_,_,_,_,_,_,_,_,_,_,rfl,c5,c6⟩
    try simp(maxSteps:=999999) (disch:=omega) only[go_sem,Nat.reduceBEq,Nat.reduceAdd]
    refine caN (by exact LSquare_spec (c3.to (h':=h4)) (c4.to (h':=h4)) J.out.2.2.1 J.out.2.2.2.1) ?_;rintro v5 h5 r5 ⟨_,_,_,_,_,_,_,_,_,_,_,_,_,_,rfl,c7,c8⟩
    try simp(maxSteps:=999999) (disch:=omega) only[go_sem,Nat.reduceBEq,Nat.reduceAdd]
    refine caN (by exact sane_spec) ?_;rintro v6 h6 r6 rfl
    try simp(maxSteps:=999999) (disch:=omega) only[go_sem,Nat.reduceBEq,Nat.reduceAdd]
    refine caN (by exact Sum_spec (c5.to (h':=h6)) (c7.to (h':=h6)) (Nat.le_trans H.out.1.1 (by decide)) (Nat.le_trans H.out.2.1.1 (by decide))) ?_;rintro v7 h7 r7 q7;obtain⟨_,_,_,_,_,_,_,rfl,q7⟩:=q7.sa
    try simp(maxSteps:=999999) (disch:=omega) only[go_sem,Nat.reduceBEq,Nat.reduceAdd]
    refine caN (by exact Sum_spec (c6.to (h':=h7)) (c8.to (h':=h7)) (Nat.le_trans H.out.1.2 (by decide)) (Nat.le_trans H.out.2.1.2 (by decide))) ?_;rintro v8 h8 r8 q8;obtain⟨_,_,_,_,_,_,_,rfl,q8⟩:=q8.sa
    try simp(maxSteps:=999999) (disch:=omega) only[go_sem,Nat.reduceBEq,Nat.reduceAdd]
    refine caN (by exact kI) ?_;rintro v9 h9 r9 q9;obtain⟨_,_,_,_,_,_,_,rfl,q9⟩:=q9.sa
    try simp(maxSteps:=999999) (disch:=omega) only[go_sem,Nat.reduceBEq,Nat.reduceAdd]
    refine caN (by exact kI) ?_;rintro v10 h10 r10 q10;obtain⟨_,_,_,_,_,_,_,rfl,q10⟩:=q10.sa
    try simp(maxSteps:=999999) (disch:=omega) only[go_sem,Nat.reduceBEq,Nat.reduceAdd]
    refine caN (by exact LMts_yes (q7.to (h':=h10)) (q8.to (h':=h10)) (q9.to (h':=h10)) q10 H.out.2.2.2.1 H.out.2.2.2.2.1 H.out.2.2.2.2.2.1 H.out.2.2.2.2.2.1 l1 l2) ?_;rintro v11 h11 r11 rfl
    try simp(maxSteps:=999999) (disch:=omega) only[go_sem,Nat.reduceBEq,Nat.reduceAdd]
    refine caN (by exact kT (q1.to (h':=h11))) ?_;rintro v12 h12 r12 ⟨_,_,_,_,_,_,_,_,_,_,_,_,_,_,rfl,c9,c10⟩
    try simp(maxSteps:=999999) (disch:=omega) only[go_sem,Nat.reduceBEq,Nat.reduceAdd]
    cases fine
    · try simp(maxSteps:=999999) (disch:=omega) only[go_sem,Nat.reduceBEq,Nat.reduceAdd]
    · obtain⟨m1,m2⟩:=tn' rfl
      try simp(maxSteps:=999999) (disch:=omega) only[go_sem,Nat.reduceBEq,Nat.reduceAdd]
      refine caN (by exact LProduct_spec c9 c10 (c3.to (h':=h12)) (c4.to (h':=h12)) J.out.2.2.2.2.1 J.out.2.2.2.2.2 J.out.2.2.1 J.out.2.2.2.1) ?_;rintro v13 h13 r13 ⟨_,_,_,_,_,_,_,_,_,_,_,_,_,_,rfl,c11,c12⟩
      try simp(maxSteps:=999999) (disch:=omega) only[go_sem,Nat.reduceBEq,Nat.reduceAdd]
      refine caN (by exact LMts_yes c11 c12 (c1.to (h':=h13)) (c2.to (h':=h13)) (Nat.le_trans H.out.2.2.1.1 (by decide)) (Nat.le_trans H.out.2.2.1.2 (by decide)) (Nat.le_trans J.out.1 (by decide)) (Nat.le_trans J.out.2.1 (by decide)) m1 m2) ?_;rintro v14 h14 r14 rfl
      try simp(maxSteps:=999999) (disch:=omega) only[go_sem,Nat.reduceBEq,Nat.reduceAdd]
  · rw[decide_eq_false hE] at kA kB
    clear kT a1 a2 b1 b2 t1 t2 bx hE
    refine Spec.go [(8,.o [0,1,2,3,4,6,7,5,8,9,10,11,12,13])] Tryz.func3 rfl rfl (by kernel_rfl) fun C _=>?_
    try simp(maxSteps:=999999) (disch:=omega) only[go_sem,Nat.reduceBEq,Nat.reduceAdd]
    refine caN (by exact kO) ?_;rintro v1 h1 r1 q1;obtain⟨_,_,_,_,_,_,_,rfl,q1⟩:=q1.sa
    try simp(maxSteps:=999999) (disch:=omega) only[go_sem,Nat.reduceBEq,Nat.reduceAdd]
    refine caN (by exact kA q1) ?_;rintro v2 h2 r2 ⟨_,_,_,_,_,_,_,_,_,_,_,_,_,_,rfl,c1,c2⟩
    try simp(maxSteps:=999999) (disch:=omega) only[go_sem,Nat.reduceBEq,Nat.reduceAdd]
    refine caN (by exact kB (q1.to (h':=h2))) ?_;rintro v3 h3 r3 ⟨_,_,_,_,_,_,_,_,_,_,_,_,_,_,rfl,c3,c4⟩
    try simp(maxSteps:=999999) (disch:=omega) only[go_sem,Nat.reduceBEq,Nat.reduceAdd]
    refine caN (by exact sane_spec) ?_;rintro v6 h6 r6 rfl
    try simp(maxSteps:=999999) (disch:=omega) only[go_sem,Nat.reduceBEq,Nat.reduceAdd]
end Go.Q
