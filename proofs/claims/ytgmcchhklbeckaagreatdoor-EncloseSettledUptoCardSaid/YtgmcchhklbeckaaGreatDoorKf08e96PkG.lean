/-
  Whole bodies walked by one call of the simplifier, and what stands on it. Conditions: each theorem's own.
-/
import Derived.Test.YtgmcchhklbeckaaGreatDoorKf91e7fPkF
import Derived.Test.YtgmcchhklbeckaaGreatDoorK0ef115PkD
set_option linter.unusedVariables false
set_option linter.unusedSimpArgs false
open Nat renaming reduceBEq→ξ,reduceAdd→ζ,le_refl→η,mul_comm→ρ,mul_le_mul_left→ω,mul_assoc→σ,mul_le_mul→qAk,mul_add→qAm,pow_succ→qAn,pow_pos→qAo,pow_add→qAs,pow_le_pow_right→qAv,mul_one→qAz,mod_eq_of_lt→qBi,lt_or_ge→qBj,mod_lt→qBl,one_mul→qBm
open Bool renaming and_eq_true→φ
open List renaming take_of_length_le→qAr,getD_eq_getElem?_getD→qAy,all_eq_true→qBd
namespace Go.Q
open Go.RowKit (Below)
def qS (next:AS→PH→Prop) (Q:Exit→AS→PH→Prop):Exit→AS→PH→Prop:=qs next Q
def qB (id:Nat) (Q:Exit→AS→PH→Prop):Exit→AS→PH→Prop:=qb id Q
def rQ (P:Program) (rs:List ResultVar) (R:Value→PH→Prop):Exit→AS→PH→Prop:=rq P rs R
def cndA:AV→(AS→PH→Prop)→(AS→PH→Prop)→AS→PH→Prop
 |.v (.bool b),p,q,S,h=>(b=true→p S h)∧(b=false→q S h)
 |_,_,_,_,_=>False
theorem cnd_t (p q:AS→PH→Prop) (S:AS) (h:PH):cndA (.v (.bool true)) p q S h=p S h:=propext ⟨fun k=>k.1 rfl,fun k=>⟨fun _=>k,fun e=>(nomatch e)⟩⟩
theorem cnd_f (p q:AS→PH→Prop) (S:AS) (h:PH):cndA (.v (.bool false)) p q S h=q S h:=propext ⟨fun k=>k.2 rfl,fun k=>⟨fun e=>(nomatch e),fun _=>k⟩⟩
def runR (M:Mach) (n:Nat) (C:Ctx) (E:List PanicEntry→PH→Prop) (id:Nat) (ops:Array Oper) (d:Bool) (Q:Exit→AS→PH→Prop):Option PW→AS→PH→Prop
 |none=>walkO M E ops.toList ops.toList (Q .normal)
 |some (.o o)=>walkO M E ops.toList (pickO ops.toList o) (Q .normal)
 |some (.t t)=>walkZ M E ops.toList (Q .normal) t
 |some (.y t)=>walkZ M E ops.toList (Q .normal) t
 |some (.h sp _ _ c)=>fun S h=>sepsA S sp∧walkO M E ops.toList (pickO ops.toList c) (Q .normal) S h
 |some .x=>AWP M n C (.region id ops d) Q E
def runC (M:Mach) (n:Nat) (C:Ctx) (E:List PanicEntry→PH→Prop) (pl:Plans):Code→(Exit→AS→PH→Prop)→AS→PH→Prop
 |.region id ops d,Q=>runR M n C E id ops d Q (pl.get id)
 |.seq x y,Q=>runC M n C E pl x (qS (runC M n C E pl y Q) Q)
 |.block id x,Q=>runC M n C E pl x (qB id Q)
 |.cond c x y,Q=>fun S h=>cndA (S.ev c) (runC M n C E pl x Q) (runC M n C E pl y Q) S h
 |.exit id,Q=>Q (.exit id)
 |.skip,Q=>Q .normal
 |.ret,Q=>Q .ret
 |c,Q=>AWP M n C c Q E
def chkC (n:Nat) (pl:Plans):Code→Bool
 | .region id ops d=>match pl.get id with
  |none=>(prep n ops ((List.range ops.size).map .o)).isSome && (!d || fi ops (List.range ops.size))
  |some (.o o)=>(prep n ops (o.map .o)).isSome && (bif d then fi ops o else o == List.range ops.size)
  | some (.t t)=>bif d then (prepT n ops t.it).isSome && oo ops t.it else match t.pl with
   |some pl=>(prep n ops pl).isSome && order pl == List.range ops.size
   |none=>false
  |some (.y t)=>d && ((Nat.ble (deep t.it) ops.size && chkY ops t.it true (Array.replicate ops.size false)) && (prepT n ops t.it).isSome)
  |some (.h sp sn al c)=>d && hoOk n ops sp sn al (c.drop al.length) && (c == al ++c.drop al.length)
  |some .x=>true
 |.seq x y=>chkC n pl x && chkC n pl y
 |.block _ x=>chkC n pl x
 |.cond _ x y=>chkC n pl x && chkC n pl y
 |_=>true
theorem zP (l:List Nat):order (l.map .o)=l:=by
 induction l with
 |nil=>rfl
 |cons x l ih=>simp[order,ih]
theorem qX {M:Mach} {n:Nat} {C:Ctx} {E:List PanicEntry→PH→Prop} {pl:Plans}:∀(c:Code) (Q:Exit→AS→PH→Prop) (S:AS) (h:PH),chkC n pl c=true→runC M n C E pl c Q S h→AWP M n C c Q E S h:=by
 intro c
 induction c with
 | region id ops d=>
  intro Q S h hc hr
  simp only[chkC] at hc
  simp only[runC] at hr
  cases hp:pl.get id with
  | none=>
   rw[hp] at hc hr
   simp only[φ] at hc
   obtain⟨l,hl⟩:=Option.isSome_iff_exists.1 hc.1
   have e:=oE (M:=M) (E:=E) (K:=Q .normal) _ l hl
   rw[show List.range ops.size=List.range ops.toList.length by simp,FH] at e
   have hw:walkO M E ops.toList ops.toList (Q .normal) S h:=hr
   rw[e] at hw
   clear hr
   cases d with
   |false=>exact AWP_s hl hw
   |true=>exact AWP_d (plain ops.size) (by rw[nG];simpa using hc.2) hl hw
  | some o=>
   cases o with
   |x=>rw[hp] at hr;exact hr
   | h sp sn al c=>
    rw[hp] at hc hr
    simp only[φ,beq_iff_eq] at hc
    obtain⟨⟨hd,hc1⟩,hc2⟩:=hc
    subst hd
    have hw:sepsA S sp∧walkO M E ops.toList (pickO ops.toList c) (Q .normal) S h:=hr
    rw[hc2] at hw
    exact hoR sp sn al (c.drop al.length) hc1 hw.1 hw.2
   | y t=>
    rw[hp] at hc hr
    simp only[φ] at hc
    obtain⟨hd,hc1,hc2⟩:=hc
    subst hd
    have hw:walkZ M E ops.toList (Q .normal) t S h:=hr
    obtain⟨g,hg⟩:=Option.isSome_iff_exists.1 hc2
    rw[Ed t g hg] at hw
    exact qr t.it (by simp only[φ];exact hc1) hg hw
   | t t =>
    rw[hp] at hc hr
    have hw:walkZ M E ops.toList (Q .normal) t S h:=hr
    cases d with
    | false=>
     simp only[cond_false] at hc
     cases hpl:t.pl with
     |none=>rw[hpl] at hc;cases hc
     | some pl=>
      rw[hpl] at hc
      simp only[φ,beq_iff_eq] at hc
      obtain⟨l,hl⟩:=Option.isSome_iff_exists.1 hc.1
      rw[walkZ_pl t pl l hpl hl] at hw
      exact Ek pl hc.2 hl hw
    |true=>
    simp only[cond_true,φ] at hc
    obtain⟨hc1,hc3⟩:=hc
    obtain⟨g,hg⟩:=Option.isSome_iff_exists.1 hc1
    rw[Ed t g hg] at hw
    exact fun β a w hg'=>qq M.mixed t.it hc3 (fun c a d v w=>sJ c a d v w) (pO t.it g S h β a _ hg hw (hg'.below (gt w)))
   | o o=>
    rw[hp] at hc hr
    simp only[φ] at hc
    obtain⟨l,hl⟩:=Option.isSome_iff_exists.1 hc.1
    have hw:walkO M E ops.toList (pickO ops.toList o) (Q .normal) S h:=hr
    rw[oE _ l hl] at hw
    clear hr
    cases d with
    |false=>exact Ek (o.map .o) (by rw[zP];simpa using hc.2) hl hw
    |true=>exact AWP_d (o.map .o) (by rw[zP];simpa using hc.2) hl hw
 | seq x y ihx ihy=>
  intro Q S h hc hr
  simp only[chkC,φ] at hc
  refine oG (AWP_mono (ihx _ S h hc.1 hr) fun e S h k=>?_)
  cases e<;>first |exact ihy Q S h hc.2 k |exact k
 |block id x ih=>intro Q S h hc hr;exact ue (ih _ S h hc hr)
 | cond c x y ihx ihy=>
  intro Q S h hc hr
  simp only[chkC,φ] at hc
  simp only[runC] at hr
  cases hv:S.ev c with
  | v x=>
   rw[hv] at hr
   cases x<;>first |exact hr.elim |skip
   exact mP hv (fun e=>ihx Q S h hc.1 (hr.1 e)) (fun e=>ihy Q S h hc.2 (hr.2 e))
  |_=>rw[hv] at hr;exact hr.elim
 |exit id=>intro Q S h _ hr;exact ae hr
 |skip=>intro Q S h _ hr;exact ac hr
 |ret=>intro Q S h _ hr;exact ai hr
 |_=>intro Q S h _ hr;exact hr
section
variable {M:Mach} {n:Nat} {C:Ctx} {E:List PanicEntry→PH→Prop} {pl:Plans} {Q:Exit→AS→PH→Prop} {S S':AS} {sl:List (Nat×AV)} {bx:List (List Value)} {h:PH} {K next:AS→PH→Prop}
theorem FQ (id:Nat) (ops:List Oper) (d:Bool):runC M n C E pl (.region id ops.toArray d) Q ⟨sl,bx⟩ h=runR M n C E id ops.toArray d Q (pl.get id) ⟨sl,bx⟩ h:=(rfl)
theorem JP (id:Nat) (ops:List Oper) (d:Bool):runR M n C E id ops.toArray d Q none ⟨sl,bx⟩ h=walkO M E ops ops (Q .normal) ⟨sl,bx⟩ h:=(rfl)
theorem JR (id:Nat) (ops:List Oper) (d:Bool) (t:TT):runR M n C E id ops.toArray d Q (some (.t t)) ⟨sl,bx⟩ h=walkZ M E ops (Q .normal) t ⟨sl,bx⟩ h:=(rfl)
theorem JQ (id:Nat) (ops:List Oper) (d:Bool) (o:List Nat):runR M n C E id ops.toArray d Q (some (.o o)) ⟨sl,bx⟩ h=walkO M E ops (pickO ops o) (Q .normal) ⟨sl,bx⟩ h:=(rfl)
theorem runR_any (id:Nat) (ops:List Oper) (d:Bool) (t:TT):runR M n C E id ops.toArray d Q (some (.y t)) ⟨sl,bx⟩ h=walkZ M E ops (Q .normal) t ⟨sl,bx⟩ h:=(rfl)
theorem runR_h (id:Nat) (ops:List Oper) (d:Bool) (sp sn:List (Nat×Nat)) (al c:List Nat):runR M n C E id ops.toArray d Q (some (.h sp sn al c)) ⟨sl,bx⟩ h=(sepsA ⟨sl,bx⟩ sp∧walkO M E ops (pickO ops c) (Q .normal) ⟨sl,bx⟩ h):=(rfl)
theorem runR_no (id:Nat) (ops:Array Oper) (d:Bool):runR M n C E id ops d Q (some .x) ⟨sl,bx⟩ h=AWP M n C (.region id ops d) Q E ⟨sl,bx⟩ h:=(rfl)
theorem run_seq (x y:Code):runC M n C E pl (.seq x y) Q ⟨sl,bx⟩ h=runC M n C E pl x (qS (runC M n C E pl y Q) Q) ⟨sl,bx⟩ h:=(rfl)
theorem JS (id:Nat) (x:Code):runC M n C E pl (.block id x) Q ⟨sl,bx⟩ h=runC M n C E pl x (qB id Q) ⟨sl,bx⟩ h:=(rfl)
theorem run_cond (c:Operand) (x y:Code):runC M n C E pl (.cond c x y) Q ⟨sl,bx⟩ h=cndA (AS.ev (⟨sl,bx⟩:AS) c) (runC M n C E pl x Q) (runC M n C E pl y Q) ⟨sl,bx⟩ h:=(rfl)
theorem run_exit (id:Nat):runC M n C E pl (.exit id) Q ⟨sl,bx⟩ h=Q (.exit id) ⟨sl,bx⟩ h:=(rfl)
theorem run_skip:runC M n C E pl .skip Q ⟨sl,bx⟩ h=Q .normal ⟨sl,bx⟩ h:=(rfl)
theorem run_ret:runC M n C E pl .ret Q ⟨sl,bx⟩ h=Q .ret ⟨sl,bx⟩ h:=(rfl)
theorem run_loop (c:Code):runC M n C E pl (.loop c) Q ⟨sl,bx⟩ h=AWP M n C (.loop c) Q E ⟨sl,bx⟩ h:=(rfl)
theorem qs_e (k:Nat):qS next Q (.exit k) S h=Q (.exit k) S h:=(rfl)
theorem qs_r:qS next Q .ret S h=Q .ret S h:=(rfl)
theorem qs_nn:qS next Q .normal S h=next S h:=(rfl)
theorem qb_e (k:Nat):qB k Q (.exit k) S h=Q .normal S h:=by simp only[qB,qb,if_true]
theorem qb_ne {k id:Nat} (hk:k≠id):qB id Q (.exit k) S h=Q (.exit k) S h:=by simp only[qB,qb,hk,if_false]
theorem qb_r (id:Nat):qB id Q .ret S h=Q .ret S h:=(rfl)
theorem rq_r {P:Program} {rs:List ResultVar} {R:Value→PH→Prop}:rQ P rs R .ret S h=op2 (resA P S rs) fun v=>R v h:=(rfl)
theorem rq_n {P:Program} {rs:List ResultVar} {R:Value→PH→Prop}:rQ P rs R .normal S h=op2 (resA P S rs) fun v=>R v h:=(rfl)
theorem qb_n (id:Nat):qB id Q .normal S h=Q .normal S h:=(rfl)
end
attribute [go_sem] FQ JP JR runR_any JQ runR_h runR_no run_seq JS run_cond run_exit run_skip run_ret run_loop qs_e qs_r qs_nn qb_e qb_ne qb_r qb_n rq_r rq_n cnd_t cnd_f
theorem calV_1:type_of% @calV.eq_1:=id @calV.eq_1
theorem calV_2:type_of% @calV.eq_2:=id @calV.eq_2
theorem calA_1:type_of% @calA.eq_1:=id @calA.eq_1
theorem ldN_1:type_of% @ldN.eq_1:=id @ldN.eq_1
theorem ldN_2:type_of% @ldN.eq_2:=id @ldN.eq_2
theorem ldA_1:type_of% @ldA.eq_1:=id @ldA.eq_1
theorem ldA_2:type_of% @ldA.eq_2:=id @ldA.eq_2
theorem pickA_1:type_of% @pickA.eq_1:=id @pickA.eq_1
theorem unA_1:type_of% @unA.eq_1:=id @unA.eq_1
theorem unA_2:type_of% @unA.eq_2:=id @unA.eq_2
theorem convA_1:type_of% @convA.eq_1:=id @convA.eq_1
theorem faA_1:type_of% @faA.eq_1:=id @faA.eq_1
theorem faA_2:type_of% @faA.eq_2:=id @faA.eq_2
theorem fA_1:type_of% @fA.eq_1:=id @fA.eq_1
theorem iaA_1:type_of% @iaA.eq_1:=id @iaA.eq_1
theorem iaA_2:type_of% @iaA.eq_2:=id @iaA.eq_2
theorem iaA_3:type_of% @iaA.eq_3:=id @iaA.eq_3
theorem iaA_4:type_of% @iaA.eq_4:=id @iaA.eq_4
theorem iA_1:type_of% @iA.eq_1:=id @iA.eq_1
theorem iA_2:type_of% @iA.eq_2:=id @iA.eq_2
theorem extA_1:type_of% @extA.eq_1:=id @extA.eq_1
theorem slcA_1:type_of% @slcA.eq_1:=id @slcA.eq_1
theorem slcA_2:type_of% @slcA.eq_2:=id @slcA.eq_2
theorem miA_1:type_of% @miA.eq_1:=id @miA.eq_1
theorem minA_1:type_of% @minA.eq_1:=id @minA.eq_1
theorem maxA_1:type_of% @maxA.eq_1:=id @maxA.eq_1
theorem boxA_1:type_of% @boxA.eq_1:=id @boxA.eq_1
theorem stoA_1:type_of% @stoA.eq_1:=id @stoA.eq_1
theorem mksA_1:type_of% @mksA.eq_1:=id @mksA.eq_1
theorem panA_1:type_of% @panA.eq_1:=id @panA.eq_1
theorem appX_1:type_of% @appX.eq_1:=id @appX.eq_1
theorem appX_2:type_of% @appX.eq_2:=id @appX.eq_2
theorem appB_1:type_of% @appB.eq_1:=id @appB.eq_1
theorem appB_2:type_of% @appB.eq_2:=id @appB.eq_2
theorem copB_1:type_of% @copB.eq_1:=id @copB.eq_1
theorem gvB_u (w:Bool):gvB w (.v undef)=some false:=(rfl)
theorem gvB_t (w:Bool):gvB w (.v (.bool true))=some w:=by cases w<;>(rfl)
theorem gvB_f (w:Bool):gvB w (.v (.bool false))=some (!w):=by cases w<;>(rfl)
theorem gvB_2:type_of% @gvB.eq_2:=id @gvB.eq_2
theorem gvT_1:type_of% @gvT.eq_1:=id @gvT.eq_1
theorem gvT_2:type_of% @gvT.eq_2:=id @gvT.eq_2
theorem gst_1:type_of% @gst.eq_1:=id @gst.eq_1
theorem gst_2:type_of% @gst.eq_2:=id @gst.eq_2
attribute [go_sem] dstA calV_1 calV_2 calA_1 ldN_1 ldN_2 ldA_1 ldA_2 pickA_1 unA_1 unA_2 convA_1 faA_1 faA_2 fA_1 iaA_1 iaA_2 iaA_3 iaA_4 iA_1 iA_2 extA_1 slcA_1 slcA_2 miA_1 minA_1 maxA_1 boxA_1 stoA_1 mksA_1 panA_1 appX_1 appX_2 appB_1 appB_2 copB_1 gvB_t gvB_f gvB_u gvB_2 gvT_1 gvT_2 gst_1 gst_2
theorem bq_tt:(true == true)=true:=(rfl)
theorem bq_tf:(true == false)=false:=(rfl)
theorem bq_ft:(false == true)=false:=(rfl)
theorem bq_ff:(false == false)=true:=(rfl)
attribute [go_sem] bq_tt bq_tf bq_ft bq_ff Bool.not_true Bool.not_false
section
variable {M:Mach} {n:Nat} {C:Ctx} {E:List PanicEntry→PH→Prop} {pl:Plans} {Q:Exit→AS→PH→Prop} {S S':AS} {h:PH} {K next p q:AS→PH→Prop} {k:AS→PH→AV→Prop} {kr:AV→Prop}
@[congr] theorem cg_run {c:Code} (e:Unit→S=S'):runC M n C E pl c Q S h=runC M n C E pl c Q S' h:=by rw[e ()]
@[congr] theorem cg_runR {id:Nat} {ops:Array Oper} {d:Bool} {o o':Option PW} (e:Unit→S=S') (e':Unit→o=o'):runR M n C E id ops d Q o S h=runR M n C E id ops d Q o' S' h:=by rw[e (),e' ()]
@[congr] theorem cg_walkO {all l l':List Oper} (e:Unit→S=S'):walkO M E all l K S h=walkO M E all l K S' h:=by rw[e ()]
@[congr] theorem cg_walkZ {all:List Oper} {t:TT} (e:Unit→S=S'):walkZ M E all K t S h=walkZ M E all K t S' h:=by rw[e ()]
@[congr] theorem cg_opA {op:Op} (e:Unit→S=S'):opA M E op S h k=opA M E op S' h k:=by rw[e ()]
@[congr] theorem cg_gst {d:Option Nat} {op:Op} {o o':Option Bool} (e:Unit→S=S') (e':Unit→o=o'):gst M E d op o S h k=gst M E d op o' S' h k:=by rw[e (),e' ()]
@[congr] theorem cg_ldN {a:Addr} {o o':Option Nat} (e:Unit→S=S') (e1:Unit→o=o'):ldN S h a k o=ldN S' h a k o':=by rw[e (),e1 ()]
@[congr] theorem cg_ld1 {a a':Addr} (e:Unit→S=S') (e1:Unit→a=a'):ld1 S h a k=ld1 S' h a' k:=by rw[e (),e1 ()]
@[congr] theorem cg_ldm {a a':Addr} {m:Nat} (e:Unit→S=S') (e1:Unit→a=a'):ldm S h a m k=ldm S' h a' m k:=by rw[e (),e1 ()]
@[congr] theorem cg_ixP {a a':Option Addr} {j j':Int} {len ln len':Nat} (e:Unit→S=S') (e1:Unit→a=a') (e2:Unit→j=j') (e3:Unit→len=len'):ixP S h a j len ln k=ixP S' h a' j' len' ln k:=by rw[e (),e1 (),e2 (),e3 ()]
@[congr] theorem cg_ixS {s:ByteArray} {j j':Int} (e:Unit→S=S') (e2:Unit→j=j'):ixS S h s j k=ixS S' h s j' k:=by rw[e (),e2 ()]
@[congr] theorem cg_ldA {T:TypeId} {x x':AV} (e:Unit→S=S') (e1:Unit→x=x'):ldA M T S h k x=ldA M T S' h k x':=by rw[e (),e1 ()]
@[congr] theorem cg_pickA {x y z x' y' z':AV} (e:Unit→x=x') (e':Unit→y=y') (e2:Unit→z=z'):pickA kr x y z=pickA kr x' y' z':=by rw[e (),e' (),e2 ()]
@[congr] theorem cg_unA {o:UnOp} {x x':AV} (e:Unit→x=x'):unA kr o x=unA kr o x':=by rw[e ()]
@[congr] theorem cg_convA {a b a' b':UK} {x x':AV} (e:Unit→x=x') (e1:Unit→a=a') (e2:Unit→b=b'):convA kr a b x=convA kr a' b' x':=by rw[e (),e1 (),e2 ()]
@[congr] theorem cg_faA {o:Nat} {x x':AV} (e:Unit→x=x'):faA kr o x=faA kr o x':=by rw[e ()]
@[congr] theorem cg_fA {o o':Option (Nat×Option Nat)} {x x':AV} (e:Unit→x=x') (e':Unit→o=o'):fA kr o x=fA kr o' x':=by rw[e (),e' ()]
@[congr] theorem cg_iaA {T:TypeId} {o:Nat} {x x' y y':AV} (e:Unit→S=S') (e1:Unit→x=x') (e2:Unit→y=y'):iaA M T S h k o x y=iaA M T S' h k o x' y':=by rw[e (),e1 (),e2 ()]
@[congr] theorem cg_iA {T:TypeId} {x x' y y':AV} (e:Unit→S=S') (e1:Unit→x=x') (e2:Unit→y=y'):iA M T S h k x y=iA M T S' h k x' y':=by rw[e (),e1 (),e2 ()]
@[congr] theorem cg_extA {o:Nat} {x x':AV} (e:Unit→x=x'):extA kr o x=extA kr o x':=by rw[e ()]
@[congr] theorem cg_slcA {T:TypeId} {l u l' u':Option AV} {x x':AV} (e:Unit→x=x') (e1:Unit→l=l') (e2:Unit→u=u'):slcA M T kr l u x=slcA M T kr l' u' x':=by rw[e (),e1 (),e2 ()]
@[congr] theorem cg_miA {T:TypeId} {x x':AV} (e:Unit→x=x'):miA M T kr x=miA M T kr x':=by rw[e ()]
@[congr] theorem cg_minA {x x' y y':AV} (e:Unit→x=x') (e':Unit→y=y'):minA kr x y=minA kr x' y':=by rw[e (),e' ()]
@[congr] theorem cg_maxA {x x' y y':AV} (e:Unit→x=x') (e':Unit→y=y'):maxA kr x y=maxA kr x' y':=by rw[e (),e' ()]
@[congr] theorem cg_boxA {x x':AV} (e:Unit→S=S') (e':Unit→x=x'):boxA S h k x=boxA S' h k x':=by rw[e (),e' ()]
@[congr] theorem cg_stoA {T:TypeId} {x x' y y':AV} (e:Unit→S=S') (e1:Unit→x=x') (e2:Unit→y=y'):stoA M T S h k x y=stoA M T S' h k x' y':=by rw[e (),e1 (),e2 ()]
@[congr] theorem cg_mksA {T:TypeId} {x x' y y':AV} (e:Unit→S=S') (e1:Unit→x=x') (e2:Unit→y=y'):mksA M T S h k x y=mksA M T S' h k x' y':=by rw[e (),e1 (),e2 ()]
@[congr] theorem cg_opt {α:Type} {o o':Option α} {f:α→Prop} (e:Unit→o=o'):op2 o f=op2 o' f:=by rw[e ()]
@[congr] theorem cg_op3 {α:Type} {o o':Option α} {f:α→Prop} {d:Prop} (e:Unit→o=o'):op3 o f d=op3 o' f d:=by rw[e ()]
@[congr] theorem cg_cndA {x x':AV} (e:Unit→x=x') (e':Unit→S=S'):cndA x p q S h=cndA x' p q S' h:=by rw[e (),e' ()]
@[congr] theorem cg_qs {x:Exit} (e:Unit→S=S'):qS next Q x S h=qS next Q x S' h:=by rw[e ()]
@[congr] theorem cg_qb {x:Exit} {id:Nat} (e:Unit→S=S'):qB id Q x S h=qB id Q x S' h:=by rw[e ()]
@[congr] theorem cg_AWP {c:Code} (e:Unit→S=S'):AWP M n C c Q E S h=AWP M n C c Q E S' h:=by rw[e ()]
@[congr] theorem cg_rq {P:Program} {rs:List ResultVar} {R:Value→PH→Prop} {x:Exit} (e:Unit→S=S'):rQ P rs R x S h=rQ P rs R x S' h:=by rw[e ()]
@[congr] theorem cg_calS {f:FuncId} {vs vs':List Value} (e:Unit→vs=vs') (e':Unit→S=S'):calS M E f vs S h k=calS M E f vs' S' h k:=by rw[e (),e' ()]
@[congr] theorem cg_calL {fo:Operand} {f:FuncId} {vs vs':List AV} (e:Unit→vs=vs') (e':Unit→S=S'):calL M fo f vs S h k=calL M fo f vs' S' h k:=by rw[e (),e' ()]
@[congr] theorem cg_calV {fo:Operand} {f:FuncId} {first cap first' cap':List Value} {xs xs':List AV} {o o':Option (List Value)} (e1:Unit→first=first') (e2:Unit→cap=cap') (e3:Unit→xs=xs') (e4:Unit→o=o') (e5:Unit→S=S'):calV M E fo f first cap xs o S h k=calV M E fo f first' cap' xs' o' S' h k:=by rw[e1 (),e2 (),e3 (),e4 (),e5 ()]
@[congr] theorem cg_calA {fo:Operand} {xs xs':List AV} {x x':AV} (e1:Unit→xs=xs') (e2:Unit→x=x') (e3:Unit→S=S'):calA M E fo xs x S h k=calA M E fo xs' x' S' h k:=by rw[e1 (),e2 (),e3 ()]
@[congr] theorem cg_appX {b:Nat} {x x' y y':AV} (e0:Unit→S=S') (e1:Unit→x=x') (e2:Unit→y=y'):appX S h b k x y=appX S' h b k x' y':=by rw[e0 (),e1 (),e2 ()]
@[congr] theorem cg_appP {b m m':Nat} {a a':Option Addr} {x x':AV} (e0:Unit→S=S') (e1:Unit→x=x') (e2:Unit→a=a') (e3:Unit→m=m'):appP S h b a m k x=appP S' h b a' m' k x':=by rw[e0 (),e1 (),e2 (),e3 ()]
@[congr] theorem cg_appB {b m m':Nat} {ns ns':List Value} {x x':AV} (e1:Unit→m=m') (e2:Unit→ns=ns') (e:Unit→x=x') (e3:Unit→S=S'):appB S h b m ns k x=appB S' h b m' ns' k x':=by rw[e (),e1 (),e2 (),e3 ()]
@[congr] theorem cg_copB {x x' y y':AV} (e1:Unit→x=x') (e2:Unit→y=y') (e3:Unit→S=S'):copB S h k x y=copB S' h k x' y':=by rw[e1 (),e2 (),e3 ()]
@[congr] theorem cg_bnA {P:Program} {op:BinOp} {T:TypeId} {x y x' y':AV} {f:Value→Prop} (e:Unit→x=x') (e':Unit→y=y'):bnA P op T x y f=bnA P op T x' y' f:=by rw[e (),e' ()]
@[congr] theorem cg_pubA {i:Nat} {f:AS→PH→Prop} (e3:Unit→S=S'):pubA S h i f=pubA S' h i f:=by rw[e3 ()]
theorem Spec.go {f:FuncId} {fn:Func} {c:Code} {args:List Value} {R:Value→PH→Prop} {rs:List ResultVar} (pl:Plans) (hf:M.P.funcs[f]?=some fn) (hb:fn.body=some c) (hr:fn.results=rs.toArray) (hc:(dS M.P f && Nat.ble args.length fn.ntmps && chkC fn.ntmps pl c)=true)
  (hk:∀C [NoPin C],runC M fn.ntmps C E pl c (rQ M.P rs R) ⟨argS 0 args,[]⟩ h):Spec M f args.toArray h R E:=by
 simp only[φ] at hc
 exact Spec.enter hf hb hc.1.1 rfl (Nat.le_of_ble_eq_true hc.1.2) rs hr fun C _=>qX c _ _ _ hc.2 (hk C)
theorem caN {f:FuncId} {vs:List Value} {R:Value→PH→Prop} (s:Spec M f vs.toArray h R NP) (hn:∀v h',Step h h'→R v h'→k S h' (.v v)):calS M E f vs S h k:=.inl ⟨R,NP,s,hn,fun _ _ _ x=>x.elim⟩
theorem caF {f:FuncId} {vs:List Value} {E':List PanicEntry→PH→Prop} (s:Spec M f vs.toArray h (fun _ _=>False) E') (hE:∀ch h',E' ch h'→E ch h'):calS M E f vs S h k:=.inl ⟨_,_,s,fun _ _ _ h=>h.elim,fun ch h' _ he=>hE ch h' he⟩
end
def lpE {ι:Type} (St:ι→AS) (Inv:ι→PH→Prop) (m:ι→Nat) (x:ι) (S:AS) (h:PH):Prop:=∃y,S.le (St y)∧Inv y h∧m y < m x
def lpS {ι:Type} (St:ι→AS) (Inv:ι→PH→Prop) (m:ι→Nat) (x:ι) (S:AS) (h:PH):Prop:=∃y ix,S.leS (St y) ix∧Inv y h∧m y < m x
section
variable {ι:Type} {St:ι→AS} {Inv:ι→PH→Prop} {m:ι→Nat} {x:ι} {M:Mach} {n:Nat} {C:Ctx} {E:List PanicEntry→PH→Prop} {Q:Exit→AS→PH→Prop} {S S':AS} {h:PH} {c:Code}
@[congr] theorem cg_lpE (e:Unit→S=S'):lpE St Inv m x S h=lpE St Inv m x S' h:=by rw[e ()]
@[congr] theorem cg_lpS (e:Unit→S=S'):lpS St Inv m x S h=lpS St Inv m x S' h:=by rw[e ()]
theorem rn (pl:Plans) (hc:chkC n pl c=true) (hr:runC M n C E pl c Q S h):AWP M n C c Q E S h:=qX c Q S h hc hr
theorem lp [NoPin C] (pl:Plans) (St:ι→AS) (Inv:ι→PH→Prop) (m:ι→Nat) (x0:ι) (hS:S.le (St x0)) (h0:Inv x0 h) (hc:chkC n pl c=true)
  (round:∀x h,Inv x h→runC M n C E pl c (qS (lpE St Inv m x) Q) (St x) h):AWP M n C (.loop c) Q E S h:=cg St Inv m x0 hS h0 fun x h hi=>qX c _ _ _ hc (round x h hi)
theorem lpSl [NoPin C] (pl:Plans) (St:ι→AS) (Inv:ι→PH→Prop) (m:ι→Nat) (x0:ι) (ix0:List Nat) (hS:S.leS (St x0) ix0) (h0:Inv x0 h) (hc:chkC n pl c=true)
  (round:∀x h,Inv x h→runC M n C E pl c (qS (lpS St Inv m x) Q) (St x) h):AWP M n C (.loop c) Q E S h:=eO St Inv m x0 ix0 hS h0 fun x h hi=>qX c _ _ _ hc (round x h hi)
end
open Go.Proofs
theorem B32:2≤4294967296:=by decide
set_option maxRecDepth 100000 in
theorem Of_spec {h0 h:PH} [Le h0 h] {a:Option Addr} {c:Nat} {xs:List Nat} (ha:Arr h0 a c xs):
  Spec mach 116 #[.slice a xs.length c] h (fun v _=>v=.slice a (W 4294967296 (val 4294967296 xs)).length c) NP:=by
 have hs:=ha.small
 have hc:=ha.cap
 refine Spec.enter (args:=[_]) (n:=21) Tryz.func116 rfl (by kernel_rfl) rfl (by simp) [.tmp 2] rfl (fun C _=>?_)
 repeat (first |(refine wo rfl (fun k hk=>?_);simp(disch:=omega) only[go_sem,ξ,ζ];apply hk;clear hk k) |refine wkt rfl ?_ |refine wk0 ?_ |refine rg rfl rfl (fun K hK=>?_) |((first |refine ae ?_ |refine ac ?_);simp(disch:=decide) only[qs,qb,if_true,if_false,reduceIte]) |refine ah rfl (fun K hK=>?_) |refine ct rfl ?_ |((try simp(disch:=omega) only[go_sem,ξ,ζ]);(first |apply hK |(clear hK;apply hK) |(clear hK;clear hK;apply hK));clear hK;(try clear K);(try dsimp only[ag,qs,qb])))
 refine cg (fun k:Nat=>⟨[(0,.v (.slice a k c))],[]⟩) (fun k h'=>Le h0 h'∧k≤xs.length∧val 4294967296 (xs.take k)=val 4294967296 xs) id xs.length ?_ ⟨inferInstance,η _,by simp⟩ ?_
 ·simp(disch:=omega) only[go_sem,ξ,ζ]
 ·rintro k h1 ⟨hle,hk,hv⟩
  by_cases hk0:k=0
  ·subst hk0
   repeat (first |(refine wo rfl (fun k hk=>?_);simp(disch:=omega) only[go_sem,ξ,ζ];apply hk;clear hk k) |refine wkt rfl ?_ |refine wk0 ?_ |refine rg rfl rfl (fun K hK=>?_) |((first |refine ae ?_ |refine ac ?_);simp(disch:=decide) only[qs,qb,if_true,if_false,reduceIte]) |refine ah rfl (fun K hK=>?_) |refine ct rfl ?_ |((try simp(disch:=omega) only[go_sem,ξ,ζ]);(first |apply hK |(clear hK;apply hK) |(clear hK;clear hK;apply hK));clear hK;(try clear K);(try dsimp only[ag,qs,qb])))
   refine ai ?_;simp(disch:=omega) only[go_sem,ξ,ζ]
   rw[uq (by decide) 0 xs (by omega) ha.lt hv (.inl rfl)]
   simp
  ·obtain⟨ad,rfl,hat⟩:=ha.get (i:=k - 1) (by omega)
   have hat1:=hle.sub.at hat
   by_cases hz:xs.getD (k - 1) 0=0
   ·repeat (first |(refine rg rfl rfl (fun K hK=>?_);(repeat (first |(refine wo rfl (fun k hk=>?_);simp(disch:=omega) only[go_sem,ξ,ζ,hat1];apply hk;clear hk k) |refine wkt rfl ?_));(try refine wk0 ?_);apply hK;clear hK K;(try dsimp only[ag,qs,qb])) |((first |refine ae ?_ |refine ac ?_);simp(disch:=decide) only[qs,qb,if_true,if_false,reduceIte]) |refine ah rfl (fun K hK=>?_) |refine ct rfl ?_ |((first |refine hK _ _ ?_ |(clear hK;refine hK _ _ ?_) |(clear hK;clear hK;refine hK _ _ ?_));clear hK;(try clear K)))
    exact⟨k - 1,⟨⟨rfl,trivial⟩,trivial,rfl⟩,⟨hle,by omega,by rw[nZ (by omega) hz,show k - 1+1=k by omega];exact hv⟩,by simp only[id_eq];omega⟩
   ·repeat (first |(refine wo rfl (fun k hk=>?_);simp(disch:=omega) only[go_sem,ξ,ζ,hat1];apply hk;clear hk k) |refine wkt rfl ?_ |refine wk0 ?_ |refine rg rfl rfl (fun K hK=>?_) |((first |refine ae ?_ |refine ac ?_);simp(disch:=decide) only[qs,qb,if_true,if_false,reduceIte]) |refine ah rfl (fun K hK=>?_) |refine ct rfl ?_ |((try simp(disch:=omega) only[go_sem,ξ,ζ]);(first |apply hK |(clear hK;apply hK) |(clear hK;clear hK;apply hK));clear hK;(try clear K);(try dsimp only[ag,qs,qb])))
    refine ai ?_;simp(disch:=omega) only[go_sem,ξ,ζ]
    rw[uq (by decide) k xs (by omega) ha.lt hv (.inr hz)]
    simp;omega
theorem Of_N {h0 h:PH} [Le h0 h] {a:Option Addr} {c:Nat} {xs:List Nat} (ha:Arr h0 a c xs):
  Spec mach 116 #[.slice a xs.length c] h (fun v h'=>N32 h' v (val 4294967296 xs)) NP:=
 (Of_spec ha).mono (fun v h' hs hv=>⟨a,c,hv,(ha.to (h':=h)).W.to (l:=⟨hs⟩)⟩) (fun _ _ _ h=>h)
theorem Arr.rd {h0:PH} {a:Option Addr} {c:Nat} {xs:List Nat} (r:Arr h0 a c xs) (h:PH) [l:Le h0 h] {i:Nat} (hi:i < xs.length):∃ad,a=some ad∧h.at (ad.add i)=some (.int .u32 (xs.getD i 0)):=
 (r.to (h':=h)).get hi
theorem Arr.rd0 {h0:PH} {a:Option Addr} {c:Nat} {xs:List Nat} (r:Arr h0 a c xs) (h:PH) [l:Le h0 h] (hi:0 < xs.length):∃ad,a=some ad∧h.at ad=some (.int .u32 (xs.getD 0 0)):=by
 obtain⟨ad,h1,h2⟩:=r.rd h hi
 exact⟨ad,h1,by simpa[Addr.add] using h2⟩
theorem bv {a b:Bool} (h:a=true↔b=true):Value.bool a=Value.bool b:=by rw[Bool.eq_iff_iff.2 h]
set_option maxRecDepth 100000
theorem aw {h:PH} {n:Nat} (hn:n < 2^64):Spec mach 118 #[.int .u64 n] h (fun v h'=>N32 h' v n) NP:=by
 refine Spec.go [(1,.t (.s [0,1,2,3,4,5] (.p 0 (.s [6,7] .d))))] Tryz.func118 rfl rfl (by kernel_rfl) fun C _=>?_
 try simp(maxSteps:=999999) (disch:=omega) only[go_sem,ξ,ζ]
 intro b h1 hs1 hb
 try simp(maxSteps:=999999) (disch:=omega) only[go_sem,ξ,ζ]
 have hA:Arr h1 (some ⟨b,0,none⟩) 2 [n % 4294967296,n / 4294967296]:=.of_row (fun _=>hb (by simp)) (by intro x hx;simp at hx;omega) (by simp) (by simp)
 refine caN (by exact Of_N hA) ?_;rintro v h2 hs2 hv
 try simp(maxSteps:=999999) (disch:=omega) only[go_sem,ξ,ζ]
 have:val 4294967296 [n % 4294967296,n / 4294967296]=n:=by simp only[val];omega
 rwa[this] at hv
theorem N32.out {h:PH} {v:Value} {n:Nat} (r:N32 h v n):∃a c xs,v=.slice a xs.length c∧Arr h a c xs∧W 4294967296 n=xs∧val 4294967296 xs=n:=let ⟨a,c,h1,h2⟩:=r
 ⟨a,c,_,h1,h2,rfl,val_W B32 n⟩
theorem nP {B:Nat} (hB:2≤B) {n:Nat}:(W B n).length=0↔n=0:=
 ⟨fun h=>by rw[←val_W hB n,List.eq_nil_of_length_eq_zero h];rfl,fun h=>by subst h;rw[ff];rfl⟩
theorem bU {h0 h:PH} [Le h0 h] {v:Value} {n:Nat} (hv:N32 h0 v n):Spec mach 117 #[v] h (fun v _=>v=.bool (decide (n=0))) NP:=by
 obtain⟨a,c,rfl,ha⟩:=hv
 have hs:=ha.small
 have hc:=ha.cap
 refine Spec.go [] Tryz.func117 rfl rfl (by kernel_rfl) fun C _=>?_
 try simp(maxSteps:=999999) (disch:=omega) only[go_sem,ξ,ζ]
 simp only[←nP B32 (n:=n)]
 refine bv ?_
 simp only[beq_iff_eq,decide_eq_true_eq];omega
theorem xr {B:Nat} (hB:2≤B) {n:Nat} (h:(W B n).length=1):n < B∧(W B n).getD 0 0=n:=by
 have h1:=cW hB n
 rw[h,Nat.pow_one] at h1
 refine⟨h1,?_⟩
 by_cases hn:n=0
 ·subst hn;rw[ff] at h;cases h
 ·rw[W_pos hB hn];simp[qBi h1]
theorem W_one {B:Nat} (hB:2≤B):W B 1=[1]:=by
 rw[W_pos hB (by omega),qBi (by omega),Nat.div_eq_of_lt (by omega),ff]
theorem wY {h0 h:PH} [Le h0 h] {v:Value} {n:Nat} (hv:N32 h0 v n):Spec mach 198 #[v] h (fun v _=>v=.bool (decide (n=1))) NP:=by
 obtain⟨a,c,rfl,ha⟩:=hv
 have hs:=ha.small
 have hc:=ha.cap
 refine Spec.enter (args:=[_]) (n:=12) Tryz.func198 rfl (by kernel_rfl) rfl (by simp) [.tmp 2] rfl (fun C _=>?_)
 by_cases h1:(W 4294967296 n).length=1
 ·obtain⟨ad,rfl,hat1⟩:=ha.rd0 h (by omega)
  repeat (first |(refine wo rfl (fun k hk=>?_);simp(disch:=omega) only[go_sem,ξ,ζ,hat1];apply hk;clear hk k) |refine wkt rfl ?_ |refine wk0 ?_ |refine rg rfl rfl (fun K hK=>?_) |((first |refine ae ?_ |refine ac ?_);simp(disch:=decide) only[qs,qb,if_true,if_false,reduceIte]) |refine ah rfl (fun K hK=>?_) |refine ct rfl ?_ |((try simp(disch:=omega) only[go_sem,ξ,ζ]);(first |apply hK |(clear hK;apply hK) |(clear hK;clear hK;apply hK));clear hK;(try clear K);(try dsimp only[ag,qs,qb])))
  refine ai ?_;simp(disch:=omega) only[go_sem,ξ,ζ]
  rw[(xr B32 h1).2]
  refine bv ?_
  simp only[beq_iff_eq,decide_eq_true_eq];omega
 ·repeat (first |(refine wo rfl (fun k hk=>?_);simp(disch:=omega) only[go_sem,ξ,ζ];apply hk;clear hk k) |refine wkt rfl ?_ |refine wk0 ?_ |refine rg rfl rfl (fun K hK=>?_) |((first |refine ae ?_ |refine ac ?_);simp(disch:=decide) only[qs,qb,if_true,if_false,reduceIte]) |refine ah rfl (fun K hK=>?_) |refine ct rfl ?_ |((try simp(disch:=omega) only[go_sem,ξ,ζ]);(first |apply hK |(clear hK;apply hK) |(clear hK;clear hK;apply hK));clear hK;(try clear K);(try dsimp only[ag,qs,qb])))
  refine ai ?_;simp(disch:=omega) only[go_sem,ξ,ζ]
  have:n≠1:=by rintro rfl;rw[W_one B32] at h1;exact h1 rfl
  simp[this]
def cmp3 (m n:Nat):Int:=if m < n then -1 else if n < m then 1 else 0
theorem lm {B:Nat} (hB:2≤B) {m n:Nat} (h:(W B m).length < (W B n).length):m < n:=by
 rcases qBj m n with h' |h'
 ·exact h'
 ·exfalso
  have h1:=cW hB m
  have:n < B^(W B m).length:=by omega
  have:=cV hB this
  omega
theorem uW {B:Nat} (xs:List Nat) {k:Nat} (hk:k < xs.length):val B xs=val B (xs.take k)+B^k*(xs.getD k 0+B*val B (xs.drop (k+1))):=by
 have h1:xs=xs.take k ++xs.drop k:=(List.take_append_drop k xs).symm
 have h2:xs.drop k=xs.getD k 0 :: xs.drop (k+1):=by rw[List.drop_eq_getElem_cons hk];simp[hk]
 calc val B xs=val B (xs.take k ++xs.drop k):=by rw[←h1]
  _=_:=by rw[dD,h2,val];simp[Nat.min_eq_left (Nat.le_of_lt hk)]
theorem rk {B:Nat} (hB:2≤B) {xs ys:List Nat} (hx:∀x∈xs,x < B) {k:Nat} (hl:xs.length=ys.length) (hk:k < xs.length) (hd:xs.drop (k+1)=ys.drop (k+1)) (h:xs.getD k 0 < ys.getD k 0):val B xs < val B ys:=by
 rw[uW xs hk,uW ys (k:=k) (by omega),hd]
 have h1:=iU (show 1≤B by omega) (xs.take k) (fun x hx'=>hx x (List.mem_of_mem_take hx'))
 have h2:(xs.take k).length=k:=by simp;omega
 rw[h2] at h1
 have h3:B^k*(xs.getD k 0+B*val B (ys.drop (k+1))+1)≤B^k*(ys.getD k 0+B*val B (ys.drop (k+1))):=ω _ (by omega)
 rw[qAm,qAz] at h3
 omega
theorem fO {h0 h:PH} [Le h0 h] {v w:Value} {m n:Nat} (hv:N32 h0 v m) (hw:N32 h0 w n):Spec mach 112 #[v,w] h (fun v _=>v=.int .i64 (cmp3 m n)) NP:=by
  obtain⟨a,c,xs,rfl,ha,hxs,hm⟩:=hv.out
  obtain⟨a',c',ys,rfl,ha',hys,hn⟩:=hw.out
  have hs:=ha.small
  have hc:=ha.cap
  have hs':=ha'.small
  have hc':=ha'.cap
  refine Spec.enter (args:=[_,_]) (n:=41) Tryz.func112 rfl (by kernel_rfl) rfl (by simp) [.tmp 4] rfl (fun C _=>?_)
  by_cases hl:xs.length=ys.length
  · repeat (first |(refine wo rfl (fun k hk=>?_);simp(disch:=omega) only[go_sem,ξ,ζ];apply hk;clear hk k) |refine wkt rfl ?_ |refine wk0 ?_ |refine rg rfl rfl (fun K hK=>?_) |refine rd [.o 0,.o 1,.o 2,.o 3,.o 4,.o 5,.o 6,.o 7,.o 8] rfl (by decide+kernel) rfl (fun K hK=>?_) |((first |refine ae ?_ |refine ac ?_);simp(disch:=decide) only[qs,qb,if_true,if_false,reduceIte]) |refine ah rfl (fun K hK=>?_) |refine ct rfl ?_ |((try simp(disch:=omega) only[go_sem,ξ,ζ]);(first |apply hK |(clear hK;apply hK) |(clear hK;clear hK;apply hK));clear hK;(try clear K);(try dsimp only[ag,qs,qb])))
    refine cg (fun k:Nat=>⟨[(0,.v (.slice a xs.length c)),(1,.v (.slice a' ys.length c')),(5,.v (.int .i64 ((k:Int) - 1)))],[]⟩) (fun k h'=>Le h0 h'∧k≤xs.length∧xs.drop k=ys.drop k) id xs.length ?_ ⟨inferInstance,η _,by simp[hl]⟩ ?_
    · simp(disch:=omega) only[go_sem,ξ,ζ]
    · rintro k h1 ⟨hle,hk,hd⟩
      by_cases hk0:k=0
      · subst hk0
        repeat (first |(refine wo rfl (fun k hk=>?_);simp(disch:=omega) only[go_sem,ξ,ζ];apply hk;clear hk k) |refine wkt rfl ?_ |refine wk0 ?_ |refine rg rfl rfl (fun K hK=>?_) |refine rd [.o 0,.o 1,.o 2,.o 3,.o 4,.o 5,.o 6,.o 7,.o 8] rfl (by decide+kernel) rfl (fun K hK=>?_) |((first |refine ae ?_ |refine ac ?_);simp(disch:=decide) only[qs,qb,if_true,if_false,reduceIte]) |refine ah rfl (fun K hK=>?_) |refine ct rfl ?_ |((try simp(disch:=omega) only[go_sem,ξ,ζ]);(first |apply hK |(clear hK;apply hK) |(clear hK;clear hK;apply hK));clear hK;(try clear K);(try dsimp only[ag,qs,qb])))
        refine ai ?_;simp(disch:=omega) only[go_sem,ξ,ζ]
        have:m=n:=by rw[←hm,←hn,show xs=ys by simpa using hd]
        simp[cmp3,this]
      · obtain⟨k,rfl⟩:∃j,k=j+1:=⟨k - 1,by omega⟩
        obtain⟨ad,rfl,hat⟩:=ha.rd h1 (i:=k) (by omega)
        obtain⟨ad',rfl,hat'⟩:=ha'.rd h1 (i:=k) (by omega)
        by_cases hx:xs.getD k 0 < ys.getD k 0
        · repeat (first |(refine wo rfl (fun k hk=>?_);simp(disch:=omega) only[go_sem,ξ,ζ,hat,hat'];apply hk;clear hk k) |refine wkt rfl ?_ |refine wk0 ?_ |refine rg rfl rfl (fun K hK=>?_) |refine rd [.o 0,.o 1,.o 2,.o 3,.o 4,.o 5,.o 6,.o 7,.o 8] rfl (by decide+kernel) rfl (fun K hK=>?_) |((first |refine ae ?_ |refine ac ?_);simp(disch:=decide) only[qs,qb,if_true,if_false,reduceIte]) |refine ah rfl (fun K hK=>?_) |refine ct rfl ?_ |((try simp(disch:=omega) only[go_sem,ξ,ζ]);(first |apply hK |(clear hK;apply hK) |(clear hK;clear hK;apply hK));clear hK;(try clear K);(try dsimp only[ag,qs,qb])))
          refine ai ?_;simp(disch:=omega) only[go_sem,ξ,ζ]
          have:m < n:=by rw[←hm,←hn];exact rk B32 ha.lt hl (by omega) hd hx
          simp[cmp3,this]
        · by_cases hy:ys.getD k 0 < xs.getD k 0
          · repeat (first |(refine wo rfl (fun k hk=>?_);simp(disch:=omega) only[go_sem,ξ,ζ,hat,hat'];apply hk;clear hk k) |refine wkt rfl ?_ |refine wk0 ?_ |refine rg rfl rfl (fun K hK=>?_) |refine rd [.o 0,.o 1,.o 2,.o 3,.o 4,.o 5,.o 6,.o 7,.o 8] rfl (by decide+kernel) rfl (fun K hK=>?_) |((first |refine ae ?_ |refine ac ?_);simp(disch:=decide) only[qs,qb,if_true,if_false,reduceIte]) |refine ah rfl (fun K hK=>?_) |refine ct rfl ?_ |((try simp(disch:=omega) only[go_sem,ξ,ζ]);(first |apply hK |(clear hK;apply hK) |(clear hK;clear hK;apply hK));clear hK;(try clear K);(try dsimp only[ag,qs,qb])))
            refine ai ?_;simp(disch:=omega) only[go_sem,ξ,ζ]
            have:n < m:=by rw[←hm,←hn];exact rk B32 ha'.lt hl.symm (by omega) hd.symm hy
            simp[cmp3,this,Nat.not_lt.2 (Nat.le_of_lt this)]
          · repeat (first |(refine wo rfl (fun k hk=>?_);simp(disch:=omega) only[go_sem,ξ,ζ,hat,hat'];apply hk;clear hk k) |refine wkt rfl ?_ |refine wk0 ?_ |refine rg rfl rfl (fun K hK=>?_) |refine rd [.o 0,.o 1,.o 2,.o 3,.o 4,.o 5,.o 6,.o 7,.o 8] rfl (by decide+kernel) rfl (fun K hK=>?_) |((first |refine ae ?_ |refine ac ?_);simp(disch:=decide) only[qs,qb,if_true,if_false,reduceIte]) |refine ah rfl (fun K hK=>?_) |refine ct rfl ?_ |((try simp(disch:=omega) only[go_sem,ξ,ζ]);(first |apply hK |(clear hK;apply hK) |(clear hK;clear hK;apply hK));clear hK;(try clear K);(try dsimp only[ag,qs,qb])))
            refine⟨k,?_,⟨hle,by omega,?_⟩,by simp⟩
            · simp(disch:=omega) only[go_sem,ξ,ζ]
            · rw[List.drop_eq_getElem_cons (by omega),List.drop_eq_getElem_cons (i:=k) (by omega:k < ys.length),hd]
              congr 1
              have h1:k < xs.length:=by omega
              have h2:k < ys.length:=by omega
              simp only[qAy,List.getElem?_eq_getElem h1,List.getElem?_eq_getElem h2,Option.getD_some] at hx hy
              omega
  · by_cases hl':xs.length < ys.length
    · repeat (first |(refine wo rfl (fun k hk=>?_);simp(disch:=omega) only[go_sem,ξ,ζ];apply hk;clear hk k) |refine wkt rfl ?_ |refine wk0 ?_ |refine rg rfl rfl (fun K hK=>?_) |refine rd [.o 0,.o 1,.o 2,.o 3,.o 4,.o 5,.o 6,.o 7,.o 8] rfl (by decide+kernel) rfl (fun K hK=>?_) |((first |refine ae ?_ |refine ac ?_);simp(disch:=decide) only[qs,qb,if_true,if_false,reduceIte]) |refine ah rfl (fun K hK=>?_) |refine ct rfl ?_ |((try simp(disch:=omega) only[go_sem,ξ,ζ]);(first |apply hK |(clear hK;apply hK) |(clear hK;clear hK;apply hK));clear hK;(try clear K);(try dsimp only[ag,qs,qb])))
      refine ai ?_;simp(disch:=omega) only[go_sem,ξ,ζ]
      have:m < n:=lm B32 (by rw[hxs,hys];exact hl')
      simp[cmp3,this]
    · repeat (first |(refine wo rfl (fun k hk=>?_);simp(disch:=omega) only[go_sem,ξ,ζ];apply hk;clear hk k) |refine wkt rfl ?_ |refine wk0 ?_ |refine rg rfl rfl (fun K hK=>?_) |refine rd [.o 0,.o 1,.o 2,.o 3,.o 4,.o 5,.o 6,.o 7,.o 8] rfl (by decide+kernel) rfl (fun K hK=>?_) |((first |refine ae ?_ |refine ac ?_);simp(disch:=decide) only[qs,qb,if_true,if_false,reduceIte]) |refine ah rfl (fun K hK=>?_) |refine ct rfl ?_ |((try simp(disch:=omega) only[go_sem,ξ,ζ]);(first |apply hK |(clear hK;apply hK) |(clear hK;clear hK;apply hK));clear hK;(try clear K);(try dsimp only[ag,qs,qb])))
      refine ai ?_;simp(disch:=omega) only[go_sem,ξ,ζ]
      have:n < m:=lm B32 (by rw[hxs,hys];omega)
      simp[cmp3,this,Nat.not_lt.2 (Nat.le_of_lt this)]
def bl (n:Nat):Nat:=if n=0 then 0 else n.log2+1
theorem bl_le {n k:Nat}:bl n≤k↔n < 2^k:=by
 unfold bl
 split
 ·rename_i h;subst h;simp[qAo]
 ·rename_i h;rw[←Nat.log2_lt h];omega
theorem rS {n k:Nat} (h:2^k≤n):bl n=bl (n / 2^k)+k:=by
 have hp:0 < 2^k:=qAo (by omega)
 apply Nat.le_antisymm
 ·rw[bl_le,qAs]
  have:=bl_le.1 (η (bl (n / 2^k)))
  rwa[Nat.div_lt_iff_lt_mul hp] at this
 ·have h1:=bl_le.1 (η (bl n))
  have h2:k < bl n:=by
   rcases qBj k (bl n) with h' |h'
   ·exact h'
   ·have:=bl_le.1 h';omega
  have:bl (n / 2^k)≤bl n - k:=by
   rw[bl_le,Nat.div_lt_iff_lt_mul hp,←qAs,show bl n - k+k=bl n by omega]
   exact h1
  omega
def blTab (s:ByteArray):Bool:=(List.range 256).all fun i=>match s[i]? with
 |some b=>b.toNat == bl i
 |none=>false
theorem iv {k:IntKind} {a b:Int} (h:a=b):Value.int k a=Value.int k b:=by rw[h]
theorem qF {s:ByteArray} (ht:blTab s=true) {j:Nat} (hj:j < 256) {k:UInt8→Prop} (hk:∀b:UInt8,b.toNat=bl j→k b):∃b,s[j]?=some b∧k b:=by
 have:=qBd.1 ht j (List.mem_range.2 hj)
 cases hs:s[j]? with
 |none=>rw[hs] at this;cases this
 |some b=>rw[hs] at this;exact⟨b,rfl,hk b (by simpa using this)⟩
theorem wQ {h:PH} {n:Nat} (hn:n < 4294967296):Spec mach 249 #[.int .u32 n] h (fun v _=>v=.int .i64 (bl n)) NP:=by
  refine Spec.enter (args:=[_]) (n:=19) Tryz.func249 rfl (by kernel_rfl) rfl (by simp) [.tmp 2] rfl (fun C _=>?_)
  by_cases h1:n < 65536
  · by_cases h2:n < 256
    · repeat (first |(refine wo rfl (fun k hk=>?_);simp(disch:=omega) only[go_sem,ξ,ζ];apply hk;clear hk k) |refine wkt rfl ?_ |refine wk0 ?_ |refine rg rfl rfl (fun K hK=>?_) |((first |refine ae ?_ |refine ac ?_);simp(disch:=decide) only[qs,qb,if_true,if_false,reduceIte]) |refine ah rfl (fun K hK=>?_) |refine ct rfl ?_ |((try simp(disch:=omega) only[go_sem,ξ,ζ]);(first |apply hK |(clear hK;apply hK) |(clear hK;clear hK;apply hK));clear hK;(try clear K);(try dsimp only[ag,qs,qb])))
      refine wo rfl (fun k hk=>?_);simp(disch:=omega) only[go_sem,ξ,ζ]
      refine qF (by kernel_rfl) h2 (fun b hb=>?_)
      rw[hb]
      have:=bl_le.2 (show n < 2^8 by omega)
      apply hk;clear hk k
      (repeat (first |(refine wo rfl (fun k hk=>?_);simp(disch:=omega) only[go_sem,ξ,ζ];apply hk;clear hk k) |refine wkt rfl ?_));(try refine wk0 ?_)
      (try (simp(disch:=omega) only[go_sem,ξ,ζ]));apply hK;clear hK;(try clear K);(try dsimp only[ag,qs])
      refine ai ?_;simp(disch:=omega) only[go_sem,ξ,ζ]
      try (refine iv ?_;omega)
    · repeat (first |(refine wo rfl (fun k hk=>?_);simp(disch:=omega) only[go_sem,ξ,ζ];apply hk;clear hk k) |refine wkt rfl ?_ |refine wk0 ?_ |refine rg rfl rfl (fun K hK=>?_) |((first |refine ae ?_ |refine ac ?_);simp(disch:=decide) only[qs,qb,if_true,if_false,reduceIte]) |refine ah rfl (fun K hK=>?_) |refine ct rfl ?_ |((try simp(disch:=omega) only[go_sem,ξ,ζ]);(first |apply hK |(clear hK;apply hK) |(clear hK;clear hK;apply hK));clear hK;(try clear K);(try dsimp only[ag,qs,qb])))
      refine wo rfl (fun k hk=>?_);simp(disch:=omega) only[go_sem,ξ,ζ]
      refine qF (by kernel_rfl) (show n / 256 < 256 by omega) (fun b hb=>?_)
      rw[hb]
      have:=bl_le.2 (show n / 256 < 2^8 by omega)
      apply hk;clear hk k
      (repeat (first |(refine wo rfl (fun k hk=>?_);simp(disch:=omega) only[go_sem,ξ,ζ];apply hk;clear hk k) |refine wkt rfl ?_));(try refine wk0 ?_)
      (try (simp(disch:=omega) only[go_sem,ξ,ζ]));apply hK;clear hK;(try clear K);(try dsimp only[ag,qs])
      refine ai ?_;simp(disch:=omega) only[go_sem,ξ,ζ]
      have:=rS (show 2^8≤n by omega)
      simp only[Nat.reducePow] at this
      try (refine iv ?_;omega)
  · by_cases h2:n / 65536 < 256
    · repeat (first |(refine wo rfl (fun k hk=>?_);simp(disch:=omega) only[go_sem,ξ,ζ];apply hk;clear hk k) |refine wkt rfl ?_ |refine wk0 ?_ |refine rg rfl rfl (fun K hK=>?_) |((first |refine ae ?_ |refine ac ?_);simp(disch:=decide) only[qs,qb,if_true,if_false,reduceIte]) |refine ah rfl (fun K hK=>?_) |refine ct rfl ?_ |((try simp(disch:=omega) only[go_sem,ξ,ζ]);(first |apply hK |(clear hK;apply hK) |(clear hK;clear hK;apply hK));clear hK;(try clear K);(try dsimp only[ag,qs,qb])))
      refine wo rfl (fun k hk=>?_);simp(disch:=omega) only[go_sem,ξ,ζ]
      refine qF (by kernel_rfl) h2 (fun b hb=>?_)
      rw[hb]
      have:=bl_le.2 (show n / 65536 < 2^8 by omega)
      apply hk;clear hk k
      (repeat (first |(refine wo rfl (fun k hk=>?_);simp(disch:=omega) only[go_sem,ξ,ζ];apply hk;clear hk k) |refine wkt rfl ?_));(try refine wk0 ?_)
      (try (simp(disch:=omega) only[go_sem,ξ,ζ]));apply hK;clear hK;(try clear K);(try dsimp only[ag,qs])
      refine ai ?_;simp(disch:=omega) only[go_sem,ξ,ζ]
      have:=rS (show 2^16≤n by omega)
      simp only[Nat.reducePow] at this
      try (refine iv ?_;omega)
    · repeat (first |(refine wo rfl (fun k hk=>?_);simp(disch:=omega) only[go_sem,ξ,ζ];apply hk;clear hk k) |refine wkt rfl ?_ |refine wk0 ?_ |refine rg rfl rfl (fun K hK=>?_) |((first |refine ae ?_ |refine ac ?_);simp(disch:=decide) only[qs,qb,if_true,if_false,reduceIte]) |refine ah rfl (fun K hK=>?_) |refine ct rfl ?_ |((try simp(disch:=omega) only[go_sem,ξ,ζ]);(first |apply hK |(clear hK;apply hK) |(clear hK;clear hK;apply hK));clear hK;(try clear K);(try dsimp only[ag,qs,qb])))
      refine wo rfl (fun k hk=>?_);simp(disch:=omega) only[go_sem,ξ,ζ]
      refine qF (by kernel_rfl) (show n / 65536 / 256 < 256 by omega) (fun b hb=>?_)
      rw[hb]
      have:=bl_le.2 (show n / 65536 / 256 < 2^8 by omega)
      apply hk;clear hk k
      (repeat (first |(refine wo rfl (fun k hk=>?_);simp(disch:=omega) only[go_sem,ξ,ζ];apply hk;clear hk k) |refine wkt rfl ?_));(try refine wk0 ?_)
      (try (simp(disch:=omega) only[go_sem,ξ,ζ]));apply hK;clear hK;(try clear K);(try dsimp only[ag,qs])
      refine ai ?_;simp(disch:=omega) only[go_sem,ξ,ζ]
      have h3:=rS (show 2^16≤n by omega)
      have h4:=rS (show 2^8≤n / 2^16 by omega)
      simp only[Nat.reducePow] at h3 h4
      try (refine iv ?_;omega)
theorem rO {B:Nat} (hB:2≤B) (n i:Nat):(W B n).getD i 0=n / B^i % B:=by
 induction i generalizing n with
 | zero=>
  by_cases hn:n=0
  ·subst hn;rw[ff];simp
  ·rw[W_pos hB hn];simp
 | succ i ih=>
  by_cases hn:n=0
  ·subst hn;rw[ff];simp
  ·rw[W_pos hB hn,List.getD_cons_succ,ih,Nat.div_div_eq_div_mul,qAn,ρ B]
theorem jQ {B:Nat} (hB:2≤B) {n:Nat} (hn:n≠0):0 < (W B n).length:=by
 have:=nP hB (n:=n);omega
theorem W_top {B:Nat} (hB:2≤B) {n:Nat} (hn:n≠0):(W B n).getD ((W B n).length - 1) 0=n / B^((W B n).length - 1)∧B^((W B n).length - 1)≤n∧n / B^((W B n).length - 1) < B:=by
 have hp:=jQ hB hn
 have h1:B^((W B n).length - 1)≤n:=by
  rcases qBj n (B^((W B n).length - 1)) with h |h
  ·have:=cV hB h;omega
  ·exact h
 have h2:n / B^((W B n).length - 1) < B:=by
  rw[Nat.div_lt_iff_lt_mul (qAo (by omega)),ρ,←qAn,Nat.succ_eq_add_one,show(W B n).length - 1+1=(W B n).length by omega]
  exact cW hB n
 exact⟨by rw[rO hB,qBi h2],h1,h2⟩
theorem B_pow (k:Nat):2^(32*k)=4294967296^k:=by
 rw[Nat.pow_mul,show(2:Nat)^32=4294967296 from by decide]
theorem mG {h0 h:PH} [Le h0 h] {v:Value} {n:Nat} (hv:N32 h0 v n):Spec mach 196 #[v] h (fun v _=>v=.int .i64 (bl n)) NP:=by
 obtain⟨a,c,rfl,ha⟩:=hv
 have hs:=ha.small
 have hc:=ha.cap
 refine Spec.enter (args:=[_]) (n:=18) Tryz.func196 rfl (by kernel_rfl) rfl (by simp) [.tmp 2] rfl (fun C _=>?_)
 have hl:=nP B32 (n:=n)
 by_cases hn:n=0
 ·repeat (first |(refine wo rfl (fun k hk=>?_);simp(disch:=omega) only[go_sem,ξ,ζ];apply hk;clear hk k) |refine wkt rfl ?_ |refine wk0 ?_ |refine rg rfl rfl (fun K hK=>?_) |((first |refine ae ?_ |refine ac ?_);simp(disch:=decide) only[qs,qb,if_true,if_false,reduceIte]) |refine ah rfl (fun K hK=>?_) |refine ct rfl ?_ |((try simp(disch:=omega) only[go_sem,ξ,ζ]);(first |apply hK |(clear hK;apply hK) |(clear hK;clear hK;apply hK));clear hK;(try clear K);(try dsimp only[ag,qs,qb])))
  refine ai ?_;simp(disch:=omega) only[go_sem,ξ,ζ]
  subst hn;rfl
 ·have hp:=jQ B32 hn
  obtain⟨h1,h2,h3⟩:=W_top B32 hn
  obtain⟨ad,rfl,hat⟩:=ha.rd h (i:=(W 4294967296 n).length - 1) (by omega)
  rw[h1] at hat
  repeat (first |(refine rg rfl rfl (fun K hK=>?_);(repeat (first |(refine wo rfl (fun k hk=>?_);simp(disch:=omega) only[go_sem,ξ,ζ];apply hk;clear hk k) |refine wkt rfl ?_));(try refine wk0 ?_);apply hK;clear hK K;(try dsimp only[ag,qs,qb])) |((first |refine ae ?_ |refine ac ?_);simp(disch:=decide) only[qs,qb,if_true,if_false,reduceIte]) |refine ah rfl (fun K hK=>?_) |refine ct rfl ?_ |((first |refine hK _ _ ?_ |(clear hK;refine hK _ _ ?_) |(clear hK;clear hK;refine hK _ _ ?_));clear hK;(try clear K)))
  refine rg rfl rfl (fun K hK=>?_);(repeat (first |(refine wo rfl (fun k hk=>?_);simp(disch:=omega) only[go_sem,ξ,ζ,hat];apply hk;clear hk k) |refine wkt rfl ?_));(try refine wk0 ?_)
  refine cN rfl rfl rfl rfl (by exact wQ h3) ?_;rintro v h4 s4 rfl;(repeat (first |(refine wo rfl (fun k hk=>?_);simp(disch:=omega) only[go_sem,ξ,ζ];apply hk;clear hk k) |refine wkt rfl ?_));(try refine wk0 ?_)
  have h5:=(bl_le (k:=32)).2 h3
  (repeat (first |(refine wo rfl (fun k hk=>?_);simp(disch:=omega) only[go_sem,ξ,ζ];apply hk;clear hk k) |refine wkt rfl ?_));(try refine wk0 ?_)
  (try (simp(disch:=omega) only[go_sem,ξ,ζ]));apply hK;clear hK;(try clear K);(try dsimp only[ag,qs])
  refine ai ?_;simp(disch:=omega) only[go_sem,ξ,ζ]
  refine iv ?_
  have h6:=rS (n:=n) (k:=32*((W 4294967296 n).length - 1)) (by rw[B_pow];exact h2)
  rw[h6,B_pow]
  omega
theorem rm {h:PH} {n:Nat} (hn:n < 4294967296):Spec mach 251 #[.int .u32 n] h (fun v _=>v=.int .i64 (32 - bl n:Nat)) NP:=by
 refine Spec.go [] Tryz.func251 rfl rfl (by kernel_rfl) fun C _=>?_
 try simp(maxSteps:=999999) (disch:=omega) only[go_sem,ξ,ζ]
 have h5:=(bl_le (k:=32)).2 hn
 try simp(maxSteps:=999999) (disch:=omega) only[go_sem,ξ,ζ]
 refine caN (by exact wQ hn) ?_;rintro v h4 s4 rfl
 try simp(maxSteps:=999999) (disch:=omega) only[go_sem,ξ,ζ]
 try (try (refine iv ?_;omega))
def tw (n:Nat):Nat:=if h:n=0∨n % 2=1 then 0 else tw (n / 2)+1
termination_by n
decreasing_by omega
theorem pz (n:Nat) (h:n≠0):∃m,n=2^tw n*(2*m+1):=by
 induction n using Nat.strongRecOn with
 | _ n ih=>
  by_cases h1:n % 2=1
  ·refine⟨n / 2,?_⟩
   rw[tw,dif_pos (.inr h1)];simp;omega
  ·obtain⟨m,hm⟩:=ih (n / 2) (by omega) (by omega)
   refine⟨m,?_⟩
   rw[tw,dif_neg (by omega),qAn,Nat.mul_right_comm,←hm];omega
theorem tw_of (t m:Nat):tw (2^t*(2*m+1))=t:=by
 induction t with
 |zero=>rw[tw,dif_pos (.inr (by omega))]
 | succ t ih=>
  have hp:0 < 2^t*(2*m+1):=Nat.mul_pos (qAo (by omega)) (by omega)
  have h1:2^(t+1)*(2*m+1)=2*(2^t*(2*m+1)):=by rw[qAn,ρ (2^t) 2,σ]
  rw[h1,tw,dif_neg (by omega),show 2*(2^t*(2*m+1)) / 2=2^t*(2*m+1) by omega,ih]
theorem and_tw {n:Nat} (h:n≠0) (hn:n < 2^32):n &&& (2^32 - n)=2^tw n:=by
 obtain⟨m,hm⟩:=pz n h
 generalize tw n=t at hm
 have hp:0 < 2^t:=qAo (by omega)
 apply Nat.eq_of_testBit_eq
 intro i
 have e1:2^32 - n=2^32 - ((n - 1)+1):=by omega
 have h1:n=2^t*(2*m+1)+0:=hm
 have h2:n - 1=2^t*(2*m)+(2^t - 1):=by rw[hm,qAm,qAz];omega
 have ht:t < 32:=by
  rcases qBj t 32 with h |h
  ·exact h
  ·have:=qAv (show 0 < 2 by omega) h
   have:2^t*1≤2^t*(2*m+1):=ω _ (by omega)
   omega
 rw[Nat.testBit_and,e1,Nat.testBit_two_pow_sub_succ (by omega),Nat.testBit_two_pow,h2]
 conv=>lhs;rw[h1]
 rw[Nat.testBit_two_pow_mul_add _ hp,Nat.testBit_two_pow_mul_add _ (by omega)]
 by_cases hi:i < t
 ·simp[hi];omega
 ·rw[if_neg hi,if_neg hi]
  by_cases hit:i=t
  ·subst hit;simp[ht]
  ·obtain⟨k,hk⟩:∃k,i - t=k+1:=⟨i - t - 1,by omega⟩
   rw[hk,Nat.testBit_succ,Nat.testBit_succ,show(2*m+1) / 2=m by omega,show 2*m / 2=m by omega]
   have:¬t=i:=fun e=>hit e.symm
   simp[this]
   intro a b;simp[a]
theorem tw_tab:∀t:Nat,t < 32→2^t*125613361 % 4294967296 / 134217728 < 32∧debruijn[2^t*125613361 % 4294967296 / 134217728]?=some (t:Int):=by decide+kernel
def hide (a b:Nat):Nat:=a*b
theorem tw_tab' {t:Nat} (ht:t < 32):hide (2^t) 125613361 % 4294967296 / 134217728 < 32∧tabCells[hide (2^t) 125613361 % 4294967296 / 134217728]?=some (.int .u8 t):=by
 unfold hide
 refine⟨(tw_tab t ht).1,?_⟩
 simp[tabCells,(tw_tab t ht).2]
theorem hide_eq (a:Nat):((a:Nat):Int)*125613361=((hide a 125613361:Nat):Int):=by unfold hide;omega
theorem mach_gl:mach.gl=fun b=>if b=0 then some tabCells else none:=rfl
theorem tab_at {i:Nat} {v:Value} (h:tabCells[i]?=some v):mach.gl.at ⟨0,i,none⟩=some v:=by
 unfold PH.at
 rw[mach_gl]
 simp[h]
theorem tw_lt {n:Nat} (h0:n≠0) (hn:n < 4294967296):tw n < 32:=by
 obtain⟨m,hm⟩:=pz n h0
 rcases qBj (tw n) 32 with h |h
 ·exact h
 ·have:=qAv (show 0 < 2 by omega) h
  have:2^tw n*1≤2^tw n*(2*m+1):=ω _ (by omega)
  omega
theorem neg_u32 {n:Nat} (h0:n≠0) (hn:n < 4294967296):IntKind.u32.wrap (0 - (n:Int))=((4294967296 - n:Nat):Int):=by rw[IntKind.wrap_u32];omega
theorem and_tw' {n:Nat} (h0:n≠0) (hn:n < 4294967296):n &&& (4294967296 - n)=2^tw n:=and_tw h0 hn
theorem pQ {h:PH} {n:Nat} (h0:n≠0) (hn:n < 4294967296):Spec mach 248 #[.int .u32 n] h (fun v _=>v=.int .i64 (tw n)) NP:=by
 obtain⟨d,hd1,hd2,hd3⟩:∃d:Nat,((2^tw n:Nat):Int)*125613361=(d:Int)∧d % 4294967296 / 134217728 < 32∧tabCells[d % 4294967296 / 134217728]?=some (.int .u8 (tw n)):=⟨_,hide_eq _,tw_tab' (tw_lt h0 hn)⟩
 refine Spec.enter (args:=[_]) (n:=14) Tryz.func248 rfl (by kernel_rfl) rfl (by simp) [.tmp 2] rfl (fun C _=>?_)
 repeat (first |(refine rg rfl rfl (fun K hK=>?_);(repeat (first |(refine wo rfl (fun k hk=>?_);simp(disch:=omega) only[go_sem,ξ,ζ];apply hk;clear hk k) |refine wkt rfl ?_));(try refine wk0 ?_);apply hK;clear hK K;(try dsimp only[ag,qs,qb])) |((first |refine ae ?_ |refine ac ?_);simp(disch:=decide) only[qs,qb,if_true,if_false,reduceIte]) |refine ah rfl (fun K hK=>?_) |refine ct rfl ?_ |((first |refine hK _ _ ?_ |(clear hK;refine hK _ _ ?_) |(clear hK;clear hK;refine hK _ _ ?_));clear hK;(try clear K)))
 refine AWP_gl fun hgl=>?_
 have e6:=hgl.at (tab_at hd3)
 have ht:=tw_lt h0 hn
 refine rg rfl rfl (fun K hK=>?_);(repeat (first |(refine wo rfl (fun k hk=>?_);simp(disch:=omega) only[go_sem,ξ,ζ,neg_u32,and_tw',hd1,e6];apply hk;clear hk k) |refine wkt rfl ?_));(try refine wk0 ?_)
 (try (simp(disch:=omega) only[go_sem,ξ,ζ]));apply hK;clear hK;(try clear K);(try dsimp only[ag,qs])
 refine ai ?_;simp(disch:=omega) only[go_sem,ξ,ζ]
theorem rC {B:Nat} {xs:List Nat}:∀{k:Nat},(∀i,i < k→xs.getD i 0=0)→val B (xs.take k)=0:=by
 intro k
 induction k with
 |zero=>intro _;simp[val]
 |succ k ih=>intro hz;rw[aq,ih (fun i hi=>hz i (by omega)),hz k (by omega)];simp
theorem tw_digit {xs:List Nat} {k x:Nat} (hk:k < xs.length) (hz:∀i,i < k→xs.getD i 0=0) (hx:xs.getD k 0=x) (h0:x≠0) (hlt:x < 4294967296):tw (val 4294967296 xs)=32*k+tw x:=by
 obtain⟨m,hm⟩:=pz x h0
 have ht:=tw_lt h0 hlt
 rw[uW xs hk,rC hz,hx,←B_pow,Nat.zero_add]
 have h32:4294967296=2^tw x*(2*2^(31 - tw x)):=by
  rw[show 4294967296=2^32 from rfl]
  rw[←σ,ρ _ 2,←Nat.pow_add_one',←qAs];congr 1;omega
 generalize val 4294967296 (xs.drop (k+1))=r
 have:x+4294967296*r=2^tw x*(2*(m+2^(31 - tw x)*r)+1):=by
  conv=>lhs;rw[hm,h32]
  rw[σ,←qAm]
  congr 1
  rw[qAm,σ];omega
 rw[this,←σ,←qAs,tw_of]
theorem qC {h0 h:PH} [Le h0 h] {v:Value} {n:Nat} (hv:N32 h0 v n):Spec mach 194 #[v] h (fun v _=>v=.int .i64 (tw n)) NP:=by
 obtain⟨a,c,xs,rfl,ha,hxs,hm⟩:=hv.out
 have hs:=ha.small
 have hc:=ha.cap
 refine Spec.enter (args:=[_]) (n:=20) Tryz.func194 rfl (by kernel_rfl) rfl (by simp) [.tmp 2] rfl (fun C _=>?_)
 repeat (first |(refine wo rfl (fun k hk=>?_);simp(disch:=omega) only[go_sem,ξ,ζ];apply hk;clear hk k) |refine wkt rfl ?_ |refine wk0 ?_ |refine rg rfl rfl (fun K hK=>?_) |((first |refine ae ?_ |refine ac ?_);simp(disch:=decide) only[qs,qb,if_true,if_false,reduceIte]) |refine ah rfl (fun K hK=>?_) |refine ct rfl ?_ |((try simp(disch:=omega) only[go_sem,ξ,ζ]);(first |apply hK |(clear hK;apply hK) |(clear hK;clear hK;apply hK));clear hK;(try clear K);(try dsimp only[ag,qs,qb])))
 refine cg (fun k:Nat=>⟨[(2,.v (.int .i64 0)),(5,.v (.slice a xs.length c)),(6,.v (.int .i64 xs.length)),(7,.v (.int .i64 k))],[]⟩) (fun k h'=>Le h0 h'∧k≤xs.length∧∀i,i < k→xs.getD i 0=0) (fun k=>xs.length - k) 0 ?_ ⟨inferInstance,by omega,by omega⟩ ?_
 ·simp(disch:=omega) only[go_sem,ξ,ζ]
 ·rintro k h1 ⟨hle,hk,hz⟩
  by_cases hkl:k < xs.length
  ·obtain⟨ad,rfl,hat⟩:=ha.rd h1 (i:=k) (by omega)
   have hlt:=aM (by decide) ha.lt k
   by_cases hx:xs.getD k 0=0
   ·repeat (first |(refine wo rfl (fun k hk=>?_);simp(disch:=omega) only[go_sem,ξ,ζ,hat];apply hk;clear hk k) |refine wkt rfl ?_ |refine wk0 ?_ |refine rg rfl rfl (fun K hK=>?_) |((first |refine ae ?_ |refine ac ?_);simp(disch:=decide) only[qs,qb,if_true,if_false,reduceIte]) |refine ah rfl (fun K hK=>?_) |refine ct rfl ?_ |((try simp(disch:=omega) only[go_sem,ξ,ζ]);(first |apply hK |(clear hK;apply hK) |(clear hK;clear hK;apply hK));clear hK;(try clear K);(try dsimp only[ag,qs,qb])))
    refine⟨k+1,?_,⟨hle,by omega,fun i hi=>?_⟩,by omega⟩
    ·simp(disch:=omega) only[go_sem,ξ,ζ]
    ·rcases qBj i k with h |h
     ·exact hz i h
     ·rw[show i=k by omega];exact hx
   ·have ht:=tw_lt hx hlt
    repeat (first |(refine wo rfl (fun k hk=>?_);simp(disch:=omega) only[go_sem,ξ,ζ,hat];apply hk;clear hk k) |refine wkt rfl ?_ |refine wk0 ?_ |refine rg rfl rfl (fun K hK=>?_) |((first |refine ae ?_ |refine ac ?_);simp(disch:=decide) only[qs,qb,if_true,if_false,reduceIte]) |refine ah rfl (fun K hK=>?_) |refine ct rfl ?_ |((try simp(disch:=omega) only[go_sem,ξ,ζ]);(first |apply hK |(clear hK;apply hK) |(clear hK;clear hK;apply hK));clear hK;(try clear K);(try dsimp only[ag,qs,qb])))
    refine cN rfl rfl rfl rfl (by exact pQ hx hlt) ?_;rintro v h4 s4 rfl;(repeat (first |(refine wo rfl (fun k hk=>?_);simp(disch:=omega) only[go_sem,ξ,ζ];apply hk;clear hk k) |refine wkt rfl ?_));(try refine wk0 ?_)
    (repeat (first |(refine wo rfl (fun k hk=>?_);simp(disch:=omega) only[go_sem,ξ,ζ];apply hk;clear hk k) |refine wkt rfl ?_));(try refine wk0 ?_)
    (try (simp(disch:=omega) only[go_sem,ξ,ζ]));apply hK;clear hK;(try clear K);(try dsimp only[ag,qs])
    refine ai ?_;simp(disch:=omega) only[go_sem,ξ,ζ]
    refine iv ?_
    rw[←hm,tw_digit hkl hz rfl hx hlt]
  ·repeat (first |(refine wo rfl (fun k hk=>?_);simp(disch:=omega) only[go_sem,ξ,ζ];apply hk;clear hk k) |refine wkt rfl ?_ |refine wk0 ?_ |refine rg rfl rfl (fun K hK=>?_) |((first |refine ae ?_ |refine ac ?_);simp(disch:=decide) only[qs,qb,if_true,if_false,reduceIte]) |refine ah rfl (fun K hK=>?_) |refine ct rfl ?_ |((try simp(disch:=omega) only[go_sem,ξ,ζ]);(first |apply hK |(clear hK;apply hK) |(clear hK;clear hK;apply hK));clear hK;(try clear K);(try dsimp only[ag,qs,qb])))
   refine ai ?_;simp(disch:=omega) only[go_sem,ξ,ζ]
   have:n=0:=by rw[←hm,←qAr (i:=k) (l:=xs) (by omega)];exact rC hz
   subst this
   rw[tw,dif_pos (.inl rfl)];rfl
@[go_sem] theorem spl_uw (rs:List Nat) (k d:Nat):spl (uw rs) k [.int .u32 (d:Nat)]=uw (rs.set k d):=by simp[spl,F9]
@[go_sem] theorem ldb_uw {rs:List Nat} {k:Nat} (hk:k < rs.length):ldb none (uw rs) k=some (.int .u32 (rs.getD k 0:Nat)):=by simp only[ldb,yL hk]
@[go_sem] theorem uV (rs:List Nat):(uw rs).all Value.oneCell'=true:=uw_one rs
@[go_sem] theorem uw_ne (rs:List Nat):uw rs≠[]↔rs≠[]:=by simp[uw]
attribute [go_sem] uw_zeros F9 List.length_set List.length_replicate
theorem bO {B:Nat} {rs:List Nat} {k d:Nat} (hk:k < rs.length):val B ((rs.set k d).take (k+1))=val B (rs.take k)+B^k*d:=by
 rw[aq]
 congr 2
 ·rw[List.take_set_of_le (η k)]
 ·simp[hk]
theorem d9 {B:Nat} {rs:List Nat} {k d:Nat} (h:∀x∈rs,x < B) (hd:d < B):∀x∈rs.set k d,x < B:=fun x hx=>by
 rcases List.mem_or_eq_of_mem_set hx with h1 |rfl
 ·exact h x h1
 ·exact hd
theorem gG {B k:Nat} (hB:0 < B):∀x∈List.replicate k 0,x < B:=fun x hx=>by rw[(List.mem_replicate.1 hx).2];exact hB
theorem dm (P B s:Nat):P*(s % B)+P*B*(s / B)=P*s:=by
 rw[σ,←qAm,Nat.mod_add_div]
@[go_sem] theorem bltT {a b:Nat} (h:a < b):Nat.blt a b=true:=by rw[Nat.blt_eq];exact h
attribute [go_sem] or_true
theorem pS {P B V c X Y x y s:Nat} (hs:s=x+c+y) (hi:V+P*c=X+Y):V+P*(s % B)+P*B*(s / B)=X+P*x+(Y+P*y):=by
 have h1:=dm P B s
 have e:P*s=P*x+P*c+P*y:=by rw[hs,qAm,qAm]
 omega
theorem dj (n:Nat):(W 4294967296 n).length≤bl n:=
 cV (by decide) (Nat.lt_of_lt_of_le (bl_le.1 (η _)) (Nat.pow_le_pow_left (by decide) _))
theorem Of_L {h0 h:PH} [Le h0 h] {a:Option Addr} {c L:Nat} {xs:List Nat} (ha:Arr h0 a c xs) (hl:xs.length=L):
  Spec mach 116 #[.slice a L c] h (fun v h'=>N32 h' v (val 4294967296 xs)) NP:=by subst hl;exact Of_N ha
theorem bR {h0 h:PH} [Le h0 h] {v w:Value} {m n:Nat} (hv:N32 h0 v m) (hw:N32 h0 w n) (bm:bl m≤2^40) (bn:bl n≤2^40):Spec mach 254 #[v,w] h (fun v h'=>N32 h' v (m+n)) NP:=by
 obtain⟨a,c,xs,rfl,ha,hxs,hm⟩:=hv.out
 obtain⟨a',c',ys,rfl,ha',hys,hn⟩:=hw.out
 have hs:xs.length≤2^40:=by have:=dj m;rw[hxs] at this;omega
 have hs':ys.length≤2^40:=by have:=dj n;rw[hys] at this;omega
 refine Spec.enter (args:=[_,_]) (n:=59) Tryz.func254 rfl (by kernel_rfl) rfl (by simp) [.tmp 4] rfl (fun C _=>?_)
 repeat (first |(refine rg rfl rfl (fun K hK=>?_);(repeat (first |(refine wo rfl (fun k hk=>?_);simp(disch:=omega) only[go_sem,ξ,ζ];apply hk;clear hk k) |refine wkt rfl ?_));(try refine wk0 ?_);apply hK;clear hK K;(try dsimp only[ag,qs,qb])) |((first |refine ae ?_ |refine ac ?_);simp(disch:=decide) only[qs,qb,if_true,if_false,reduceIte]) |refine ah rfl (fun K hK=>?_) |refine ct rfl ?_ |((first |refine hK _ _ ?_ |(clear hK;refine hK _ _ ?_) |(clear hK;clear hK;refine hK _ _ ?_));clear hK;(try clear K)))
 have rest :∀(a a':Option Addr) (c c':Nat) (xs ys:List Nat) (S:AS),Arr h0 a c xs→Arr h0 a' c' ys→ys.length≤xs.length→xs.length≤2^40→val 4294967296 xs+val 4294967296 ys=m+n→
   S.le ⟨[(0,.v (.slice a xs.length c)),(1,.v (.slice a' ys.length c'))],[]⟩→K S h:=by
  intro a a' c c' xs ys S ha ha' hl hs hv hS
  refine hK _ _ (fq _ hS ?_);clear hK K
  repeat (first |(refine wo rfl (fun k hk=>?_);simp(disch:=omega) only[go_sem,ξ,ζ];apply hk;clear hk k) |refine wkt rfl ?_ |refine wk0 ?_ |refine rg rfl rfl (fun K hK=>?_) |((first |refine ae ?_ |refine ac ?_);simp(disch:=decide) only[qs,qb,if_true,if_false,reduceIte]) |refine ah rfl (fun K hK=>?_) |refine ct rfl ?_ |((try simp(disch:=omega) only[go_sem,ξ,ζ]);(first |apply hK |(clear hK;apply hK) |(clear hK;clear hK;apply hK));clear hK;(try clear K);(try dsimp only[ag,qs,qb])))
  refine cg (fun x:Nat×List Nat×Nat=>⟨[(0,.v (.slice a xs.length c)),(1,.v (.slice a' ys.length c')),(5,.s 0 0 (xs.length+1) (xs.length+1)),(6,.v (.int .u64 x.2.2)),(21,.v (.slice a xs.length c)),(22,.v (.int .i64 xs.length)),(23,.v (.int .i64 x.1))],[uw x.2.1]⟩)
   (fun x h'=>Le h0 h'∧x.1≤xs.length∧x.2.1.length=xs.length+1∧(∀d∈x.2.1,d < 4294967296)∧x.2.2≤1∧val 4294967296 (x.2.1.take x.1)+4294967296^x.1*x.2.2=val 4294967296 (xs.take x.1)+val 4294967296 (ys.take x.1)) (fun x=>xs.length - x.1) (0,List.replicate (xs.length+1) 0,0) ?_ ⟨inferInstance,by simp,by simp,gG (by decide),by simp,by simp[val]⟩ ?_
  ·simp(disch:=omega) only[go_sem,ξ,ζ]
  ·rintro⟨k,rs,cy⟩ h1 ⟨hle,hk,hr,hlt,hcy,hi⟩
   dsimp only at hk hr hlt hcy hi ⊢
   by_cases hkl:k < xs.length
   ·obtain⟨ad,rfl,hat⟩:=ha.rd h1 (i:=k) (by omega)
    have hx:=aM (by decide) ha.lt k
    by_cases hky:k < ys.length
    ·obtain⟨ad',rfl,hat'⟩:=ha'.rd h1 (i:=k) (by omega)
     have hy:=aM (by decide) ha'.lt k
     repeat (first |(refine wo rfl (fun k hk=>?_);simp(disch:=omega) only[go_sem,ξ,ζ,hat,hat'];apply hk;clear hk k) |refine wkt rfl ?_ |refine wk0 ?_ |refine rg rfl rfl (fun K hK=>?_) |((first |refine ae ?_ |refine ac ?_);simp(disch:=decide) only[qs,qb,if_true,if_false,reduceIte]) |refine ah rfl (fun K hK=>?_) |refine ct rfl ?_ |((try simp(disch:=omega) only[go_sem,ξ,ζ]);(first |apply hK |(clear hK;apply hK) |(clear hK;clear hK;apply hK));clear hK;(try clear K);(try dsimp only[ag,qs,qb])))
     refine⟨(k+1,rs.set k ((xs.getD k 0+cy+ys.getD k 0) % 4294967296),(xs.getD k 0+cy+ys.getD k 0) / 4294967296),?_,⟨hle,by dsimp only;omega,by simp[hr],d9 hlt (qBl _ (by decide)),by dsimp only;omega,?_⟩,by simp only;omega⟩
     ·simp(disch:=omega) only[go_sem,ξ,ζ]
     ·rw[bO (by omega),aq _ xs,aq _ ys,qAn]
      exact pS rfl hi
    ·repeat (first |(refine wo rfl (fun k hk=>?_);simp(disch:=omega) only[go_sem,ξ,ζ,hat];apply hk;clear hk k) |refine wkt rfl ?_ |refine wk0 ?_ |refine rg rfl rfl (fun K hK=>?_) |((first |refine ae ?_ |refine ac ?_);simp(disch:=decide) only[qs,qb,if_true,if_false,reduceIte]) |refine ah rfl (fun K hK=>?_) |refine ct rfl ?_ |((try simp(disch:=omega) only[go_sem,ξ,ζ]);(first |apply hK |(clear hK;apply hK) |(clear hK;clear hK;apply hK));clear hK;(try clear K);(try dsimp only[ag,qs,qb])))
     refine⟨(k+1,rs.set k ((xs.getD k 0+cy) % 4294967296),(xs.getD k 0+cy) / 4294967296),?_,⟨hle,by dsimp only;omega,by simp[hr],d9 hlt (qBl _ (by decide)),by dsimp only;omega,?_⟩,by simp only;omega⟩
     ·simp(disch:=omega) only[go_sem,ξ,ζ]
     ·have hy:ys.getD k 0=0:=by simp[qAy,List.getElem?_eq_none (by omega:ys.length≤k)]
      rw[bO (by omega),aq _ xs,aq _ ys,qAn,hy]
      exact pS (by omega) hi
   ·repeat (first |(refine rg rfl rfl (fun K hK=>?_);(repeat (first |(refine wo rfl (fun k hk=>?_);simp(disch:=omega) only[go_sem,ξ,ζ];apply hk;clear hk k) |refine wkt rfl ?_));(try refine wk0 ?_);apply hK;clear hK K;(try dsimp only[ag,qs,qb])) |((first |refine ae ?_ |refine ac ?_);simp(disch:=decide) only[qs,qb,if_true,if_false,reduceIte]) |refine ah rfl (fun K hK=>?_) |refine ct rfl ?_ |((first |refine hK _ _ ?_ |(clear hK;refine hK _ _ ?_) |(clear hK;clear hK;refine hK _ _ ?_));clear hK;(try clear K)))
    refine fk [.o 0,.p 0,.o 1,.o 2] rfl rfl (fun K hK=>?_);(repeat (first |(refine wo rfl (fun k hk=>?_);simp(disch:=omega) only[go_sem,ξ,ζ];apply hk;clear hk k) |refine wkt rfl ?_));(try refine wk0 ?_)
    refine wkp ?_;simp(disch:=omega) only[go_sem,ξ,ζ];intro b h2 hs2 hb;(repeat (first |(refine wo rfl (fun k hk=>?_);simp(disch:=omega) only[go_sem,ξ,ζ];apply hk;clear hk k) |refine wkt rfl ?_));(try refine wk0 ?_)
    obtain rfl:k=xs.length:=by omega
    have hA:Arr h2 (some ⟨b,0,none⟩) (xs.length+1) (rs.set xs.length cy):=.of_row (fun hne=>hb ((uw_ne _).1 hne)) (d9 hlt (by omega)) (by simp[hr];omega) (by simp[hr])
    have hval:val 4294967296 (rs.set xs.length cy)=m+n:=by
     have h1:=bO (B:=4294967296) (rs:=rs) (k:=xs.length) (d:=cy) (by omega)
     rw[qAr (by simp[hr])] at h1
     rw[h1,hi,qAr (η _),qAr hl,hv]
    refine cN rfl rfl rfl rfl (by exact Of_L hA (by simp[hr])) ?_;rintro v h3 hs3 hv';(repeat (first |(refine wo rfl (fun k hk=>?_);simp(disch:=omega) only[go_sem,ξ,ζ];apply hk;clear hk k) |refine wkt rfl ?_));(try refine wk0 ?_)
    (repeat (first |(refine wo rfl (fun k hk=>?_);simp(disch:=omega) only[go_sem,ξ,ζ];apply hk;clear hk k) |refine wkt rfl ?_));(try refine wk0 ?_)
    (try (simp(disch:=omega) only[go_sem,ξ,ζ]));apply hK;clear hK;(try clear K);(try dsimp only[ag,qs])
    refine ai ?_;simp(disch:=omega) only[go_sem,ξ,ζ]
    rwa[hval] at hv'
 refine mP rfl (fun ht=>?_) (fun ht=>?_)
 ·have:=of_decide_eq_true ht
  refine ug rfl ?_;(repeat (first |(refine wo rfl (fun k hk=>?_);simp(disch:=omega) only[go_sem,ξ,ζ];apply hk;clear hk k) |refine wkt rfl ?_));(try refine wk0 ?_);simp only[qs,qb,if_true,if_false,reduceIte]
  refine rest _ _ _ _ ys xs _ ha' ha (by omega) hs' (by omega) ?_
  simp(disch:=omega) only[go_sem,ξ,ζ]
 ·have:=of_decide_eq_false ht
  refine ac ?_;simp only[qs,qb,if_true,if_false,reduceIte]
  refine rest _ _ _ _ xs ys _ ha ha' (by omega) hs (by omega) ?_
  simp(disch:=omega) only[go_sem,ξ,ζ]
@[go_sem low] theorem wu64s {a b:Nat} (h:b≤18446744073709551616):IntKind.u64.wrap ((a:Int) - (b:Int))=((((a+18446744073709551616 - b) % 18446744073709551616):Nat):Int):=by
 rw[IntKind.wrap_u64];omega
theorem ow {P B V b X Y x y r q:Nat} (hs:x+B*q=r+y+b) (hi:X+P*b=V+Y):X+P*x+P*B*q=V+P*r+(Y+P*y):=by
 have e:P*(x+B*q)=P*(r+y+b):=by rw[hs]
 rw[qAm,qAm,qAm,←σ] at e
 omega
theorem getD_none {xs:List Nat} {k:Nat} (h:xs.length≤k):xs.getD k 0=0:=by simp[qAy,List.getElem?_eq_none h]
theorem xw {m n:Nat} (h:n≤m):(W 4294967296 n).length≤(W 4294967296 m).length:=by
 rcases qBj (W 4294967296 m).length (W 4294967296 n).length with h' |h'
 ·have:=lm B32 h';omega
 ·exact h'
theorem gE {h0 h:PH} [Le h0 h] {v w:Value} {m n:Nat} (hv:N32 h0 v m) (hw:N32 h0 w n) (hnm:n≤m) (bm:bl m≤2^40):Spec mach 229 #[v,w] h (fun v h'=>N32 h' v (m - n)) NP:=by
 obtain⟨a,c,xs,rfl,ha,hxs,hm⟩:=hv.out
 obtain⟨a',c',ys,rfl,ha',hys,hn⟩:=hw.out
 have hs:xs.length≤2^40:=by have:=dj m;rw[hxs] at this;omega
 have hl:ys.length≤xs.length:=by have:=xw hnm;rwa[hxs,hys] at this
 refine Spec.enter (args:=[_,_]) (n:=45) Tryz.func229 rfl (by kernel_rfl) rfl (by simp) [.tmp 4] rfl (fun C _=>?_)
 repeat (first |(refine wo rfl (fun k hk=>?_);simp(disch:=omega) only[go_sem,ξ,ζ];apply hk;clear hk k) |refine wkt rfl ?_ |refine wk0 ?_ |refine rg rfl rfl (fun K hK=>?_) |((first |refine ae ?_ |refine ac ?_);simp(disch:=decide) only[qs,qb,if_true,if_false,reduceIte]) |refine ah rfl (fun K hK=>?_) |refine ct rfl ?_ |((try simp(disch:=omega) only[go_sem,ξ,ζ]);(first |apply hK |(clear hK;apply hK) |(clear hK;clear hK;apply hK));clear hK;(try clear K);(try dsimp only[ag,qs,qb])))
 refine cg (fun x:Nat×List Nat×Nat=>⟨[(0,.v (.slice a xs.length c)),(1,.v (.slice a' ys.length c')),(5,.s 0 0 xs.length xs.length),(6,.v (.int .u64 x.2.2)),(13,.v (.slice a xs.length c)),(14,.v (.int .i64 xs.length)),(15,.v (.int .i64 x.1))],[uw x.2.1]⟩)
   (fun x h'=>Le h0 h'∧x.1≤xs.length∧x.2.1.length=xs.length∧(∀d∈x.2.1,d < 4294967296)∧x.2.2≤1∧val 4294967296 (xs.take x.1)+4294967296^x.1*x.2.2=val 4294967296 (x.2.1.take x.1)+val 4294967296 (ys.take x.1)) (fun x=>xs.length - x.1) (0,List.replicate xs.length 0,0) ?_ ⟨inferInstance,by simp,by simp,gG (by decide),by simp,by simp[val]⟩ ?_
 ·simp(disch:=omega) only[go_sem,ξ,ζ]
 ·rintro⟨k,rs,cy⟩ h1 ⟨hle,hk,hr,hlt,hcy,hi⟩
  dsimp only at hk hr hlt hcy hi ⊢
  by_cases hkl:k < xs.length
  ·obtain⟨ad,rfl,hat⟩:=ha.rd h1 (i:=k) (by omega)
   have hx:=aM (by decide) ha.lt k
   by_cases hky:k < ys.length
   ·obtain⟨ad',rfl,hat'⟩:=ha'.rd h1 (i:=k) (by omega)
    have hy:=aM (by decide) ha'.lt k
    repeat (first |(refine wo rfl (fun k hk=>?_);simp(disch:=omega) only[go_sem,ξ,ζ,hat,hat'];apply hk;clear hk k) |refine wkt rfl ?_ |refine wk0 ?_ |refine rg rfl rfl (fun K hK=>?_) |((first |refine ae ?_ |refine ac ?_);simp(disch:=decide) only[qs,qb,if_true,if_false,reduceIte]) |refine ah rfl (fun K hK=>?_) |refine ct rfl ?_ |((try simp(disch:=omega) only[go_sem,ξ,ζ]);(first |apply hK |(clear hK;apply hK) |(clear hK;clear hK;apply hK));clear hK;(try clear K);(try dsimp only[ag,qs,qb])))
    refine⟨(k+1,rs.set k (((xs.getD k 0+18446744073709551616 - cy) % 18446744073709551616+18446744073709551616 - ys.getD k 0) % 18446744073709551616 % 4294967296),((xs.getD k 0+18446744073709551616 - cy) % 18446744073709551616+18446744073709551616 - ys.getD k 0) % 18446744073709551616 / 9223372036854775808),?_,⟨hle,by dsimp only;omega,by simp only[List.length_set];exact hr,d9 hlt (qBl _ (by decide)),by dsimp only;omega,?_⟩,by simp only;omega⟩
    ·simp(disch:=omega) only[go_sem,ξ,ζ]
    ·dsimp only
     rw[bO (by omega),aq _ xs,aq _ ys,qAn]
     refine ow ?_ hi
     omega
   ·repeat (first |(refine wo rfl (fun k hk=>?_);simp(disch:=omega) only[go_sem,ξ,ζ,hat];apply hk;clear hk k) |refine wkt rfl ?_ |refine wk0 ?_ |refine rg rfl rfl (fun K hK=>?_) |((first |refine ae ?_ |refine ac ?_);simp(disch:=decide) only[qs,qb,if_true,if_false,reduceIte]) |refine ah rfl (fun K hK=>?_) |refine ct rfl ?_ |((try simp(disch:=omega) only[go_sem,ξ,ζ]);(first |apply hK |(clear hK;apply hK) |(clear hK;clear hK;apply hK));clear hK;(try clear K);(try dsimp only[ag,qs,qb])))
    refine⟨(k+1,rs.set k ((xs.getD k 0+18446744073709551616 - cy) % 18446744073709551616 % 4294967296),(xs.getD k 0+18446744073709551616 - cy) % 18446744073709551616 / 9223372036854775808),?_,⟨hle,by dsimp only;omega,by simp only[List.length_set];exact hr,d9 hlt (qBl _ (by decide)),by dsimp only;omega,?_⟩,by simp only;omega⟩
    ·simp(disch:=omega) only[go_sem,ξ,ζ]
    ·have hy:ys.getD k 0=0:=getD_none (by omega)
     dsimp only
     rw[bO (by omega),aq _ xs,aq _ ys,qAn]
     refine ow ?_ hi
     omega
  ·repeat (first |(refine rg rfl rfl (fun K hK=>?_);(repeat (first |(refine wo rfl (fun k hk=>?_);simp(disch:=omega) only[go_sem,ξ,ζ];apply hk;clear hk k) |refine wkt rfl ?_));(try refine wk0 ?_);apply hK;clear hK K;(try dsimp only[ag,qs,qb])) |((first |refine ae ?_ |refine ac ?_);simp(disch:=decide) only[qs,qb,if_true,if_false,reduceIte]) |refine ah rfl (fun K hK=>?_) |refine ct rfl ?_ |((first |refine hK _ _ ?_ |(clear hK;refine hK _ _ ?_) |(clear hK;clear hK;refine hK _ _ ?_));clear hK;(try clear K)))
   obtain rfl:k=xs.length:=by omega
   refine fk [.p 0,.o 0,.o 1,.o 2] rfl rfl (fun K hK=>?_);(repeat (first |(refine wo rfl (fun k hk=>?_);simp(disch:=omega) only[go_sem,ξ,ζ];apply hk;clear hk k) |refine wkt rfl ?_));(try refine wk0 ?_)
   refine wkp ?_;simp(disch:=omega) only[go_sem,ξ,ζ];intro b h2 hs2 hb;(repeat (first |(refine wo rfl (fun k hk=>?_);simp(disch:=omega) only[go_sem,ξ,ζ];apply hk;clear hk k) |refine wkt rfl ?_));(try refine wk0 ?_)
   have hA:Arr h2 (some ⟨b,0,none⟩) xs.length rs:=.of_row (fun hne=>hb ((uw_ne _).1 hne)) hlt (by omega) (by omega)
   have hval:val 4294967296 rs=m - n:=by
    rw[qAr (η _),qAr (by omega),qAr hl,hm,hn] at hi
    have h3:=iU (by decide) rs hlt
    rw[hr] at h3
    obtain rfl:cy=0:=by
     rcases qBj cy 1 with h |h
     ·omega
     ·obtain rfl:cy=1:=by omega
      omega
    omega
   refine cN rfl rfl rfl rfl (by exact Of_L hA hr) ?_;rintro v h3 hs3 hv';(repeat (first |(refine wo rfl (fun k hk=>?_);simp(disch:=omega) only[go_sem,ξ,ζ];apply hk;clear hk k) |refine wkt rfl ?_));(try refine wk0 ?_)
   (repeat (first |(refine wo rfl (fun k hk=>?_);simp(disch:=omega) only[go_sem,ξ,ζ];apply hk;clear hk k) |refine wkt rfl ?_));(try refine wk0 ?_)
   (try (simp(disch:=omega) only[go_sem,ξ,ζ]));apply hK;clear hK;(try clear K);(try dsimp only[ag,qs])
   refine ai ?_;simp(disch:=omega) only[go_sem,ξ,ζ]
   rwa[hval] at hv'
set_option maxHeartbeats 8000000
attribute [go_sem] yL
theorem val_set {B:Nat} {rs:List Nat} {i d:Nat} (hi:i < rs.length):val B (rs.set i d)+B^i*rs.getD i 0=val B rs+B^i*d:=by
 induction rs generalizing i with
 |nil=>simp at hi
 | cons r rs ih=>
  cases i with
  |zero=>simp only[List.set_cons_zero,val,List.getD_cons_zero,Nat.pow_zero,qBm];omega
  | succ i=>
   have:=ih (i:=i) (by simpa using hi)
   simp only[List.set_cons_succ,val,List.getD_cons_succ,qAn,ρ (B^i) B,σ]
   have e:=congrArg (B*·) this
   simp only[qAm] at e
   omega
theorem tV {B:Nat} {rs:List Nat} {i d n:Nat} (hi:i < n) (hn:n≤rs.length):val B ((rs.set i d).take n)+B^i*rs.getD i 0=val B (rs.take n)+B^i*d:=by
 have:=val_set (B:=B) (rs:=rs.take n) (i:=i) (d:=d) (by simp;omega)
 rw[List.take_set]
 have e:(rs.take n).getD i 0=rs.getD i 0:=by simp[qAy,List.getElem?_take,hi]
 rw[e] at this
 exact this
theorem Dv {P B V V' c d A x y r q:Nat} {X:Nat} (hs:x*y+d+c=r+B*q) (hi:V+P*c=A+X) (hV:V'+P*d=V+P*r):V'+P*B*q=A+(X+P*(x*y)):=by
 have e:=congrArg (P*·) hs
 simp only[qAm,←σ] at e
 rw[←σ]
 omega
theorem aI {h0 h:PH} [Le h0 h] {v w:Value} {m n:Nat} (hv:N32 h0 v m) (hw:N32 h0 w n) (bm:bl m≤2^40) (bn:bl n≤2^40):Spec mach 111 #[v,w] h (fun v h'=>N32 h' v (m*n)) NP:=by
 obtain⟨a,c,xs,rfl,ha,hxs,hm⟩:=hv.out
 obtain⟨a',c',ys,rfl,ha',hys,hn⟩:=hw.out
 have hs:xs.length≤2^40:=by have:=dj m;rw[hxs] at this;omega
 have hs':ys.length≤2^40:=by have:=dj n;rw[hys] at this;omega
 refine Spec.go [(17,.t (.s [0] (.p 0 (.s [1,2] .d))))] Tryz.func111 rfl rfl (by kernel_rfl) fun C _=>?_
 try simp(maxSteps:=999999) (disch:=omega) only[go_sem,ξ,ζ]
 have z1:xs.length=0→m*n=0:=fun h=>by rw[←hm,List.eq_nil_of_length_eq_zero h];simp[val]
 have z2:ys.length=0→m*n=0:=fun h=>by rw[←hn,List.eq_nil_of_length_eq_zero h];simp[val]
 by_cases hx0:xs.length=0
 ·try simp(maxSteps:=999999) (disch:=omega) only[go_sem,ξ,ζ]
  rw[z1 hx0];exact N32.zero _
 by_cases hy0:ys.length=0
 ·try simp(maxSteps:=999999) (disch:=omega) only[go_sem,ξ,ζ]
  rw[z2 hy0];exact N32.zero _
 clear z1 z2
 try simp(maxSteps:=999999) (disch:=omega) only[go_sem,ξ,ζ]
 refine lp [] (fun x:Nat×List Nat=>⟨[(0,.v (.slice a xs.length c)),(1,.v (.slice a' ys.length c')),(5,.s 0 0 (xs.length+ys.length) (xs.length+ys.length)),(26,.v (.slice a xs.length c)),(27,.v (.int .i64 xs.length)),(28,.v (.int .i64 x.1))],[uw x.2]⟩) (fun x h'=>Le h0 h'∧x.1≤xs.length∧x.2.length=xs.length+ys.length∧(∀d∈x.2,d < 4294967296)∧val 4294967296 (x.2.take (x.1+ys.length))=val 4294967296 (xs.take x.1)*val 4294967296 ys) (fun x=>xs.length - x.1) (0,List.replicate (xs.length+ys.length) 0) ?_ ⟨inferInstance,by simp,by simp,gG (by decide),by simp[val,mO]⟩ (by kernel_rfl) ?_
 ·try simp(maxSteps:=999999) (disch:=omega) only[go_sem,ξ,ζ]
 ·rintro⟨k,rs⟩ h1 ⟨hle,hk,hr,hlt,hi⟩
  dsimp only at hk hr hlt hi ⊢
  by_cases hkl:k < xs.length
  ·obtain⟨ad,rfl,hat⟩:=ha.rd h1 (i:=k) (by omega)
   have hx:=aM (by decide) ha.lt k
   try simp(maxSteps:=999999) (disch:=omega) only[go_sem,ξ,ζ]
   refine aE hat ?_
   try simp(maxSteps:=999999) (disch:=omega) only[go_sem,ξ,ζ]
   refine lp [] (fun x:Nat×List Nat×Nat=>⟨[(0,.v (.slice (some ad) xs.length c)),(1,.v (.slice a' ys.length c')),(5,.s 0 0 (xs.length+ys.length) (xs.length+ys.length)),(26,.v (.slice (some ad) xs.length c)),(27,.v (.int .i64 xs.length)),(28,.v (.int .i64 k)),(6,.v (.int .i64 k)),(7,.v (.int .u32 (xs.getD k 0:Nat))),(8,.v (.int .u64 x.2.2)),(33,.v (.slice a' ys.length c')),(34,.v (.int .i64 ys.length)),(35,.v (.int .i64 x.1))],[uw x.2.1]⟩) (fun x h'=>Le h0 h'∧x.1≤ys.length∧x.2.1.length=xs.length+ys.length∧(∀d∈x.2.1,d < 4294967296)∧x.2.2 < 4294967296∧val 4294967296 (x.2.1.take (k+ys.length))+4294967296^(k+x.1)*x.2.2=val 4294967296 (rs.take (k+ys.length))+4294967296^k*(xs.getD k 0*val 4294967296 (ys.take x.1))) (fun x=>ys.length - x.1) (0,rs,0) ?_ ⟨hle,by simp,hr,hlt,by simp,by simp[val]⟩ (by kernel_rfl) ?_
   ·try simp(maxSteps:=999999) (disch:=omega) only[go_sem,ξ,ζ]
   ·rintro⟨j,rs',cy⟩ h2 ⟨hle',hj,hr',hlt',hcy,hi'⟩
    dsimp only at hj hr' hlt' hcy hi' ⊢
    by_cases hjl:j < ys.length
    ·obtain⟨ad',rfl,hat'⟩:=ha'.rd h2 (i:=j) (by omega)
     have hy:=aM (by decide) ha'.lt j
     have hd:=aM (by decide) hlt' (k+j)
     have hxy:xs.getD k 0*ys.getD j 0≤4294967295*4294967295:=qAk (by omega) (by omega)
     try simp(maxSteps:=999999) (disch:=omega) only[go_sem,ξ,ζ]
     refine aE hat' ?_
     try simp(maxSteps:=999999) (disch:=omega) only[go_sem,ξ,ζ]
     dsimp only[lpE];refine⟨(j+1,rs'.set (k+j) ((xs.getD k 0*ys.getD j 0+rs'.getD (k+j) 0+cy) % 4294967296),(xs.getD k 0*ys.getD j 0+rs'.getD (k+j) 0+cy) / 4294967296),?_,⟨hle',by dsimp only;omega,by simp[hr'],d9 hlt' (qBl _ (by decide)),by dsimp only;omega,?_⟩,by simp only;omega⟩
     ·try simp(maxSteps:=999999) (disch:=omega) only[go_sem,ξ,ζ]
     ·dsimp only
      rw[aq _ ys,←Nat.add_assoc,qAn,qAm,qAm,←σ _ (4294967296^j),ρ (xs.getD k 0) (4294967296^j),σ (4294967296^j),←σ _ (4294967296^j),←qAs]
      exact Dv (Nat.mod_add_div _ _).symm hi' (tV (by omega) (by omega))
    ·try simp(maxSteps:=999999) (disch:=omega) only[go_sem,ξ,ζ]
     obtain rfl:j=ys.length:=by omega
     refine⟨(k+1,rs'.set (k+ys.length) cy),?_,⟨hle',by dsimp only;omega,by simp[hr'],d9 hlt' hcy,?_⟩,by simp only;omega⟩
     ·try simp(maxSteps:=999999) (disch:=omega) only[go_sem,ξ,ζ]
     ·dsimp only
      rw[show k+1+ys.length=k+ys.length+1 by omega,bO (by omega),hi',hi,aq _ xs,qAr (η _),Nat.add_mul,σ]
  ·try simp(maxSteps:=999999) (disch:=omega) only[go_sem,ξ,ζ]
   obtain rfl:k=xs.length:=by omega
   try simp(maxSteps:=999999) (disch:=omega) only[go_sem,ξ,ζ]
   intro b h2 hs2 hb
   try simp(maxSteps:=999999) (disch:=omega) only[go_sem,ξ,ζ]
   have hA:Arr h2 (some ⟨b,0,none⟩) (xs.length+ys.length) rs:=.of_row (fun hne=>hb ((uw_ne _).1 hne)) hlt (by omega) (by omega)
   have hval:val 4294967296 rs=m*n:=by
    rw[qAr (by omega),qAr (η _),hm,hn] at hi
    exact hi
   refine caN (by exact Of_L hA hr) ?_;rintro v h3 hs3 hv'
   try simp(maxSteps:=999999) (disch:=omega) only[go_sem,ξ,ζ]
   rwa[hval] at hv'
end Go.Q
