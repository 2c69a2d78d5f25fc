/-
  A symbolic walk, and what stands on it. Conditions: each theorem's own.
-/
import Derived.Test.YtgmcchhklbeckaaGreatDoorKda9756PkA
import Derived.WalkKit
import Derived.ProofKit
import Derived.WalkSpells
set_option linter.unusedVariables false
set_option linter.unusedSimpArgs false
open Nat renaming le_trans→χ,le_refl→η
open Bool renaming and_eq_true→φ,false_eq_true→qAw
open List renaming length_append→qAp
namespace Go.Q
open Go.RowKit (Below)
abbrev PH:=Nat→Option (Array Value)
def Sub (h h':PH):Prop:=∀b cs,h b=some cs→h' b=some cs
theorem Sub.refl (h:PH):Sub h h:=fun _ _ h=>h
theorem Sub.trans {a b c:PH} (h:Sub a b) (k:Sub b c):Sub a c:=fun _ _ x=>k _ _ (h _ _ x)
class Step (a:outParam PH) (b:PH):Prop where
 sub:Sub a b
class Le (a b:PH):Prop where
 sub:Sub a b
instance Le.rfl' (h:PH):Le h h:=⟨Sub.refl h⟩
instance Le.step (a b c:PH) [s:Step b c] [l:Le a b]:Le a c:=⟨l.sub.trans s.sub⟩
def PH.at (h:PH) (a:Addr):Option Value:=if a.spot.isSome then none else (h a.block).bind (·[a.off]?)
theorem Sub.at {h h':PH} (hs:Sub h h') {a:Addr} {v:Value} (ha:h.at a=some v):h'.at a=some v:=by
 unfold PH.at at*
 split
 ·rename_i hx;simp[hx] at ha
 ·rename_i hx
  simp only[hx,qAw,if_false] at ha
  cases hb:h a.block with
  |none=>rw[hb] at ha;cases ha
  |some cs=>rw[hs _ _ hb];rw[hb] at ha;exact ha
def Has (w:World) (h:PH):Prop:=∀b cs,h b=some cs→∃T f,w.heap[b]?=some (.cells cs T f)
theorem Has.below {w w':World} {h:PH} (hh:Has w h) (hb:Below w.heap.size w w'):Has w' h:=fun b cs hx=>by
 obtain⟨T,f,hw⟩:=hh b cs hx
 have hlt:b < w.heap.size:=(Array.getElem?_eq_some_iff.1 hw).1
 exact⟨T,f,by rw[hb.block b hlt];exact hw⟩
theorem Has.lt {w:World} {h:PH} (hh:Has w h) {b:Nat} {cs:Array Value} (hx:h b=some cs):b < w.heap.size:=by
 obtain⟨T,f,hw⟩:=hh b cs hx
 exact(Array.getElem?_eq_some_iff.1 hw).1
theorem Has.cell {w:World} {h:PH} (hh:Has w h) {a:Addr} {v:Value} (ha:h.at a=some v):w.cell? a=some v:=by
 unfold PH.at at ha
 split at ha
 ·cases ha
 ·rename_i hx
  cases hb:h a.block with
  |none=>rw[hb] at ha;cases ha
  | some cs=>
   rw[hb] at ha
   obtain⟨T,f,hw⟩:=hh _ _ hb
   unfold World.cell?
   rw[hw]
   simp only[hx,qAw,if_false]
   exact ha
def New (B:Nat) (h h':PH):Prop:=∀b,h' b≠none→h b≠none∨B≤b
structure Mach where
 P:Program
 gl:PH
 mixed:P.follows .mixedOrders=true
def Post (w:World) (h:PH) (R:Value→PH→Prop) (E:List PanicEntry→PH→Prop):Ending→World→Prop
 |.returned v,w'=>∃h',Below w.heap.size w w'∧Has w' h'∧Sub h h'∧New w.heap.size h h'∧R v h'
 |.panicked ch,w'=>∃h',Below w.heap.size w w'∧Has w' h'∧Sub h h'∧New w.heap.size h h'∧E ch h'
 |.outgrown,_=>False
def dS (P:Program) (f:FuncId):Bool:=match P.funcs[f]? with
 |some fn=>fn.name != "runtime.NumGoroutine" && fn.body.isSome
 |none=>false
structure Spec (M:Mach) (f:FuncId) (args:Array Value) (h:PH) (R:Value→PH→Prop) (E:List PanicEntry→PH→Prop):Prop where
 ok:dS M.P f=true
 run:∀w,Has w h→Sub M.gl h→Calls M.P f args w (Post w h R E)
theorem Spec.mono {M:Mach} {f:FuncId} {args:Array Value} {h:PH} {R R':Value→PH→Prop} {E E':List PanicEntry→PH→Prop} (s:Spec M f args h R E)
  (hR:∀v h',Sub h h'→R v h'→R' v h') (hE:∀c h',Sub h h'→E c h'→E' c h'):Spec M f args h R' E':=⟨s.ok,fun w hw hg=>
 (s.run w hw hg).mono fun e w' hp=>by
  cases e with
  |returned v=>obtain⟨h',a,b,c,d,r⟩:=hp;exact⟨h',a,b,c,d,hR _ _ c r⟩
  |panicked ch=>obtain⟨h',a,b,c,d,r⟩:=hp;exact⟨h',a,b,c,d,hE _ _ c r⟩
  |outgrown=>exact hp⟩
theorem iF {P:Program} {f:FuncId} (h:dS P f=true) (args:Array Value) (w:World):(callFunc f args).run P w=.ok (.enter f args) w:=by
 unfold dS at h
 cases hf:P.funcs[f]? with
 |none=>rw[hf] at h;cases h
 | some fn=>
  rw[hf] at h
  simp only[φ,bne_iff_ne,ne_eq] at h
  have h2:¬fn.body=none:=by intro e;rw[e] at h;simp at h
  simp[callFunc,hf,h.1,h2]
def NP:List PanicEntry→PH→Prop:=fun _ _=>False
inductive AV where
 |top
 |v (x:Value)
 |p (i off:Nat)
 |s (i off len cap:Nat)
structure AS where
 sl:List (Nat×AV)
 bx:List (List Value)
@[go_sem] def lk:List (Nat×AV)→Nat→AV
 |[],_=>.top
 |(k,x) :: l,t=>bif k == t then x else lk l t
@[go_sem] def st (l:List (Nat×AV)) (d:Nat) (x:AV):List (Nat×AV):=(d,x) :: l
@[go_sem] def AS.ev (S:AS):Operand→AV
 |.tmp t=>lk S.sl t
 |.const c=>.v c
 |.global g=>.v (.pointer (some ⟨g,0,none⟩))
 |.func f=>.v (.func (.func f) #[] #[])
@[go_sem] def AS.put (S:AS) (d:Option Nat) (x:AV):AS:=match d with
 |none=>S
 |some d=>⟨st S.sl d x,S.bx⟩
@[go_sem] def AS.push (S:AS) (cs:List Value):AS:=⟨S.sl,S.bx ++[cs]⟩
@[go_sem] def AS.box (S:AS) (i:Nat):List Value:=S.bx.getD i []
@[go_sem] def AS.setBox (S:AS) (i:Nat) (cs:List Value):AS:=⟨S.sl,S.bx.set i cs⟩
theorem lk_st (l:List (Nat×AV)) (d t:Nat) (x:AV):lk (st l d x) t=if t=d then x else lk l t:=by
 simp only[st,lk]
 by_cases h:t=d
 ·simp[h]
 ·have:(d == t)=false:=by simp;omega
  simp[h,this]
def cv (β:Nat→Nat):AV→Value
 |.top=>undef
 |.v x=>x
 |.p i off=>.pointer (some ⟨β i,off,none⟩)
 |.s i off len cap=>.slice (some ⟨β i,off,none⟩) len cap
def AV.ix:AV→Option Nat
 |.p i _=>some i
 |.s i _ _ _=>some i
 |_=>none
def Conc (β:Nat→Nat) (x:AV) (y:Value):Prop:=x=.top∨y=cv β x
structure Ctx where
 w0:World
 h0:PH
 /-- The places of the boxes that the caller lent. -/
 pin:List Nat
 /-- The calls that are put off. -/
 df:List Deferred
class NoPin (C:Ctx):Prop where
 nil:C.pin=[]
structure Fine (M:Mach) (C:Ctx) (h:PH) (w:World):Prop where
 below:Below C.w0.heap.size C.w0 w
 has:Has w h
 sub:Sub C.h0 h
 new:New C.w0.heap.size C.h0 h
 gl:Sub M.gl h
structure BoxAt (C:Ctx) (h:PH) (w:World) (b:Nat) (cs:List Value):Prop where
 row:∃T,w.heap[b]?=some (.cells cs.toArray T (0,0))
 old:C.w0.heap.size≤b
 own:h b=none
structure G (M:Mach) (C:Ctx) (n:Nat) (S:AS) (h:PH) (β:Nat→Nat) (a:Act) (w:World):Prop where
 size:a.tmps.size=n
 defers:a.defers=C.df
 fine:Fine M C h w
 boxes:∀i cs,S.bx[i]?=some cs→cs≠[]→BoxAt C h w (β i) cs
 inj:∀i j ci cj,S.bx[i]?=some ci→S.bx[j]?=some cj→ci≠[]→cj≠[]→β i=β j→i=j
 slots:∀t,Conc β (lk S.sl t) (a.tmps.getD t undef)
 wf:∀t i,(lk S.sl t).ix=some i→i < S.bx.length
 pin:C.pin.length≤S.bx.length∧∀i,i < C.pin.length→β i=C.pin.getD i 0
section
variable {M:Mach} {C:Ctx} {n:Nat} {S:AS} {h:PH} {β:Nat→Nat} {a:Act} {w:World}
theorem Fine.lt (f:Fine M C h w) {b:Nat} {cs:Array Value} (hx:h b=some cs):b < w.heap.size:=f.has.lt hx
theorem BoxAt.lt {b:Nat} {cs:List Value} (x:BoxAt C h w b cs):b < w.heap.size:=by
 obtain⟨T,hw⟩:=x.row
 exact(Array.getElem?_eq_some_iff.1 hw).1
theorem BoxAt.cell {b:Nat} {cs:List Value} (x:BoxAt C h w b cs) (i:Nat):w.cell? ⟨b,i,none⟩=cs[i]?:=by
 obtain⟨T,hw⟩:=x.row
 simp[World.cell?,hw]
theorem BoxAt.below {b:Nat} {cs:List Value} {w':World} {h':PH} (x:BoxAt C h w b cs) (hb:Below w.heap.size w w') (hn:New w.heap.size h h'):BoxAt C h' w' b cs:=by
 obtain⟨T,hw⟩:=x.row
 refine⟨⟨T,by rw[hb.block b x.lt];exact hw⟩,x.old,?_⟩
 cases hx:h' b with
 |none=>rfl
 | some _=>
  rcases hn b (by rw[hx];simp) with k |k
  ·exact absurd x.own k
  ·have:=x.lt;omega
theorem G.ev (g:G M C n S h β a w) {x:Operand} (hx:S.ev x≠.top):a.eval x=cv β (S.ev x):=by
 cases x with
 |tmp t=>exact(g.slots t).resolve_left hx
 |const c=>rfl
 |global g=>rfl
 |func f=>rfl
theorem G.ev_v (g:G M C n S h β a w) {x:Operand} {v:Value} (hx:S.ev x=.v v):a.eval x=v:=by
 rw[g.ev (by rw[hx];simp),hx];rfl
theorem G.ev_p (g:G M C n S h β a w) {x:Operand} {i off:Nat} (hx:S.ev x=.p i off):a.eval x=.pointer (some ⟨β i,off,none⟩):=by
 rw[g.ev (by rw[hx];simp),hx];rfl
theorem G.ev_s (g:G M C n S h β a w) {x:Operand} {i off len cap:Nat} (hx:S.ev x=.s i off len cap):a.eval x=.slice (some ⟨β i,off,none⟩) len cap:=by
 rw[g.ev (by rw[hx];simp),hx];rfl
theorem G.put (g:G M C n S h β a w) {d:Option Nat} (hd:∀k,d=some k→k < n) {x:AV} {v:Value} (hv:Conc β x v) (hx:∀i,x.ix=some i→i < S.bx.length):G M C n (S.put d x) h β (a.put d v) w:=by
 cases d with
 |none=>exact g
 | some d=>
  have hdn:=hd d rfl
  refine⟨by simp[Act.put,g.size],g.defers,g.fine,g.boxes,g.inj,fun t=>?_,fun t i hi=>?_,g.pin⟩
  case refine_2=>
   simp only[AS.put,lk_st] at hi
   split at hi
   ·exact hx i hi
   ·exact g.wf t i hi
  simp only[AS.put,lk_st,Act.put]
  by_cases h:t=d
  ·subst h
   have:((a.tmps.setIfInBounds t v).getD t undef)=v:=by simp[g.size,hdn]
   rw[this,if_pos rfl];exact hv
  ·rw[if_neg h]
   have:((a.tmps.setIfInBounds d v).getD t undef)=a.tmps.getD t undef:=by simp[Array.getElem?_setIfInBounds_ne (Ne.symm h)]
   rw[this];exact g.slots t
theorem G.grow (g:G M C n S h β a w) {w':World} {h':PH} (hb:Below w.heap.size w w') (hh:Has w' h') (hs:Sub h h') (hn:New w.heap.size h h'):G M C n S h' β a w':=by
 have hle:=g.fine.below.size
 refine⟨g.size,g.defers,⟨g.fine.below.trans (hb.mono hle),hh,g.fine.sub.trans hs,fun b hx=>?_,g.fine.gl.trans hs⟩,fun i cs hi hc=>(g.boxes i cs hi hc).below hb hn,g.inj,g.slots,g.wf,g.pin⟩
 rcases hn b hx with k |k
 ·exact g.fine.new b k
 ·exact .inr (χ hle k)
theorem New.refl (B:Nat) (h:PH):New B h h:=fun _ k=>.inl k
theorem G.below (g:G M C n S h β a w) {w':World} (hb:Below w.heap.size w w'):G M C n S h β a w':=g.grow hb (g.fine.has.below hb) (Sub.refl h) (New.refl _ h)
theorem G.push (g:G M C n S h β a w) (cs:List Value) (T:TypeId):
  ∃β',(∀i,i < S.bx.length→β' i=β i)∧β' S.bx.length=w.heap.size∧G M C n (S.push cs) h β' a (w.alloc (.cells cs.toArray T)):=by
 have hnew:(w.alloc (.cells cs.toArray T)).heap[w.heap.size]?=some (.cells cs.toArray T (0,0)):=by
  show(w.heap.push _)[w.heap.size]?=_
  simp
 have hb:Below w.heap.size w (w.alloc (.cells cs.toArray T)):=(Below.refl _ _).alloc (η _) _
 have g':=g.below hb
 refine⟨fun i=>if i=S.bx.length then w.heap.size else β i,fun i hi=>by simp;omega,by simp,?_⟩
 have hget:∀(i:Nat) (ci:List Value),(S.push cs).bx[i]?=some ci→(i < S.bx.length∧S.bx[i]?=some ci)∨(i=S.bx.length∧ci=cs):=by
  simp only[AS.push]
  intro i ci hi
  rcases Nat.lt_trichotomy i S.bx.length with h |h |h
  ·rw[List.getElem?_append_left h] at hi;exact .inl ⟨h,hi⟩
  ·subst h;simp at hi;exact .inr ⟨rfl,hi.symm⟩
  ·rw[List.getElem?_append_right (by omega)] at hi
   rw[List.getElem?_eq_none (by simp;omega)] at hi;cases hi
 have hltb:∀(i:Nat) (ci:List Value),S.bx[i]?=some ci→ci≠[]→β i < w.heap.size:=fun i ci hi hc=>(g.boxes i ci hi hc).lt
 refine⟨g.size,g.defers,g'.fine,fun i ci hi hc=>?_,fun i j ci cj hi hj hci hcj hij=>?_,fun t=>?_,fun t i hi=>?_,?_,fun i hi=>?_⟩
 ·rcases hget i ci hi with⟨hl,hi⟩ |⟨rfl,rfl⟩
  ·simp only[if_neg (show ¬i=S.bx.length by omega)]
   exact g'.boxes i ci hi hc
  ·simp only[if_true]
   refine⟨⟨T,hnew⟩,g.fine.below.size,?_⟩
   cases hx:h w.heap.size with
   |none=>rfl
   |some _=>have:=g.fine.lt hx;omega
 ·rcases hget i ci hi with⟨hl,hi'⟩ |⟨hl,_⟩<;>rcases hget j cj hj with⟨hl',hj'⟩ |⟨hl',_⟩
  ·simp only[if_neg (show ¬i=S.bx.length by omega),if_neg (show ¬j=S.bx.length by omega)] at hij
   exact g.inj i j ci cj hi' hj' hci hcj hij
  ·simp only[if_neg (show ¬i=S.bx.length by omega),if_pos hl'] at hij
   have:=hltb i ci hi' hci;omega
  ·simp only[if_pos hl,if_neg (show ¬j=S.bx.length by omega)] at hij
   have:=hltb j cj hj' hcj;omega
  ·omega
 ·have hw:=g.wf t
  rcases g.slots t with hs |hs
  ·exact .inl hs
  ·refine .inr ?_
   rw[hs]
   simp only[AS.push]
   cases hx:lk S.sl t with
   |top=>rfl
   |v x=>rfl
   |p i off=>have:=hw i (by rw[hx];rfl);simp only[cv,if_neg (show ¬i=S.bx.length by omega)]
   |s i off len cap=>have:=hw i (by rw[hx];rfl);simp only[cv,if_neg (show ¬i=S.bx.length by omega)]
 ·have:=g.wf t i hi
  simp only[AS.push,qAp]
  omega
 ·have:=g.pin.1
  simp only[AS.push,qAp]
  omega
 ·have:=g.pin.1
  simp only[if_neg (show ¬i=S.bx.length by omega)]
  exact g.pin.2 i hi
structure Rows (C:Ctx) (h:PH) (w:World) (β:Nat→Nat) (bx:List (List Value)):Prop where
 at_:∀i cs,bx[i]?=some cs→cs≠[]→BoxAt C h w (β i) cs
 inj:∀i j ci cj,bx[i]?=some ci→bx[j]?=some cj→ci≠[]→cj≠[]→β i=β j→i=j
structure SpecL (M:Mach) (f:FuncId) (args:List AV) (row:List Value) (h:PH) (R:Value→List Value→PH→Prop):Prop where
 ok:dS M.P f=true
 run:∀(C:Ctx) (β:Nat→Nat) (rest:List (List Value)) (w:World),Fine M C h w→Rows C h w β (row :: rest)→Calls M.P f (args.map (cv β)).toArray w fun e w'=>match e with
  |.returned v=>∃row' h',Fine M C h' w'∧Sub h h'∧Rows C h' w' β (row' :: rest)∧R v row' h'
  |_=>False
structure SpecO (M:Mach) (f:FuncId) (args:Array Value) (h:PH) (R:List Value→Nat→PH→Prop):Prop where
 ok:dS M.P f=true
 run : ∀w,Has w h→Sub M.gl h→Calls M.P f args w fun e w'=>match e with
  |.returned v=>∃h',Below w.heap.size w w'∧Has w' h'∧Sub h h'∧New w.heap.size h h'∧((v=.slice none 0 0∧R [] 0 h')∨
    ∃b row len T,v=.slice (some ⟨b,0,none⟩) len row.length∧w.heap.size≤b∧h' b=none∧w'.heap[b]?=some (.cells row.toArray T (0,0))∧row≠[]∧R row len h')
  |_=>False
def dn (i:Nat):List AV→Bool
 |[]=>true
 |.v _ :: l=>dn i l
 |.p j _ :: l=>(j == i) && dn i l
 |.s j _ _ _ :: l=>(j == i) && dn i l
 |.top :: _=>false
def ren0:AV→AV
 |.p _ off=>.p 0 off
 |.s _ off len cap=>.s 0 off len cap
 |x=>x
theorem BA {β β':Nat→Nat} {i:Nat} (hb:β' 0=β i):∀{l:List AV},dn i l=true→(l.map ren0).map (cv β')=l.map (cv β)
 |[],_=>rfl
 |.v _ :: l,hl=>by simp only[List.map_cons,ren0,cv];rw[BA hb (l:=l) hl]
 | .p j off :: l,hl=>by
  simp only[dn,φ,beq_iff_eq] at hl
  simp only[List.map_cons,ren0,cv,hb,hl.1];rw[BA hb hl.2]
 | .s j off len cap :: l,hl=>by
  simp only[dn,φ,beq_iff_eq] at hl
  simp only[List.map_cons,ren0,cv,hb,hl.1];rw[BA hb hl.2]
 |.top :: _,hl=>by cases hl
theorem tG {β:Nat→Nat} {i:Nat}:∀{l:List AV},dn i l=true→l.map (cv fun _=>β i)=l.map (cv β)
 |[],_=>rfl
 |.v _ :: l,hl=>by simp only[List.map_cons,cv];rw[tG (l:=l) hl]
 | .p j off :: l,hl=>by
  simp only[dn,φ,beq_iff_eq] at hl
  simp only[List.map_cons,cv,hl.1];rw[tG hl.2]
 | .s j off len cap :: l,hl=>by
  simp only[dn,φ,beq_iff_eq] at hl
  simp only[List.map_cons,cv,hl.1];rw[tG hl.2]
 |.top :: _,hl=>by cases hl
theorem wq (g:G M C n S h β a w) {i:Nat}:∀{l:List Operand},dn i (l.map S.ev)=true→l.map a.eval=(l.map S.ev).map (cv β)
 |[],_=>rfl
 | x :: l,hl=>by
  simp only[List.map_cons] at hl ⊢
  cases hx:S.ev x with
  |v u=>rw[hx] at hl;rw[g.ev_v hx,wq g (l:=l) hl];rfl
  |p j off=>rw[hx] at hl;simp only[dn,φ] at hl;rw[g.ev_p hx,wq g (l:=l) hl.2];rfl
  |s j off len cap=>rw[hx] at hl;simp only[dn,φ] at hl;rw[g.ev_s hx,wq g (l:=l) hl.2];rfl
  |top=>rw[hx] at hl;cases hl
def shift (i:Nat) (β:Nat→Nat):Nat→Nat
 |0=>β i
 |j+1=>β j
theorem G.rows (g:G M C n S h β a w) {i:Nat} {row:List Value} (hi:S.bx[i]?=some row) (hne:row≠[]):Rows C h w (shift i β) (row :: S.bx.set i []):=by
 have hlen:i < S.bx.length:=(List.getElem?_eq_some_iff.1 hi).1
 have hget:∀(j:Nat) (cj:List Value),(S.bx.set i [])[j]?=some cj→cj≠[]→j≠i∧S.bx[j]?=some cj:=by
  intro j cj hj hn
  by_cases hji:j=i
  ·subst hji;rw[List.getElem?_set_self hlen] at hj;exact(hn (Option.some.inj hj).symm).elim
  ·rw[List.getElem?_set_ne (Ne.symm hji)] at hj;exact⟨hji,hj⟩
 refine⟨fun j cs hj hn=>?_,fun p q cp cq hp hq hnp hnq hpq=>?_⟩
 ·cases j with
  |zero=>simp at hj;subst hj;exact g.boxes i _ hi hne
  |succ j=>simp only[List.getElem?_cons_succ] at hj;exact g.boxes j cs (hget j cs hj hn).2 hn
 ·cases p with
  | zero=>
   simp at hp;subst hp
   cases q with
   |zero=>rfl
   | succ q=>
    simp only[List.getElem?_cons_succ] at hq
    have h1:=hget q cq hq hnq
    exact(h1.1 (g.inj i q _ _ hi h1.2 hnp hnq hpq).symm).elim
  | succ p=>
   simp only[List.getElem?_cons_succ] at hp
   have h2:=hget p cp hp hnp
   cases q with
   | zero=>
    simp at hq;subst hq
    exact(h2.1 (g.inj p i _ _ h2.2 hi hnp hnq hpq)).elim
   | succ q=>
    simp only[List.getElem?_cons_succ] at hq
    have h1:=hget q cq hq hnq
    rw[g.inj p q _ _ h2.2 h1.2 hnp hnq hpq]
theorem G.back (g:G M C n S h β a w) {i:Nat} {row row':List Value} (hi:S.bx[i]?=some row) (hne:row≠[]) {h':PH} {w':World} (hf:Fine M C h' w') (hr:Rows C h' w' (shift i β) (row' :: S.bx.set i [])):G M C n (S.setBox i row') h' β a w':=by
 have hlen:i < S.bx.length:=(List.getElem?_eq_some_iff.1 hi).1
 have hget:∀(j:Nat) (cj:List Value),(S.bx.set i row')[j]?=some cj→(j=i∧cj=row')∨(j≠i∧S.bx[j]?=some cj):=by
  intro j cj hj
  by_cases h:j=i
  ·subst h;rw[List.getElem?_set_self hlen] at hj;exact .inl ⟨rfl,(Option.some.inj hj).symm⟩
  ·rw[List.getElem?_set_ne (Ne.symm h)] at hj;exact .inr ⟨h,hj⟩
 have hold:∀(j:Nat) (cj:List Value),(S.bx.set i row')[j]?=some cj→cj≠[]→∃cj',S.bx[j]?=some cj'∧cj'≠[]:=by
  intro j cj hj hn
  rcases hget j cj hj with⟨rfl,rfl⟩ |⟨_,hj⟩
  ·exact⟨row,hi,hne⟩
  ·exact⟨cj,hj,hn⟩
 refine⟨g.size,g.defers,hf,fun j cj hj hn=>?_,fun p q cp cq hp hq hnp hnq hpq=>?_,g.slots,fun t q hq=>?_,by simpa[AS.setBox] using g.pin⟩
 ·rcases hget j cj hj with⟨rfl,rfl⟩ |⟨hji,hj⟩
  ·exact hr.at_ 0 _ rfl hn
  ·exact hr.at_ (j+1) cj (by rw[List.getElem?_cons_succ,List.getElem?_set_ne (Ne.symm hji)];exact hj) hn
 ·obtain⟨cp',hp',hnp'⟩:=hold p cp hp hnp
  obtain⟨cq',hq',hnq'⟩:=hold q cq hq hnq
  exact g.inj p q cp' cq' hp' hq' hnp' hnq' hpq
 ·have:=g.wf t q hq
  simpa[AS.setBox] using this
theorem G.adopt (g:G M C n S h β a w) {w':World} {h':PH} (hb:Below w.heap.size w w') (hh:Has w' h') (hs:Sub h h') (hn:New w.heap.size h h') {b:Nat} {cs:List Value} {T:TypeId} (hlb:w.heap.size≤b) (hfree:h' b=none) (hrow:w'.heap[b]?=some (.cells cs.toArray T (0,0))):
  ∃β',(∀i,i < S.bx.length→β' i=β i)∧β' S.bx.length=b∧G M C n (S.push cs) h' β' a w':=by
 have g':=g.grow hb hh hs hn
 refine⟨fun i=>if i=S.bx.length then b else β i,fun i hi=>by simp;omega,by simp,?_⟩
 have hget:∀(i:Nat) (ci:List Value),(S.push cs).bx[i]?=some ci→(i < S.bx.length∧S.bx[i]?=some ci)∨(i=S.bx.length∧ci=cs):=by
  simp only[AS.push]
  intro i ci hi
  rcases Nat.lt_trichotomy i S.bx.length with h |h |h
  ·rw[List.getElem?_append_left h] at hi;exact .inl ⟨h,hi⟩
  ·subst h;simp at hi;exact .inr ⟨rfl,hi.symm⟩
  ·rw[List.getElem?_append_right (by omega)] at hi
   rw[List.getElem?_eq_none (by simp;omega)] at hi;cases hi
 have hltb:∀(i:Nat) (ci:List Value),S.bx[i]?=some ci→ci≠[]→β i < w.heap.size:=fun i ci hi hc=>(g.boxes i ci hi hc).lt
 refine⟨g.size,g.defers,g'.fine,fun i ci hi hc=>?_,fun i j ci cj hi hj hci hcj hij=>?_,fun t=>?_,fun t i hi=>?_,?_,fun i hi=>?_⟩
 ·rcases hget i ci hi with⟨hl,hi⟩ |⟨rfl,rfl⟩
  ·simp only[if_neg (show ¬i=S.bx.length by omega)]
   exact g'.boxes i ci hi hc
  ·simp only[if_true]
   exact⟨⟨T,hrow⟩,χ g.fine.below.size hlb,hfree⟩
 ·rcases hget i ci hi with⟨hl,hi'⟩ |⟨hl,_⟩<;>rcases hget j cj hj with⟨hl',hj'⟩ |⟨hl',_⟩
  ·simp only[if_neg (show ¬i=S.bx.length by omega),if_neg (show ¬j=S.bx.length by omega)] at hij
   exact g.inj i j ci cj hi' hj' hci hcj hij
  ·simp only[if_neg (show ¬i=S.bx.length by omega),if_pos hl'] at hij
   have:=hltb i ci hi' hci;omega
  ·simp only[if_pos hl,if_neg (show ¬j=S.bx.length by omega)] at hij
   have:=hltb j cj hj' hcj;omega
  ·omega
 ·have hw:=g.wf t
  rcases g.slots t with hs |hs
  ·exact .inl hs
  ·refine .inr ?_
   rw[hs]
   simp only[AS.push]
   cases hx:lk S.sl t with
   |top=>rfl
   |v x=>rfl
   |p i off=>have:=hw i (by rw[hx];rfl);simp only[cv,if_neg (show ¬i=S.bx.length by omega)]
   |s i off len cap=>have:=hw i (by rw[hx];rfl);simp only[cv,if_neg (show ¬i=S.bx.length by omega)]
 ·have:=g.wf t i hi
  simp only[AS.push,qAp]
  omega
 ·have:=g.pin.1
  simp only[AS.push,qAp]
  omega
 ·have:=g.pin.1
  simp only[if_neg (show ¬i=S.bx.length by omega)]
  exact g.pin.2 i hi
end
end Go.Q
namespace Go.Q
open Go.RowKit (Below)
@[go_sem] def opt {α:Type} (o:Option α) (k:α→Prop):Prop:=match o with
 |some a=>k a
 |none=>False
theorem opt_iff {α:Type} {o:Option α} {k:α→Prop}:opt o k↔∃a,o=some a∧k a:=by
 cases o<;>simp[opt]
inductive UK where
 |slice |string |array (n:Nat) |int (k:IntKind) |bool |iface |ptr |struct |func |other
 deriving DecidableEq
def uk (P:Program) (T:TypeId):UK:=match P.underlying T with
 |some (.slice _)=>.slice
 |some .string=>.string
 |some (.array n _)=>.array n
 |some (.int k)=>.int k
 |some .bool=>.bool
 |some (.interface _)=>.iface
 |some (.pointer _)=>.ptr
 |some (.struct _)=>.struct
 |some (.func ..)=>.func
 |_=>.other
def tk (P:Program) (T:TypeId):Option (Option Nat):=match P.info? T,P.underlying T with
 |some i,some (.struct _)=>some (some i.size)
 |some i,some (.array ..)=>some (some i.size)
 |some i,some _=>if i.size=1 then some none else none
 |_,_=>none
def zer (P:Program) (T:TypeId):Option (List Value):=(P.info? T).bind fun i=>i.zero.map (·.cells.toList)
def fo (P:Program) (T:TypeId) (f:Nat):Option Nat:=match P.underlying T with
 | some (.struct fields)=>match fields[f]? with
  | some fl=>match P.info? fl.type with
   |some i=>if i.size=0 then none else some fl.offset
   |none=>none
  |none=>none
 |_=>none
def esz (P:Program) (T:TypeId):Option Nat:=match P.underlying T with
 |some (.slice e)=>(P.info? e).map (·.size)
 |some (.array _ e)=>(P.info? e).map (·.size)
 |_=>none
def alen (P:Program) (T:TypeId):Option Nat:=match P.underlying T with
 |some (.array n _)=>some n
 |_=>none
def etk (P:Program) (T:TypeId):Option (Option Nat):=match P.underlying T with
 |some (.array _ e)=>tk P e
 |_=>none
def fpl (P:Program) (T:TypeId) (f:Nat):Option (Nat×Option Nat):=match P.underlying T with
 | some (.struct fields)=>match fields[f]? with
  |some fl=>(tk P fl.type).map fun t=>(fl.offset,t)
  |none=>none
 |_=>none
@[go_sem] def ldb:Option Nat→List Value→Nat→Option Value
 |none,cs,off=>cs[off]?
 |some m,cs,off=>bif Nat.ble (off+m) cs.length then some (.agg ((cs.drop off).take m).toArray) else none
@[go_sem] def vals:List AV→Option (List Value)
 |[]=>some []
 | .v x :: l=>match vals l with
  |some vs=>some (x :: vs)
  |none=>none
 |_ :: _=>none
@[go_sem] def spl:List Value→Nat→List Value→List Value
 |cs,_,[]=>cs
 |cs,off,v :: vs=>spl (cs.set off v) (off+1) vs
@[go_sem] def bT:Option Nat→Nat
 |none=>1
 |some m=>m
@[go_sem] def fits:Option Nat→Value→Option (List Value)
 |none,.agg _=>none
 |none,.tuple _=>none
 |none,v=>some [v]
 |some m,.agg cs=>bif cs.toList.length == m then some cs.toList else none
 |some _,_=>none
@[go_sem] def fillA (place:Nat→Option (Nat×Option Nat)):List Value→List (Nat×AV)→Option (List Value)
 |cs,[]=>some cs
 | cs,(i,.v x) :: rest=>match place i with
  | some (off,t)=>match fits t x with
   |some vs=>bif Nat.ble (off+vs.length) cs.length then fillA place (spl cs off vs) rest else none
   |none=>none
  |none=>none
 |_,_ :: _=>none
def fpls (P:Program) (T:TypeId):Option (List (Nat×Option Nat)):=match P.underlying T with
 |some (.struct fields)=>fields.toList.mapM fun fl=>(tk P fl.type).map fun t=>(fl.offset,t)
 |_=>none
@[go_sem] def EW (P:Program) (T:TypeId) (parts:List (Nat×AV)):Option (List Value):=match zer P T,uk P T with
 | some z,.struct=>match fpls P T with
  |some pl=>fillA (fun i=>pl[i]?) z parts
  |none=>none
 | some z,.array _=>match esz P T,etk P T with
  |some e,some t=>bif e == bT t then fillA (fun i=>some (i*e,t)) z parts else none
  |_,_=>none
 |_,_=>none
def andI (K:IntKind) (a b:Int):Int:=K.wrap (BitVec.ofInt K.bits a &&& BitVec.ofInt K.bits b).toNat
def orI (K:IntKind) (a b:Int):Int:=K.wrap (BitVec.ofInt K.bits a ||| BitVec.ofInt K.bits b).toNat
def xorI (K:IntKind) (a b:Int):Int:=K.wrap (BitVec.ofInt K.bits a^^^BitVec.ofInt K.bits b).toNat
@[go_sem] def binI (op:BinOp) (K:IntKind) (a b:Int) (k:Value→Prop):Prop:=match op with
 |.add=>k (.int K (K.wrap (a+b)))
 |.sub=>k (.int K (K.wrap (a - b)))
 |.mul=>k (.int K (K.wrap (a*b)))
 |.quo=>b≠0∧k (.int K (K.wrap (a.tdiv b)))
 |.rem=>b≠0∧k (.int K (a.tmod b))
 |.and=>k (.int K (andI K a b))
 |.or=>k (.int K (orI K a b))
 |.xor=>k (.int K (xorI K a b))
 |.eql=>k (.bool (a == b))
 |.neq=>k (.bool (a != b))
 |.lss=>k (.bool (decide (a < b)))
 |.leq=>k (.bool (decide (a≤b)))
 |.gtr=>k (.bool (decide (a > b)))
 |.geq=>k (.bool (decide (a≥b)))
 |_=>False
@[go_sem] def binA (P:Program) (op:BinOp) (T:TypeId) (x y:AV) (k:Value→Prop):Prop:=match x,y with
 | .v (.int K a),.v (.int K' b)=>match op with
  |.shl=>0≤b∧k (.int K (K.wrap (a*2^(min b.toNat K.bits))))
  |.shr=>0≤b∧k (.int K (a.fdiv (2^(min b.toNat K.bits))))
  |op=>K=K'∧binI op K a b k
 | .v (.bool a),.v (.bool b)=>match op with
  |.eql=>uk P T=.bool∧k (.bool (a == b))
  |.neq=>uk P T=.bool∧k (.bool (!(a == b)))
  |_=>False
 | .v (.slice a _ _),.v (.slice none _ _)=>match op with
  |.eql=>uk P T=.slice∧k (.bool a.isNone)
  |.neq=>uk P T=.slice∧k (.bool (!a.isNone))
  |_=>False
 | .v (.string a),.v (.string b)=>match op with
  |.eql=>k (.bool (a.toList == b.toList))
  |.neq=>k (.bool (!(a.toList == b.toList)))
  |.add=>((a.size+b.size:Nat):Int)≤IntKind.i64.max∧k (.string (a ++b))
  |.geq=>k (.bool (!Op.bytesLess a.toList b.toList))
  |_=>False
 |_,_=>False
@[go_sem] def lenA (P:Program) (T:TypeId) (x:AV):Option Value:=match uk P T,x with
 |.slice,.v (.slice _ n _)=>some (.int .i64 n)
 |.slice,.s _ _ n _=>some (.int .i64 n)
 |.string,.v (.string s)=>some (.int .i64 s.size)
 |.array n,_=>some (.int .i64 n)
 |_,_=>none
@[go_sem] def lowA:Option AV→Option Int
 |none=>some 0
 |some (.v (.int _ i))=>some i
 |_=>none
@[go_sem] def highA (len:Nat):Option AV→Option Int
 |none=>some len
 |some (.v (.int _ i))=>some i
 |_=>none
@[go_sem] def rdA (M:Mach) (op:Op) (S:AS) (h:PH) (k:AV→Prop):Prop:=match op with
 |.move x=>k (S.ev x)
 |.assign x=>k (S.ev x)
 | .pick c x y=>match S.ev c with
  |.v (.bool t)=>k (bif t then S.ev x else S.ev y)
  |_=>False
 | .load T x=>match S.ev x with
  |.p i off=>opt (tk M.P T) fun t=>opt (ldb t (S.box i) off) fun v=>k (.v v)
  | .v (.pointer (some a))=>opt (tk M.P T) fun t=>match t with
   |none=>∃v,h.at a=some v∧k (.v v)
   |some m=>∃cs:List Value,cs.length=m∧(∀j v,cs[j]?=some v→h.at (a.add j)=some v)∧k (.v (.agg cs.toArray))
  |_=>False
 |.binOp op T x y _=>binA M.P op T (S.ev x) (S.ev y) fun v=>k (.v v)
 | .unOp op _ x=>match op,S.ev x with
  |.not,.v (.bool b)=>k (.v (.bool (!b)))
  |.neg,.v (.int K a)=>k (.v (.int K (K.wrap (0 - a))))
  |_,_=>False
 | .convert src dst x=>match uk M.P src,uk M.P dst,S.ev x with
  |.int _,.int K,.v (.int _ a)=>k (.v (.int K (K.wrap a)))
  |_,_,_=>False
 | .fieldAddr T x f=>opt (fo M.P T f) fun o=>match S.ev x with
  |.p i off=>k (.p i (off+o))
  |.v (.pointer (some a))=>k (.v (.pointer (some (a.add o))))
  |_=>False
 | .field T x f=>match S.ev x with
  |.v (.agg cs)=>opt (fpl M.P T f) fun(o,t)=>opt (ldb t cs.toList o) fun v=>k (.v v)
  |_=>False
 | .indexAddr T x i=>opt (esz M.P T) fun e=>match S.ev x,S.ev i with
  |.v (.slice a len _),.v (.int _ j)=>uk M.P T=.slice∧∃ad,a=some ad∧0≤j∧j < len∧k (.v (.pointer (some (ad.add (j.toNat*e)))))
  |.s b off len _,.v (.int _ j)=>uk M.P T=.slice∧0≤j∧j < len∧k (.p b (off+j.toNat*e))
  |.p b off,.v (.int _ j)=>opt (alen M.P T) fun m=>0≤j∧j < m∧k (.p b (off+j.toNat*e))
  |.v (.pointer (some a)),.v (.int _ j)=>opt (alen M.P T) fun m=>0≤j∧j < m∧k (.v (.pointer (some (a.add (j.toNat*e)))))
  |_,_=>False
 | .index T x i=>match S.ev x,S.ev i with
  |.v (.agg cs),.v (.int _ j)=>opt (alen M.P T) fun m=>opt (esz M.P T) fun e=>opt (etk M.P T) fun t=>0≤j∧j < m∧opt (ldb t cs.toList (j.toNat*e)) fun v=>k (.v v)
  |.v (.string s),.v (.int _ j)=>uk M.P T=.string∧0≤j∧∃b,s[j.toNat]?=some b∧k (.v (.int .u8 b.toNat))
  |_,_=>False
 | .extract x i=>match S.ev x with
  |.v (.tuple vs)=>opt (vs.toList[i]?) fun v=>k (.v v)
  |_=>False
 | .slice T x lo hi none=>match S.ev x with
  |.v (.slice a len cap)=>uk M.P T=.slice∧opt (esz M.P T) fun e=>opt (lowA (lo.map S.ev)) fun l=>opt (highA len (hi.map S.ev)) fun u=>
    0≤l∧l≤u∧u≤cap∧k (.v (.slice (if cap=l.toNat then a else a.map (·.add (l.toNat*e))) (u.toNat - l.toNat) (cap - l.toNat)))
  |.s b off len cap=>uk M.P T=.slice∧opt (esz M.P T) fun e=>opt (lowA (lo.map S.ev)) fun l=>opt (highA len (hi.map S.ev)) fun u=>
    0≤l∧l≤u∧u≤cap∧k (.s b (if cap=l.toNat then off else off+l.toNat*e) (u.toNat - l.toNat) (cap - l.toNat))
  |_=>False
 | .makeInterface T x=>match S.ev x with
  |.v v=>M.P.concrete T=true∧k (.v (.iface T v))
  |_=>False
 |.makeFunc fn first captured=>opt (vals (first.toList.map S.ev)) fun fs=>opt (vals (captured.toList.map S.ev)) fun cs=>k (.v (.func fn fs.toArray cs.toArray))
 |.build T parts=>opt (EW M.P T (parts.toList.map fun p=>(p.1,S.ev p.2))) fun cs=>k (.v (.agg cs.toArray))
 | .call {callee:=.builtin .len,args,argTypes}=>match args.toList,argTypes.toList with
  |[x],[T]=>opt (lenA M.P T (S.ev x)) fun v=>k (.v v)
  |_,_=>False
 | .call {callee:=.builtin .min,args,argTypes:=_}=>match args.toList with
  | [x,y]=>match S.ev x,S.ev y with
   |.v (.int K a),.v (.int _ b)=>k (.v (.int K (if b < a then b else a)))
   |_,_=>False
  |_=>False
 | .call {callee:=.builtin .max,args,argTypes:=_}=>match args.toList with
  | [x,y]=>match S.ev x,S.ev y with
   |.v (.int K a),.v (.int _ b)=>k (.v (.int K (if b > a then b else a)))
   |_,_=>False
  |_=>False
 |_=>False
end Go.Q
namespace Go.Q
open Go.RowKit (Below)
theorem oA {P:Program} {T:TypeId} (h:uk P T=.slice):∃e,P.underlying T=some (.slice e):=by
 unfold uk at h;split at h<;>first |(cases h;done) |exact⟨_,by assumption⟩
theorem Ac {P:Program} {T:TypeId} (h:uk P T=.string):P.underlying T=some .string:=by
 unfold uk at h;split at h<;>first |(cases h;done) |assumption
theorem H3 {P:Program} {T:TypeId} (h:uk P T=.bool):P.underlying T=some .bool:=by
 unfold uk at h;split at h<;>first |(cases h;done) |assumption
theorem uk_int {P:Program} {T:TypeId} {k:IntKind} (h:uk P T=.int k):P.underlying T=some (.int k):=by
 unfold uk at h;split at h<;>first |(cases h;done) |(cases h;assumption)
theorem D9 {P:Program} {T:TypeId} {n:Nat} (h:uk P T=.array n):∃e,P.underlying T=some (.array n e):=by
 unfold uk at h;split at h<;>first |(cases h;done) |(cases h;exact⟨_,by assumption⟩)
theorem J3 {P:Program} {T:TypeId} (h:uk P T=.struct):∃e,P.underlying T=some (.struct e):=by
 unfold uk at h;split at h<;>first |(cases h;done) |exact⟨_,by assumption⟩
theorem tT {P:Program} {T:TypeId} {m:Nat} (h:tk P T=some (some m)) (w:World):(isAgg T).run P w=.ok true w∧(sizeOf T).run P w=.ok m w:=by
 unfold tk at h
 split at h
 ·rename_i i fs hi hu;cases h;simp[isAgg,sizeOf,typeInfo,run_underlying hu,hi]
 ·rename_i i n e hi hu;cases h;simp[isAgg,sizeOf,typeInfo,run_underlying hu,hi]
 ·split at h<;>cases h
 ·cases h
theorem wH {P:Program} {T:TypeId} (h:tk P T=some none) (w:World):(isAgg T).run P w=.ok false w∧(sizeOf T).run P w=.ok 1 w:=by
 unfold tk at h
 split at h
 ·cases h
 ·cases h
 ·rename_i i d hn1 hn2 hi hu
  split at h
  ·rename_i hs
   constructor
   ·simp only[isAgg,Sem.run_bind,run_underlying hu,Result.andThen_ok]
    cases d<;>first |exact(hn1 _ rfl).elim |exact(hn2 _ _ rfl).elim |rfl
   ·simp[sizeOf,typeInfo,hi,hs]
  ·cases h
 ·cases h
theorem tO {P:Program} {T:TypeId} {i:TypeInfo} (h:P.info? T=some i) (w:World):(sizeOf T).run P w=.ok i.size w:=by
 simp[sizeOf,typeInfo,h]
section
variable {M:Mach} {C:Ctx} {n:Nat} {S:AS} {h:PH} {β:Nat→Nat} {a:Act} {w:World}
theorem G.wf_ev (g:G M C n S h β a w) {x:Operand} {i:Nat} (hx:(S.ev x).ix=some i):i < S.bx.length:=by
 cases x with
 |tmp t=>exact g.wf t i hx
 |const c=>cases hx
 |global g=>cases hx
 |func f=>cases hx
theorem G.box_get (g:G M C n S h β a w) {i:Nat} {off:Nat} {v:Value} (hi:i < S.bx.length) (hv:(S.box i)[off]?=some v):w.cell? ⟨β i,off,none⟩=some v:=by
 have hb:S.bx[i]?=some (S.box i):=by simp[AS.box,hi]
 have hne:S.box i≠[]:=by intro e;rw[e] at hv;cases hv
 rw[(g.boxes i _ hb hne).cell];exact hv
theorem gF (b off k:Nat):(⟨b,off,none⟩:Addr).add k=⟨b,off+k,none⟩:=by
 unfold Addr.add;split<;>simp_all
theorem mh {P:Program} {T:TypeId} {m:Nat} (ht:tk P T=some (some m)) {w:World} {ad:Addr} {cs:List Value} (hl:cs.length=m)
  (hc:∀(j:Nat) (v:Value),cs[j]?=some v→w.cell? (ad.add j)=some v):(loadVar T ad).run P w=.ok (.agg cs.toArray) w:=by
 have:=tT ht w
 simp only[loadVar,Sem.run_bind,this.1,this.2,Result.andThen_ok,if_true]
 subst hl
 rw[run_loadCells_list _ _ _ hc]
 rfl
theorem mi {P:Program} {T:TypeId} (ht:tk P T=some none) {w:World} {ad:Addr} {v:Value} (hc:w.cell? ad=some v):
  (loadVar T ad).run P w=.ok v w:=by
 simp[loadVar,(wH ht w).1,hc]
def RdOk (M:Mach) (C:Ctx) (n:Nat) (S:AS) (h:PH) (β:Nat→Nat) (a:Act) (o:Oper) (k:AV→Prop):Prop:=
 ∃v x,(∀w',G M C n S h β a w'→(execOp a.eval o).run M.P w'=.ok (.value v) w')∧Conc β x v∧(∀i,x.ix=some i→i < S.bx.length)∧k x
theorem RdOk.mk_v {o:Oper} {k:AV→Prop} {v:Value} (hr:∀w',G M C n S h β a w'→(execOp a.eval o).run M.P w'=.ok (.value v) w') (hk:k (.v v)):RdOk M C n S h β a o k:=
 ⟨v,.v v,hr,.inr rfl,fun _ h=>(by cases h),hk⟩
theorem rd_load (g:G M C n S h β a w) {o:Oper} {T:TypeId} {x:Operand} (ho:o.op=.load T x) {k:AV→Prop} (hk:rdA M o.op S h k):RdOk M C n S h β a o k:=by
 rw[ho] at hk
 simp only[rdA] at hk
 split at hk
 ·rename_i i off hx
  obtain⟨t,ht,hk⟩:=opt_iff.1 hk
  obtain⟨v,hv,hk⟩:=opt_iff.1 hk
  have hi:i < S.bx.length:=g.wf_ev (by rw[hx];rfl)
  refine .mk_v (fun w' g'=>?_) hk
  simp only[execOp,ho,Instr.loadAt,Instr.sureAddr,g'.ev_p hx,Sem.run_bind,Sem.run_pure,Result.andThen_ok]
  cases t with
  |none=>rw[mi ht (g'.box_get hi hv)];rfl
  | some m=>
   simp only[ldb] at hv
   cases hb:Nat.ble (off+m) (S.box i).length with
   |false=>rw[hb] at hv;cases hv
   | true=>
    rw[hb] at hv
    cases hv
    have hle:off+m≤(S.box i).length:=Nat.le_of_ble_eq_true hb
    rw[mh (cs:=((S.box i).drop off).take m) ht (by simp;omega) (fun j v hj=>?_)]
    ·rfl
    ·rw[gF]
     refine g'.box_get hi ?_
     rw[List.getElem?_take] at hj
     split at hj
     ·rw[List.getElem?_drop] at hj;exact hj
     ·cases hj
 ·rename_i ad hx
  obtain⟨t,ht,hk⟩:=opt_iff.1 hk
  cases t with
  | none=>
   obtain⟨v,hv,hk⟩:=hk
   refine .mk_v (fun w' g'=>?_) hk
   simp only[execOp,ho,Instr.loadAt,Instr.sureAddr,g'.ev_v hx,Sem.run_bind,Sem.run_pure,Result.andThen_ok]
   rw[mi ht (g'.fine.has.cell hv)];rfl
  | some m=>
   obtain⟨cs,hl,hc,hk⟩:=hk
   refine .mk_v (fun w' g'=>?_) hk
   simp only[execOp,ho,Instr.loadAt,Instr.sureAddr,g'.ev_v hx,Sem.run_bind,Sem.run_pure,Result.andThen_ok]
   rw[mh ht hl (fun j v hj=>g'.fine.has.cell (hc j v hj))];rfl
 ·exact hk.elim
theorem IW {P:Program} {op:BinOp} {T:TypeId} {x y:Value} {k:Value→Prop} (hk:binA P op T (.v x) (.v y) k):
  ∃v,(∀w,(binOp op T x y).run P w=.ok v w)∧k v:=by
 unfold binA at hk
 split at hk
 ·rename_i hx hy
  cases hx;cases hy
  split at hk
  ·rename_i hop
   exact⟨_,fun w=>by simp[binOp,Op.shift,Int.not_lt.2 hk.1],hk.2⟩
  ·exact⟨_,fun w=>by simp[binOp,Op.shift,Int.not_lt.2 hk.1],hk.2⟩
  ·rename_i h1 h2
   obtain⟨rfl,hk⟩:=hk
   cases op<;>simp only[binI] at hk<;>first
    |exact hk.elim
    |exact(h1 rfl).elim
    |exact(h2 rfl).elim
    |exact⟨_,fun w=>by simp only[binOp];rw[if_neg (by simp)];rfl,hk⟩
    |exact⟨_,fun w=>by simp only[binOp];rw[if_neg (by simp)];simp only[Op.intDiv];rw[if_neg hk.1];rfl,hk.2⟩
 ·rename_i hx hy
  cases hx;cases hy
  split at hk
  ·exact⟨_,fun w=>run_eql_bool w T _ _ (H3 hk.1),hk.2⟩
  ·exact⟨_,fun w=>run_neq_bool w T _ _ (H3 hk.1),hk.2⟩
  ·exact hk.elim
 ·rename_i hx hy
  cases hx;cases hy
  split at hk
  ·obtain⟨e,he⟩:=oA hk.1
   exact⟨_,fun w=>Lib.run_eql_slice_nil w T e _ _ _ _ _ he,hk.2⟩
  ·obtain⟨e,he⟩:=oA hk.1
   exact⟨_,fun w=>run_neq_slice_nil_any w T e _ _ _ _ _ he,hk.2⟩
  ·exact hk.elim
 ·rename_i hx hy
  cases hx;cases hy
  split at hk
  ·exact⟨_,fun w=>by simp only[binOp];rfl,hk⟩
  ·exact⟨_,fun w=>by simp only[binOp];rfl,hk⟩
  ·exact⟨_,fun w=>by simp only[binOp,Op.stringOp];rw[if_neg (Int.not_lt.2 hk.1)];rfl,hk.2⟩
  ·exact⟨_,fun w=>by simp only[binOp];rfl,hk⟩
  ·exact hk.elim
 ·exact hk.elim
theorem Da {P:Program} {op:BinOp} {t:TypeId} {x y:Operand} {a b:Value} (h:a≠.nilIface) (h':∀cs,a≠.agg cs) (w:World):
  (eqGuard op t x y a b).run P w=.ok () w:=by
 cases op<;>cases a<;>first |rfl |exact(h rfl).elim |exact(h' _ rfl).elim
theorem rR {P:Program} {op:BinOp} {T:TypeId} {x y:AV} {k:Value→Prop} (hk:binA P op T x y k):
  ∃a b,x=.v a∧y=.v b∧a≠.nilIface∧∀cs,a≠.agg cs:=by
 unfold binA at hk
 split at hk<;>first
  |exact hk.elim
  |exact⟨_,_,rfl,rfl,by simp,by simp⟩
theorem rd_bin (_g:G M C n S h β a w) {o:Oper} {op:BinOp} {T T':TypeId} {x y:Operand} (ho:o.op=.binOp op T x y T') {k:AV→Prop} (hk:rdA M o.op S h k):RdOk M C n S h β a o k:=by
 rw[ho] at hk
 simp only[rdA] at hk
 obtain⟨u,v,hx,hy,h1,h2⟩:=rR hk
 rw[hx,hy] at hk
 obtain⟨r,hr,hk⟩:=IW hk
 refine .mk_v (fun w' g'=>?_) hk
 simp only[execOp,ho,g'.ev_v hx,g'.ev_v hy,Sem.run_bind,Da h1 h2,hr,Result.andThen_ok,Sem.run_pure]
theorem zR (g:G M C n S h β a w) {o:Oper} {x:Operand} (ho:o.op=.move x∨o.op=.assign x) {k:AV→Prop} (hk:rdA M o.op S h k):RdOk M C n S h β a o k:=by
 have hk':k (S.ev x):=by rcases ho with ho |ho<;>(rw[ho] at hk;exact hk)
 refine⟨a.eval x,S.ev x,fun w' _=>by rcases ho with ho |ho<;>simp[execOp,ho],?_,fun i hi=>g.wf_ev hi,hk'⟩
 rcases Classical.em (S.ev x=.top) with ht |ht
 ·exact .inl ht
 ·exact .inr (g.ev ht)
theorem rd_pick (g:G M C n S h β a w) {o:Oper} {c x y:Operand} (ho:o.op=.pick c x y) {k:AV→Prop} (hk:rdA M o.op S h k):RdOk M C n S h β a o k:=by
 rw[ho] at hk
 simp only[rdA] at hk
 split at hk
 ·rename_i t hc
  refine⟨if t then a.eval x else a.eval y,_,fun w' g'=>by cases t<;>simp[execOp,ho,g'.ev_v hc,asBool],?_,?_,hk⟩
  ·cases t
   ·rcases Classical.em (S.ev y=.top) with ht |ht
    ·exact .inl ht
    ·exact .inr (g.ev ht)
   ·rcases Classical.em (S.ev x=.top) with ht |ht
    ·exact .inl ht
    ·exact .inr (g.ev ht)
  ·intro i hi
   cases t
   ·exact g.wf_ev hi
   ·exact g.wf_ev hi
 ·exact hk.elim
theorem rd_un (_g:G M C n S h β a w) {o:Oper} {op:UnOp} {T:TypeId} {x:Operand} (ho:o.op=.unOp op T x) {k:AV→Prop} (hk:rdA M o.op S h k):RdOk M C n S h β a o k:=by
 rw[ho] at hk
 simp only[rdA] at hk
 split at hk
 ·rename_i b hx
  exact .mk_v (fun w' g'=>by simp[execOp,ho,g'.ev_v hx,Op.unary]) hk
 ·rename_i K z hx
  exact .mk_v (fun w' g'=>by simp only[execOp,ho,g'.ev_v hx,Op.unary,Op.intArith,Sem.run_bind,Sem.run_pure,Result.andThen_ok]) hk
 ·exact hk.elim
theorem rd_conv (_g:G M C n S h β a w) {o:Oper} {T T':TypeId} {x:Operand} (ho:o.op=.convert T T' x) {k:AV→Prop} (hk:rdA M o.op S h k):RdOk M C n S h β a o k:=by
 rw[ho] at hk
 simp only[rdA] at hk
 split at hk
 ·rename_i K0 K K1 z hs hd hx
  refine .mk_v (fun w' g'=>?_) hk
  simp only[execOp,ho,g'.ev_v hx,convert,Sem.run_bind,run_underlying (uk_int hs),run_underlying (uk_int hd),Result.andThen_ok]
  rfl
 ·exact hk.elim
theorem GU {P:Program} {T:TypeId} {f k:Nat} (hf:fo P T f=some k) (ad:Addr) (w:World):(Instr.fieldAt T (.pointer (some ad)) f).run P w=.ok (.pointer (some (ad.add k))) w:=by
 unfold fo at hf
 split at hf
 ·rename_i fields hu
  split at hf
  ·rename_i fl hfl
   split at hf
   ·rename_i i hi
    split at hf
    ·cases hf
    ·rename_i hne
     cases hf
     simp[Instr.fieldAt,run_underlying hu,hfl,Instr.sureAddr,fieldPlace,tO hi,hne]
   ·cases hf
  ·cases hf
 ·cases hf
theorem By (g:G M C n S h β a w) {o:Oper} {T:TypeId} {x:Operand} {f:Nat} (ho:o.op=.fieldAddr T x f) {k:AV→Prop} (hk:rdA M o.op S h k):RdOk M C n S h β a o k:=by
 rw[ho] at hk
 simp only[rdA] at hk
 obtain⟨q,hq,hk⟩:=opt_iff.1 hk
 split at hk
 ·rename_i i off hx
  refine⟨_,.p i (off+q),fun w' g'=>?_,.inr rfl,fun j hj=>g.wf_ev (x:=x) (by rw[hx];exact hj),hk⟩
  simp only[execOp,ho,g'.ev_p hx,Sem.run_bind,GU hq,gF,Result.andThen_ok,Sem.run_pure,cv]
 ·rename_i ad hx
  refine .mk_v (fun w' g'=>?_) hk
  simp only[execOp,ho,g'.ev_v hx,Sem.run_bind,GU hq,Result.andThen_ok,Sem.run_pure]
 ·exact hk.elim
theorem DN {P:Program} {T:TypeId} {t:Option Nat} (ht:tk P T=some t) {cs:Array Value} {off:Nat} {v:Value} (hv:ldb t cs.toList off=some v) (w:World):
  (part T cs off).run P w=.ok v w:=by
 cases t with
 | none=>
  simp only[ldb] at hv
  have hv':cs[off]?=some v:=by simpa using hv
  simp[part,(wH ht w).1,hv']
 | some m=>
  simp only[ldb] at hv
  cases hb:Nat.ble (off+m) cs.toList.length with
  |false=>rw[hb] at hv;cases hv
  | true=>
   rw[hb] at hv
   cases hv
   simp only[part,(tT ht w).1,(tT ht w).2,Sem.run_bind,Result.andThen_ok,if_true,Sem.run_pure]
   congr 2
   apply Array.ext'
   simp[List.extract_eq_take_drop]
theorem rd_field (_g:G M C n S h β a w) {o:Oper} {T:TypeId} {x:Operand} {f:Nat} (ho:o.op=.field T x f) {k:AV→Prop} (hk:rdA M o.op S h k):RdOk M C n S h β a o k:=by
 rw[ho] at hk
 simp only[rdA] at hk
 split at hk
 ·rename_i cs hx
  obtain⟨⟨q,t⟩,hq,hk⟩:=opt_iff.1 hk
  obtain⟨v,hv,hk⟩:=opt_iff.1 hk
  refine .mk_v (fun w' g'=>?_) hk
  unfold fpl at hq
  split at hq
  ·rename_i fields hu
   split at hq
   ·rename_i fl hfl
    cases htk:tk M.P fl.type with
    |none=>rw[htk] at hq;cases hq
    | some t'=>
     rw[htk] at hq;cases hq
     simp only[execOp,ho,g'.ev_v hx,Instr.field,Sem.run_bind,run_underlying hu,Result.andThen_ok,hfl,asAgg,Sem.run_pure,DN htk hv]
   ·cases hq
  ·cases hq
 ·exact hk.elim
theorem qJ {P:Program} {T:TypeId} {e:Nat} (he:esz P T=some e) (hu:uk P T=.slice):∃E,P.underlying T=some (.slice E)∧∀w,(sizeOf E).run P w=.ok e w:=by
 obtain⟨E,hE⟩:=oA hu
 refine⟨E,hE,fun w=>?_⟩
 simp only[esz,hE] at he
 cases hi:P.info? E with
 |none=>rw[hi] at he;cases he
 |some i=>rw[hi] at he;cases he;exact tO hi w
theorem uD {P:Program} {T:TypeId} {e m:Nat} (he:esz P T=some e) (hu:alen P T=some m):∃E,P.underlying T=some (.array m E)∧∀w,(sizeOf E).run P w=.ok e w:=by
 unfold alen at hu
 split at hu
 ·rename_i m' E hE
  cases hu
  refine⟨E,hE,fun w=>?_⟩
  simp only[esz,hE] at he
  cases hi:P.info? E with
  |none=>rw[hi] at he;cases he
  |some i=>rw[hi] at he;cases he;exact tO hi w
 ·cases hu
theorem Bz (g:G M C n S h β a w) {o:Oper} {T:TypeId} {x i:Operand} (ho:o.op=.indexAddr T x i) {k:AV→Prop} (hk:rdA M o.op S h k):RdOk M C n S h β a o k:=by
 rw[ho] at hk
 simp only[rdA] at hk
 obtain⟨e,he,hk⟩:=opt_iff.1 hk
 split at hk
 ·rename_i b len cap K j hx hi
  obtain⟨hu,ad,rfl,h0,h1,hk⟩:=hk
  obtain⟨E,hE,hs⟩:=qJ he hu
  refine .mk_v (fun w' g'=>?_) hk
  simp[execOp,ho,g'.ev_v hx,g'.ev_v hi,Instr.indexAt,asIntOf,run_underlying hE,h0,h1,hs]
 ·rename_i b off len cap K j hx hi
  obtain⟨hu,h0,h1,hk⟩:=hk
  obtain⟨E,hE,hs⟩:=qJ he hu
  refine⟨_,.p b (off+j.toNat*e),fun w' g'=>?_,.inr rfl,fun q hq=>g.wf_ev (x:=x) (by rw[hx];exact hq),hk⟩
  simp[execOp,ho,g'.ev_s hx,g'.ev_v hi,Instr.indexAt,asIntOf,run_underlying hE,h0,h1,hs,gF,cv]
 ·rename_i b off K j hx hi
  obtain⟨m,hm,hk⟩:=opt_iff.1 hk
  obtain⟨h0,h1,hk⟩:=hk
  obtain⟨E,hE,hs⟩:=uD he hm
  refine⟨_,.p b (off+j.toNat*e),fun w' g'=>?_,.inr rfl,fun q hq=>g.wf_ev (x:=x) (by rw[hx];exact hq),hk⟩
  simp[execOp,ho,g'.ev_p hx,g'.ev_v hi,Instr.indexAt,asIntOf,run_underlying hE,h0,h1,hs,gF,cv,Instr.sureAddr]
 ·rename_i ad K j hx hi
  obtain⟨m,hm,hk⟩:=opt_iff.1 hk
  obtain⟨h0,h1,hk⟩:=hk
  obtain⟨E,hE,hs⟩:=uD he hm
  refine .mk_v (fun w' g'=>?_) hk
  simp[execOp,ho,g'.ev_v hx,g'.ev_v hi,Instr.indexAt,asIntOf,run_underlying hE,h0,h1,hs,Instr.sureAddr]
 ·exact hk.elim
theorem rd_index (_g:G M C n S h β a w) {o:Oper} {T:TypeId} {x i:Operand} (ho:o.op=.index T x i) {k:AV→Prop} (hk:rdA M o.op S h k):RdOk M C n S h β a o k:=by
 rw[ho] at hk
 simp only[rdA] at hk
 split at hk
 ·rename_i cs K j hx hi
  obtain⟨m,hm,hk⟩:=opt_iff.1 hk
  obtain⟨e,he,hk⟩:=opt_iff.1 hk
  obtain⟨t,ht,hk⟩:=opt_iff.1 hk
  obtain⟨h0,h1,hk⟩:=hk
  obtain⟨v,hv,hk⟩:=opt_iff.1 hk
  obtain⟨E,hE,hs⟩:=uD he hm
  have htk:tk M.P E=some t:=by simpa[etk,hE] using ht
  refine .mk_v (fun w' g'=>?_) hk
  simp[execOp,ho,g'.ev_v hx,g'.ev_v hi,Instr.index,asIntOf,run_underlying hE,h0,h1,hs,DN htk hv]
 ·rename_i s K j hx hi
  obtain⟨hu,h0,b,hb,hk⟩:=hk
  refine .mk_v (fun w' g'=>?_) hk
  simp[execOp,ho,g'.ev_v hx,g'.ev_v hi,Instr.index,asIntOf,run_underlying (Ac hu),h0,hb]
 ·exact hk.elim
theorem FM (_g:G M C n S h β a w) {o:Oper} {x:Operand} {i:Nat} (ho:o.op=.extract x i) {k:AV→Prop} (hk:rdA M o.op S h k):RdOk M C n S h β a o k:=by
 rw[ho] at hk
 simp only[rdA] at hk
 split at hk
 ·rename_i vs hx
  obtain⟨v,hv,hk⟩:=opt_iff.1 hk
  have hv':vs[i]?=some v:=by simpa using hv
  refine .mk_v (fun w' g'=>?_) hk
  simp[execOp,ho,g'.ev_v hx,Instr.extract,hv']
 ·exact hk.elim
theorem J4 (g:G M C n S h β a w):∀(l:List Operand) (vs:List Value),vals (l.map S.ev)=some vs→l.map a.eval=vs:=by
 intro l
 induction l with
 |nil=>intro vs hv;cases hv;rfl
 | cons x l ih=>
  intro vs hv
  simp only[List.map_cons] at hv ⊢
  cases hx:S.ev x with
  | v u=>
   rw[hx] at hv
   simp only[vals] at hv
   split at hv
   ·rename_i vs' hvs
    cases hv
    rw[g.ev_v hx,ih _ hvs]
   ·cases hv
  |_=>rw[hx] at hv;cases hv
theorem sw (g:G M C n S h β a w) {l:Array Operand} {vs:List Value} (hv:vals (l.toList.map S.ev)=some vs):l.map a.eval=vs.toArray:=by
 have:=J4 g _ _ hv
 apply Array.ext'
 simp[this]
theorem rd_iface (_g:G M C n S h β a w) {o:Oper} {T:TypeId} {x:Operand} (ho:o.op=.makeInterface T x) {k:AV→Prop} (hk:rdA M o.op S h k):RdOk M C n S h β a o k:=by
 rw[ho] at hk
 simp only[rdA] at hk
 split at hk
 ·rename_i v hx
  exact .mk_v (fun w' g'=>by simp[execOp,ho,g'.ev_v hx,run_makeInterface _ T v hk.1]) hk.2
 ·exact hk.elim
theorem rd_func (_g:G M C n S h β a w) {o:Oper} {fn:Fn} {x y:Array Operand} (ho:o.op=.makeFunc fn x y) {k:AV→Prop} (hk:rdA M o.op S h k):RdOk M C n S h β a o k:=by
 rw[ho] at hk
 simp only[rdA] at hk
 obtain⟨fs,hf,hk⟩:=opt_iff.1 hk
 obtain⟨cs,hc,hk⟩:=opt_iff.1 hk
 exact .mk_v (fun w' g'=>by simp[execOp,ho,Instr.makeFunc,sw g' hf,sw g' hc]) hk
theorem rd_len (_g:G M C n S h β a w) {o:Oper} {args:Array Operand} {ts:Array TypeId} (ho:o.op=.call {callee:=.builtin .len,args,argTypes:=ts}) {k:AV→Prop} (hk:rdA M o.op S h k):RdOk M C n S h β a o k:=by
 rw[ho] at hk
 simp only[rdA] at hk
 split at hk
 ·rename_i x T hargs hts
  obtain rfl:args=#[x]:=by apply Array.ext';simpa using hargs
  obtain rfl:ts=#[T]:=by apply Array.ext';simpa using hts
  obtain⟨v,hv,hk⟩:=opt_iff.1 hk
  refine .mk_v (fun w' g'=>?_) hk
  unfold lenA at hv
  split at hv
  ·rename_i hu hx
   cases hv
   obtain⟨E,hE⟩:=oA hu
   simp[execOp,ho,resolve,invoke,builtin,g'.ev_v hx,Builtin.len_,run_underlying hE,goInt]
  ·rename_i hu hx
   cases hv
   obtain⟨E,hE⟩:=oA hu
   simp[execOp,ho,resolve,invoke,builtin,g'.ev_s hx,Builtin.len_,run_underlying hE,goInt]
  ·rename_i hu hx
   cases hv
   simp[execOp,ho,resolve,invoke,builtin,g'.ev_v hx,Builtin.len_,run_underlying (Ac hu),goInt]
  ·rename_i hu
   cases hv
   obtain⟨E,hE⟩:=D9 hu
   simp[execOp,ho,resolve,invoke,builtin,Builtin.len_,run_underlying hE,goInt]
  ·cases hv
 ·exact hk.elim
theorem rd_min (_g:G M C n S h β a w) {o:Oper} {args:Array Operand} {ts:Array TypeId} (ho:o.op=.call {callee:=.builtin .min,args,argTypes:=ts}) {k:AV→Prop} (hk:rdA M o.op S h k):RdOk M C n S h β a o k:=by
 rw[ho] at hk
 simp only[rdA] at hk
 split at hk
 ·rename_i x y hargs
  obtain rfl:args=#[x,y]:=by apply Array.ext';simpa using hargs
  split at hk
  ·rename_i K p K' q hx hy
   refine .mk_v (fun w' g'=>?_) hk
   simp[execOp,ho,resolve,invoke,builtin,g'.ev_v hx,g'.ev_v hy,run_min_int2]
  ·exact hk.elim
 ·exact hk.elim
theorem rd_max (_g:G M C n S h β a w) {o:Oper} {args:Array Operand} {ts:Array TypeId} (ho:o.op=.call {callee:=.builtin .max,args,argTypes:=ts}) {k:AV→Prop} (hk:rdA M o.op S h k):RdOk M C n S h β a o k:=by
 rw[ho] at hk
 simp only[rdA] at hk
 split at hk
 ·rename_i x y hargs
  obtain rfl:args=#[x,y]:=by apply Array.ext';simpa using hargs
  split at hk
  ·rename_i K p K' q hx hy
   refine .mk_v (fun w' g'=>?_) hk
   simp[execOp,ho,resolve,invoke,builtin,g'.ev_v hx,g'.ev_v hy,run_max_int2]
  ·exact hk.elim
 ·exact hk.elim
end
open Go.RowKit (Below)
section
variable {M:Mach} {C:Ctx} {n:Nat} {S:AS} {h:PH} {β:Nat→Nat} {a:Act} {w:World}
theorem EV {P:Program} {len cap:Nat} {lo hi:Option Value} {l u:Int} (hl:lo=none∧l=0∨∃K,lo=some (.int K l))
  (hu:hi=none∧u=len∨∃K,hi=some (.int K u)) (h0:0≤l) (h1:l≤u) (h2:u≤cap) (w:World):
  (Instr.sliceBounds true len cap lo hi none).run P w=.ok (l.toNat,u.toNat,cap) w:=by
 have hun:((u.toNat:Nat):Int)=u:=by omega
 have hb:∀(K:IntKind) (i:Int) (y:Nat) (c:BoundsCode),0≤i→i≤y→(Instr.sliceBound (.int K i) y c).run P w=.ok i.toNat w:=fun K i y c h h'=>by
  simp[Instr.sliceBound,asIntOf,h,h']
 rcases hl with⟨rfl,rfl⟩ |⟨K,rfl⟩<;>rcases hu with⟨rfl,rfl⟩ |⟨K',rfl⟩<;>simp only[Instr.sliceBounds,Sem.run_bind,Sem.run_pure,Result.andThen_ok]
 ·rfl
 ·rw[hb _ _ _ _ (by omega) h2];rfl
 ·rw[hb _ _ _ _ h0 h1];rfl
 ·rw[hb _ _ _ _ (by omega) h2]
  simp only[Result.andThen_ok]
  rw[hb _ _ _ _ h0 (by omega)]
  rfl
theorem vL {P:Program} {T E:TypeId} (hE:P.underlying T=some (.slice E)) {e:Nat} (hs:∀w,(sizeOf E).run P w=.ok e w) {ad:Option Addr} {len cap:Nat} {lo hi:Option Value} {l u:Int} (hl:lo=none∧l=0∨∃K,lo=some (.int K l))
  (hu:hi=none∧u=len∨∃K,hi=some (.int K u)) (h0:0≤l) (h1:l≤u) (h2:u≤cap) (w:World):
  (Instr.sliceAt T (.slice ad len cap) lo hi none).run P w=.ok (.slice (if cap=l.toNat then ad else ad.map (·.add (l.toNat*e))) (u.toNat - l.toNat) (cap - l.toNat)) w:=by
 simp only[Instr.sliceAt,Instr.slice,Sem.run_bind,run_underlying hE,Result.andThen_ok,EV hl hu h0 h1 h2,hs,Sem.run_pure]
theorem low_of {lo:Option Operand} {l:Int} (g:G M C n S h β a w) (hl:lowA (lo.map S.ev)=some l):lo.map a.eval=none∧l=0∨∃K,lo.map a.eval=some (.int K l):=by
 cases lo with
 |none=>simp[lowA] at hl;exact .inl ⟨rfl,hl.symm⟩
 | some x=>
  simp only[Option.map_some] at hl ⊢
  unfold lowA at hl
  split at hl
  ·rename_i h;cases h
  ·rename_i K i hx
   cases hl
   exact .inr ⟨K,by rw[g.ev_v (Option.some.inj hx)]⟩
  ·cases hl
theorem G2 {len:Nat} {hi:Option Operand} {u:Int} (g:G M C n S h β a w) (hl:highA len (hi.map S.ev)=some u):hi.map a.eval=none∧u=len∨∃K,hi.map a.eval=some (.int K u):=by
 cases hi with
 |none=>simp[highA] at hl;exact .inl ⟨rfl,hl.symm⟩
 | some x=>
  simp only[Option.map_some] at hl ⊢
  unfold highA at hl
  split at hl
  ·rename_i h;cases h
  ·rename_i K i hx
   cases hl
   exact .inr ⟨K,by rw[g.ev_v (Option.some.inj hx)]⟩
  ·cases hl
theorem rd_slice (_g:G M C n S h β a w) {o:Oper} {T:TypeId} {x:Operand} {lo hi mx:Option Operand} (ho:o.op=.slice T x lo hi mx) {k:AV→Prop} (hk:rdA M o.op S h k):RdOk M C n S h β a o k:=by
 rw[ho] at hk
 cases mx with
 |some m=>simp[rdA] at hk
 | none=>
  simp only[rdA] at hk
  split at hk
  ·rename_i ad len cap hx
   obtain⟨hu,hk⟩:=hk
   obtain⟨e,he,hk⟩:=opt_iff.1 hk
   obtain⟨l,hl,hk⟩:=opt_iff.1 hk
   obtain⟨u,hh,hk⟩:=opt_iff.1 hk
   obtain⟨h0,h1,h2,hk⟩:=hk
   obtain⟨E,hE,hs⟩:=qJ he hu
   refine .mk_v (fun w' g'=>?_) hk
   simp only[execOp,ho,g'.ev_v hx,Option.map_none,Sem.run_bind]
   rw[vL hE hs (low_of g' hl) (G2 g' hh) h0 h1 h2]
   rfl
  ·rename_i b off len cap hx
   obtain⟨hu,hk⟩:=hk
   obtain⟨e,he,hk⟩:=opt_iff.1 hk
   obtain⟨l,hl,hk⟩:=opt_iff.1 hk
   obtain⟨u,hh,hk⟩:=opt_iff.1 hk
   obtain⟨h0,h1,h2,hk⟩:=hk
   obtain⟨E,hE,hs⟩:=qJ he hu
   refine⟨_,_,fun w' g'=>?_,.inr rfl,fun q hq=>_g.wf_ev (x:=x) (by rw[hx];exact hq),hk⟩
   simp only[execOp,ho,g'.ev_s hx,Option.map_none,Sem.run_bind]
   rw[vL hE hs (low_of g' hl) (G2 g' hh) h0 h1 h2]
   simp only[cv,Result.andThen_ok,Sem.run_pure]
   split<;>simp[gF]
  ·exact hk.elim
theorem Jf:∀(vs:List Value) (cs:Array Value) (off i:Nat),(vs.zipIdx i).foldl (fun(cs:Array Value) (p:Value×Nat)=>cs.setIfInBounds (off+p.2) p.1) cs=(spl cs.toList (off+i) vs).toArray:=by
 intro vs
 induction vs with
 |nil=>intro cs off i;simp[spl]
 | cons v vs ih=>
  intro cs off i
  rw[List.zipIdx_cons,List.foldl_cons,ih]
  simp[spl,Nat.add_assoc]
theorem sm:∀(vs cs:List Value) (off:Nat),(spl cs off vs).length=cs.length:=by
 intro vs
 induction vs with
 |nil=>intro cs off;rfl
 |cons v vs ih=>intro cs off;simp[spl,ih]
theorem uF {t:Option Nat} {v:Value} {vs:List Value} (hf:fits t v=some vs):v.cells=vs.toArray∧vs.length=bT t:=by
 cases t with
 | none=>
  cases v<;>simp only[fits] at hf<;>first |(cases hf;done) |(cases hf;exact⟨rfl,rfl⟩)
 | some m=>
  cases v<;>simp only[fits] at hf<;>first
   |(cases hf;done)
   |(cases hb:(Array.toList _ == m) with |_=>simp at hf)
   |skip
  rename_i cs
  cases hb:(cs.toList.length == m) with
  |false=>rw[hb] at hf;cases hf
  | true=>
   rw[hb] at hf
   cases hf
   exact⟨by simp[Value.cells],by simpa[bT] using hb⟩
theorem vZ (g :G M C n S h β a w) {place:Nat→Option (Nat×Option Nat)} {place':Nat→Option (Nat×Nat)} (hp:∀i off t,place i=some (off,t)→place' i=some (off,bT t)):
    ∀ (parts:List (Nat×Operand)) (cs r:List Value),fillA place cs (parts.map fun p=>(p.1,S.ev p.2))=some r→
      Instr.fill place' cs.toArray (parts.map fun p=>(p.1,a.eval p.2))=some r.toArray:=by
  intro parts
  induction parts with
  |nil=>intro cs r hr;cases hr;rfl
  | cons p parts ih=>
    intro cs r hr
    obtain⟨i,x⟩:=p
    simp only[List.map_cons] at hr ⊢
    cases hx:S.ev x with
    | v v =>
      rw[hx] at hr
      simp only[fillA] at hr
      split at hr
      · rename_i off t hpl
        split at hr
        · rename_i vs hvs
          obtain⟨hc,hl⟩:=uF hvs
          cases hb:Nat.ble (off+vs.length) cs.length with
          |false=>rw[hb] at hr;cases hr
          | true=>
            rw[hb] at hr
            have hle:=Nat.le_of_ble_eq_true hb
            simp only[Instr.fill,hp i off t hpl,g.ev_v hx,hc]
            rw[if_neg (by simp[hl];omega)]
            have hsz:(vs.toArray.zipIdx.foldl (fun(cs:Array Value) (p:Value×Nat)=>cs.setIfInBounds (off+p.2) p.1) cs.toArray)=(spl cs off vs).toArray:=by
              rw[←Array.foldl_toList]
              have:=Jf vs cs.toArray off 0
              simpa using this
            have:=ih (spl cs off vs) r hr
            rw[←this]
            congr 1
        · cases hr
      · cases hr
    |_=>rw[hx] at hr;simp[fillA] at hr
theorem uc {P:Program} {T:TypeId} {z:List Value} (hz:zer P T=some z) (w:World):∃v,(zeroValue T).run P w=.ok v w∧v.cells=z.toArray:=by
 unfold zer at hz
 cases hi:P.info? T with
 |none=>rw[hi] at hz;cases hz
 | some i=>
  rw[hi] at hz
  simp only[Option.bind_some] at hz
  cases hv:i.zero with
  |none=>rw[hv] at hz;cases hz
  | some v=>
   rw[hv] at hz
   cases hz
   exact⟨v,by simp[zeroValue,typeInfo,hi,hv],by simp⟩
theorem Ds {P:Program}:∀(fs:List Field) (pl:List (Nat×Option Nat)),(fs.mapM fun fl=>(tk P fl.type).map fun t=>(fl.offset,t))=some pl→
  ∀w,(fs.mapM (m:=Sem) fun f=>do pure (f.offset,←sizeOf f.type)).run P w=.ok (pl.map fun p=>(p.1,bT p.2)) w:=by
 intro fs
 induction fs with
 |nil=>intro pl hpl w;simp at hpl;subst hpl;rfl
 | cons f fs ih=>
  intro pl hpl w
  rw[List.mapM_cons] at hpl
  cases ht:tk P f.type with
  |none=>rw[ht] at hpl;simp at hpl
  | some t=>
   rw[ht] at hpl
   cases hr:(fs.mapM fun fl=>(tk P fl.type).map fun t=>(fl.offset,t)) with
   |none=>rw[hr] at hpl;simp at hpl
   | some pl'=>
    rw[hr] at hpl
    simp at hpl
    subst hpl
    rw[List.mapM_cons]
    have hsz:(sizeOf f.type).run P w=.ok (bT t) w:=by
     cases t with
     |none=>exact(wH ht w).2
     |some m=>exact(tT ht w).2
    simp only[Sem.run_bind,hsz,Result.andThen_ok,Sem.run_pure,ih _ hr w,List.map_cons]
theorem rd_build (_g:G M C n S h β a w) {o:Oper} {T:TypeId} {parts:Array (Nat×Operand)} (ho:o.op=.build T parts) {k:AV→Prop} (hk:rdA M o.op S h k):RdOk M C n S h β a o k:=by
 rw[ho] at hk
 simp only[rdA] at hk
 obtain⟨cs,hcs,hk⟩:=opt_iff.1 hk
 refine .mk_v (fun w' g'=>?_) hk
 have hparts:(parts.map fun(i,x)=>(i,a.eval x)).toList=parts.toList.map fun p=>(p.1,a.eval p.2):=by simp
 unfold EW at hcs
 split at hcs
 ·rename_i z hz hu
  obtain⟨v,hv,hvc⟩:=uc hz w'
  obtain⟨fs,hfs⟩:=J3 hu
  split at hcs
  ·rename_i pl hpl
   simp only[fpls,hfs] at hpl
   have hm:=Ds fs.toList pl hpl w'
   have hfill:=vZ (place':=fun i=>(pl.map fun p=>(p.1,bT p.2)).toArray[i]?) g' (fun i off t hp=>by simp[hp]) parts.toList z cs hcs
   simp only[execOp,ho,Instr.build,Sem.run_bind,hv,Result.andThen_ok,run_underlying hfs]
   rw[←Array.toArray_toList (xs:=fs),List.mapM_toArray,Sem.run_map]
   simp only[hm,Result.andThen_ok,hparts,hvc]
   have hf2:Instr.fill (fun x=>(List.map (fun p:Nat×Option Nat=>(p.1,bT p.2)) pl).toArray[x]?) z.toArray (List.map (fun p=>(p.1,a.eval p.2)) parts.toList)=some cs.toArray:=hfill
   rw[hf2]
   rfl
  ·cases hcs
 ·rename_i z m hz hu
  obtain⟨v,hv,hvc⟩:=uc hz w'
  obtain⟨E,hE⟩:=D9 hu
  split at hcs
  ·rename_i e t he ht
   cases hb:(e == bT t) with
   |false=>rw[hb] at hcs;cases hcs
   | true=>
    rw[hb] at hcs
    obtain rfl:e=bT t:=by simpa using hb
    have hs:(sizeOf E).run M.P w'=.ok (bT t) w':=by
     simp only[esz,hE] at he
     cases hi:M.P.info? E with
     |none=>rw[hi] at he;cases he
     |some i=>rw[hi] at he;simp at he;rw[←he];exact tO hi w'
    have hfill:=vZ (place':=fun i=>some (i*bT t,bT t)) g' (fun i off t' hp=>by cases hp;rfl) parts.toList z cs hcs
    simp only[execOp,ho,Instr.build,Sem.run_bind,hv,Result.andThen_ok,run_underlying hE,hs,hparts,hvc,hfill,Sem.run_pure]
  ·cases hcs
 ·cases hcs
theorem yq (g:G M C n S h β a w) {o:Oper} {k:AV→Prop} (hk:rdA M o.op S h k):RdOk M C n S h β a o k:=by
 cases ho:o.op with
 |move x=>exact zR g (.inl ho) hk
 |assign x=>exact zR g (.inr ho) hk
 |pick c x y=>exact rd_pick g ho hk
 |load T x=>exact rd_load g ho hk
 |binOp op T x y T'=>exact rd_bin g ho hk
 |unOp op T x=>exact rd_un g ho hk
 |convert T T' x=>exact rd_conv g ho hk
 |fieldAddr T x f=>exact By g ho hk
 |field T x f=>exact rd_field g ho hk
 |indexAddr T x i=>exact Bz g ho hk
 |index T x i=>exact rd_index g ho hk
 |extract x i=>exact FM g ho hk
 |slice T x lo hi mx=>exact rd_slice g ho hk
 |makeInterface T x=>exact rd_iface g ho hk
 |makeFunc fn x y=>exact rd_func g ho hk
 |build T parts=>exact rd_build g ho hk
 | call c=>
  obtain⟨callee,args,ts⟩:=c
  cases callee with
  | builtin b=>
   cases b<;>first
    |exact rd_len g ho hk
    |exact rd_min g ho hk
    |exact rd_max g ho hk
    |(rw[ho] at hk;exact hk.elim)
  |_=>rw[ho] at hk;exact hk.elim
 |_=>rw[ho] at hk;exact hk.elim
end
end Go.Q
