/-
  Whole bodies on abstract states: regions, sequences, tests, loops, the making shared of a row, and a function's contract out of its body. Conditions: none beyond each rule's own.
  The program of this seat, and what its one listed variable holds. Conditions: none.
  The closed facts on the type table that the walks use, written by a program out of the translation. Conditions: none.
  Natural numbers as lists of digits, and slices that hold them. Conditions: none beyond each lemma's own.
-/
import Derived.Test.YtclajmpjcojhaaaGreatDoorK39ce79PkB
import Derived.Deep.LoopGhost
import Derived.Test.YtclajmpjcojhaaaGreatDoorProg
set_option linter.unusedVariables false
set_option linter.unusedSimpArgs false
namespace Go.Q
open Go.RowKit (Below)
structure GOp where
  dst:Option Nat
  op:Op
  guard:Option (Nat×Bool)
inductive PL where
  |o (i:Nat)
  |p (i:Nat)
inductive GX where
  |o (g:GOp)
  |p (i:Nat)
def nth:List Oper→Nat→Option Oper
  |[],_=>none
  |x :: _,0=>some x
  |_ :: l,i+1=>nth l i
theorem nth_eq:∀(l:List Oper) (i:Nat),nth l i=l[i]?
  |[],i=>by simp[nth]
  |x :: l,0=>by simp[nth]
  |x :: l,i+1=>by simp[nth,nth_eq l i]
theorem nth_arr (ops:Array Oper) (i:Nat):nth ops.toList i=ops[i]?:=by rw[nth_eq];simp
def gOf (ops:Array Oper) (o:Oper):Option (Option (Nat×Bool)):=match o.guard with
  |none=>some none
  | some (j,want)=>match (nth ops.toList j).bind (·.dst) with
    |some t=>some (some (t,want))
    |none=>none
def prep (n:Nat) (ops:Array Oper):List PL→Option (List GX)
  |[]=>some []
  | .p i :: c=>match prep n ops c with
    |some l=>some (.p i :: l)
    |none=>none
  | .o i :: c=>match nth ops.toList i with
    | some o=>match gOf ops o with
      | some g=>bif o.dst.all (Nat.blt · n) then (match prep n ops c with
        |some l=>some (.o ⟨o.dst,o.op,g⟩ :: l)
        |none=>none) else none
      |none=>none
    |none=>none
def order:List PL→List Nat
  |[]=>[]
  |.p _ :: c=>order c
  |.o i :: c=>i :: order c
def plain (n:Nat):List PL:=(List.range n).map .o
@[go_sem] def pubV (i b:Nat):AV→AV
  |.p j off=>bif j == i then .v (.pointer (some ⟨b,off,none⟩)) else .p j off
  |.s j off len cap=>bif j == i then .v (.slice (some ⟨b,off,none⟩) len cap) else .s j off len cap
  |x=>x
@[go_sem] def pubL (i b:Nat):List (Nat×AV)→List (Nat×AV)
  |[]=>[]
  |(k,x) :: l=>(k,pubV i b x) :: pubL i b l
@[go_sem] def AS.pub (S:AS) (i b:Nat):AS:=⟨pubL i b S.sl,S.bx.set i []⟩
@[go_sem] def pubA (S:AS) (h:PH) (i:Nat) (k:AS→PH→Prop):Prop:=
  i < S.bx.length∧∀b h',Step h h'→(S.box i≠[]→h' b=some (S.box i).toArray)→k (S.pub i b) h'
@[go_sem] def step1 (M:Mach) (E:List PanicEntry→PH→Prop) (g:GOp) (K:AS→PH→Prop) (S:AS) (h:PH):Prop:=
  bif cls g.op == 0 then rdA M g.op S h (fun x=>K (S.put g.dst x) h) else imA M g.op S h E (fun S' h' x=>K (S'.put g.dst x) h')
def walk (M:Mach) (E:List PanicEntry→PH→Prop):List GX→(AS→PH→Prop)→AS→PH→Prop
  |[],K,S,h=>K S h
  |.p i :: l,K,S,h=>pubA S h i (walk M E l K)
  | .o g :: l,K,S,h=>match g.guard with
    |none=>step1 M E g (walk M E l K) S h
    | some (t,want)=>match lk S.sl t with
      |.v (.bool b)=>(b=want→step1 M E g (walk M E l K) S h)∧(b=(!want)→walk M E l K (S.put g.dst (.v undef)) h)
      |.v (.tuple _)=>walk M E l K (S.put g.dst (.v undef)) h
      |_=>False
theorem wk {M:Mach} {E:List PanicEntry→PH→Prop} {d:Option Nat} {op:Op} {l:List GX} {K:AS→PH→Prop} {S:AS} {h:PH}
    (hk:∀k:AS→PH→Prop,(∀S h,walk M E l K S h→k S h)→step1 M E ⟨d,op,none⟩ k S h):walk M E (.o ⟨d,op,none⟩ :: l) K S h:=hk _ fun _ _ h=>h
theorem wkb {M:Mach} {E:List PanicEntry→PH→Prop} {d:Option Nat} {op:Op} {t:Nat} {want b:Bool} {l:List GX} {K:AS→PH→Prop} {S:AS} {h:PH} (hb:lk S.sl t=.v (.bool b))
    (hk:b=want→∀k:AS→PH→Prop,(∀S h,walk M E l K S h→k S h)→step1 M E ⟨d,op,none⟩ k S h) (hn:b=(!want)→walk M E l K (S.put d (.v undef)) h):walk M E (.o ⟨d,op,some (t,want)⟩ :: l) K S h:=by
  simp only[walk,hb]
  exact⟨fun e=>hk e _ fun _ _ h=>h,hn⟩
theorem wkt {M:Mach} {E:List PanicEntry→PH→Prop} {d:Option Nat} {op:Op} {t:Nat} {want:Bool} {vs:Array Value} {l:List GX} {K:AS→PH→Prop} {S:AS} {h:PH} (hb:lk S.sl t=.v (.tuple vs))
    (hn:walk M E l K (S.put d (.v undef)) h):walk M E (.o ⟨d,op,some (t,want)⟩ :: l) K S h:=by
  simp only[walk,hb]
  exact hn
theorem wkT {M:Mach} {E:List PanicEntry→PH→Prop} {d:Option Nat} {op:Op} {t:Nat} {want:Bool} {l:List GX} {K:AS→PH→Prop} {S:AS} {h:PH} (hb:lk S.sl t=.v (.bool want))
    (hk:∀k:AS→PH→Prop,(∀S h,walk M E l K S h→k S h)→step1 M E ⟨d,op,none⟩ k S h):walk M E (.o ⟨d,op,some (t,want)⟩ :: l) K S h:=
  wkb hb (fun _=>hk) (fun e=>by cases want<;>cases e)
theorem wkF {M:Mach} {E:List PanicEntry→PH→Prop} {d:Option Nat} {op:Op} {t:Nat} {want:Bool} {l:List GX} {K:AS→PH→Prop} {S:AS} {h:PH} (hb:lk S.sl t=.v (.bool (!want)))
    (hn:walk M E l K (S.put d (.v undef)) h):walk M E (.o ⟨d,op,some (t,want)⟩ :: l) K S h:=
  wkb hb (fun e=>by cases want<;>cases e) (fun _=>hn)
theorem wkG {M:Mach} {E:List PanicEntry→PH→Prop} {d:Option Nat} {op:Op} {t:Nat} {want:Bool} {l:List GX} {K:AS→PH→Prop} {S:AS} {h:PH} (hb:lk S.sl t=.v (.bool (!want)))
    (hk:∀k:AS→PH→Prop,(∀S h,walk M E l K S h→k S h)→k (S.put d (.v undef)) h):walk M E (.o ⟨d,op,some (t,want)⟩ :: l) K S h:=
  wkF hb (hk _ fun _ _ h=>h)
theorem wk0 {M:Mach} {E:List PanicEntry→PH→Prop} {K:AS→PH→Prop} {S:AS} {h:PH} (hk:K S h):walk M E [] K S h:=hk
theorem wkp {M:Mach} {E:List PanicEntry→PH→Prop} {i:Nat} {l:List GX} {K:AS→PH→Prop} {S:AS} {h:PH} (hk:pubA S h i (walk M E l K)):walk M E (.p i :: l) K S h:=hk
def LQ (M:Mach) (n:Nat) (C:Ctx) (Q:Exit→AS→PH→Prop) (E:List PanicEntry→PH→Prop):Exit→Act→World→Prop
  |.panic ch,a,w=>a.defers=C.df∧∃h',Fine M C h' w∧E ch h'
  |.outgrown,_,_=>False
  |e,a,w=>∃S h β,G M C n S h β a w∧Q e S h
def AWP (M:Mach) (n:Nat) (C:Ctx) (c:Code) (Q:Exit→AS→PH→Prop) (E:List PanicEntry→PH→Prop) (S:AS) (h:PH):Prop:=
  ∀β a w,G M C n S h β a w→c.wp M.P (LQ M n C Q E) a w
@[go_sem] def qs (next:AS→PH→Prop) (Q:Exit→AS→PH→Prop):Exit→AS→PH→Prop
  |.normal=>next
  |e=>Q e
@[go_sem] def qb (id:Nat) (Q:Exit→AS→PH→Prop):Exit→AS→PH→Prop
  |.exit k=>if k=id then Q .normal else Q (.exit k)
  |e=>Q e
section
variable {M:Mach} {C:Ctx} {n:Nat} {S:AS} {h:PH} {β:Nat→Nat} {a:Act} {w:World} {Q:Exit→AS→PH→Prop} {E:List PanicEntry→PH→Prop}
theorem lk_pub (i b:Nat) (l:List (Nat×AV)) (t:Nat):lk (pubL i b l) t=pubV i b (lk l t):=by
  induction l with
  |nil=>rfl
  | cons y l ih=>
    obtain⟨k,x⟩:=y
    simp only[pubL,lk]
    cases(k == t) with
    |true=>rfl
    |false=>exact ih
theorem G.pub (g:G M C n S h β a w) {i:Nat} (hi:i < S.bx.length):
    ∃h',Sub h h'∧(S.box i≠[]→h' (β i)=some (S.box i).toArray)∧G M C n (S.pub i (β i)) h' β a w:=by
  have hget:S.bx[i]?=some (S.box i):=by simp[AS.box,hi]
  have hslots : ∀ (h':PH),∀t,Conc β (lk (S.pub i (β i)).sl t) (a.tmps.getD t undef):=fun _ t=>by
    simp only[AS.pub,lk_pub]
    rcases g.slots t with hs |hs
    · rw[hs];exact .inl rfl
    · refine .inr ?_
      rw[hs]
      cases hx:lk S.sl t with
      |top=>rfl
      |v x=>rfl
      | p j off=>
        simp only[pubV]
        cases hj:(j == i) with
        | true => obtain rfl:j=i:=by simpa using hj
                  rfl
        |false=>rfl
      | s j off len cap=>
        simp only[pubV]
        cases hj:(j == i) with
        | true => obtain rfl:j=i:=by simpa using hj
                  rfl
        |false=>rfl
  have hwf:∀t q,(lk (S.pub i (β i)).sl t).ix=some q→q < (S.pub i (β i)).bx.length:=fun t q hq=>by
    simp only[AS.pub,lk_pub,List.length_set] at hq ⊢
    refine g.wf t q ?_
    cases hx:lk S.sl t with
    |top=>rw[hx] at hq;exact hq
    |v x=>rw[hx] at hq;exact hq
    |p j off=>rw[hx] at hq;simp only[pubV] at hq;cases hj:(j == i)<;>rw[hj] at hq<;>first |exact hq |cases hq
    |s j off len cap=>rw[hx] at hq;simp only[pubV] at hq;cases hj:(j == i)<;>rw[hj] at hq<;>first |exact hq |cases hq
  have gk:=g.kill i
  by_cases hne:S.box i=[]
  · exact⟨h,Sub.refl h,fun hx=>(hx hne).elim,gk.size,gk.defers,gk.fine,gk.boxes,gk.inj,hslots h,hwf,gk.pin⟩
  · have hb:=g.boxes i _ hget hne
    obtain⟨T,hw⟩:=hb.row
    refine⟨fun b=>if b=β i then some (S.box i).toArray else h b,fun b cs hx=>?_,fun _=>by simp,gk.size,gk.defers,⟨gk.fine.below,fun b cs hx=>?_,?_,fun b hx=>?_,?_⟩,fun j cj hj hn=>?_,gk.inj,hslots h,hwf,gk.pin⟩
    · have:b≠β i:=fun e=>by rw[e,hb.own] at hx;cases hx
      simp only[if_neg this];exact hx
    · by_cases hbi:b=β i
      · subst hbi
        simp only[if_true,Option.some.injEq] at hx
        subst hx
        exact⟨T,(0,0),hw⟩
      · simp only[if_neg hbi] at hx;exact g.fine.has b cs hx
    · intro b cs hx
      have hx':=g.fine.sub b cs hx
      have:b≠β i:=fun e=>by rw[e,hb.own] at hx';cases hx'
      simp only[if_neg this];exact hx'
    · by_cases hbi:b=β i
      · subst hbi;exact .inr hb.old
      · simp only[if_neg hbi] at hx;exact g.fine.new b hx
    · intro b cs hx
      have hx':=g.fine.gl b cs hx
      have:b≠β i:=fun e=>by rw[e,hb.own] at hx';cases hx'
      simp only[if_neg this];exact hx'
    · have hj':S.bx[j]?=some cj∧j≠i:=by
        simp only[AS.pub] at hj
        by_cases hji:j=i
        · subst hji;rw[List.getElem?_set_self hi] at hj;exact(hn (Option.some.inj hj).symm).elim
        · rw[List.getElem?_set_ne (Ne.symm hji)] at hj;exact⟨hj,hji⟩
      have hbj:=g.boxes j cj hj'.1 hn
      have:β j≠β i:=fun e=>hj'.2 (g.inj j i _ _ hj'.1 hget hn hne e)
      exact⟨hbj.row,hbj.old,by simp only[if_neg this];exact hbj.own⟩
theorem LQ_panic (c:List PanicEntry) (a:Act) (d:Option Tmp) (v:Value) (w:World) (hq:LQ M n C Q E (.panic c) (Act.put a d v) w):LQ M n C Q E (.panic c) a w:=by
  cases d<;>exact hq
theorem wanted_none {ops:Array Oper} {o:Oper} (hg:o.guard=none) (tmps:Array Value):Region.wanted o (yielded ops tmps)=true:=by
  simp[Region.wanted,hg]
theorem gOf_some {ops:Array Oper} {o:Oper} {t:Nat} {want:Bool} (hg:gOf ops o=some (some (t,want))):∃j,o.guard=some (j,want)∧(ops[j]?).bind (·.dst)=some t:=by
  unfold gOf at hg
  split at hg
  · cases hg
  · rename_i j want' hgd
    split at hg
    · rename_i t' ht
      cases hg
      exact⟨j,hgd,by rw[←nth_arr];exact ht⟩
    · cases hg
theorem gOf_none {ops:Array Oper} {o:Oper} (hg:gOf ops o=some none):o.guard=none:=by
  unfold gOf at hg
  split at hg
  · assumption
  · split at hg<;>cases hg
theorem wanted_bool (g:G M C n S h β a w) {ops:Array Oper} {o:Oper} {j t:Nat} {want b:Bool} (hg:o.guard=some (j,want)) (ht:(ops[j]?).bind (·.dst)=some t) (hs:lk S.sl t=.v (.bool b)):
    Region.wanted o (yielded ops a.tmps)=(b == want):=by
  have hv:a.tmps.getD t undef=.bool b:=by rcases g.slots t with h |h<;>rw[hs] at h<;>first |cases h |exact h
  have hlt:t < a.tmps.size:=by
    rcases Nat.lt_or_ge t a.tmps.size with h |h
    · exact h
    · rw[Array.getD_eq_getD_getElem?,Array.getElem?_eq_none h] at hv;cases hv
  have hv':a.tmps[t]?=some (.bool b):=by
    rw[Array.getElem?_eq_getElem hlt]
    congr 1
    simpa[hlt] using hv
  simp only[Region.wanted,hg,yielded,ht,Option.bind_some,hv']
  cases b<;>cases want<;>rfl
theorem wanted_tuple (g:G M C n S h β a w) {ops:Array Oper} {o:Oper} {j t:Nat} {want:Bool} {vs:Array Value} (hg:o.guard=some (j,want)) (ht:(ops[j]?).bind (·.dst)=some t) (hs:lk S.sl t=.v (.tuple vs)):
    Region.wanted o (yielded ops a.tmps)=false:=by
  have hv:a.tmps.getD t undef=.tuple vs:=by rcases g.slots t with h |h<;>rw[hs] at h<;>first |cases h |exact h
  simp only[Region.wanted,hg,yielded,ht,Option.bind_some]
  cases hx:a.tmps[t]? with
  |none=>rfl
  | some u=>
    have:u=.tuple vs:=by simpa[Array.getD_eq_getD_getElem?,hx] using hv
    subst this
    rfl
theorem RWc_of_walk {ops:Array Oper}:∀(pl:List PL) (l:List GX) (S:AS) (h:PH) (β:Nat→Nat) (a:Act) (w:World),prep n ops pl=some l→walk M E l (fun S h=>Q .normal S h) S h→G M C n S h β a w→
    RWc M.P ops (LQ M n C Q E) (order pl) a w:=by
  intro pl
  induction pl with
  |nil=>intro l S h β a w hl hw g;cases hl;exact⟨S,h,β,g,hw⟩
  | cons x pl ih=>
    intro l S h β a w hl hw g
    cases x with
    | p i=>
      simp only[prep] at hl
      cases hp:prep n ops pl with
      |none=>rw[hp] at hl;cases hl
      | some l'=>
        rw[hp] at hl;cases hl
        simp only[walk,pubA] at hw
        obtain⟨h',hs,hc,g'⟩:=g.pub hw.1
        exact ih l' _ _ β a w hp (hw.2 (β i) h' ⟨hs⟩ hc) g'
    | o i =>
      simp only[prep,nth_arr] at hl
      cases ho:ops[i]? with
      |none=>rw[ho] at hl;cases hl
      | some o=>
        rw[ho] at hl
        dsimp only at hl
        cases hg:gOf ops o with
        |none=>rw[hg] at hl;cases hl
        | some gd =>
          rw[hg] at hl
          dsimp only at hl
          cases hd:(o.dst.all (Nat.blt · n)) with
          |false=>rw[hd] at hl;cases hl
          | true=>
            rw[hd] at hl
            cases hp:prep n ops pl with
            |none=>rw[hp] at hl;cases hl
            | some l'=>
              rw[hp] at hl;cases hl
              have hdst:∀k,o.dst=some k→k < n:=fun k hk=>by rw[hk] at hd;simpa[Nat.blt_eq] using hd
              have hstep:step1 M E ⟨o.dst,o.op,gd⟩ (walk M E l' fun S h=>Q .normal S h) S h→Region.wanted o (yielded ops a.tmps)=true→RWc M.P ops (LQ M n C Q E) (i :: order pl) a w:=by
                intro hst hwant
                simp only[step1] at hst
                by_cases hc:cls o.op=0
                · have hcb:(cls o.op == 0)=true:=by simpa using hc
                  rw[hcb,cond_true] at hst
                  rw[RWc_reader ho hc]
                  obtain⟨v,x,hr,hx,hix,hk⟩:=rd_sound (o:=o) g hst
                  exact⟨v,.inl ⟨hwant,fun w' hb=>hr w' (g.below hb)⟩,ih l' _ _ β _ w hp hk (g.put hdst hx hix)⟩
                · have hcb:(cls o.op == 0)=false:=by simpa using hc
                  rw[hcb,cond_false] at hst
                  rw[RWc_impure ho hc,if_pos hwant]
                  have:=im_sound (o:=o) g hdst hst (LQ M n C Q E) (fun ch h' w' hf he=>⟨g.defers,h',hf,he⟩)
                  exact wp_mono' (fun a' w' ⟨h1,S',h',x,β',g',hk⟩=>⟨h1,ih l' _ _ β' a' w' hp hk g'⟩) this
              have hskip:walk M E l' (fun S h=>Q .normal S h) (S.put o.dst (.v undef)) h→Region.wanted o (yielded ops a.tmps)=false→RWc M.P ops (LQ M n C Q E) (i :: order pl) a w:=by
                intro hst hwant
                have hn:¬Region.wanted o (yielded ops a.tmps)=true:=by rw[hwant];simp
                simp only[RWc,ho,if_neg hn]
                exact ih l' _ _ β _ w hp hst (g.put hdst (.inr rfl) (fun i hi=>by cases hi))
              simp only[walk] at hw
              cases gd with
              |none=>exact hstep hw (wanted_none (gOf_none hg) _)
              | some tw=>
                obtain⟨t,want⟩:=tw
                obtain⟨j,hj1,hj2⟩:=gOf_some hg
                dsimp only at hw
                split at hw
                · rename_i b hb
                  have hwb:=wanted_bool g hj1 hj2 hb
                  by_cases hbw:b=want
                  · exact hstep (hw.1 hbw) (by rw[hwb];simpa using hbw)
                  · exact hskip (hw.2 (by cases b<;>cases want<;>simp_all)) (by rw[hwb];simpa using hbw)
                · rename_i vs hb
                  exact hskip hw (wanted_tuple g hj1 hj2 hb)
                · exact hw.elim
theorem order_plain (n:Nat):order (plain n)=List.range n:=by
  unfold plain
  induction List.range n with
  |nil=>rfl
  |cons x l ih=>simp[order,ih]
theorem AWP_s {id:Nat} {ops:Array Oper} {l:List GX} (hl:prep n ops (plain ops.size)=some l) (hw:walk M E l (fun S h=>Q .normal S h) S h):AWP M n C (.region id ops false) Q E S h:=
  fun β a w g=>wp_region_s (by rw[←order_plain];exact RWc_of_walk _ l S h β a w hl hw g)
theorem AWP_sp {id:Nat} {ops:Array Oper} {l:List GX} (pl:List PL) (ho:order pl=List.range ops.size) (hl:prep n ops pl=some l) (hw:walk M E l (fun S h=>Q .normal S h) S h):AWP M n C (.region id ops false) Q E S h:=
  fun β a w g=>wp_region_s (by rw[←ho];exact RWc_of_walk _ l S h β a w hl hw g)
theorem AWP_d {id:Nat} {ops:Array Oper} {l:List GX} (pl:List PL) (hc:regionOk ops (order pl)=true) (hl:prep n ops pl=some l) (hw:walk M E l (fun S h=>Q .normal S h) S h):AWP M n C (.region id ops true) Q E S h:=
  fun β a w g=>wp_region_c M.mixed (order pl) hc (fun c a d v w=>LQ_panic c a d v w) (RWc_of_walk pl l S h β a _ hl hw (g.below (below_drew w)))
theorem AWP_seq {x y:Code} (hx:AWP M n C x (qs (fun S h=>AWP M n C y Q E S h) Q) E S h):AWP M n C (.seq x y) Q E S h:=
  fun β a w g=>wp_seq (wp_mono (hx β a w g) fun e a' w' hq=>by
    cases e with
    |normal=>obtain⟨S',h',β',g',hk⟩:=hq;exact hk β' a' w' g'
    |_=>exact hq)
theorem AWP_rs {id:Nat} {ops:Array Oper} {l:List GX} {y:Code} (hl:prep n ops (plain ops.size)=some l) (hw:∀K:AS→PH→Prop,(∀S h,AWP M n C y Q E S h→K S h)→walk M E l K S h):AWP M n C (.seq (.region id ops false) y) Q E S h:=
  AWP_seq (AWP_s hl (hw _ fun _ _ h=>h))
theorem AWP_rsp {id:Nat} {ops:Array Oper} {l:List GX} {y:Code} (pl:List PL) (ho:order pl=List.range ops.size) (hl:prep n ops pl=some l) (hw:∀K:AS→PH→Prop,(∀S h,AWP M n C y Q E S h→K S h)→walk M E l K S h):AWP M n C (.seq (.region id ops false) y) Q E S h:=
  AWP_seq (AWP_sp pl ho hl (hw _ fun _ _ h=>h))
theorem AWP_rd {id:Nat} {ops:Array Oper} {l:List GX} {y:Code} (pl:List PL) (hc:regionOk ops (order pl)=true) (hl:prep n ops pl=some l) (hw:∀K:AS→PH→Prop,(∀S h,AWP M n C y Q E S h→K S h)→walk M E l K S h):AWP M n C (.seq (.region id ops true) y) Q E S h:=
  AWP_seq (AWP_d pl hc hl (hw _ fun _ _ h=>h))
theorem AWP_seqk {x y:Code} (hx:∀K:AS→PH→Prop,(∀S h,AWP M n C y Q E S h→K S h)→AWP M n C x (qs K Q) E S h):AWP M n C (.seq x y) Q E S h:=
  AWP_seq (hx _ fun _ _ h=>h)
theorem AWP_sqs {u v y:Code} (hx:∀K:AS→PH→Prop,(∀S h,AWP M n C y Q E S h→K S h)→AWP M n C (.seq u v) (qs K Q) E S h):AWP M n C (.seq (.seq u v) y) Q E S h:=AWP_seqk hx
theorem AWP_sk {id:Nat} {ops:Array Oper} {l:List GX} (hl:prep n ops (plain ops.size)=some l) (hw:walk M E l (Q .normal) S h):AWP M n C (.region id ops false) Q E S h:=AWP_s hl hw
theorem AWP_dk {id:Nat} {ops:Array Oper} {l:List GX} (pl:List PL) (hc:regionOk ops (order pl)=true) (hl:prep n ops pl=some l) (hw:walk M E l (Q .normal) S h):AWP M n C (.region id ops true) Q E S h:=AWP_d pl hc hl hw
theorem AWP_cond {c:Operand} {x y:Code} {t:Bool} (hc:S.ev c=.v (.bool t)) (h1:t=true→AWP M n C x Q E S h) (h2:t=false→AWP M n C y Q E S h):AWP M n C (.cond c x y) Q E S h:=
  fun β a w g=>wp_cond_split (g.ev_v hc) (fun ht=>h1 ht β a w g) (fun ht=>h2 ht β a w g)
theorem AWP_condT {c:Operand} {x y:Code} (hc:S.ev c=.v (.bool true)) (h1:AWP M n C x Q E S h):AWP M n C (.cond c x y) Q E S h:=AWP_cond hc (fun _=>h1) (fun e=>by cases e)
theorem AWP_condF {c:Operand} {x y:Code} (hc:S.ev c=.v (.bool false)) (h1:AWP M n C y Q E S h):AWP M n C (.cond c x y) Q E S h:=AWP_cond hc (fun e=>by cases e) (fun _=>h1)
theorem AWP_block {id:Nat} {x:Code} (hx:AWP M n C x (qb id Q) E S h):AWP M n C (.block id x) Q E S h:=
  fun β a w g=>wp_block (wp_mono (hx β a w g) fun e a' w' hq=>by
    cases e with
    | exit k=>
      obtain⟨S',h',β',g',hk⟩:=hq
      simp only[qb] at hk
      simp only[Exit.inBlock]
      split
      · rename_i hki;rw[if_pos hki] at hk;exact⟨S',h',β',g',hk⟩
      · rename_i hki;rw[if_neg hki] at hk;exact⟨S',h',β',g',hk⟩
    |_=>exact hq)
theorem AWP_exit {id:Nat} (hq:Q (.exit id) S h):AWP M n C (.exit id) Q E S h:=fun β _ _ g=>wp_exit ⟨S,h,β,g,hq⟩
theorem AWP_ret (hq:Q .ret S h):AWP M n C .ret Q E S h:=fun β _ _ g=>wp_ret ⟨S,h,β,g,hq⟩
theorem AWP_skip (hq:Q .normal S h):AWP M n C .skip Q E S h:=fun β _ _ g=>wp_skip ⟨S,h,β,g,hq⟩
theorem AWP_pub {c:Code} (i:Nat) (hk:pubA S h i (fun S h=>AWP M n C c Q E S h)):AWP M n C c Q E S h:=fun β a w g=>by
  obtain⟨h',hs,hc,g'⟩:=g.pub hk.1
  exact hk.2 (β i) h' ⟨hs⟩ hc β a w g'
theorem AWP_gl {c:Code} (hk:Sub M.gl h→AWP M n C c Q E S h):AWP M n C c Q E S h:=fun β a w g=>hk g.fine.gl β a w g
@[go_sem] def leL (S:AS):List (Nat×AV)→Prop
  |[]=>True
  |(t,x) :: l=>lk S.sl t=x∧leL S l
@[go_sem] def leB:List (List Value)→List (List Value)→Prop
  |[],_=>True
  |cs :: r,ds :: r'=>(cs=[]∨ds=cs)∧leB r r'
  |_ :: _,[]=>False
@[go_sem] def wfL (m:Nat):List (Nat×AV)→Bool
  |[]=>true
  |(_,x) :: l=>(match x with |.p i _=>Nat.blt i m |.s i _ _ _=>Nat.blt i m |_=>true) && wfL m l
@[go_sem] def AS.le (S S':AS):Prop:=leL S S'.sl∧leB S'.bx S.bx∧wfL S'.bx.length S'.sl=true
theorem leL_lk {S:AS}:∀{l:List (Nat×AV)},leL S l→∀t,lk l t=.top∨lk l t=lk S.sl t
  |[],_,_=>.inl rfl
  | (k, x) :: l,hl,t=>by
    simp only[leL] at hl
    simp only[lk]
    cases hk:(k == t) with
    | true => obtain rfl:k=t:=by simpa using hk
              exact .inr hl.1.symm
    |false=>exact leL_lk hl.2 t
theorem leB_get:∀{b b':List (List Value)},leB b b'→b.length≤b'.length∧∀(i:Nat) (cs:List Value),b[i]?=some cs→cs≠[]→b'[i]?=some cs
  |[],_,_=>⟨by simp,fun i cs hi=>by simp at hi⟩
  | cs :: r,ds :: r',hl=>by
    simp only[leB] at hl
    have ih:=leB_get hl.2
    refine⟨by simp;exact ih.1,fun i c hi hn=>?_⟩
    cases i with
    |zero=>simp at hi ⊢;subst hi;exact hl.1.resolve_left hn
    |succ i=>simp at hi ⊢;exact ih.2 i c hi hn
  |_ :: _,[],hl=>(hl:False).elim
theorem wfL_lk {m:Nat}:∀{l:List (Nat×AV)},wfL m l=true→∀t i,(lk l t).ix=some i→i < m
  |[],_,t,i,hi=>by cases hi
  | (k,x) :: l,hl,t,i,hi=>by
    simp only[wfL,Bool.and_eq_true] at hl
    simp only[lk] at hi
    cases hk:(k == t) with
    | true=>
      rw[hk] at hi
      have h1:=hl.1
      cases x with
      |p j off=>simp only[cond_true,AV.ix,Option.some.injEq] at hi;subst hi;simpa[Nat.blt_eq] using h1
      |s j off len cap=>simp only[cond_true,AV.ix,Option.some.injEq] at hi;subst hi;simpa[Nat.blt_eq] using h1
      |v x=>cases hi
      |top=>cases hi
    |false=>rw[hk] at hi;exact wfL_lk hl.2 t i hi
theorem G.weaken (g:G M C n S h β a w) {S':AS} (hle:S.le S') (hp:C.pin.length≤S'.bx.length):G M C n S' h β a w:=by
  obtain⟨h1,h2,h3⟩:=hle
  have hb:=leB_get h2
  refine⟨g.size,g.defers,g.fine,fun i cs hi hc=>g.boxes i cs (hb.2 i cs hi hc) hc,fun i j ci cj hi hj hci hcj=>g.inj i j ci cj (hb.2 i ci hi hci) (hb.2 j cj hj hcj) hci hcj,fun t=>?_,wfL_lk h3,hp,g.pin.2⟩
  rcases leL_lk h1 t with hx |hx
  · exact .inl hx
  · rw[hx];exact g.slots t
theorem NoPin.le [NoPin C] (l:List (List Value)):C.pin.length≤l.length:=by rw[NoPin.nil];exact Nat.zero_le _
theorem AWP_le [NoPin C] {c:Code} (S':AS) (hle:S.le S') (hk:AWP M n C c Q E S' h):AWP M n C c Q E S h:=fun β a w g=>hk β a w (g.weaken hle (NoPin.le _))
theorem AWP_leP {c:Code} (S':AS) (hp:C.pin.length≤S'.bx.length) (hle:S.le S') (hk:AWP M n C c Q E S' h):AWP M n C c Q E S h:=fun β a w g=>hk β a w (g.weaken hle hp)
theorem AWP_mono {c:Code} {Q':Exit→AS→PH→Prop} (hk:AWP M n C c Q E S h) (hq:∀e S h,Q e S h→Q' e S h):AWP M n C c Q' E S h:=fun β a w g=>
  wp_mono (hk β a w g) fun e a' w' hx=>by
    cases e with
    |panic ch=>exact hx
    |outgrown=>exact hx
    |_=>obtain⟨S',h',β',g',hx⟩:=hx;exact⟨S',h',β',g',hq _ _ _ hx⟩
theorem AWP_loopP {ι:Type} {c:Code} (St:ι→AS) (Inv:ι→PH→Prop) (m:ι→Nat) (x0:ι) (hp:∀x,C.pin.length≤(St x).bx.length) (hS:S.le (St x0)) (h0:Inv x0 h)
    (round:∀x h,Inv x h→AWP M n C c (qs (fun S' h'=>∃y,S'.le (St y)∧Inv y h'∧m y < m x) Q) E (St x) h):AWP M n C (.loop c) Q E S h:=fun β a w g=>by
  refine wp_loop_ghost (fun k a w=>∃x h β,m x=k∧Inv x h∧G M C n (St x) h β a w) (m x0) ⟨x0,h,β,rfl,h0,g.weaken hS (hp _)⟩ ?_
  rintro k a w ⟨x,h,β,rfl,hi,g⟩
  refine wp_mono (round x h hi β a w g) fun e a' w' hq=>?_
  cases e with
  | normal=>
    obtain⟨S',h',β',g',y,hle,hy,hlt⟩:=hq
    exact⟨m y,hlt,y,h',β',rfl,hy,g'.weaken hle (hp _)⟩
  |_=>exact hq
theorem AWP_loop [NoPin C] {ι:Type} {c:Code} (St:ι→AS) (Inv:ι→PH→Prop) (m:ι→Nat) (x0:ι) (hS:S.le (St x0)) (h0:Inv x0 h)
    (round:∀x h,Inv x h→AWP M n C c (qs (fun S' h'=>∃y,S'.le (St y)∧Inv y h'∧m y < m x) Q) E (St x) h):AWP M n C (.loop c) Q E S h:=
  AWP_loopP St Inv m x0 (fun _=>NoPin.le _) hS h0 round
@[go_sem] def res1 (P:Program) (S:AS):ResultVar→Option Value
  | .tmp t=>match lk S.sl t with
    |.v x=>some x
    |_=>none
  | .cell t T=>match lk S.sl t,tk P T with
    |.p i off,some k=>ldb k (S.box i) off
    |_,_=>none
@[go_sem] def resL (P:Program) (S:AS):List ResultVar→Option (List Value)
  |[]=>some []
  | r :: rs=>match res1 P S r,resL P S rs with
    |some v,some vs=>some (v :: vs)
    |_,_=>none
@[go_sem] def resA (P:Program) (S:AS) (rs:List ResultVar):Option Value:=match resL P S rs with
  |some [v]=>some v
  |some vs=>some (.tuple vs.toArray)
  |none=>none
@[go_sem] def rq (P:Program) (rs:List ResultVar) (R:Value→PH→Prop):Exit→AS→PH→Prop
  |.normal,S,h=>opt (resA P S rs) fun v=>R v h
  |.ret,S,h=>opt (resA P S rs) fun v=>R v h
  |_,_,_=>False
def rv (tmps:Array Value):ResultVar→Sem Value
  |.tmp t=>pure (tmps.getD t undef)
  |.cell x t=>do loadVar t (←asAddr (tmps.getD x undef))
theorem res_run1 (g:G M C n S h β a w) {r:ResultVar} {v:Value} (hr:res1 M.P S r=some v):(rv a.tmps r).run M.P w=.ok v w:=by
  cases r with
  | tmp t=>
    simp only[res1] at hr
    split at hr
    · rename_i x hx
      cases hr
      rcases g.slots t with hs |hs<;>rw[hx] at hs
      · cases hs
      · simp only[rv,hs,cv,Sem.run_pure]
    · cases hr
  | cell t T=>
    simp only[res1] at hr
    split at hr
    · rename_i i off k hx hk
      have hi:i < S.bx.length:=g.wf t i (by rw[hx];rfl)
      rcases g.slots t with hs |hs<;>rw[hx] at hs
      · cases hs
      · simp only[rv,hs,cv,Sem.run_bind,asAddr,Sem.run_pure,Result.andThen_ok]
        cases k with
        |none=>exact run_loadVar_one hk (g.box_get hi hr)
        | some m=>
          simp only[ldb] at hr
          cases hb:Nat.ble (off+m) (S.box i).length with
          |false=>rw[hb] at hr;cases hr
          | true=>
            rw[hb] at hr
            cases hr
            have hle:off+m≤(S.box i).length:=Nat.le_of_ble_eq_true hb
            refine run_loadVar_agg (cs:=((S.box i).drop off).take m) hk (by simp;omega) (fun j v hj=>?_)
            rw[add_none]
            refine g.box_get hi ?_
            rw[List.getElem?_take] at hj
            split at hj
            · rw[List.getElem?_drop] at hj;exact hj
            · cases hj
    · cases hr
theorem res_runL (g:G M C n S h β a w):∀(rs:List ResultVar) (vs:List Value),resL M.P S rs=some vs→(rs.mapM (m:=Sem) (rv a.tmps)).run M.P w=.ok vs w:=by
  intro rs
  induction rs with
  |nil=>intro vs hv;cases hv;rfl
  | cons r rs ih=>
    intro vs hv
    simp only[resL] at hv
    split at hv
    · rename_i v vs' h1 h2
      cases hv
      rw[List.mapM_cons]
      simp only[Sem.run_bind,res_run1 g h1,Result.andThen_ok,ih _ h2,Sem.run_pure]
    · cases hv
theorem res_run (g:G M C n S h β a w) {fn:Func} {v:Value} (hr:resA M.P S fn.results.toList=some v):(results fn a.tmps).run M.P w=.ok v w:=by
  unfold resA at hr
  have key:∀vs,resL M.P S fn.results.toList=some vs→(results fn a.tmps).run M.P w=.ok (if h:vs.toArray.size=1 then vs.toArray[0] else .tuple vs.toArray) w:=by
    intro vs hvs
    have e:results fn a.tmps=(do let vs ←fn.results.mapM (rv a.tmps);pure (if h:vs.size=1 then vs[0] else .tuple vs):Sem Value):=rfl
    rw[e,←Array.toArray_toList (xs:=fn.results),List.mapM_toArray]
    have:=res_runL g _ vs hvs
    simp only[Sem.run_bind,Sem.run_map,this,Result.andThen_ok,Sem.run_pure]
  split at hr
  · rename_i v' hv
    cases hr
    rw[key _ hv];rfl
  · rename_i vs hne hvs
    cases hr
    rw[key _ hvs]
    have:¬vs.toArray.size=1:=by
      intro h1
      obtain⟨v,rfl⟩:=List.length_eq_one_iff.1 (by simpa using h1)
      exact hne v rfl
    rw[dif_neg this]
  · cases hr
@[go_sem] def argS (i:Nat):List Value→List (Nat×AV)
  |[]=>[]
  |v :: vs=>(i,.v v) :: argS (i+1) vs
theorem lk_argS:∀(vs:List Value) (i t:Nat),lk (argS i vs) t=if h:i≤t∧t - i < vs.length then .v (vs[t - i]'h.2) else .top:=by
  intro vs
  induction vs with
  |nil=>intro i t;simp[argS,lk]
  | cons v vs ih=>
    intro i t
    simp only[argS,lk]
    by_cases hit:i=t
    · subst hit;simp
    · have:(i == t)=false:=by simpa using hit
      rw[this,cond_false,ih]
      by_cases hc:i+1≤t∧t - (i+1) < vs.length
      · have hc':i≤t∧t - i < (v :: vs).length:=by simp;omega
        rw[dif_pos hc,dif_pos hc']
        congr 1
        have he:t - i=(t - (i+1))+1:=by omega
        simp only[he,List.getElem_cons_succ]
      · have hc':¬(i≤t∧t - i < (v :: vs).length):=by simp;omega
        rw[dif_neg hc,dif_neg hc']
theorem Spec.enter {f:FuncId} {fn:Func} {c:Code} {args:List Value} {R:Value→PH→Prop} (hf:M.P.funcs[f]?=some fn) (hb:fn.body=some c) (hok:callable M.P f=true) (hn:fn.ntmps=n) (ha:args.length≤n) (rs:List ResultVar) (hr:fn.results=rs.toArray)
    (hk:∀C [NoPin C],AWP M n C c (rq M.P rs R) E ⟨argS 0 args,[]⟩ h):Spec M f args.toArray h R E:=⟨hok,fun w hw hg=>by
  obtain rfl:fn.results.toList=rs:=by rw[hr]
  refine calls_of_wp hf hb ?_
  have g:G M ⟨w,h,[],[]⟩ n ⟨argS 0 args,[]⟩ h (fun _=>0) {tmps:=args.toArray ++Array.replicate (fn.ntmps - args.toArray.size) undef,defers:=[]} w:=by
    refine⟨by simp;omega,rfl,⟨Below.refl _ _,hw,Sub.refl h,New.refl _ h,hg⟩,fun i cs hi=>by simp at hi,fun i j ci cj hi=>by simp at hi,fun t=>?_,fun t i hi=>?_,Nat.zero_le _,fun i hi=>by cases hi⟩
    · rw[lk_argS]
      split
      · rename_i hc
        refine .inr ?_
        simp only[Nat.sub_zero,List.length_cons] at hc ⊢
        have hlt:t < args.toArray.size:=by simpa using hc.2
        simp only[cv,Array.getD_eq_getD_getElem?,Array.getElem?_append_left hlt]
        simp[hc.2]
      · exact .inl rfl
    · rw[lk_argS] at hi
      split at hi<;>cases hi
  haveI:NoPin ⟨w,h,[],[]⟩:=⟨rfl⟩
  refine wp_mono (hk ⟨w,h,[],[]⟩ _ _ w g) fun e a w' hq=>?_
  cases e with
  | panic ch=>
    obtain⟨hd,h',hfine,he⟩:=hq
    exact⟨hd,h',hfine.below,hfine.has,hfine.sub,hfine.new,he⟩
  |outgrown=>exact(hq:False).elim
  | normal=>
    obtain⟨S',h',β',g',hq⟩:=hq
    obtain⟨v,hv,hr⟩:=opt_iff.1 hq
    exact⟨g'.defers,v,res_run g' hv,h',g'.fine.below,g'.fine.has,g'.fine.sub,g'.fine.new,hr⟩
  | ret=>
    obtain⟨S',h',β',g',hq⟩:=hq
    obtain⟨v,hv,hr⟩:=opt_iff.1 hq
    exact⟨g'.defers,v,res_run g' hv,h',g'.fine.below,g'.fine.has,g'.fine.sub,g'.fine.new,hr⟩
  |exit id=>obtain⟨S',h',β',g',hq⟩:=hq;exact(hq:False).elim
  |goto l=>obtain⟨S',h',β',g',hq⟩:=hq;exact(hq:False).elim⟩
theorem Fine.re {C':Ctx} (f:Fine M C h w) (h1:C'.w0=C.w0) (h2:C'.h0=C.h0):Fine M C' h w:=⟨by rw[h1];exact f.below,f.has,by rw[h2];exact f.sub,by rw[h1,h2];exact f.new,f.gl⟩
theorem BoxAt.re {C':Ctx} {b:Nat} {cs:List Value} (x:BoxAt C h w b cs) (h1:C'.w0=C.w0):BoxAt C' h w b cs:=⟨x.row,by rw[h1];exact x.old,x.own⟩
@[go_sem] def argV (i:Nat):List AV→List (Nat×AV)
  |[]=>[]
  |v :: vs=>(i,v) :: argV (i+1) vs
theorem lk_argV:∀(vs:List AV) (i t:Nat),lk (argV i vs) t=if h:i≤t∧t - i < vs.length then vs[t - i]'h.2 else .top:=by
  intro vs
  induction vs with
  |nil=>intro i t;simp[argV,lk]
  | cons v vs ih=>
    intro i t
    simp only[argV,lk]
    by_cases hit:i=t
    · subst hit;simp
    · have:(i == t)=false:=by simpa using hit
      rw[this,cond_false,ih]
      by_cases hc:i+1≤t∧t - (i+1) < vs.length
      · have hc':i≤t∧t - i < (v :: vs).length:=by simp;omega
        rw[dif_pos hc,dif_pos hc']
        have he:t - i=(t - (i+1))+1:=by omega
        simp only[he,List.getElem_cons_succ]
      · have hc':¬(i≤t∧t - i < (v :: vs).length):=by simp;omega
        rw[dif_neg hc,dif_neg hc']
@[go_sem] def rqL (P:Program) (rs:List ResultVar) (rest:List (List Value)) (h0:PH) (R:Value→List Value→PH→Prop):Exit→AS→PH→Prop
  |.normal,S,h=>opt (resA P S rs) fun v=>leB (S.box 0 :: rest) S.bx∧Le h0 h∧R v (S.box 0) h
  |.ret,S,h=>opt (resA P S rs) fun v=>leB (S.box 0 :: rest) S.bx∧Le h0 h∧R v (S.box 0) h
  |_,_,_=>False
theorem SpecL.enter {f:FuncId} {fn:Func} {c:Code} {args:List AV} {row:List Value} {R:Value→List Value→PH→Prop} (hf:M.P.funcs[f]?=some fn) (hb:fn.body=some c) (hok:callable M.P f=true) (hn:fn.ntmps=n) (ha:args.length≤n) (hw:wfL 1 (argV 0 args)=true) (rs:List ResultVar) (hr:fn.results=rs.toArray)
    (hk:∀(C:Ctx) (rest:List (List Value)),C.pin.length=rest.length+1→AWP M n C c (rqL M.P rs rest h R) NP ⟨argV 0 args,row :: rest⟩ h):SpecL M f args row h R:=⟨hok,fun C β rest w hfine hrows=>by
  obtain rfl:fn.results.toList=rs:=by rw[hr]
  refine calls_of_wp hf hb ?_
  have hlen:(List.map β (List.range (rest.length+1))).length=rest.length+1:=by simp
  have hpin:∀i,i < rest.length+1→(List.map β (List.range (rest.length+1))).getD i 0=β i:=fun i hi=>by simp[hi]
  have g:G M ⟨C.w0,C.h0,(List.range (rest.length+1)).map β,[]⟩ n ⟨argV 0 args,row :: rest⟩ h β {tmps:=(args.map (cv β)).toArray ++Array.replicate (fn.ntmps - (args.map (cv β)).toArray.size) undef,defers:=[]} w:=by
    refine⟨by simp;omega,rfl,hfine.re rfl rfl,fun i cs hi hc=>(hrows.at_ i cs hi hc).re rfl,hrows.inj,fun t=>?_,fun t i hi=>?_,by rw[hlen];simp,fun i hi=>(hpin i (by rw[hlen] at hi;exact hi)).symm⟩
    · rw[lk_argV]
      split
      · rename_i hc
        refine .inr ?_
        simp only[Nat.sub_zero] at hc ⊢
        have hlt:t < (args.map (cv β)).toArray.size:=by simpa using hc.2
        simp only[Array.getD_eq_getD_getElem?,Array.getElem?_append_left hlt]
        simp[hc.2]
      · exact .inl rfl
    · have:=wfL_lk hw t i hi
      simp;omega
  refine wp_mono (hk ⟨C.w0,C.h0,_,[]⟩ rest hlen _ _ w g) fun e a w' hq=>?_
  have fin:∀{S':AS} {h':PH} {β':Nat→Nat},G M ⟨C.w0,C.h0,(List.range (rest.length+1)).map β,[]⟩ n S' h' β' a w'→leB (S'.box 0 :: rest) S'.bx→Rows C h' w' β (S'.box 0 :: rest):=by
    intro S' h' β' g' hle
    have hb:=leB_get hle
    have hlt:∀(i:Nat) (cs:List Value),(S'.box 0 :: rest)[i]?=some cs→β' i=β i:=fun i cs hi=>by
      have:i < (S'.box 0 :: rest).length:=(List.getElem?_eq_some_iff.1 hi).1
      have hi':i < rest.length+1:=by simpa using this
      rw[g'.pin.2 i (by rw[hlen];exact hi'),hpin i hi']
    refine⟨fun i cs hi hc=>?_,fun i j ci cj hi hj hci hcj hij=>?_⟩
    · rw[←hlt i cs hi];exact(g'.boxes i cs (hb.2 i cs hi hc) hc).re rfl
    · rw[←hlt i ci hi,←hlt j cj hj] at hij
      exact g'.inj i j ci cj (hb.2 i ci hi hci) (hb.2 j cj hj hcj) hci hcj hij
  cases e with
  | panic ch=>
    obtain⟨hd,h',hfine,he⟩:=hq
    exact(he:False).elim
  |outgrown=>exact(hq:False).elim
  | normal=>
    obtain⟨S',h',β',g',hq⟩:=hq
    obtain⟨v,hv,hle,hl,hr⟩:=opt_iff.1 hq
    exact⟨g'.defers,v,res_run g' hv,S'.box 0,h',g'.fine.re rfl rfl,hl.sub,fin g' hle,hr⟩
  | ret=>
    obtain⟨S',h',β',g',hq⟩:=hq
    obtain⟨v,hv,hle,hl,hr⟩:=opt_iff.1 hq
    exact⟨g'.defers,v,res_run g' hv,S'.box 0,h',g'.fine.re rfl rfl,hl.sub,fin g' hle,hr⟩
  |exit id=>obtain⟨S',h',β',g',hq⟩:=hq;exact(hq:False).elim
  |goto l=>obtain⟨S',h',β',g',hq⟩:=hq;exact(hq:False).elim⟩
@[go_sem] def resO (S:AS) (t:Nat) (R:List Value→Nat→Prop):Prop:=match lk S.sl t with
  |.v (.slice none 0 0)=>R [] 0
  |.s i off len cap=>off=0∧cap=(S.box i).length∧S.box i≠[]∧R (S.box i) len
  |_=>False
@[go_sem] def rqO (t:Nat) (R:List Value→Nat→PH→Prop):Exit→AS→PH→Prop
  |.normal,S,h=>resO S t fun row len=>R row len h
  |.ret,S,h=>resO S t fun row len=>R row len h
  |_,_,_=>False
theorem SpecO.enter {f:FuncId} {fn:Func} {c:Code} {args:List Value} {R:List Value→Nat→PH→Prop} (hf:M.P.funcs[f]?=some fn) (hb:fn.body=some c) (hok:callable M.P f=true) (hn:fn.ntmps=n) (ha:args.length≤n) (t:Nat) (hr:fn.results=#[.tmp t])
    (hk:∀C [NoPin C],AWP M n C c (rqO t R) NP ⟨argS 0 args,[]⟩ h):SpecO M f args.toArray h R:=⟨hok,fun w hw hg=>by
  refine calls_of_wp hf hb ?_
  have g:G M ⟨w,h,[],[]⟩ n ⟨argS 0 args,[]⟩ h (fun _=>0) {tmps:=args.toArray ++Array.replicate (fn.ntmps - args.toArray.size) undef,defers:=[]} w:=by
    refine⟨by simp;omega,rfl,⟨Below.refl _ _,hw,Sub.refl h,New.refl _ h,hg⟩,fun i cs hi=>by simp at hi,fun i j ci cj hi=>by simp at hi,fun t=>?_,fun t i hi=>?_,Nat.zero_le _,fun i hi=>by cases hi⟩
    · rw[lk_argS]
      split
      · rename_i hc
        refine .inr ?_
        simp only[Nat.sub_zero,List.length_cons] at hc ⊢
        have hlt:t < args.toArray.size:=by simpa using hc.2
        simp only[cv,Array.getD_eq_getD_getElem?,Array.getElem?_append_left hlt]
        simp[hc.2]
      · exact .inl rfl
    · rw[lk_argS] at hi
      split at hi<;>cases hi
  haveI:NoPin ⟨w,h,[],[]⟩:=⟨rfl⟩
  have hres:∀(tmps:Array Value),(results fn tmps).run M.P w=.ok (tmps.getD t undef) w:=fun tmps=>by
    have e:results fn tmps=(do let vs ←fn.results.mapM (rv tmps);pure (if h:vs.size=1 then vs[0] else .tuple vs):Sem Value):=rfl
    rw[e,hr]
    simp[rv]
  have hres':∀(tmps:Array Value) (w':World),(results fn tmps).run M.P w'=.ok (tmps.getD t undef) w':=fun tmps w'=>by
    have e:results fn tmps=(do let vs ←fn.results.mapM (rv tmps);pure (if h:vs.size=1 then vs[0] else .tuple vs):Sem Value):=rfl
    rw[e,hr]
    simp[rv]
  have fin:∀{S':AS} {h':PH} {β':Nat→Nat} {a:Act} {w':World},G M ⟨w,h,[],[]⟩ n S' h' β' a w'→resO S' t (fun row len=>R row len h')→
      ((a.tmps.getD t undef=.slice none 0 0∧R [] 0 h')∨∃b row len T,a.tmps.getD t undef=.slice (some ⟨b,0,none⟩) len row.length∧w.heap.size≤b∧h' b=none∧w'.heap[b]?=some (.cells row.toArray T (0,0))∧row≠[]∧R row len h'):=by
    intro S' h' β' a w' g' hq
    simp only[resO] at hq
    split at hq
    · rename_i hx
      rcases g'.slots t with hs |hs<;>rw[hx] at hs
      · cases hs
      · exact .inl ⟨hs,hq⟩
    · rename_i i off len cap hx
      obtain⟨rfl,rfl,hne,hq⟩:=hq
      have hi:i < S'.bx.length:=g'.wf t i (by rw[hx];rfl)
      have hbx:=g'.boxes i (S'.box i) (by simp[AS.box,hi]) hne
      obtain⟨T,hrow⟩:=hbx.row
      rcases g'.slots t with hs |hs<;>rw[hx] at hs
      · cases hs
      · exact .inr ⟨β' i,S'.box i,len,T,hs,hbx.old,hbx.own,hrow,hne,hq⟩
    · exact hq.elim
  refine wp_mono (hk ⟨w,h,[],[]⟩ _ _ w g) fun e a w' hq=>?_
  cases e with
  | panic ch=>
    obtain⟨hd,h',hfine,he⟩:=hq
    exact(he:False).elim
  |outgrown=>exact(hq:False).elim
  | normal=>
    obtain⟨S',h',β',g',hq⟩:=hq
    exact⟨g'.defers,_,hres' _ _,h',g'.fine.below,g'.fine.has,g'.fine.sub,g'.fine.new,fin g' hq⟩
  | ret=>
    obtain⟨S',h',β',g',hq⟩:=hq
    exact⟨g'.defers,_,hres' _ _,h',g'.fine.below,g'.fine.has,g'.fine.sub,g'.fine.new,fin g' hq⟩
  |exit id=>obtain⟨S',h',β',g',hq⟩:=hq;exact(hq:False).elim
  |goto l=>obtain⟨S',h',β',g',hq⟩:=hq;exact(hq:False).elim⟩
end
attribute [irreducible] walk
attribute [go_sem] cls cond_true cond_false Bool.not_true Bool.not_false List.length_cons List.length_nil List.cons_append List.nil_append List.getD_cons_zero List.getD_cons_succ List.set_cons_zero List.set_cons_succ List.drop_zero List.drop_succ_cons List.take_zero List.take_succ_cons List.getElem?_cons_zero List.getElem?_cons_succ List.map_cons List.map_nil List.map_append Option.map_some Option.map_none Nat.zero_add Nat.add_zero beq_self_eq_true List.all_cons List.all_nil Bool.and_true Bool.true_and and_true true_and List.append_nil List.append_assoc Value.cells Value.oneCell' exists_eq_left exists_eq_left' Option.some.injEq forall_eq forall_eq' if_true if_false Nat.sub_zero eq_self ite_self id_eq
end Go.Q
namespace Go.Q
open Go.Proofs
def debruijn:List Int:=[0,1,28,2,29,14,24,3,30,22,20,15,25,17,4,8,31,27,13,23,21,19,16,7,26,12,18,6,11,5,10,9]
def tabCells:Array Value:=(debruijn.map (Value.int .u8)).toArray
noncomputable def mach:Mach:=⟨Tryz.prog,fun b=>if b=0 then some tabCells else none,by kernel_rfl⟩
end Go.Q
namespace Go.Q
@[go_sem] theorem ty_alen_9:alen mach.P 9=none:=by kernel_rfl
@[go_sem] theorem ty_alen_22:alen mach.P 22=none:=by kernel_rfl
@[go_sem] theorem ty_alen_25:alen mach.P 25=none:=by kernel_rfl
@[go_sem] theorem ty_alen_63:alen mach.P 63=none:=by kernel_rfl
@[go_sem] theorem ty_alen_74:alen mach.P 74=none:=by kernel_rfl
@[go_sem] theorem ty_alen_99:alen mach.P 99=some 2:=by kernel_rfl
@[go_sem] theorem ty_alen_100:alen mach.P 100=none:=by kernel_rfl
@[go_sem] theorem ty_alen_148:alen mach.P 148=some 32:=by kernel_rfl
@[go_sem] theorem ty_esz_9:esz mach.P 9=none:=by kernel_rfl
@[go_sem] theorem ty_esz_22:esz mach.P 22=some 1:=by kernel_rfl
@[go_sem] theorem ty_esz_24:esz mach.P 24=none:=by kernel_rfl
@[go_sem] theorem ty_esz_25:esz mach.P 25=some 1:=by kernel_rfl
@[go_sem] theorem ty_esz_27:esz mach.P 27=none:=by kernel_rfl
@[go_sem] theorem ty_esz_45:esz mach.P 45=none:=by kernel_rfl
@[go_sem] theorem ty_esz_63:esz mach.P 63=some 1:=by kernel_rfl
@[go_sem] theorem ty_esz_74:esz mach.P 74=some 1:=by kernel_rfl
@[go_sem] theorem ty_esz_76:esz mach.P 76=none:=by kernel_rfl
@[go_sem] theorem ty_esz_94:esz mach.P 94=none:=by kernel_rfl
@[go_sem] theorem ty_esz_99:esz mach.P 99=some 3:=by kernel_rfl
@[go_sem] theorem ty_esz_100:esz mach.P 100=some 6:=by kernel_rfl
@[go_sem] theorem ty_esz_120:esz mach.P 120=none:=by kernel_rfl
@[go_sem] theorem ty_esz_148:esz mach.P 148=some 1:=by kernel_rfl
@[go_sem] theorem ty_etk_9:etk mach.P 9=none:=by kernel_rfl
@[go_sem] theorem ty_etk_24:etk mach.P 24=none:=by kernel_rfl
@[go_sem] theorem ty_etk_27:etk mach.P 27=none:=by kernel_rfl
@[go_sem] theorem ty_etk_45:etk mach.P 45=none:=by kernel_rfl
@[go_sem] theorem ty_etk_76:etk mach.P 76=none:=by kernel_rfl
@[go_sem] theorem ty_etk_94:etk mach.P 94=none:=by kernel_rfl
@[go_sem] theorem ty_etk_99:etk mach.P 99=some (some 3):=by kernel_rfl
@[go_sem] theorem ty_etk_120:etk mach.P 120=none:=by kernel_rfl
@[go_sem] theorem ty_fo_24_0:fo mach.P 24 0=some 0:=by kernel_rfl
@[go_sem] theorem ty_fo_24_1:fo mach.P 24 1=some 1:=by kernel_rfl
@[go_sem] theorem ty_fo_24_2:fo mach.P 24 2=some 2:=by kernel_rfl
@[go_sem] theorem ty_fo_27_0:fo mach.P 27 0=some 0:=by kernel_rfl
@[go_sem] theorem ty_fo_27_1:fo mach.P 27 1=some 1:=by kernel_rfl
@[go_sem] theorem ty_fo_27_2:fo mach.P 27 2=some 2:=by kernel_rfl
@[go_sem] theorem ty_fo_45_0:fo mach.P 45 0=some 0:=by kernel_rfl
@[go_sem] theorem ty_fo_45_1:fo mach.P 45 1=some 3:=by kernel_rfl
@[go_sem] theorem ty_fo_76_0:fo mach.P 76 0=some 0:=by kernel_rfl
@[go_sem] theorem ty_fo_76_1:fo mach.P 76 1=some 1:=by kernel_rfl
@[go_sem] theorem ty_fo_94_0:fo mach.P 94 0=some 0:=by kernel_rfl
@[go_sem] theorem ty_fo_94_1:fo mach.P 94 1=some 3:=by kernel_rfl
@[go_sem] theorem ty_fo_120_0:fo mach.P 120 0=some 0:=by kernel_rfl
@[go_sem] theorem ty_fo_120_1:fo mach.P 120 1=some 1:=by kernel_rfl
@[go_sem] theorem ty_fo_120_2:fo mach.P 120 2=some 2:=by kernel_rfl
@[go_sem] theorem ty_fpl_76_0:fpl mach.P 76 0=some (0,none):=by kernel_rfl
@[go_sem] theorem ty_fpl_76_1:fpl mach.P 76 1=some (1,none):=by kernel_rfl
@[go_sem] theorem ty_fpls_24:fpls mach.P 24=some [(0,none),(1,none),(2,none)]:=by kernel_rfl
@[go_sem] theorem ty_fpls_27:fpls mach.P 27=some [(0,none),(1,none),(2,none)]:=by kernel_rfl
@[go_sem] theorem ty_fpls_45:fpls mach.P 45=some [(0,some 3),(3,some 3)]:=by kernel_rfl
@[go_sem] theorem ty_fpls_76:fpls mach.P 76=some [(0,none),(1,none)]:=by kernel_rfl
@[go_sem] theorem ty_fpls_94:fpls mach.P 94=some [(0,some 3),(3,some 3)]:=by kernel_rfl
@[go_sem] theorem ty_fpls_99:fpls mach.P 99=none:=by kernel_rfl
@[go_sem] theorem ty_fpls_120:fpls mach.P 120=some [(0,none),(1,none),(2,none)]:=by kernel_rfl
@[go_sem] theorem ty_mk1_22:mk1 mach.P 22=some ((.int .u32 0),4):=by kernel_rfl
@[go_sem] theorem ty_mk1_25:mk1 mach.P 25=some ((.int .u32 0),4):=by kernel_rfl
@[go_sem] theorem ty_mk1_63:mk1 mach.P 63=some (.nilFunc,8):=by kernel_rfl
@[go_sem] theorem ty_mk1_100:mk1 mach.P 100=none:=by kernel_rfl
@[go_sem] theorem ty_mkB_22:mkB mach.P 22=some ([(.int .u32 0)],none):=by kernel_rfl
@[go_sem] theorem ty_mkB_25:mkB mach.P 25=some ([(.int .u32 0)],none):=by kernel_rfl
@[go_sem] theorem ty_mkB_63:mkB mach.P 63=some ([.nilFunc],none):=by kernel_rfl
@[go_sem] theorem ty_mkB_100:mkB mach.P 100=some ([(.bool false),(.slice none 0 0),(.slice none 0 0),(.bool false),(.slice none 0 0),(.slice none 0 0)],some 6):=by kernel_rfl
@[go_sem] theorem ty_tk_3:tk mach.P 3=some none:=by kernel_rfl
@[go_sem] theorem ty_tk_4:tk mach.P 4=some none:=by kernel_rfl
@[go_sem] theorem ty_tk_5:tk mach.P 5=some none:=by kernel_rfl
@[go_sem] theorem ty_tk_22:tk mach.P 22=some none:=by kernel_rfl
@[go_sem] theorem ty_tk_24:tk mach.P 24=some (some 3):=by kernel_rfl
@[go_sem] theorem ty_tk_25:tk mach.P 25=some none:=by kernel_rfl
@[go_sem] theorem ty_tk_27:tk mach.P 27=some (some 3):=by kernel_rfl
@[go_sem] theorem ty_tk_45:tk mach.P 45=some (some 6):=by kernel_rfl
@[go_sem] theorem ty_tk_50:tk mach.P 50=some none:=by kernel_rfl
@[go_sem] theorem ty_tk_51:tk mach.P 51=some none:=by kernel_rfl
@[go_sem] theorem ty_tk_74:tk mach.P 74=some none:=by kernel_rfl
@[go_sem] theorem ty_tk_76:tk mach.P 76=some (some 2):=by kernel_rfl
@[go_sem] theorem ty_tk_94:tk mach.P 94=some (some 6):=by kernel_rfl
@[go_sem] theorem ty_tk_99:tk mach.P 99=some (some 6):=by kernel_rfl
@[go_sem] theorem ty_tk_120:tk mach.P 120=some (some 3):=by kernel_rfl
@[go_sem] theorem ty_uk_2:uk mach.P 2=.int .i64:=by kernel_rfl
@[go_sem] theorem ty_uk_3:uk mach.P 3=.int .i64:=by kernel_rfl
@[go_sem] theorem ty_uk_4:uk mach.P 4=.bool:=by kernel_rfl
@[go_sem] theorem ty_uk_5:uk mach.P 5=.int .u8:=by kernel_rfl
@[go_sem] theorem ty_uk_9:uk mach.P 9=.string:=by kernel_rfl
@[go_sem] theorem ty_uk_22:uk mach.P 22=.slice:=by kernel_rfl
@[go_sem] theorem ty_uk_24:uk mach.P 24=.struct:=by kernel_rfl
@[go_sem] theorem ty_uk_25:uk mach.P 25=.slice:=by kernel_rfl
@[go_sem] theorem ty_uk_27:uk mach.P 27=.struct:=by kernel_rfl
@[go_sem] theorem ty_uk_42:uk mach.P 42=.int .u64:=by kernel_rfl
@[go_sem] theorem ty_uk_45:uk mach.P 45=.struct:=by kernel_rfl
@[go_sem] theorem ty_uk_46:uk mach.P 46=.int .i64:=by kernel_rfl
@[go_sem] theorem ty_uk_51:uk mach.P 51=.int .u32:=by kernel_rfl
@[go_sem] theorem ty_uk_63:uk mach.P 63=.slice:=by kernel_rfl
@[go_sem] theorem ty_uk_71:uk mach.P 71=.int .u64:=by kernel_rfl
@[go_sem] theorem ty_uk_74:uk mach.P 74=.slice:=by kernel_rfl
@[go_sem] theorem ty_uk_76:uk mach.P 76=.struct:=by kernel_rfl
@[go_sem] theorem ty_uk_94:uk mach.P 94=.struct:=by kernel_rfl
@[go_sem] theorem ty_uk_99:uk mach.P 99=.array 2:=by kernel_rfl
@[go_sem] theorem ty_uk_100:uk mach.P 100=.slice:=by kernel_rfl
@[go_sem] theorem ty_uk_120:uk mach.P 120=.struct:=by kernel_rfl
@[go_sem] theorem ty_uk_148:uk mach.P 148=.array 32:=by kernel_rfl
@[go_sem] theorem ty_zer_24:zer mach.P 24=some [(.bool false),(.slice none 0 0),(.slice none 0 0)]:=by kernel_rfl
@[go_sem] theorem ty_zer_27:zer mach.P 27=some [(.bool false),(.slice none 0 0),(.slice none 0 0)]:=by kernel_rfl
@[go_sem] theorem ty_zer_45:zer mach.P 45=some [(.bool false),(.slice none 0 0),(.slice none 0 0),(.bool false),(.slice none 0 0),(.slice none 0 0)]:=by kernel_rfl
@[go_sem] theorem ty_zer_76:zer mach.P 76=some [(.slice none 0 0),(.slice none 0 0)]:=by kernel_rfl
@[go_sem] theorem ty_zer_94:zer mach.P 94=some [(.bool false),(.slice none 0 0),(.slice none 0 0),(.bool false),(.slice none 0 0),(.slice none 0 0)]:=by kernel_rfl
@[go_sem] theorem ty_zer_99:zer mach.P 99=some [(.bool false),(.slice none 0 0),(.slice none 0 0),(.bool false),(.slice none 0 0),(.slice none 0 0)]:=by kernel_rfl
@[go_sem] theorem ty_zer_120:zer mach.P 120=some [(.bool false),(.slice none 0 0),(.slice none 0 0)]:=by kernel_rfl
end Go.Q
namespace Go.Q
def W (B n:Nat):List Nat:=if h:n=0∨B≤1 then [] else n % B :: W B (n / B)
termination_by n
decreasing_by exact Nat.div_lt_self (by omega) (by omega)
def val (B:Nat):List Nat→Nat
  |[]=>0
  |x :: xs=>x+B*val B xs
theorem W_zero (B:Nat):W B 0=[]:=by unfold W;simp
theorem W_pos {B n:Nat} (hB:2≤B) (hn:n≠0):W B n=n % B :: W B (n / B):=by
  rw[W];rw[dif_neg (by omega)]
theorem val_W {B:Nat} (hB:2≤B) (n:Nat):val B (W B n)=n:=by
  induction n using Nat.strongRecOn with
  | _ n ih=>
    by_cases hn:n=0
    · subst hn;rw[W_zero];rfl
    · rw[W_pos hB hn,val,ih _ (Nat.div_lt_self (by omega) (by omega))]
      exact Nat.mod_add_div n B
theorem W_lt {B:Nat} (hB:2≤B) (n:Nat):∀x∈W B n,x < B:=by
  induction n using Nat.strongRecOn with
  | _ n ih=>
    by_cases hn:n=0
    · subst hn;rw[W_zero];intro x hx;cases hx
    · rw[W_pos hB hn]
      intro x hx
      rcases List.mem_cons.1 hx with rfl |hx
      · exact Nat.mod_lt _ (by omega)
      · exact ih _ (Nat.div_lt_self (by omega) (by omega)) x hx
theorem W_val {B:Nat} (hB:2≤B):∀(xs:List Nat),(∀x∈xs,x < B)→xs.getLast?≠some 0→W B (val B xs)=xs:=by
  intro xs
  induction xs with
  |nil=>intro _ _;exact W_zero B
  | cons x xs ih=>
    intro hlt hlast
    have hx:=hlt x (List.mem_cons_self ..)
    have ih':=ih (fun y hy=>hlt y (List.mem_cons_of_mem _ hy)) (by
      cases xs with
      |nil=>simp
      |cons y ys=>simpa[List.getLast?_cons_cons] using hlast)
    have hne:val B (x :: xs)≠0:=by
      simp only[val]
      intro h
      have hx0:x=0:=by omega
      have hv0:val B xs=0:=by
        rcases Nat.eq_zero_or_pos (val B xs) with h |h
        · exact h
        · have:=Nat.mul_pos (show 0 < B by omega) h;omega
      rw[hv0,W_zero] at ih'
      subst hx0
      rw[←ih'] at hlast
      simp at hlast
    rw[W_pos hB hne]
    have h1:val B (x :: xs) % B=x:=by simp only[val];rw[Nat.add_mul_mod_self_left];exact Nat.mod_eq_of_lt hx
    have h2:val B (x :: xs) / B=val B xs:=by
      simp only[val]
      rw[Nat.add_mul_div_left _ _ (by omega),Nat.div_eq_of_lt hx,Nat.zero_add]
    rw[h1,h2,ih']
theorem val_append (B:Nat):∀(xs ys:List Nat),val B (xs ++ys)=val B xs+B^xs.length*val B ys:=by
  intro xs ys
  induction xs with
  |nil=>simp[val]
  | cons x xs ih=>
    simp only[List.cons_append,val,ih,List.length_cons,Nat.pow_succ]
    rw[Nat.mul_add,Nat.mul_comm (B^xs.length) B,Nat.mul_assoc,Nat.add_assoc]
theorem val_zeros (B k:Nat):val B (List.replicate k 0)=0:=by
  induction k with
  |zero=>rfl
  |succ k ih=>simp[List.replicate_succ,val,ih]
theorem val_lt {B:Nat} (hB:1≤B):∀(xs:List Nat),(∀x∈xs,x < B)→val B xs < B^xs.length:=by
  intro xs
  induction xs with
  |nil=>intro _;simp[val]
  | cons x xs ih=>
    intro hlt
    have hx:=hlt x (List.mem_cons_self ..)
    have h1:=ih (fun y hy=>hlt y (List.mem_cons_of_mem _ hy))
    simp only[val,List.length_cons,Nat.pow_succ]
    have:B*val B xs+B≤B^xs.length*B:=by
      have:=Nat.mul_le_mul_left B (show val B xs+1≤B^xs.length by omega)
      rw[Nat.mul_add,Nat.mul_one] at this
      rw[Nat.mul_comm (B^xs.length) B]
      exact this
    omega
theorem W_length_le {B:Nat} (hB:2≤B) {n k:Nat} (h:n < B^k):(W B n).length≤k:=by
  induction k generalizing n with
  | zero => have:n=0:=by simpa using h
            subst this;rw[W_zero];simp
  | succ k ih=>
    by_cases hn:n=0
    · subst hn;rw[W_zero];simp
    · rw[W_pos hB hn]
      have:n / B < B^k:=by rw[Nat.div_lt_iff_lt_mul (by omega)];rw[←Nat.pow_succ];exact h
      have:=ih this
      simp;omega
theorem lt_W_length {B:Nat} (hB:2≤B) (n:Nat):n < B^(W B n).length:=by
  have:=val_lt (show 1≤B by omega) (W B n) (W_lt hB n)
  rwa[val_W hB] at this
theorem W_length_ge {B:Nat} (hB:2≤B) {n k:Nat} (h:B^k≤n):k < (W B n).length:=by
  rcases Nat.lt_or_ge k (W B n).length with h' |h'
  · exact h'
  · exfalso
    have h1:=lt_W_length hB n
    have h2:=Nat.pow_le_pow_right (show 0 < B by omega) h'
    omega
structure Arr (h:PH) (a:Option Addr) (c:Nat) (xs:List Nat):Prop where
  cap:xs.length≤c
  small:xs.length≤2^46
  lt:∀x∈xs,x < 4294967296
  at_:∀(i:Nat) (x:Nat),xs[i]?=some x→∃ad,a=some ad∧h.at (ad.add i)=some (.int .u32 x)
theorem Arr.to {h h':PH} {a:Option Addr} {c:Nat} {xs:List Nat} (r:Arr h a c xs) [l:Le h h']:Arr h' a c xs:=
  ⟨r.cap,r.small,r.lt,fun i x hx=>let ⟨ad,h1,h2⟩:=r.at_ i x hx;⟨ad,h1,l.sub.at h2⟩⟩
theorem Arr.take {h:PH} {a:Option Addr} {c:Nat} {xs:List Nat} (r:Arr h a c xs) (k:Nat):Arr h a c (xs.take k):=
  ⟨by have:=r.cap;simp;omega,by have:=r.small;simp;omega,fun x hx=>r.lt x (List.mem_of_mem_take hx),fun i x hx=>r.at_ i x (by
    rw[List.getElem?_take] at hx
    split at hx
    · exact hx
    · cases hx)⟩
theorem Arr.get {h:PH} {a:Option Addr} {c:Nat} {xs:List Nat} (r:Arr h a c xs) {i:Nat} (hi:i < xs.length):∃ad,a=some ad∧h.at (ad.add i)=some (.int .u32 (xs.getD i 0)):=by
  refine r.at_ i _ ?_
  simp[hi]
theorem Arr.nil (h:PH):Arr h none 0 []:=⟨by simp,by simp,by simp,by simp⟩
def N32 (h:PH) (v:Value) (n:Nat):Prop:=∃a c,v=.slice a (W 4294967296 n).length c∧Arr h a c (W 4294967296 n)
theorem N32.to {h h':PH} {v:Value} {n:Nat} (r:N32 h v n) [Le h h']:N32 h' v n:=let ⟨a,c,h1,h2⟩:=r;⟨a,c,h1,h2.to⟩
theorem N32.zero (h:PH):N32 h (.slice none 0 0) 0:=⟨none,0,by rw[W_zero];rfl,by rw[W_zero];exact Arr.nil h⟩
@[go_sem] theorem wi64 {x:Int} (h0: -9223372036854775808≤x) (h1:x≤9223372036854775807):IntKind.i64.wrap x=x:=by
  rw[IntKind.wrap_i64]
  omega
@[go_sem] theorem wu64 {x:Int} (h0:0≤x) (h1:x≤18446744073709551615):IntKind.u64.wrap x=x:=by
  rw[IntKind.wrap_u64]
  omega
@[go_sem] theorem wu32 {x:Int} (h0:0≤x) (h1:x≤4294967295):IntKind.u32.wrap x=x:=by
  rw[IntKind.wrap_u32]
  omega
@[go_sem] theorem wu8 {x:Int} (h0:0≤x) (h1:x≤255):IntKind.u8.wrap x=x:=by
  rw[IntKind.wrap_u8]
  omega
@[go_sem low] theorem wu32m (n:Nat):IntKind.u32.wrap (n:Int)=((n % 4294967296:Nat):Int):=by
  rw[IntKind.wrap_u32]
  omega
@[go_sem low] theorem wu64m (n:Nat):IntKind.u64.wrap (n:Int)=((n % 18446744073709551616:Nat):Int):=by
  rw[IntKind.wrap_u64]
  omega
@[go_sem low] theorem wu8m (n:Nat):IntKind.u8.wrap (n:Int)=((n % 256:Nat):Int):=by
  rw[IntKind.wrap_u8]
  omega
@[go_sem] theorem nc_add (a b:Nat):((a:Int)+(b:Int))=((a+b:Nat):Int):=by omega
@[go_sem] theorem nc0:((0:Nat):Int)=0:=rfl
@[go_sem] theorem nc1:((1:Nat):Int)=1:=rfl
@[go_sem] theorem nc_add1 (a:Nat):((a:Int)+1)=((a+1:Nat):Int):=by omega
@[go_sem] theorem nc_mul (a b:Nat):((a:Int)*(b:Int))=((a*b:Nat):Int):=by simp
@[go_sem] theorem nc_sub1 {a:Nat} (h:1≤a):((a:Int) - 1)=((a - 1:Nat):Int):=by omega
@[go_sem] theorem nc_sub {a b:Nat} (h:b≤a):((a:Int) - (b:Int))=((a - b:Nat):Int):=by omega
theorem fdivp (s x:Nat):(s:Int).fdiv (2^x)=((s / 2^x:Nat):Int):=by
  rw[Int.fdiv_eq_ediv_of_nonneg _ (Int.le_of_lt (Int.pow_pos (by omega)))]
  simp
@[go_sem] theorem fdiv32 (s:Nat):(s:Int).fdiv (2^min (Int.toNat 32) 64)=((s / 4294967296:Nat):Int):=fdivp s 32
@[go_sem] theorem fdiv16 (s:Nat):(s:Int).fdiv (2^min (Int.toNat 16) 32)=((s / 65536:Nat):Int):=fdivp s 16
@[go_sem] theorem fdiv8 (s:Nat):(s:Int).fdiv (2^min (Int.toNat 8) 32)=((s / 256:Nat):Int):=fdivp s 8
@[go_sem] theorem fdiv27 (s:Nat):(s:Int).fdiv (2^min (Int.toNat 27) 32)=((s / 134217728:Nat):Int):=fdivp s 27
@[go_sem] theorem fdiv63 (s:Nat):(s:Int).fdiv (2^min (Int.toNat 63) 64)=((s / 9223372036854775808:Nat):Int):=fdivp s 63
@[go_sem low] theorem fdivn (s:Nat) {x w:Nat} (h:x≤w):(s:Int).fdiv (2^min x w)=((s / 2^x:Nat):Int):=by rw[Nat.min_eq_left h,fdivp]
@[go_sem] theorem rep2 {α:Type} (x:α):List.replicate 2 x=[x,x]:=rfl
@[go_sem] theorem tmod_nat (a b:Nat):(a:Int).tmod (b:Int)=((a % b:Nat):Int):=rfl
@[go_sem] theorem tdiv_nat (a b:Nat):(a:Int).tdiv (b:Int)=((a / b:Nat):Int):=rfl
@[go_sem low] theorem nc_addO (a b:Nat):(a:Int)+(no_index (@OfNat.ofNat Int b instOfNat))=((a+@OfNat.ofNat Nat b (instOfNatNat b):Nat):Int):=rfl
@[go_sem low] theorem nc_Oadd (a b:Nat):(no_index (@OfNat.ofNat Int b instOfNat))+(a:Int)=((@OfNat.ofNat Nat b (instOfNatNat b)+a:Nat):Int):=rfl
@[go_sem low] theorem nc_mulO (a b:Nat):(a:Int)*(no_index (@OfNat.ofNat Int b instOfNat))=((a*@OfNat.ofNat Nat b (instOfNatNat b):Nat):Int):=rfl
@[go_sem low] theorem nc_Omul (a b:Nat):(no_index (@OfNat.ofNat Int b instOfNat))*(a:Int)=((@OfNat.ofNat Nat b (instOfNatNat b)*a:Nat):Int):=rfl
@[go_sem low] theorem tdivO (a b:Nat):(a:Int).tdiv (no_index (@OfNat.ofNat Int b instOfNat))=((a / @OfNat.ofNat Nat b (instOfNatNat b):Nat):Int):=rfl
@[go_sem low] theorem tmodO (a b:Nat):(a:Int).tmod (no_index (@OfNat.ofNat Int b instOfNat))=((a % @OfNat.ofNat Nat b (instOfNatNat b):Nat):Int):=rfl
@[go_sem low] theorem nc_subO {a b:Nat} (h: @OfNat.ofNat Nat b (instOfNatNat b)≤a):(a:Int) - (no_index (@OfNat.ofNat Int b instOfNat))=((a - @OfNat.ofNat Nat b (instOfNatNat b):Nat):Int):=by
  have:(@OfNat.ofNat Int b instOfNat)=((@OfNat.ofNat Nat b (instOfNatNat b):Nat):Int):=rfl
  rw[this];omega
@[go_sem] theorem shl32 (x:Nat):(x:Int)*2^(min (Int.toNat 32) 64)=((x*4294967296:Nat):Int):=rfl
@[go_sem low] theorem shln {x r w:Nat} (h:r≤w):(x:Int)*2^(min r w)=((x*2^r:Nat):Int):=by rw[Nat.min_eq_left h];simp
theorem ofInt_toNat (w n:Nat) (h:n < 2^w):(BitVec.ofInt w (n:Int)).toNat=n:=by
  rw[BitVec.toNat_ofInt,←Int.natCast_emod,Int.toNat_natCast,Nat.mod_eq_of_lt h]
@[go_sem] theorem andI_u32 {a b:Nat} (ha:a < 4294967296) (hb:b < 4294967296):andI .u32 a b=((a &&& b:Nat):Int):=by
  unfold andI
  rw[BitVec.toNat_and]
  rw[show IntKind.u32.bits=32 from rfl,ofInt_toNat 32 a ha,ofInt_toNat 32 b hb,wu32m,Nat.mod_eq_of_lt (Nat.and_lt_two_pow (n:=32) _ hb)]
@[go_sem] theorem andI_u64 {a b:Nat} (ha:a < 18446744073709551616) (hb:b < 18446744073709551616):andI .u64 a b=((a &&& b:Nat):Int):=by
  unfold andI
  rw[BitVec.toNat_and]
  rw[show IntKind.u64.bits=64 from rfl,ofInt_toNat 64 a ha,ofInt_toNat 64 b hb,wu64m,Nat.mod_eq_of_lt (Nat.and_lt_two_pow (n:=64) _ hb)]
@[go_sem] theorem orI_u32 {a b:Nat} (ha:a < 4294967296) (hb:b < 4294967296):orI .u32 a b=((a ||| b:Nat):Int):=by
  unfold orI
  rw[BitVec.toNat_or]
  rw[show IntKind.u32.bits=32 from rfl,ofInt_toNat 32 a ha,ofInt_toNat 32 b hb,wu32m,Nat.mod_eq_of_lt (Nat.or_lt_two_pow (n:=32) ha hb)]
@[go_sem] theorem orI_u64 {a b:Nat} (ha:a < 18446744073709551616) (hb:b < 18446744073709551616):orI .u64 a b=((a ||| b:Nat):Int):=by
  unfold orI
  rw[BitVec.toNat_or]
  rw[show IntKind.u64.bits=64 from rfl,ofInt_toNat 64 a ha,ofInt_toNat 64 b hb,wu64m,Nat.mod_eq_of_lt (Nat.or_lt_two_pow (n:=64) ha hb)]
theorem dT {p:Prop} [Decidable p] (h:p):decide p=true:=decide_eq_true h
theorem dF {p:Prop} [Decidable p] (h:¬p):decide p=false:=decide_eq_false h
theorem eT {x y:Int} (h:x=y):(x == y)=true:=by simp[h]
theorem eF {x y:Int} (h:x≠y):(x == y)=false:=by simp[h]
theorem nT {x y:Int} (h:x≠y):(x != y)=true:=by simp[h]
theorem nF {x y:Int} (h:x=y):(x != y)=false:=by simp[h]
theorem aT {p q:Prop} (h:p):(p∧q)=q:=by simp[h]
attribute [go_sem] dT dF eT eF nT nF aT Int.toNat_natCast
def notReg:Code→Bool
  |.region ..=>false
  |_=>true
def gl1 (S:AS):Option (Nat×Bool)→AV
  |none=>.v (.bool true)
  |some (t,_)=>lk S.sl t
def gr1:Option (Nat×Bool)→AV
  |none=>.v (.bool true)
  |some (_,w)=>.v (.bool w)
@[go_sem] def gq:Bool→Option (Nat×Bool)→Bool
  |_,none=>true
  |true,some (_,true)=>true
  |true,some (_,false)=>false
  |false,some (_,true)=>false
  |false,some (_,false)=>true
@[go_sem] def stepG:Bool→Mach→(List PanicEntry→PH→Prop)→GOp→(AS→PH→Prop)→AS→PH→Prop
  |true,M,E,g,k,S,h=>step1 M E g k S h
  |false,_,_,g,k,S,h=>k (S.put g.dst (.v undef)) h
section
variable {M:Mach} {C:Ctx} {n:Nat} {E:List PanicEntry→PH→Prop} {d:Option Nat} {op:Op} {l:List GX} {K:AS→PH→Prop} {S:AS} {h:PH} {id:Nat} {ops:Array Oper} {c y:Code} {Q:Exit→AS→PH→Prop} {gd:Option (Nat×Bool)}
theorem wo {b:Bool} (hg:gl1 S gd=.v (.bool b)) (hk:∀k:AS→PH→Prop,(∀S h,walk M E l K S h→k S h)→stepG (gq b gd) M E ⟨d,op,none⟩ k S h):walk M E (.o ⟨d,op,gd⟩ :: l) K S h:=by
  cases gd with
  |none=>exact wk hk
  | some g=>
    obtain⟨t,want⟩:=g
    cases b<;>cases want
    · exact wkT hg hk
    · exact wkG hg hk
    · exact wkG hg hk
    · exact wkT hg hk
theorem wc (hg:gl1 S gd=gr1 gd) (hk:∀k:AS→PH→Prop,(∀S h,walk M E l K S h→k S h)→step1 M E ⟨d,op,none⟩ k S h):walk M E (.o ⟨d,op,gd⟩ :: l) K S h:=by
  cases gd with
  |none=>exact wk hk
  | some g=>
    obtain⟨t,want⟩:=g
    exact wkT hg hk
theorem cN {f:FuncId} {fo:Operand} {xs:Array Operand} {ts:Array TypeId} {first cap:Array Value} {vs:List Value} {R:Value→PH→Prop} (hc:(cls (.call {callee:=.value fo,args:=xs,argTypes:=ts}) == 0)=false) (hg:gl1 S gd=gr1 gd) (hf:S.ev fo=.v (.func (.func f) first cap)) (hv:vals (xs.toList.map S.ev)=some vs)
    (s:Spec M f (first.toList ++vs ++cap.toList).toArray h R NP) (hn:∀v h',Step h h'→R v h'→walk M E l K (S.put d (.v v)) h'):walk M E (.o ⟨d,.call {callee:=.value fo,args:=xs,argTypes:=ts},gd⟩ :: l) K S h:=wc hg fun k hk=>by
  simp only[step1,hc,cond_false,imA,hf,hv]
  exact call_np s fun v h' hs hr=>hk _ _ (hn v h' hs hr)
theorem AWP_sq {x:Code} (hr:notReg x=true) (hx:∀K:AS→PH→Prop,(∀S h,AWP M n C y Q E S h→K S h)→AWP M n C x (qs K Q) E S h):AWP M n C (.seq x y) Q E S h:=AWP_seqk hx
def into (M:Mach) (n:Nat) (C:Ctx) (Q:Exit→AS→PH→Prop) (E:List PanicEntry→PH→Prop) (S:AS) (h:PH):Code→Option Prop
  |.block id x=>some (AWP M n C x (qb id Q) E S h)
  | .cond o x y=>match S.ev o with
    |.v (.bool true)=>some (AWP M n C x Q E S h)
    |.v (.bool false)=>some (AWP M n C y Q E S h)
    |_=>none
  |_=>none
theorem ct {P:Prop} (hi:into M n C Q E S h c=some P) (hp:P):AWP M n C c Q E S h:=by
  unfold into at hi
  split at hi
  · cases hi;exact AWP_block hp
  · split at hi
    · rename_i hx;cases hi;exact AWP_condT hx hp
    · rename_i hx;cases hi;exact AWP_condF hx hp
    · cases hi
  · cases hi
def behind (M:Mach) (n:Nat) (C:Ctx) (Q:Exit→AS→PH→Prop) (E:List PanicEntry→PH→Prop):Option Code→AS→PH→Prop
  |none=>Q .normal
  |some y=>fun S h=>AWP M n C y Q E S h
def front:Code→Option (Array Oper×Bool×Option Code)
  |.region _ ops d=>some (ops,d,none)
  |.seq (.region _ ops d) y=>some (ops,d,some y)
  |_=>none
theorem rg {z:Option Code} (hc:front c=some (ops,false,z)) (hl:prep n ops (plain ops.size)=some l) (hw:∀K:AS→PH→Prop,(∀S h,behind M n C Q E z S h→K S h)→walk M E l K S h):AWP M n C c Q E S h:=by
  unfold front at hc
  split at hc
  · cases hc;exact AWP_sk hl (hw _ fun _ _ h=>h)
  · cases hc;exact AWP_rs hl hw
  · cases hc
theorem rd {z:Option Code} (pl:List PL) (hc:front c=some (ops,true,z)) (ho:regionOk ops (order pl)=true) (hl:prep n ops pl=some l) (hw:∀K:AS→PH→Prop,(∀S h,behind M n C Q E z S h→K S h)→walk M E l K S h):AWP M n C c Q E S h:=by
  unfold front at hc
  split at hc
  · cases hc;exact AWP_dk pl ho hl (hw _ fun _ _ h=>h)
  · cases hc;exact AWP_rd pl ho hl hw
  · cases hc
end
theorem rsl_id (a:Option Addr) (c e:Nat):(if c=0 then a else a.map fun x=>x.add (0*e))=a:=by
  split
  · rfl
  · cases a<;>simp[Addr.add]
attribute [go_sem] rsl_id Int.toNat_zero Nat.mul_one Nat.add_sub_cancel
theorem W_take {B:Nat} (hB:2≤B):∀(k:Nat) (xs:List Nat),k≤xs.length→(∀x∈xs,x < B)→val B (xs.take k)=val B xs→(k=0∨xs.getD (k - 1) 0≠0)→W B (val B xs)=xs.take k:=by
  intro k xs hk hlt hv hlast
  rw[←hv]
  refine W_val hB _ (fun x hx=>hlt x (List.mem_of_mem_take hx)) ?_
  rcases hlast with rfl |hlast
  · simp
  · intro h
    by_cases h0:k=0
    · subst h0;simp at h
    · rw[List.getLast?_eq_getElem?,List.getElem?_take] at h
      have hl:(xs.take k).length=k:=by simp;omega
      rw[hl,if_pos (by omega)] at h
      rw[List.getD_eq_getElem?_getD,h] at hlast
      exact hlast rfl
theorem val_take_succ {B:Nat} {xs:List Nat} {k:Nat} (hk:k < xs.length) (h0:xs.getD k 0=0):val B (xs.take k)=val B (xs.take (k+1)):=by
  rw[List.take_succ_eq_append_getElem hk,val_append]
  have:xs[k]=0:=by simpa[hk] using h0
  simp[this,val]
theorem W_prefix {B:Nat} (hB:2≤B) (xs:List Nat) (hlt:∀x∈xs,x < B):∃k,k≤xs.length∧W B (val B xs)=xs.take k:=by
  have key:∀(k:Nat),k≤xs.length→val B (xs.take k)=val B xs→∃k,k≤xs.length∧W B (val B xs)=xs.take k:=by
    intro k
    induction k with
    |zero=>intro hk hv;exact⟨0,hk,W_take hB 0 xs hk hlt hv (.inl rfl)⟩
    | succ k ih=>
      intro hk hv
      by_cases h:xs.getD k 0=0
      · exact ih (by omega) (by rw[val_take_succ (by omega) h];exact hv)
      · exact⟨k+1,hk,W_take hB (k+1) xs hk hlt hv (.inr h)⟩
  exact key xs.length (Nat.le_refl _) (by simp)
theorem Arr.W {h:PH} {a:Option Addr} {c:Nat} {xs:List Nat} (r:Arr h a c xs):Arr h a c (W 4294967296 (val 4294967296 xs)):=by
  obtain⟨k,_,hk⟩:=W_prefix (B:=4294967296) (by decide) xs r.lt
  rw[hk];exact r.take k
def uw (xs:List Nat):List Value:=xs.map fun(x:Nat)=>Value.int .u32 x
@[go_sem] theorem uw_length (xs:List Nat):(uw xs).length=xs.length:=by simp[uw]
theorem uw_append (xs ys:List Nat):uw (xs ++ys)=uw xs ++uw ys:=by simp[uw]
theorem uw_get {xs:List Nat} {i:Nat} (h:i < xs.length):(uw xs)[i]?=some (.int .u32 (xs.getD i 0:Nat)):=by simp[uw,h]
theorem uw_set (xs:List Nat) (i y:Nat):(uw xs).set i (.int .u32 (y:Nat))=uw (xs.set i y):=by simp[uw,List.map_set]
theorem uw_zeros (k:Nat):List.replicate k (Value.int .u32 0)=uw (List.replicate k 0):=by simp[uw]
theorem uw_one (xs:List Nat):(uw xs).all Value.oneCell'=true:=by
  rw[List.all_eq_true]
  intro v hv
  obtain⟨x,_,rfl⟩:=List.mem_map.1 hv
  rfl
theorem Arr.of_block {h:PH} {b:Nat} {cs:List Value} {xs:List Nat} {c:Nat} (hb:cs≠[]→h b=some cs.toArray) (hx:∀(i:Nat) (x:Nat),xs[i]?=some x→cs[i]?=some (.int .u32 x)) (hlt:∀x∈xs,x < 4294967296) (hs:xs.length≤2^46) (hc:xs.length≤c):
    Arr h (some ⟨b,0,none⟩) c xs:=⟨hc,hs,hlt,fun i x hi=>⟨_,rfl,by
  have h1:=hx i x hi
  have hne:cs≠[]:=by intro e;rw[e] at h1;cases h1
  simp[PH.at,add_none,hb hne,h1]⟩⟩
theorem Arr.of_row {h:PH} {b:Nat} {xs:List Nat} {c:Nat} (hb:uw xs≠[]→h b=some (uw xs).toArray) (hlt:∀x∈xs,x < 4294967296) (hs:xs.length≤2^46) (hc:xs.length≤c):Arr h (some ⟨b,0,none⟩) c xs:=
  .of_block hb (fun i x hi=>by simp[uw,hi]) hlt hs hc
theorem val_take_succ' (B:Nat) (xs:List Nat) (k:Nat):val B (xs.take (k+1))=val B (xs.take k)+B^k*xs.getD k 0:=by
  by_cases hk:k < xs.length
  · rw[List.take_succ_eq_append_getElem hk,val_append]
    have h1:xs.getD k 0=xs[k]:=by simp[hk]
    rw[h1]
    simp[val,Nat.min_eq_left (Nat.le_of_lt hk)]
  · rw[List.take_of_length_le (by omega),List.take_of_length_le (by omega)]
    have:xs.getD k 0=0:=by simp[List.getD_eq_getElem?_getD,List.getElem?_eq_none (by omega:xs.length≤k)]
    rw[this];simp
theorem getD_lt {B:Nat} (hB:0 < B) {xs:List Nat} (h:∀x∈xs,x < B) (i:Nat):xs.getD i 0 < B:=by
  by_cases hi:i < xs.length
  · simp only[List.getD_eq_getElem?_getD,List.getElem?_eq_getElem hi,Option.getD_some];exact h _ (List.getElem_mem hi)
  · simp[List.getD_eq_getElem?_getD,List.getElem?_eq_none (by omega:xs.length≤i),hB]
end Go.Q
