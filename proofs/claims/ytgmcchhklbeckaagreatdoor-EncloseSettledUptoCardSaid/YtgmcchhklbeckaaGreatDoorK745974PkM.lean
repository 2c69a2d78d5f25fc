/-
  What Name and Find know, and what stands on it. Conditions: each theorem's own.
-/
import Derived.Test.YtgmcchhklbeckaaGreatDoorKf08e96PkG
import Derived.Test.YtgmcchhklbeckaaGreatDoorK0ef115PkD
import Derived.Test.YtgmcchhklbeckaaGreatDoorK6145e3PkL
import Derived.Defers
import Derived.Recover
set_option linter.unusedVariables false
set_option linter.unusedSimpArgs false
open Nat renaming reduceBEq→ξ,reduceAdd→ζ,le_refl→η,zero_le→qBh,lt_or_ge→qBj
open List renaming all_eq_true→qBd
namespace Go.Q
open Go.Proofs
set_option maxRecDepth 100000
set_option maxHeartbeats 8000000
def nmL:List ByteArray:=[⟨#[101,120,112]⟩,⟨#[108,111,103]⟩,⟨#[115,105,110]⟩,⟨#[99,111,115]⟩,⟨#[116,97,110]⟩,⟨#[97,115,105,110]⟩,⟨#[97,99,111,115]⟩,⟨#[97,116,97,110]⟩]
def nm (i:Nat):ByteArray:=nmL.getD i ⟨#[]⟩
def nmV:List Value:=nmL.map Value.string
def Fd (s:ByteArray) (n:Int) (b:Bool):Prop:=(b=true∧∃i:Nat,i < 8∧n=(i:Int)+1∧((nm i).toList == s.toList)=true∧∀j,j < i→((nm j).toList == s.toList)=false)∨(b=false∧n=0∧∀j,j < 8→((nm j).toList == s.toList)=false)
theorem Fd.one {s:ByteArray} {n n':Int} {b b':Bool} (h:Fd s n b) (h':Fd s n' b'):n=n'∧b=b':=by
 rcases h with⟨rfl,i,hi,rfl,e,l⟩ |⟨rfl,rfl,l⟩<;>rcases h' with⟨rfl,i',hi',rfl,e',l'⟩ |⟨rfl,rfl,l'⟩
 ·rcases Nat.lt_trichotomy i i' with k |k |k
  ·rw[l' i k] at e;cases e
  ·subst k;exact⟨rfl,rfl⟩
  ·rw[l i' k] at e';cases e'
 ·rw[l' i hi] at e;cases e
 ·rw[l i' hi'] at e';cases e'
 ·exact⟨rfl,rfl⟩
theorem nm_ne:((List.range 8).all fun i=>(List.range i).all fun j=>!((nm j).toList == (nm i).toList))=true:=by decide+kernel
theorem nm_em:((List.range 8).all fun j=>!((nm j).toList == (⟨#[]⟩:ByteArray).toList))=true:=by decide+kernel
theorem Fd.nm {i:Nat} (hi:i < 8):Fd (nm i) ((i:Int)+1) true:=by
 refine .inl ⟨rfl,i,hi,rfl,by simp,fun j hj=>?_⟩
 have:=qBd.1 (qBd.1 nm_ne i (List.mem_range.2 hi)) j (List.mem_range.2 hj)
 simpa using this
theorem Fd.em:Fd ⟨#[]⟩ 0 false:=by
 refine .inr ⟨rfl,rfl,fun j hj=>?_⟩
 have:=qBd.1 nm_em j (List.mem_range.2 hj)
 simpa using this
theorem nm_at {h:PH} {b:Nat} (hb:h b=some nmV.toArray) {i:Nat} (hi:i < 8):h.at ⟨b,i,none⟩=some (.string (nm i)):=by
 have:∀i,i < 8→(nmV.toArray)[i]?=some (.string (nm i)):=by
  intro i hi
  obtain rfl |rfl |rfl |rfl |rfl |rfl |rfl |rfl:i=0∨i=1∨i=2∨i=3∨i=4∨i=5∨i=6∨i=7:=by omega
  all_goals rfl
 have:=this i hi
 simpa[PH.at,hb] using this
theorem wV {h:PH}:Spec mach 217 #[] h (fun v h'=>∃b,v=.slice (some ⟨b,0,none⟩) 8 8∧h' b=some nmV.toArray) NP:=by
 refine Spec.go [(1,.t (.s [0] (.p 0 (.s [1] .d))))] Tryz.func217 rfl rfl (by kernel_rfl) fun C _=>?_
 try simp(disch:=omega) only[go_sem,ξ,ζ]
 intro b h1 st1 hb
 try simp(disch:=omega) only[go_sem,ξ,ζ]
 have hb:=hb (by simp)
 try simp(disch:=omega) only[go_sem,ξ,ζ]
 exact⟨_,rfl,hb⟩
theorem qw {h:PH} {s:ByteArray}:Spec mach 146 #[.string s] h (fun v _=>∃n b,v=.tuple #[.int .i64 n,.bool b]∧Fd s n b) NP:=by
 refine Spec.go [] Tryz.func146 rfl rfl (by kernel_rfl) fun C _=>?_
 try simp(disch:=omega) only[go_sem,ξ,ζ]
 refine caN (by exact wV) ?_;rintro v1 h1 s1 ⟨b,rfl,hb⟩
 try simp(disch:=omega) only[go_sem,ξ,ζ]
 refine lp [] (fun i:Nat=>⟨[(0,.v (.string s)),(6,.v (.slice (some ⟨b,0,none⟩) 8 8)),(7,.v (.int .i64 8)),(8,.v (.int .i64 i))],[]⟩) (fun i h'=>Le h1 h'∧i≤8∧∀j,j < i→((nm j).toList == s.toList)=false) (fun i=>8 - i) 0 ?_ ⟨inferInstance,by decide,fun j hj=>absurd hj (by omega)⟩ (by kernel_rfl) ?_
 ·try simp(disch:=omega) only[go_sem,ξ,ζ]
  all_goals rfl
 rintro i h2 ⟨le2,hi,hj⟩
 by_cases h8:i=8
 ·subst h8
  try simp(disch:=omega) only[go_sem,ξ,ζ]
  exact Exists.intro _ ⟨_,rfl,.inr ⟨rfl,rfl,hj⟩⟩
 ·have hi8:i < 8:=by omega
  have hb2:h2 b=some nmV.toArray:=le2.sub _ _ hb
  try simp(disch:=omega) only[go_sem,ξ,ζ]
  refine aE (nm_at hb2 hi8) ?_
  try simp(disch:=omega) only[go_sem,ξ,ζ]
  cases e:((nm i).toList == s.toList) with
  | true=>
   try simp(disch:=omega) only[go_sem,ξ,ζ,e]
   exact Exists.intro _ ⟨_,rfl,.inl ⟨rfl,i,hi8,by omega,e,hj⟩⟩
  | false=>
   try simp(disch:=omega) only[go_sem,ξ,ζ,e]
   dsimp only[lpE];refine⟨i+1,?_,⟨le2,by omega,fun j k=>?_⟩,by omega⟩
   ·try simp(disch:=omega) only[go_sem,ξ,ζ]
    all_goals rfl
   ·rcases qBj j i with g |g
    ·exact hj j g
    ·rw[show j=i by omega];exact e
def byt (s:ByteArray) (i:Nat):Nat:=match s[i]? with
 |some b=>b.toNat
 |none=>0
def isL (n:Nat):Bool:=decide (97≤n) && decide (n≤122)
def isW (n:Nat):Bool:=isL n || (decide (48≤n) && decide (n≤57))
def wordB (s:ByteArray):Bool:=decide (0 < s.size) && isL (byt s 0) && (List.range s.size).all fun i=>isW (byt s i)
def res11:List ByteArray:=[⟨#[112,105]⟩,⟨#[97,98,115]⟩,⟨#[109,105,110]⟩,⟨#[109,97,120]⟩,⟨#[114,111,111,116]⟩,⟨#[115,113,114,116]⟩,⟨#[105,102]⟩,⟨#[105,110,102]⟩,⟨#[102,111,114]⟩,⟨#[105,110]⟩,⟨#[119,104,101,114,101]⟩]
def reswL:List ByteArray:=nmL ++res11
def resB (s:ByteArray):Bool:=reswL.any fun w=>w.toList == s.toList
def nameB (s:ByteArray):Bool:=decide (s.size≤8) && wordB s && !resB s
theorem byt_at {s:ByteArray} {i:Nat} (h:i < s.size):∃b,s[i]?=some b∧byt s i=b.toNat:=by
 refine⟨s[i],?_,?_⟩
 ·exact getElem?_pos s i h
 ·unfold byt
  rw[getElem?_pos s i h]
theorem Fd.any {s:ByteArray} {n:Int} {b:Bool} (h:Fd s n b):nmL.any (fun w=>w.toList == s.toList)=b:=by
 have k:∀i,i < 8→nmL[i]?=some (Q.nm i):=by decide+kernel
 have l:nmL.length=8:=rfl
 rcases h with⟨rfl,i,hi,_,e,_⟩ |⟨rfl,_,e⟩
 ·exact List.any_eq_true.2 ⟨Q.nm i,List.mem_of_getElem? (k i hi),e⟩
 ·refine List.any_eq_false.2 fun w hw=>?_
  obtain⟨i,hi⟩:=List.getElem?_of_mem hw
  have h8:i < 8:=by have:=(List.getElem?_eq_some_iff.1 hi).1;omega
  rw[k i h8] at hi
  cases hi
  rw[e i h8]
  decide
theorem resB_eq (s:ByteArray):resB s=(res11.any (fun w=>s.toList == w.toList) || nmL.any (fun w=>w.toList == s.toList)):=by
 unfold resB reswL
 rw[List.any_append,Bool.or_comm]
 congr 1
 exact congrArg _ (funext fun w=>by rw[Bool.beq_comm])
theorem Letter_spec {h:PH} {n:Nat}:Spec mach 144 #[.int .u8 n] h (fun v _=>v=.bool (isL n)) NP:=by
 unfold isL
 by_cases c:(97:Int)≤n
 ·rw[decide_eq_true (show 97≤n by omega)]
  by_cases d:(n:Int)≤122
  ·rw[decide_eq_true (show n≤122 by omega)]
   refine Spec.go [] Tryz.func144 rfl rfl (by kernel_rfl) fun C _=>?_
   try simp(disch:=omega) only[go_sem,ξ,ζ,c,d,decide_true]
  ·rw[decide_eq_false (show ¬n≤122 by omega)]
   refine Spec.go [] Tryz.func144 rfl rfl (by kernel_rfl) fun C _=>?_
   try simp(disch:=omega) only[go_sem,ξ,ζ,c,d,decide_true,decide_false]
 ·rw[decide_eq_false (show ¬97≤n by omega)]
  refine Spec.go [] Tryz.func144 rfl rfl (by kernel_rfl) fun C _=>?_
  try simp(disch:=omega) only[go_sem,ξ,ζ,c,decide_false]
theorem Digit_spec {h:PH} {n:Nat}:Spec mach 145 #[.int .u8 n] h (fun v _=>v=.bool (decide (48≤n) && decide (n≤57))) NP:=by
 by_cases c:(48:Int)≤n
 ·rw[decide_eq_true (show 48≤n by omega)]
  by_cases d:(n:Int)≤57
  ·rw[decide_eq_true (show n≤57 by omega)]
   refine Spec.go [] Tryz.func145 rfl rfl (by kernel_rfl) fun C _=>?_
   try simp(disch:=omega) only[go_sem,ξ,ζ,c,d,decide_true]
  ·rw[decide_eq_false (show ¬n≤57 by omega)]
   refine Spec.go [] Tryz.func145 rfl rfl (by kernel_rfl) fun C _=>?_
   try simp(disch:=omega) only[go_sem,ξ,ζ,c,d,decide_true,decide_false]
 ·rw[decide_eq_false (show ¬48≤n by omega)]
  refine Spec.go [] Tryz.func145 rfl rfl (by kernel_rfl) fun C _=>?_
  try simp(disch:=omega) only[go_sem,ξ,ζ,c,decide_false]
theorem tl_loop (s:ByteArray):∀(n i:Nat) (r:List UInt8),s.size - i=n→(ByteArray.toList.loop s i r).length=n+r.length
 | 0,i,r,h=>by
  unfold ByteArray.toList.loop
  rw[if_neg (by omega)]
  simp
 | n+1,i,r,h=>by
  unfold ByteArray.toList.loop
  rw[if_pos (by omega),tl_loop s n (i+1) _ (by omega)]
  simp;omega
theorem tl_len (s:ByteArray):s.toList.length=s.size:=by
 have:=tl_loop s s.size 0 [] rfl
 simp at this
 exact this
theorem size_ne {s:ByteArray}:(s.toList == (⟨#[]⟩:ByteArray).toList)=decide (s.size=0):=by
 have e:(⟨#[]⟩:ByteArray).toList=[]:=ByteArray.toList_empty
 have:=tl_len s
 rw[e]
 cases h:s.toList with
 |nil=>rw[h] at this;simp at this;rw[decide_eq_true (by omega)];rfl
 |cons a l=>rw[h] at this;simp at this;rw[decide_eq_false (by omega)];rfl
theorem Word_spec {h:PH} {s:ByteArray} (hs:s.size≤8):Spec mach 83 #[.string s] h (fun v _=>∃i:Nat,v=.int .i64 i∧i≤s.size∧(i=s.size∧0 < s.size↔wordB s=true)) NP:=by
 rcases Nat.eq_zero_or_pos s.size with h0 |h0
 ·have hz:(s.toList == (⟨#[]⟩:ByteArray).toList)=true:=by rw[size_ne,decide_eq_true (h0)]
  have:wordB s=false:=by unfold wordB;rw[decide_eq_false (show ¬0 < s.size by omega)];simp
  refine Spec.go [] Tryz.func83 rfl rfl (by kernel_rfl) fun C _=>?_
  try simp(disch:=omega) only[go_sem,ξ,ζ,hz]
  all_goals exact⟨0,rfl,qBh _,by rw[this];exact⟨fun k=>absurd k.2 (by omega),fun k=>by cases k⟩⟩
 ·obtain⟨b0,hb0,e0⟩:=byt_at h0
  have hz:(s.toList == (⟨#[]⟩:ByteArray).toList)=false:=by rw[size_ne,decide_eq_false (by omega)]
  cases hl:isL b0.toNat with
  | false=>
   have:wordB s=false:=by unfold wordB;rw[e0,hl];simp
   refine Spec.go [] Tryz.func83 rfl rfl (by kernel_rfl) fun C _=>?_
   try simp(disch:=omega) only[go_sem,ξ,ζ,hz]
   refine⟨by decide,_,hb0,?_⟩
   try simp(disch:=omega) only[go_sem,ξ,ζ]
   refine caN (by exact Letter_spec) ?_;rintro v1 h1 s1 rfl
   try simp(disch:=omega) only[go_sem,ξ,ζ,hl]
   exact⟨0,rfl,qBh _,by simp[this];omega⟩
  | true=>
   have fin:∀i:Nat,i≤s.size→(i < s.size→isW (byt s i)=false)→(∀j,j < i→isW (byt s j)=true)→(i=s.size∧0 < s.size↔wordB s=true):=fun i h1 h2 h3=>by
    unfold wordB
    rw[decide_eq_true h0,e0,hl]
    simp only[Bool.true_and,qBd,List.mem_range]
    constructor
    ·rintro⟨rfl,_⟩
     exact h3
    ·intro k
     refine⟨?_,h0⟩
     refine Nat.le_antisymm h1 (Nat.le_of_not_lt fun c=>?_)
     have:=h2 c
     rw[k i c] at this
     cases this
   have w0:isW (byt s 0)=true:=by unfold isW;rw[e0,hl];rfl
   refine Spec.go [] Tryz.func83 rfl rfl (by kernel_rfl) fun C _=>?_
   try simp(disch:=omega) only[go_sem,ξ,ζ,hz]
   refine⟨by decide,_,hb0,?_⟩
   try simp(disch:=omega) only[go_sem,ξ,ζ]
   refine caN (by exact Letter_spec) ?_;rintro v1 h1 s1 rfl
   try simp(disch:=omega) only[go_sem,ξ,ζ,hl]
   refine lp [] (fun i:Nat=>⟨[(0,.v (.string s)),(3,.v (.int .i64 i))],[]⟩) (fun i h'=>Le h1 h'∧1≤i∧i≤s.size∧∀j,j < i→isW (byt s j)=true) (fun i=>s.size - i) 1 ?_ ⟨inferInstance,by decide,h0,fun j hj=>(show j=0 by omega)▸w0⟩ (by kernel_rfl) ?_
   ·try simp(disch:=omega) only[go_sem,ξ,ζ]
    all_goals rfl
   rintro i h2 ⟨le2,hi1,hi,hj⟩
   by_cases hl2:(i:Int) < s.size
   ·obtain⟨b,hb,eb⟩:=byt_at (s:=s) (i:=i) (by omega)
    try simp(disch:=omega) only[go_sem,ξ,ζ,hl2,decide_true]
    refine And.intro (by omega) (Exists.intro _ (And.intro hb ?_))
    try simp(disch:=omega) only[go_sem,ξ,ζ]
    refine caN (by exact Letter_spec) ?_;rintro v3 h3 s3 rfl
    try simp(disch:=omega) only[go_sem,ξ,ζ]
    cases hL:isL b.toNat with
    | true=>
     try simp(disch:=omega) only[go_sem,ξ,ζ,hL]
     dsimp only[lpE];refine⟨i+1,?_,⟨inferInstance,by omega,by omega,fun j k=>?_⟩,by omega⟩
     ·try simp(disch:=omega) only[go_sem,ξ,ζ]
      all_goals rfl
     ·rcases qBj j i with g |g
      ·exact hj j g
      ·rw[show j=i by omega,eb];unfold isW;rw[hL];rfl
    | false=>
     try simp(disch:=omega) only[go_sem,ξ,ζ,hL]
     refine And.intro (by omega) (Exists.intro _ (And.intro hb ?_))
     try simp(disch:=omega) only[go_sem,ξ,ζ]
     refine caN (by exact Digit_spec) ?_;rintro v4 h4 s4 rfl
     try simp(disch:=omega) only[go_sem,ξ,ζ]
     cases hD:(decide (48≤b.toNat) && decide (b.toNat≤57)) with
     | true=>
      try simp(disch:=omega) only[go_sem,ξ,ζ,hD]
      dsimp only[lpE];refine⟨i+1,?_,⟨inferInstance,by omega,by omega,fun j k=>?_⟩,by omega⟩
      ·try simp(disch:=omega) only[go_sem,ξ,ζ]
       all_goals rfl
      ·rcases qBj j i with g |g
       ·exact hj j g
       ·rw[show j=i by omega,eb];unfold isW;rw[hL,hD];rfl
     | false=>
      try simp(disch:=omega) only[go_sem,ξ,ζ,hD]
      (exact⟨_,rfl,hi,fin _ hi (fun _=>by rw[eb];unfold isW;rw[hL,hD];rfl) hj⟩)
   ·try simp(disch:=omega) only[go_sem,ξ,ζ,hl2,decide_false]
    obtain rfl:i=s.size:=by omega
    exact⟨_,rfl,η _,fin _ (η _) (fun c=>absurd c (Nat.lt_irrefl _)) hj⟩
theorem Reserved_spec {h:PH} {s:ByteArray}:Spec mach 84 #[.string s] h (fun v _=>v=.bool (resB s)) NP:=by
 rw[resB_eq]
 unfold res11
 simp only[List.any_cons,List.any_nil,Bool.or_false,Bool.or_assoc]
 have B:=fun w:ByteArray=>Bool.eq_false_or_eq_true (s.toList == w.toList)
 refine Spec.go [] Tryz.func84 rfl rfl (by kernel_rfl) fun C _=>?_
 try simp(disch:=omega) only[go_sem,ξ,ζ]
 rcases B (⟨#[112,105]⟩:ByteArray) with e |e
 ·try simp(disch:=omega) only[go_sem,ξ,ζ,e,Bool.true_or]
 try simp(disch:=omega) only[go_sem,ξ,ζ,e,Bool.false_or]
 rcases B (⟨#[97,98,115]⟩:ByteArray) with e |e
 ·try simp(disch:=omega) only[go_sem,ξ,ζ,e,Bool.true_or]
 try simp(disch:=omega) only[go_sem,ξ,ζ,e,Bool.false_or]
 rcases B (⟨#[109,105,110]⟩:ByteArray) with e |e
 ·try simp(disch:=omega) only[go_sem,ξ,ζ,e,Bool.true_or]
 try simp(disch:=omega) only[go_sem,ξ,ζ,e,Bool.false_or]
 rcases B (⟨#[109,97,120]⟩:ByteArray) with e |e
 ·try simp(disch:=omega) only[go_sem,ξ,ζ,e,Bool.true_or]
 try simp(disch:=omega) only[go_sem,ξ,ζ,e,Bool.false_or]
 rcases B (⟨#[114,111,111,116]⟩:ByteArray) with e |e
 ·try simp(disch:=omega) only[go_sem,ξ,ζ,e,Bool.true_or]
 try simp(disch:=omega) only[go_sem,ξ,ζ,e,Bool.false_or]
 rcases B (⟨#[115,113,114,116]⟩:ByteArray) with e |e
 ·try simp(disch:=omega) only[go_sem,ξ,ζ,e,Bool.true_or]
 try simp(disch:=omega) only[go_sem,ξ,ζ,e,Bool.false_or]
 rcases B (⟨#[105,102]⟩:ByteArray) with e |e
 ·try simp(disch:=omega) only[go_sem,ξ,ζ,e,Bool.true_or]
 try simp(disch:=omega) only[go_sem,ξ,ζ,e,Bool.false_or]
 rcases B (⟨#[105,110,102]⟩:ByteArray) with e |e
 ·try simp(disch:=omega) only[go_sem,ξ,ζ,e,Bool.true_or]
 try simp(disch:=omega) only[go_sem,ξ,ζ,e,Bool.false_or]
 rcases B (⟨#[102,111,114]⟩:ByteArray) with e |e
 ·try simp(disch:=omega) only[go_sem,ξ,ζ,e,Bool.true_or]
 try simp(disch:=omega) only[go_sem,ξ,ζ,e,Bool.false_or]
 rcases B (⟨#[105,110]⟩:ByteArray) with e |e
 ·try simp(disch:=omega) only[go_sem,ξ,ζ,e,Bool.true_or]
 try simp(disch:=omega) only[go_sem,ξ,ζ,e,Bool.false_or]
 rcases B (⟨#[119,104,101,114,101]⟩:ByteArray) with e |e
 ·try simp(disch:=omega) only[go_sem,ξ,ζ,e,Bool.true_or]
 try simp(disch:=omega) only[go_sem,ξ,ζ,e,Bool.false_or]
 refine caN (by exact qw) ?_;rintro v1 h1 s1 ⟨n,b,rfl,hf⟩
 try simp(disch:=omega) only[go_sem,ξ,ζ,hf.any]
theorem SIsName_spec {h:PH} {s:ByteArray}:Spec mach 44 #[.string s] h (fun v _=>v=.bool (nameB s)) NP:=by
 unfold nameB
 by_cases h8:(s.size:Int)≤8
 ·rw[decide_eq_true (show s.size≤8 by omega)]
  refine Spec.go [] Tryz.func44 rfl rfl (by kernel_rfl) fun C _=>?_
  try simp(disch:=omega) only[go_sem,ξ,ζ,h8,decide_true]
  refine caN (by exact Word_spec (show s.size≤8 by omega)) ?_;rintro v1 h1 s1 ⟨i,rfl,hi,hw⟩
  try simp(disch:=omega) only[go_sem,ξ,ζ]
  cases hB:wordB s with
  | false=>
   by_cases hn:(i:Int)=s.size
   ·have hz:s.size=0:=by
     refine Nat.eq_zero_of_not_pos fun c=>?_
     rw[hw.1 ⟨by omega,c⟩] at hB
     cases hB
    have hz:(s.toList == (⟨#[]⟩:ByteArray).toList)=true:=by rw[size_ne,decide_eq_true hz]
    try simp(disch:=omega) only[go_sem,ξ,ζ,hn,hz,beq_self_eq_true]
    all_goals rfl
   ·have hn:((i:Int) == s.size)=false:=by simpa using hn
    try simp(disch:=omega) only[go_sem,ξ,ζ,hn]
    all_goals rfl
  | true=>
   obtain⟨h1,h2⟩:=hw.2 hB
   have hn:((i:Int) == s.size)=true:=by simp[h1]
   have hz:(s.toList == (⟨#[]⟩:ByteArray).toList)=false:=by rw[size_ne,decide_eq_false (by omega)]
   try simp(disch:=omega) only[go_sem,ξ,ζ,hn,hz]
   refine caN (by exact Reserved_spec) ?_;rintro v2 h3 s2 rfl
   try simp(disch:=omega) only[go_sem,ξ,ζ]
 ·rw[decide_eq_false (show ¬s.size≤8 by omega)]
  refine Spec.go [] Tryz.func44 rfl rfl (by kernel_rfl) fun C _=>?_
  try simp(disch:=omega) only[go_sem,ξ,ζ,h8,decide_false]
  all_goals rfl
theorem IsName_spec {h:PH} {s:ByteArray}:Spec mach 18 #[.string s] h (fun v _=>v=.bool (nameB s)) NP:=by
 refine Spec.go [] Tryz.func18 rfl rfl (by kernel_rfl) fun C _=>?_
 try simp(disch:=omega) only[go_sem,ξ,ζ]
 refine caN (by exact SIsName_spec) ?_;rintro v1 h1 s1 rfl
 try simp(disch:=omega) only[go_sem,ξ,ζ]

open Go.RowKit (Below)
theorem nh {M:Mach} {n:Nat} {C:Ctx} {c:Code} {Q:Exit→AS→PH→Prop} {E:List PanicEntry→PH→Prop} {S:AS} {h:PH} {β:Nat→Nat} {a:Act} {w:World} (g:G M C n S h β a w) (hk:AWP M n C c Q E S h):c.wp M.P (LQ M n C Q E) a w:=hk β a w g
theorem box_get {S:AS} {i:Nat} (h:2≤S.bx.length) (hi:i < 2:=by decide):S.bx[i]?=some (S.box i):=by
 have:i < S.bx.length:=by omega
 simp[AS.box,this]
theorem tL {C:Ctx} {h:PH} {w:World} {β:Nat→Nat} {x y:List Value} (h0:BoxAt C h w (β 0) x) (h1:BoxAt C h w (β 1) y) (hne:β 0≠β 1):Rows C h w β [x,y]:=by
 refine⟨fun i cs hi _=>?_,fun i j ci cj hi hj _ _ hij=>?_⟩
 ·match i,hi with
  |0,hi=>cases hi;exact h0
  |1,hi=>cases hi;exact h1
 ·match i,j,hi,hj with
  |0,0,_,_=>rfl
  |1,1,_,_=>rfl
  |0,1,_,_=>exact(hne hij).elim
  |1,0,_,_=>exact(hne hij.symm).elim
theorem idle_Iv (p q:Value) (w:World):CallsD mach.P 255 #[p,q] .returning w fun e u' w'=>e=.returned (.tuple #[])∧u'=.returning∧w'=w:=by
 refine callsD_of_wpS Tryz.func255 rfl fun c₀ cs hu=>?_
 apply wpS_seq
 apply wpS_region
 simp[wpOpsS,go_sem,recoverD,hu,Exit.thenS]
 have hnil:∀w:World,(binOp BinOp.eql 20 .nilIface .nilIface).run mach.P w=.ok (.bool true) w:=fun _=>by kernel_rfl
 refine wpS_of_wp (wp_block (wp_seq_k fun K hK=>?_))
 apply wp_region
 simp[wpOps,go_sem,hnil,Oper.upon,Exit.then]
 refine .inl (hK _ _ ?_)
 clear hK K
 refine wp_cond_true ?_ ?_
 ·simp[Act.eval]
 apply wp_region
 simp[wpOps,go_sem]
 cases c₀
 simp_all [bodyPostS,results,Tryz.results255,Exit.inBlock]
theorem I3 {C:Ctx} {h:PH} {β:Nat→Nat} {w:World} {rv re:List Value} {e:Int} (hf:Fine mach C h w) (hr:Rows C h w β [rv,re]) (h8:rv.length=8) (h1:re.length=1):
    CallsD mach.P 255 #[.pointer (some ⟨β 0,0,none⟩),.pointer (some ⟨β 1,0,none⟩)] (.panicking [{v:=.iface 133 (.agg #[.int .i64 e]),recovered:=false}]) w fun en u' w'=>
      en=.returned (.tuple #[])∧u'=.panicking [{v:=.iface 133 (.agg #[.int .i64 e]),recovered:=true}]∧
      Fine mach C h w'∧Rows C h w' β [[.bool false,.slice none 0 0,.slice none 0 0,.bool false,.slice none 0 0,.slice none 0 0,.bool false,.bool false],[.int .i64 e]]:=by
  have hnil:∀w:World,(binOp BinOp.eql 20 (.iface 133 (.agg #[.int .i64 e])) .nilIface).run mach.P w=.ok (.bool false) w:=fun _=>by kernel_rfl
  have has:∀w:World,(Instr.typeAssert (.iface 133 (.agg #[.int .i64 e])) 20 133 true).run mach.P w=.ok (.tuple #[.agg #[.int .i64 e],.bool true]) w:=fun _=>by kernel_rfl
  refine callsD_of_wpS Tryz.func255 rfl fun c₀ cs hu=>?_
  apply wpS_seq
  apply wpS_region
  simp[wpOpsS,go_sem,recoverD,hu,Exit.thenS]
  refine wpS_of_wp (wp_block (wp_seq_k fun K hK=>?_))
  apply wp_region
  simp[wpOps,go_sem,hnil,Oper.upon,Exit.then]
  refine .inl (hK _ _ ?_)
  clear hK K
  refine wp_cond_false ?_ ?_
  · simp[Act.eval]
  refine wp_seq_k fun K hK=>?_
  apply wp_region
  simp[wpOps,go_sem,has,Oper.upon,Exit.then]
  repeat refine Or.inl ?_
  refine hK _ _ ?_
  clear hK K
  refine wp_cond_true ?_ ?_
  · simp[Act.eval]
  match rv,re,h8,h1 with
  |[r0,r1,r2,r3,r4,r5,r6,r7],[q0],_,_=>
  refine wp_mono (nh (M:=mach) (n:=15) (C:=⟨C.w0,C.h0,[β 0,β 1],[]⟩) (S:=⟨[(0,.p 0 0),(1,.p 1 0),(11,.v (.agg #[.int .i64 e]))],[[r0,r1,r2,r3,r4,r5,r6,r7],[q0]]⟩) (h:=h) (β:=β) (E:=NP)
    (Q:=fun en S h'=>en=.normal∧h'=h∧2≤S.bx.length∧S.box 0=[.bool false,.slice none 0 0,.slice none 0 0,.bool false,.slice none 0 0,.slice none 0 0,.bool false,.bool false]∧S.box 1=[.int .i64 e]) ?_ ?_) ?_
  · refine⟨by simp,rfl,hf.re rfl rfl,fun i cs hi hc=>(hr.at_ i cs hi hc).re rfl,hr.inj,fun t=>?_,fun t i hi=>?_,by simp,fun i hi=>?_⟩
    · simp only[lk]
      by_cases h0:t=0
      · subst h0;exact .inr rfl
      · by_cases h1:t=1
        · subst h1;exact .inr rfl
        · by_cases h2:t=11
          · subst h2;exact .inr rfl
          · refine .inl ?_
            have e0:(0 == t)=false:=by simp;omega
            have e1:(1 == t)=false:=by simp;omega
            have e2:(11 == t)=false:=by simp;omega
            simp[e0,e1,e2]
    · simp only[lk] at hi
      by_cases h0:t=0
      · subst h0;simp[AV.ix] at hi;subst hi;simp
      · by_cases h1:t=1
        · subst h1;simp[AV.ix] at hi;subst hi;simp
        · have e0:(0 == t)=false:=by simp;omega
          have e1:(1 == t)=false:=by simp;omega
          rw[e0,e1] at hi
          cases hx:(11 == t)<;>rw[hx] at hi<;>cases hi
    · simp only[List.length_cons,List.length_nil] at hi
      match i,hi with
      |0,_=>rfl
      |1,_=>rfl
  · repeat (first |(refine rg rfl rfl (fun K hK=>?_);(repeat (first |(refine wo rfl (fun k hk=>?_);simp(disch:=omega) only[go_sem,ξ,ζ];apply hk;clear hk k) |refine wkt rfl ?_));(try refine wk0 ?_);apply hK;clear hK K;(try dsimp only[ag,qs,qb])) |((first |refine ae ?_ |refine ac ?_);simp(disch:=decide) only[qs,qb,if_true,if_false,reduceIte]) |refine ah rfl (fun K hK=>?_) |refine ct rfl ?_ |((first |refine hK _ _ ?_ |(clear hK;refine hK _ _ ?_) |(clear hK;clear hK;refine hK _ _ ?_));clear hK;(try clear K)))
    refine pD (.alt 0 (.alt 1 (.alt 2 (.alt 3 (.alt 4 .done .no) .no) (.alt 3 (.alt 2 (.alt 4 .done .no) .no) .no)) (.alt 3 (.alt 1 (.alt 2 (.alt 4 .done .no) .no) .no) .no)) (.alt 1 (.alt 0 (.alt 2 (.alt 3 (.alt 4 .done .no) .no) (.alt 3 (.alt 2 (.alt 4 .done .no) .no) .no)) (.alt 2 (.alt 0 (.alt 3 (.alt 4 .done .no) .no) .no) .no)) .no)) (by decide+kernel) rfl (fun K hK=>?_)
    have fin:∀S h',h'=h→S.box 0=[.bool false,.slice none 0 0,.slice none 0 0,.bool false,.slice none 0 0,.slice none 0 0,.bool false,.bool false]→S.box 1=[.int .i64 e]→2≤S.bx.length→K S h':=fun S h' e0 e1 e2 e3=>hK _ _ ⟨rfl,e0,e3,e1,e2⟩
    clear hK
    repeat' (first |exact wt_no |exact ak (fin _ _ rfl rfl rfl (by simp)) |refine aj ?_ ?_ |(refine wk (fun k hk=>?_);simp(disch:=omega) only[go_sem,ξ,ζ];apply hk;clear hk k;with_reducible refine wk0 ?_))
  · intro en a' w' hq
    cases en with
    | normal=>
      obtain⟨S',h',β',g',_,rfl,hl,hb0,hb1⟩:=hq
      have e0:β' 0=β 0:=g'.pin.2 0 (by simp)
      have e1:β' 1=β 1:=g'.pin.2 1 (by simp)
      have x0:=g'.boxes 0 _ (box_get hl) (by rw[hb0];simp)
      have x1:=g'.boxes 1 _ (box_get hl) (by rw[hb1];simp)
      have ne:=g'.inj 0 1 _ _ (box_get hl) (box_get hl) (by rw[hb0];simp) (by rw[hb1];simp)
      rw[e0,hb0] at x0
      rw[e1,hb1] at x1
      rw[e0,e1] at ne
      cases c₀
      simp only[Exit.inBlock,bodyPostS]
      refine⟨g'.defers,_,rfl,_,results_none rfl _ _ _,rfl,rfl,g'.fine.re rfl rfl,tL (x0.re rfl) (x1.re rfl) (fun e=>by simpa using ne e)⟩
    |panic ch=>obtain⟨_,_,_,hq⟩:=hq;exact(hq:False).elim
    |outgrown=>exact(hq:False).elim
    |_=>obtain⟨_,_,_,_,hq,_⟩:=hq;cases hq
theorem G.start {M:Mach} {n:Nat} {args:List Value} {h:PH} {w:World} (pin:List Nat) (hp:pin=[]) (ha:args.length≤n) (hw:Has w h) (hg:Sub M.gl h):
  G M ⟨w,h,pin,[]⟩ n ⟨argS 0 args,[]⟩ h (fun _=>0) {tmps:=args.toArray ++Array.replicate (n - args.toArray.size) undef,defers:=[]} w:=by
 subst hp
 refine⟨by simp;omega,rfl,⟨Below.refl _ _,hw,Sub.refl h,New.refl _ h,hg⟩,fun i cs hi=>by simp at hi,fun i j ci cj hi=>by simp at hi,fun t=>?_,fun t i hi=>?_,qBh _,fun i hi=>by cases hi⟩
 ·rw[qO]
  split
  ·rename_i hc
   refine .inr ?_
   simp only[Nat.sub_zero,List.length_cons] at hc ⊢
   have hlt:t < args.toArray.size:=by simpa using hc.2
   simp only[cv,Array.getD_eq_getD_getElem?,Array.getElem?_append_left hlt]
   simp[hc.2]
  ·exact .inl rfl
 ·rw[qO] at hi
  split at hi<;>cases hi
theorem G.re {M:Mach} {C C':Ctx} {n:Nat} {S:AS} {h:PH} {β:Nat→Nat} {a:Act} {w:World} (g:G M C n S h β a w) (h1:C'.w0=C.w0) (h2:C'.h0=C.h0) (ds:List Deferred) (hd:C'.df=ds) (hp:C'.pin.length≤S.bx.length∧∀i,i < C'.pin.length→β i=C'.pin.getD i 0):
  G M C' n S h β {a with defers:=ds} w:=
 ⟨g.size,hd.symm,g.fine.re h1 h2,fun i cs hi hc=>(g.boxes i cs hi hc).re h1,g.inj,g.slots,g.wf,hp⟩
section
variable {P:Program} {ops:Array Oper} {Q:Exit→Act→World→Prop}
theorem RWc_r {i:Nat} {o:Oper} {c:List Nat} {a:Act} {w:World} (v:Value) (ho:ops[i]?=some o) (hc:cls o.op=0) (hg:o.guard=none) (hr:∀w',Below w.heap.size w w'→(execOp a.eval o).run P w'=.ok (.value v) w') (hk:RWc P ops Q c (a.put o.dst v) w):RWc P ops Q (i :: c) a w:=
 (fE ho hc).2 ⟨v,.inl ⟨by simp[Region.wanted,hg],hr⟩,hk⟩
theorem RWc_i {i:Nat} {o:Oper} {c:List Nat} {a:Act} {w:World} (ho:ops[i]?=some o) (hc:cls o.op≠0) (hg:o.guard=none) (hk:o.wp P a w (fun a' w'=>(cls o.op=2∨Below w.heap.size w w')∧RWc P ops Q c a' w') Q):RWc P ops Q (i :: c) a w:=by
 rw[jP ho hc,if_pos (by simp[Region.wanted,hg])]
 exact hk
theorem B9 {o:Oper} {a:Act} {w:World} {next:Act→World→Prop} (d:Deferred) (h:(execOp a.eval o).run P w=.ok (.defer d) w) (hk:next ({a with defers:=d :: a.defers}.put o.dst undef) w):o.wp P a w next Q:=by
 unfold Oper.wp
 rw[h]
 exact hk
theorem tZ {o:Oper} {a:Act} {w:World} {next:Act→World→Prop} {f:FuncId} {args:Array Value} (h:(execOp a.eval o).run P w=.ok (.enter f args) w)
  (hk:Calls P f args w fun e w'=>match e with
   |.returned v=>next (a.put o.dst v) w'
   |.panicked ch=>Q (.panic ch) a w'
   |.outgrown=>False):o.wp P a w next Q:=by
 unfold Oper.wp
 rw[h]
 refine hk.mono fun e w' hp=>?_
 cases e with
 |returned v=>exact hp
 |panicked ch=>exact hp
 |outgrown=>exact hp.elim
end
def offIv (β:Nat→Nat):Deferred:={target:=.fn (.func 255) #[.pointer (some ⟨β 0,0,none⟩),.pointer (some ⟨β 1,0,none⟩)],args:=#[]}
theorem BH {M:Mach} {C:Ctx} {n:Nat} {S:AS} {h:PH} {β:Nat→Nat} {a:Act} {w:World} (g:G M C n S h β a w) {o:Oper} {t:Nat} {ts:Array TypeId} (ho:o.op=.call {callee:=.value (.tmp t),args:=#[],argTypes:=ts}) {f:FuncId} {cap:Array Value} (hf:S.ev (.tmp t)=.v (.func (.func f) #[] cap)) (hc:dS M.P f=true):
  (execOp a.eval o).run M.P w=.ok (.enter f cap) w:=by
 simp only[execOp,ho,resolve,Deferred.ofValue,g.ev_v hf,Sem.run_bind,Sem.run_pure,Result.andThen_ok,invoke]
 rw[iF hc]
 simp
theorem sM {P:Program} {ops:Array Oper} {x:Code} {Q:Exit→Act→World→Prop} {a a':Act} {w:World} (he:a=a') (h:x.wp P Q a' w):RWc P ops (Exit.then (x.wp P Q) Q) [] a w:=he▸h
theorem try_Iv {h : PH} {f:FuncId} {cap:Array Value} {w:World} (hw:Has w h) (hg:Sub mach.gl h) (hc:dS mach.P f=true) {Y:Ending→World→Prop}
  (hk :∀(w1:World),Has w1 h→Calls mach.P f cap w1 fun e w2=>∃h3,Below w1.heap.size w1 w2∧Has w2 h3∧Sub h h3∧New w1.heap.size h h3∧match e with
    |.returned v=>(∃r0 r1 r2 r3 r4 r5 r6 r7,v=.agg #[r0,r1,r2,r3,r4,r5,r6,r7]∧[r0,r1,r2,r3,r4,r5,r6,r7].all Value.oneCell'=true)∧∀w3,Fine mach ⟨w,h,[],[]⟩ h3 w3→Y (.returned (.tuple #[v,.int .i64 0])) w3
    |.panicked ch=>∃e,ch=[{v:=.iface 133 (.agg #[.int .i64 e]),recovered:=false}]∧∀w3,Fine mach ⟨w,h,[],[]⟩ h3 w3→Y (.returned (.tuple #[.agg #[.bool false,.slice none 0 0,.slice none 0 0,.bool false,.slice none 0 0,.slice none 0 0,.bool false,.bool false],.int .i64 e])) w3
    |.outgrown=>False):Calls mach.P 205 #[.func (.func f) #[] cap] w Y:=by
 refine calls_of_wp_defers Tryz.func205 rfl ?_
 refine wp_seq (wp_mono (nh (E:=NP) (Q:=fun e S h'=>e=.normal∧h'=h∧S=⟨[(3,.p 1 0),(2,.p 0 0),(0,.v (.func (.func f) #[] cap))],[[.bool false,.slice none 0 0,.slice none 0 0,.bool false,.slice none 0 0,.slice none 0 0,.bool false,.bool false],[.int .i64 0]]⟩) (G.start (M:=mach) (n:=7) (args:=[(.func (.func f) #[] cap)]) [] rfl (by simp) hw hg) ?_) ?_)
 ·refine AWP_s rfl ?_
  (repeat (first |(refine wo rfl (fun k hk=>?_);simp(disch:=omega) only[go_sem,ξ,ζ];apply hk;clear hk k) |refine wkt rfl ?_));(try refine wk0 ?_)
  exact⟨rfl,rfl,rfl⟩
 ·intro en a w1 hq
  cases en with
  | normal=>
   obtain⟨S',h',β,g,_,rfl,rfl⟩:=hq
   refine wp_seq (eK ?_)
   show RWc _ _ _ [0,1] _ _
   refine RWc_r (.func (.func 255) #[] #[.pointer (some ⟨β 0,0,none⟩),.pointer (some ⟨β 1,0,none⟩)]) rfl rfl rfl (fun w' hb=>?_) ?_
   ·simp[execOp,Instr.makeFunc,(g.below hb).ev_p (x:=.tmp 2) rfl,(g.below hb).ev_p (x:=.tmp 3) rfl]
   ·have g4 :=g.put (d:=some 4) (fun k hk=>by cases hk;decide) (x:=.top) (v:=(.func (.func 255) #[] #[.pointer (some ⟨β 0,0,none⟩),.pointer (some ⟨β 1,0,none⟩)])) (.inl rfl) (fun i hi=>by cases hi)
    have e4:(a.put (some 4) (.func (.func 255) #[] #[.pointer (some ⟨β 0,0,none⟩),.pointer (some ⟨β 1,0,none⟩)])).eval (.tmp 4)=(.func (.func 255) #[] #[.pointer (some ⟨β 0,0,none⟩),.pointer (some ⟨β 1,0,none⟩)]):=by
     have:=g.size
     simp[Act.eval,Act.put,this]
    refine RWc_i rfl (by decide) rfl (B9 (offIv β) ?_ ⟨.inr (Below.refl _ _),?_⟩)
    ·simp[execOp,offIv,resolve,Deferred.ofValue,e4]
    ·refine sM (a':={a.put (some 4) (.func (.func 255) #[] #[.pointer (some ⟨β 0,0,none⟩),.pointer (some ⟨β 1,0,none⟩)]) with defers:=[offIv β]}) ?_ ?_
     ·simp[Act.put,show a.defers=[] from g.defers]
     ·have g5 :=g4.re (C':=⟨w,h',[β 0,β 1],[offIv β]⟩) rfl rfl [offIv β] rfl ⟨by simp[AS.put],fun i hi=>by
       match i,hi with
       |0,_=>rfl
       |1,_=>rfl⟩
      generalize({a.put (some 4) (.func (.func 255) #[] #[.pointer (some ⟨β 0,0,none⟩),.pointer (some ⟨β 1,0,none⟩)]) with defers:=[offIv β]}:Act)=a5 at g5 ⊢
      clear e4 g4 g
      simp only[AS.put,st,ξ,cond_false] at g5
      refine wp_seq (eK ?_)
      show RWc _ _ _ [0,1,2,3] _ _
      refine RWc_r (.func (.func f) #[] cap) rfl rfl rfl (fun w' hb=>?_) ?_
      ·simp[execOp,(g5.below hb).ev_v (x:=.tmp 0) rfl]
      ·have g6:=g5.put (d:=some 5) (fun k hk=>by cases hk;decide) (x:=.v (.func (.func f) #[] cap)) (v:=(.func (.func f) #[] cap)) (.inr rfl) (fun i hi=>by cases hi)
       refine RWc_i rfl (by decide) rfl (tZ (f:=f) (args:=cap) ?_ ?_)
       ·exact BH g6 (t:=5) rfl rfl hc
       ·refine(hk w1 g6.fine.has).mono fun en w2 hp=>?_
        obtain⟨h3,hb,hh,hs,hn,hp⟩:=hp
        cases en with
        |outgrown=>exact hp
        | returned v=>
         obtain⟨⟨r0,r1,r2,r3,r4,r5,r6,r7,rfl,hone⟩,hY⟩:=hp
         refine⟨.inr hb,?_⟩
         have g7:=(g6.grow hb hh hs hn).put (d:=some 6) (fun k hk=>by cases hk;decide) (x:=.v (.agg #[r0,r1,r2,r3,r4,r5,r6,r7])) (v:=.agg #[r0,r1,r2,r3,r4,r5,r6,r7]) (.inr rfl) (fun i hi=>by cases hi)
         refine uo (Q:=LQ mach 7 ⟨w,h',[β 0,β 1],[offIv β]⟩ (fun e S h''=>e=.normal∧h''=h3∧2≤S.bx.length∧lk S.sl 2=.p 0 0∧lk S.sl 3=.p 1 0∧S.box 0=[r0,r1,r2,r3,r4,r5,r6,r7]∧S.box 1=[.int .i64 0]) NP) ?_ ?_ ?_ [2,3] _ _ (fx [.o 2,.o 3] _ _ _ _ _ _ rfl ?_ g7)
         ·rintro a8 w3 ⟨S8,h8,β8,g8,_,rfl,hl,l2,l3,b0,b1⟩
          refine wp_ret ?_
          show Leaves mach.P _ a8.tmps Y a8.defers .returning w3
          rw[show a8.defers=[offIv β] from g8.defers]
          refine leaves_cons (f:=255) (args:=#[.pointer (some ⟨β 0,0,none⟩),.pointer (some ⟨β 1,0,none⟩)]) (by simp) (by simp[go_sem];exact iF (by kernel_rfl) _ _) ?_
          refine(idle_Iv _ _ _).mono ?_
          rintro e u' w'' ⟨rfl,rfl,rfl⟩
          simp only[settle,Leaves]
          refine⟨_,i9 g8 (v:=.tuple #[.agg #[r0,r1,r2,r3,r4,r5,r6,r7],.int .i64 0]) ?_,hY _ (g8.fine.re rfl rfl)⟩
          show resA mach.P S8 [.cell 2 35,.cell 3 36]=_
          have b0':S8.bx.getD 0 []=_:=b0
          have b1':S8.bx.getD 1 []=_:=b1
          simp only[resA,resL,res1,l2,l3,ldb,b0',b1',go_sem]
          all_goals rfl
         ·rintro ch a w ⟨_,_,_,hq⟩;exact(hq:False).elim
         ·intro a w hq;exact(hq:False).elim
         ·simp only[AS.put,st,ξ,cond_false]
          refine wk (fun k hk=>?_)
          simp(disch:=omega) only[go_sem,ξ,ζ]
          refine⟨by simpa[Value.oneCell'] using hone,hk _ _ ?_⟩
          clear hk k
          (repeat (first |(refine wo rfl (fun k hk=>?_);simp(disch:=omega) only[go_sem,ξ,ζ];apply hk;clear hk k) |refine wkt rfl ?_));(try refine wk0 ?_)
          exact⟨trivial,rfl,by simp,rfl,rfl,rfl,rfl⟩
        | panicked ch=>
         obtain⟨e,rfl,hY⟩:=hp
         have g7:=g6.grow hb hh hs hn
         show Leaves mach.P _ (a5.put (some 5) (.func (.func f) #[] cap)).tmps Y (a5.put (some 5) (.func (.func f) #[] cap)).defers (.panicking _) w2
         rw[show(a5.put (some 5) (.func (.func f) #[] cap)).defers=[offIv β] from g7.defers]
         refine leaves_cons (f:=255) (args:=#[.pointer (some ⟨β 0,0,none⟩),.pointer (some ⟨β 1,0,none⟩)]) (by simp) (by simp[go_sem];exact iF (by kernel_rfl) _ _) ?_
         refine(I3 g7.fine ⟨g7.boxes,g7.inj⟩ rfl rfl).mono ?_
         rintro en u' w'' ⟨rfl,rfl,hf,hr⟩
         simp only[settle,Leaves,List.dropWhile_nil]
         have g9:G mach ⟨w,h',[β 0,β 1],[offIv β]⟩ 7 ⟨_,[[.bool false,.slice none 0 0,.slice none 0 0,.bool false,.slice none 0 0,.slice none 0 0,.bool false,.bool false],[.int .i64 e]]⟩ h3 β (a5.put (some 5) (.func (.func f) #[] cap)) w'':=⟨g7.size,g7.defers,hf,hr.at_,hr.inj,g7.slots,g7.wf,g7.pin⟩
         refine⟨_,i9 g9 (v:=.tuple #[.agg #[.bool false,.slice none 0 0,.slice none 0 0,.bool false,.slice none 0 0,.slice none 0 0,.bool false,.bool false],.int .i64 e]) ?_,hY _ (hf.re rfl rfl)⟩
         show resA mach.P _ [.cell 2 35,.cell 3 36]=_
         simp only[resA,resL,res1,ldb,go_sem]
         rfl
  |panic ch=>obtain⟨_,_,_,hq⟩:=hq;exact(hq:False).elim
  |outgrown=>exact(hq:False).elim
  |_=>obtain⟨_,_,_,_,hq,_⟩:=hq;cases hq
theorem tryIv_ok {h:PH} {f:FuncId} {cap:Array Value} {R R':Value→PH→Prop} (s:Spec mach f cap h R NP) (hR:∀v h',Sub h h'→R v h'→(∃r0 r1 r2 r3 r4 r5 r6 r7,v=.agg #[r0,r1,r2,r3,r4,r5,r6,r7]∧[r0,r1,r2,r3,r4,r5,r6,r7].all Value.oneCell'=true)∧R' (.tuple #[v,.int .i64 0]) h'):
  Spec mach 205 #[.func (.func f) #[] cap] h R' NP:=⟨by kernel_rfl,fun w hw hg=>try_Iv hw hg s.ok fun w1 hw1=>(s.run w1 hw1 hg).mono fun e w2 hp=>by
 cases e with
 |outgrown=>exact(hp:False).elim
 |panicked ch=>obtain⟨_,_,_,_,_,hp⟩:=hp;exact(hp:False).elim
 | returned v=>
  obtain⟨h3,hb,hh,hs,hn,hr⟩:=hp
  obtain⟨hv,hr⟩:=hR v h3 hs hr
  exact⟨h3,hb,hh,hs,hn,hv,fun w3 hf=>⟨h3,hf.below,hf.has,hf.sub,hf.new,hr⟩⟩⟩
theorem F4 {h:PH} {f:FuncId} {cap:Array Value} {e:Int} {R':Value→PH→Prop} (s:Spec mach f cap h NR (fail e)) (hR:∀h',Sub h h'→R' (.tuple #[.agg #[.bool false,.slice none 0 0,.slice none 0 0,.bool false,.slice none 0 0,.slice none 0 0,.bool false,.bool false],.int .i64 e]) h'):
  Spec mach 205 #[.func (.func f) #[] cap] h R' NP:=⟨by kernel_rfl,fun w hw hg=>try_Iv hw hg s.ok fun w1 hw1=>(s.run w1 hw1 hg).mono fun en w2 hp=>by
 cases en with
 |outgrown=>exact(hp:False).elim
 |returned v=>obtain⟨_,_,_,_,_,hp⟩:=hp;exact(hp:False).elim
 | panicked ch=>
  obtain⟨h3,hb,hh,hs,hn,hr⟩:=hp
  exact⟨h3,hb,hh,hs,hn,e,hr,fun w3 hf=>⟨h3,hf.below,hf.has,hf.sub,hf.new,hR h3 hs⟩⟩⟩
end Go.Q
namespace Go.Q
open Go.Proofs
open Go.RowKit (Below)
set_option maxRecDepth 100000
set_option maxHeartbeats 4000000
end Go.Q
namespace Go.Q
open Go.Proofs
open Go.RowKit (Below)
set_option maxRecDepth 100000
set_option maxHeartbeats 4000000
theorem idle_Bo (p q:Value) (w:World):CallsD mach.P 85 #[p,q] .returning w fun e u' w'=>e=.returned (.tuple #[])∧u'=.returning∧w'=w:=by
 refine callsD_of_wpS Tryz.func85 rfl fun c₀ cs hu=>?_
 apply wpS_seq
 apply wpS_region
 simp[wpOpsS,go_sem,recoverD,hu,Exit.thenS]
 have hnil:∀w:World,(binOp BinOp.eql 20 .nilIface .nilIface).run mach.P w=.ok (.bool true) w:=fun _=>by kernel_rfl
 refine wpS_of_wp (wp_block (wp_seq_k fun K hK=>?_))
 apply wp_region
 simp[wpOps,go_sem,hnil,Oper.upon,Exit.then]
 refine .inl (hK _ _ ?_)
 clear hK K
 refine wp_cond_true ?_ ?_
 ·simp[Act.eval]
 apply wp_region
 simp[wpOps,go_sem]
 cases c₀
 simp_all [bodyPostS,results,Tryz.results85,Exit.inBlock]
theorem I1 {C:Ctx} {h:PH} {β:Nat→Nat} {w:World} {rv re:List Value} {e:Int} (hf:Fine mach C h w) (hr:Rows C h w β [rv,re]) (h8:rv.length=1) (h1:re.length=1):
    CallsD mach.P 85 #[.pointer (some ⟨β 0,0,none⟩),.pointer (some ⟨β 1,0,none⟩)] (.panicking [{v:=.iface 133 (.agg #[.int .i64 e]),recovered:=false}]) w fun en u' w'=>
      en=.returned (.tuple #[])∧u'=.panicking [{v:=.iface 133 (.agg #[.int .i64 e]),recovered:=true}]∧
      Fine mach C h w'∧Rows C h w' β [[.bool false],[.int .i64 e]]:=by
  have hnil:∀w:World,(binOp BinOp.eql 20 (.iface 133 (.agg #[.int .i64 e])) .nilIface).run mach.P w=.ok (.bool false) w:=fun _=>by kernel_rfl
  have has:∀w:World,(Instr.typeAssert (.iface 133 (.agg #[.int .i64 e])) 20 133 true).run mach.P w=.ok (.tuple #[.agg #[.int .i64 e],.bool true]) w:=fun _=>by kernel_rfl
  refine callsD_of_wpS Tryz.func85 rfl fun c₀ cs hu=>?_
  apply wpS_seq
  apply wpS_region
  simp[wpOpsS,go_sem,recoverD,hu,Exit.thenS]
  refine wpS_of_wp (wp_block (wp_seq_k fun K hK=>?_))
  apply wp_region
  simp[wpOps,go_sem,hnil,Oper.upon,Exit.then]
  refine .inl (hK _ _ ?_)
  clear hK K
  refine wp_cond_false ?_ ?_
  · simp[Act.eval]
  refine wp_seq_k fun K hK=>?_
  apply wp_region
  simp[wpOps,go_sem,has,Oper.upon,Exit.then]
  repeat refine Or.inl ?_
  refine hK _ _ ?_
  clear hK K
  refine wp_cond_true ?_ ?_
  · simp[Act.eval]
  match rv,re,h8,h1 with
  |[r0],[q0],_,_=>
  refine wp_mono (nh (M:=mach) (n:=15) (C:=⟨C.w0,C.h0,[β 0,β 1],[]⟩) (S:=⟨[(0,.p 0 0),(1,.p 1 0),(11,.v (.agg #[.int .i64 e]))],[[r0],[q0]]⟩) (h:=h) (β:=β) (E:=NP)
    (Q:=fun en S h'=>en=.normal∧h'=h∧2≤S.bx.length∧S.box 0=[.bool false]∧S.box 1=[.int .i64 e]) ?_ ?_) ?_
  · refine⟨by simp,rfl,hf.re rfl rfl,fun i cs hi hc=>(hr.at_ i cs hi hc).re rfl,hr.inj,fun t=>?_,fun t i hi=>?_,by simp,fun i hi=>?_⟩
    · simp only[lk]
      by_cases h0:t=0
      · subst h0;exact .inr rfl
      · by_cases h1:t=1
        · subst h1;exact .inr rfl
        · by_cases h2:t=11
          · subst h2;exact .inr rfl
          · refine .inl ?_
            have e0:(0 == t)=false:=by simp;omega
            have e1:(1 == t)=false:=by simp;omega
            have e2:(11 == t)=false:=by simp;omega
            simp[e0,e1,e2]
    · simp only[lk] at hi
      by_cases h0:t=0
      · subst h0;simp[AV.ix] at hi;subst hi;simp
      · by_cases h1:t=1
        · subst h1;simp[AV.ix] at hi;subst hi;simp
        · have e0:(0 == t)=false:=by simp;omega
          have e1:(1 == t)=false:=by simp;omega
          rw[e0,e1] at hi
          cases hx:(11 == t)<;>rw[hx] at hi<;>cases hi
    · simp only[List.length_cons,List.length_nil] at hi
      match i,hi with
      |0,_=>rfl
      |1,_=>rfl
  · repeat (first |(refine rg rfl rfl (fun K hK=>?_);(repeat (first |(refine wo rfl (fun k hk=>?_);simp(disch:=omega) only[go_sem,ξ,ζ];apply hk;clear hk k) |refine wkt rfl ?_));(try refine wk0 ?_);apply hK;clear hK K;(try dsimp only[ag,qs,qb])) |((first |refine ae ?_ |refine ac ?_);simp(disch:=decide) only[qs,qb,if_true,if_false,reduceIte]) |refine ah rfl (fun K hK=>?_) |refine ct rfl ?_ |((first |refine hK _ _ ?_ |(clear hK;refine hK _ _ ?_) |(clear hK;clear hK;refine hK _ _ ?_));clear hK;(try clear K)))
    refine pD (.alt 0 (.alt 1 (.alt 2 (.alt 3 (.alt 4 .done .no) .no) (.alt 3 (.alt 2 (.alt 4 .done .no) .no) .no)) (.alt 3 (.alt 1 (.alt 2 (.alt 4 .done .no) .no) .no) .no)) (.alt 1 (.alt 0 (.alt 2 (.alt 3 (.alt 4 .done .no) .no) (.alt 3 (.alt 2 (.alt 4 .done .no) .no) .no)) (.alt 2 (.alt 0 (.alt 3 (.alt 4 .done .no) .no) .no) .no)) .no)) (by decide+kernel) rfl (fun K hK=>?_)
    have fin:∀S h',h'=h→S.box 0=[.bool false]→S.box 1=[.int .i64 e]→2≤S.bx.length→K S h':=fun S h' e0 e1 e2 e3=>hK _ _ ⟨rfl,e0,e3,e1,e2⟩
    clear hK
    repeat' (first |exact wt_no |exact ak (fin _ _ rfl rfl rfl (by simp)) |refine aj ?_ ?_ |(refine wk (fun k hk=>?_);simp(disch:=omega) only[go_sem,ξ,ζ];apply hk;clear hk k;with_reducible refine wk0 ?_))
  · intro en a' w' hq
    cases en with
    | normal=>
      obtain⟨S',h',β',g',_,rfl,hl,hb0,hb1⟩:=hq
      have e0:β' 0=β 0:=g'.pin.2 0 (by simp)
      have e1:β' 1=β 1:=g'.pin.2 1 (by simp)
      have x0:=g'.boxes 0 _ (box_get hl) (by rw[hb0];simp)
      have x1:=g'.boxes 1 _ (box_get hl) (by rw[hb1];simp)
      have ne:=g'.inj 0 1 _ _ (box_get hl) (box_get hl) (by rw[hb0];simp) (by rw[hb1];simp)
      rw[e0,hb0] at x0
      rw[e1,hb1] at x1
      rw[e0,e1] at ne
      cases c₀
      simp only[Exit.inBlock,bodyPostS]
      refine⟨g'.defers,_,rfl,_,results_none rfl _ _ _,rfl,rfl,g'.fine.re rfl rfl,tL (x0.re rfl) (x1.re rfl) (fun e=>by simpa using ne e)⟩
    |panic ch=>obtain⟨_,_,_,hq⟩:=hq;exact(hq:False).elim
    |outgrown=>exact(hq:False).elim
    |_=>obtain⟨_,_,_,_,hq,_⟩:=hq;cases hq
def offBo (β:Nat→Nat):Deferred:={target:=.fn (.func 85) #[.pointer (some ⟨β 0,0,none⟩),.pointer (some ⟨β 1,0,none⟩)],args:=#[]}
theorem try_Bo {h : PH} {f:FuncId} {cap:Array Value} {w:World} (hw:Has w h) (hg:Sub mach.gl h) (hc:dS mach.P f=true) {Y:Ending→World→Prop}
  (hk :∀(w1:World),Has w1 h→Calls mach.P f cap w1 fun e w2=>∃h3,Below w1.heap.size w1 w2∧Has w2 h3∧Sub h h3∧New w1.heap.size h h3∧match e with
    |.returned v=>(∃r0,v=Value.bool r0∧[Value.bool r0].all Value.oneCell'=true)∧∀w3,Fine mach ⟨w,h,[],[]⟩ h3 w3→Y (.returned (.tuple #[v,.int .i64 0])) w3
    |.panicked ch=>∃e,ch=[{v:=.iface 133 (.agg #[.int .i64 e]),recovered:=false}]∧∀w3,Fine mach ⟨w,h,[],[]⟩ h3 w3→Y (.returned (.tuple #[.bool false,.int .i64 e])) w3
    |.outgrown=>False):Calls mach.P 45 #[.func (.func f) #[] cap] w Y:=by
 refine calls_of_wp_defers Tryz.func45 rfl ?_
 refine wp_seq (wp_mono (nh (E:=NP) (Q:=fun e S h'=>e=.normal∧h'=h∧S=⟨[(3,.p 1 0),(2,.p 0 0),(0,.v (.func (.func f) #[] cap))],[[.bool false],[.int .i64 0]]⟩) (G.start (M:=mach) (n:=7) (args:=[(.func (.func f) #[] cap)]) [] rfl (by simp) hw hg) ?_) ?_)
 ·refine AWP_s rfl ?_
  (repeat (first |(refine wo rfl (fun k hk=>?_);simp(disch:=omega) only[go_sem,ξ,ζ];apply hk;clear hk k) |refine wkt rfl ?_));(try refine wk0 ?_)
  exact⟨rfl,rfl,rfl⟩
 ·intro en a w1 hq
  cases en with
  | normal=>
   obtain⟨S',h',β,g,_,rfl,rfl⟩:=hq
   refine wp_seq (eK ?_)
   show RWc _ _ _ [0,1] _ _
   refine RWc_r (.func (.func 85) #[] #[.pointer (some ⟨β 0,0,none⟩),.pointer (some ⟨β 1,0,none⟩)]) rfl rfl rfl (fun w' hb=>?_) ?_
   ·simp[execOp,Instr.makeFunc,(g.below hb).ev_p (x:=.tmp 2) rfl,(g.below hb).ev_p (x:=.tmp 3) rfl]
   ·have g4 :=g.put (d:=some 4) (fun k hk=>by cases hk;decide) (x:=.top) (v:=(.func (.func 85) #[] #[.pointer (some ⟨β 0,0,none⟩),.pointer (some ⟨β 1,0,none⟩)])) (.inl rfl) (fun i hi=>by cases hi)
    have e4:(a.put (some 4) (.func (.func 85) #[] #[.pointer (some ⟨β 0,0,none⟩),.pointer (some ⟨β 1,0,none⟩)])).eval (.tmp 4)=(.func (.func 85) #[] #[.pointer (some ⟨β 0,0,none⟩),.pointer (some ⟨β 1,0,none⟩)]):=by
     have:=g.size
     simp[Act.eval,Act.put,this]
    refine RWc_i rfl (by decide) rfl (B9 (offBo β) ?_ ⟨.inr (Below.refl _ _),?_⟩)
    ·simp[execOp,offBo,resolve,Deferred.ofValue,e4]
    ·refine sM (a':={a.put (some 4) (.func (.func 85) #[] #[.pointer (some ⟨β 0,0,none⟩),.pointer (some ⟨β 1,0,none⟩)]) with defers:=[offBo β]}) ?_ ?_
     ·simp[Act.put,show a.defers=[] from g.defers]
     ·have g5 :=g4.re (C':=⟨w,h',[β 0,β 1],[offBo β]⟩) rfl rfl [offBo β] rfl ⟨by simp[AS.put],fun i hi=>by
       match i,hi with
       |0,_=>rfl
       |1,_=>rfl⟩
      generalize({a.put (some 4) (.func (.func 85) #[] #[.pointer (some ⟨β 0,0,none⟩),.pointer (some ⟨β 1,0,none⟩)]) with defers:=[offBo β]}:Act)=a5 at g5 ⊢
      clear e4 g4 g
      simp only[AS.put,st,ξ,cond_false] at g5
      refine wp_seq (eK ?_)
      show RWc _ _ _ [0,1,2,3] _ _
      refine RWc_r (.func (.func f) #[] cap) rfl rfl rfl (fun w' hb=>?_) ?_
      ·simp[execOp,(g5.below hb).ev_v (x:=.tmp 0) rfl]
      ·have g6:=g5.put (d:=some 5) (fun k hk=>by cases hk;decide) (x:=.v (.func (.func f) #[] cap)) (v:=(.func (.func f) #[] cap)) (.inr rfl) (fun i hi=>by cases hi)
       refine RWc_i rfl (by decide) rfl (tZ (f:=f) (args:=cap) ?_ ?_)
       ·exact BH g6 (t:=5) rfl rfl hc
       ·refine(hk w1 g6.fine.has).mono fun en w2 hp=>?_
        obtain⟨h3,hb,hh,hs,hn,hp⟩:=hp
        cases en with
        |outgrown=>exact hp
        | returned v=>
         obtain⟨⟨r0,rfl,hone⟩,hY⟩:=hp
         refine⟨.inr hb,?_⟩
         have g7:=(g6.grow hb hh hs hn).put (d:=some 6) (fun k hk=>by cases hk;decide) (x:=.v (Value.bool r0)) (v:=Value.bool r0) (.inr rfl) (fun i hi=>by cases hi)
         refine uo (Q:=LQ mach 7 ⟨w,h',[β 0,β 1],[offBo β]⟩ (fun e S h''=>e=.normal∧h''=h3∧2≤S.bx.length∧lk S.sl 2=.p 0 0∧lk S.sl 3=.p 1 0∧S.box 0=[Value.bool r0]∧S.box 1=[.int .i64 0]) NP) ?_ ?_ ?_ [2,3] _ _ (fx [.o 2,.o 3] _ _ _ _ _ _ rfl ?_ g7)
         ·rintro a8 w3 ⟨S8,h8,β8,g8,_,rfl,hl,l2,l3,b0,b1⟩
          refine wp_ret ?_
          show Leaves mach.P _ a8.tmps Y a8.defers .returning w3
          rw[show a8.defers=[offBo β] from g8.defers]
          refine leaves_cons (f:=85) (args:=#[.pointer (some ⟨β 0,0,none⟩),.pointer (some ⟨β 1,0,none⟩)]) (by simp) (by simp[go_sem];exact iF (by kernel_rfl) _ _) ?_
          refine(idle_Bo _ _ _).mono ?_
          rintro e u' w'' ⟨rfl,rfl,rfl⟩
          simp only[settle,Leaves]
          refine⟨_,i9 g8 (v:=.tuple #[Value.bool r0,.int .i64 0]) ?_,hY _ (g8.fine.re rfl rfl)⟩
          show resA mach.P S8 [.cell 2 4,.cell 3 36]=_
          have b0':S8.bx.getD 0 []=_:=b0
          have b1':S8.bx.getD 1 []=_:=b1
          simp only[resA,resL,res1,l2,l3,ldb,b0',b1',go_sem]
          all_goals rfl
         ·rintro ch a w ⟨_,_,_,hq⟩;exact(hq:False).elim
         ·intro a w hq;exact(hq:False).elim
         ·simp only[AS.put,st,ξ,cond_false]
          refine wk (fun k hk=>?_)
          simp(disch:=omega) only[go_sem,ξ,ζ]
          (first |refine⟨by simpa[Value.oneCell'] using hone,hk _ _ ?_⟩ |refine hk _ _ ?_)
          clear hk k
          (repeat (first |(refine wo rfl (fun k hk=>?_);simp(disch:=omega) only[go_sem,ξ,ζ];apply hk;clear hk k) |refine wkt rfl ?_));(try refine wk0 ?_)
          exact⟨trivial,rfl,by simp,rfl,rfl,rfl,rfl⟩
        | panicked ch=>
         obtain⟨e,rfl,hY⟩:=hp
         have g7:=g6.grow hb hh hs hn
         show Leaves mach.P _ (a5.put (some 5) (.func (.func f) #[] cap)).tmps Y (a5.put (some 5) (.func (.func f) #[] cap)).defers (.panicking _) w2
         rw[show(a5.put (some 5) (.func (.func f) #[] cap)).defers=[offBo β] from g7.defers]
         refine leaves_cons (f:=85) (args:=#[.pointer (some ⟨β 0,0,none⟩),.pointer (some ⟨β 1,0,none⟩)]) (by simp) (by simp[go_sem];exact iF (by kernel_rfl) _ _) ?_
         refine(I1 g7.fine ⟨g7.boxes,g7.inj⟩ rfl rfl).mono ?_
         rintro en u' w'' ⟨rfl,rfl,hf,hr⟩
         simp only[settle,Leaves,List.dropWhile_nil]
         have g9:G mach ⟨w,h',[β 0,β 1],[offBo β]⟩ 7 ⟨_,[[.bool false],[.int .i64 e]]⟩ h3 β (a5.put (some 5) (.func (.func f) #[] cap)) w'':=⟨g7.size,g7.defers,hf,hr.at_,hr.inj,g7.slots,g7.wf,g7.pin⟩
         refine⟨_,i9 g9 (v:=.tuple #[.bool false,.int .i64 e]) ?_,hY _ (hf.re rfl rfl)⟩
         show resA mach.P _ [.cell 2 4,.cell 3 36]=_
         simp only[resA,resL,res1,ldb,go_sem]
         all_goals rfl
  |panic ch=>obtain⟨_,_,_,hq⟩:=hq;exact(hq:False).elim
  |outgrown=>exact(hq:False).elim
  |_=>obtain⟨_,_,_,_,hq,_⟩:=hq;cases hq
theorem tryBo_ok {h:PH} {f:FuncId} {cap:Array Value} {R R':Value→PH→Prop} (s:Spec mach f cap h R NP) (hR:∀v h',Sub h h'→R v h'→(∃r0,v=Value.bool r0∧[Value.bool r0].all Value.oneCell'=true)∧R' (.tuple #[v,.int .i64 0]) h'):
  Spec mach 45 #[.func (.func f) #[] cap] h R' NP:=⟨by kernel_rfl,fun w hw hg=>try_Bo hw hg s.ok fun w1 hw1=>(s.run w1 hw1 hg).mono fun e w2 hp=>by
 cases e with
 |outgrown=>exact(hp:False).elim
 |panicked ch=>obtain⟨_,_,_,_,_,hp⟩:=hp;exact(hp:False).elim
 | returned v=>
  obtain⟨h3,hb,hh,hs,hn,hr⟩:=hp
  obtain⟨hv,hr⟩:=hR v h3 hs hr
  exact⟨h3,hb,hh,hs,hn,hv,fun w3 hf=>⟨h3,hf.below,hf.has,hf.sub,hf.new,hr⟩⟩⟩
theorem FZ {h:PH} {f:FuncId} {cap:Array Value} {e:Int} {R':Value→PH→Prop} (s:Spec mach f cap h NR (fail e)) (hR:∀h',Sub h h'→R' (.tuple #[.bool false,.int .i64 e]) h'):
  Spec mach 45 #[.func (.func f) #[] cap] h R' NP:=⟨by kernel_rfl,fun w hw hg=>try_Bo hw hg s.ok fun w1 hw1=>(s.run w1 hw1 hg).mono fun en w2 hp=>by
 cases en with
 |outgrown=>exact(hp:False).elim
 |returned v=>obtain⟨_,_,_,_,_,hp⟩:=hp;exact(hp:False).elim
 | panicked ch=>
  obtain⟨h3,hb,hh,hs,hn,hr⟩:=hp
  exact⟨h3,hb,hh,hs,hn,e,hr,fun w3 hf=>⟨h3,hf.below,hf.has,hf.sub,hf.new,hR h3 hs⟩⟩⟩
end Go.Q
namespace Go.Q
open Go.Proofs
set_option maxRecDepth 100000
set_option maxHeartbeats 4000000
theorem jT {h0 h:PH} [Le h0 h] {v:Value} {a b:Option Rat} (hv:Sn h0 v (.i a b)):
  Spec mach 167 #[v] h (fun r _=>r=.tuple #[.int .i64 (NS.i a b).slo,.int .i64 (NS.i a b).shi]) NP:=by
 obtain⟨b1,a1,m1,c1,a2,m2,c2,b2,a3,m3,c3,a4,m4,c4,rfl,h1,h2⟩:=hv.ie
 cases a with
 | none=>
  cases b with
  | none=>
   dsimp only[Option.isNone]
   refine Spec.go [] Tryz.func167 rfl rfl (by kernel_rfl) fun C _=>?_
   try simp(maxSteps:=999999) (disch:=omega) only[go_sem,ξ,ζ]
   all_goals rfl
  | some b=>
   dsimp only[Option.isNone]
   refine Spec.go [] Tryz.func167 rfl rfl (by kernel_rfl) fun C _=>?_
   try simp(maxSteps:=999999) (disch:=omega) only[go_sem,ξ,ζ]
   refine caN (by exact dv h2.num) ?_;rintro v1 h1 s1 rfl
   try simp(maxSteps:=999999) (disch:=omega) only[go_sem,ξ,ζ]
   all_goals rfl
 | some a=>
  cases b with
  | none=>
   dsimp only[Option.isNone]
   refine Spec.go [] Tryz.func167 rfl rfl (by kernel_rfl) fun C _=>?_
   try simp(maxSteps:=999999) (disch:=omega) only[go_sem,ξ,ζ]
   refine caN (by exact dv h1.num) ?_;rintro v1 h1 s1 rfl
   try simp(maxSteps:=999999) (disch:=omega) only[go_sem,ξ,ζ]
   all_goals rfl
  | some b=>
   dsimp only[Option.isNone]
   refine Spec.go [] Tryz.func167 rfl rfl (by kernel_rfl) fun C _=>?_
   try simp(maxSteps:=999999) (disch:=omega) only[go_sem,ξ,ζ]
   refine caN (by exact dv h1.num) ?_;rintro v1 h1 s1 rfl
   try simp(maxSteps:=999999) (disch:=omega) only[go_sem,ξ,ζ]
   refine caN (by exact dv h2.num) ?_;rintro v2 h2 s2 rfl
   try simp(maxSteps:=999999) (disch:=omega) only[go_sem,ξ,ζ]
   all_goals rfl
theorem pv {h0 h:PH} [Le h0 h] {v:Value} (hv:Sn h0 v .e):
  Spec mach 167 #[v] h (fun r _=>∃m n,r=.tuple #[.int .i64 m,.int .i64 n]) NP:=by
 obtain⟨b1,a1,m1,c1,a2,m2,c2,b2,a3,m3,c3,a4,m4,c4,l,u,rfl,h1,h2⟩:=hv.ee
 obtain⟨n1,d1,j1⟩:=h1.jk
 obtain⟨n2,d2,j2⟩:=h2.jk
 cases l<;>cases u
 ·refine Spec.go [] Tryz.func167 rfl rfl (by kernel_rfl) fun C _=>?_
  try simp(maxSteps:=999999) (disch:=omega) only[go_sem,ξ,ζ]
  refine caN (by exact pP j1) ?_;rintro v1 h1 s1 rfl
  try simp(maxSteps:=999999) (disch:=omega) only[go_sem,ξ,ζ]
  refine caN (by exact pP j2) ?_;rintro v2 h2 s2 rfl
  try simp(maxSteps:=999999) (disch:=omega) only[go_sem,ξ,ζ]
  exact⟨_,_,rfl⟩
 ·refine Spec.go [] Tryz.func167 rfl rfl (by kernel_rfl) fun C _=>?_
  try simp(maxSteps:=999999) (disch:=omega) only[go_sem,ξ,ζ]
  refine caN (by exact pP j1) ?_;rintro v1 h1 s1 rfl
  try simp(maxSteps:=999999) (disch:=omega) only[go_sem,ξ,ζ]
  exact⟨_,_,rfl⟩
 ·refine Spec.go [] Tryz.func167 rfl rfl (by kernel_rfl) fun C _=>?_
  try simp(maxSteps:=999999) (disch:=omega) only[go_sem,ξ,ζ]
  refine caN (by exact pP j2) ?_;rintro v2 h2 s2 rfl
  try simp(maxSteps:=999999) (disch:=omega) only[go_sem,ξ,ζ]
  exact⟨_,_,rfl⟩
 ·refine Spec.go [] Tryz.func167 rfl rfl (by kernel_rfl) fun C _=>?_
  try simp(maxSteps:=999999) (disch:=omega) only[go_sem,ξ,ζ]
  exact⟨_,_,rfl⟩
theorem qU {h0 h:PH} [Le h0 h] {v:Value} {q:Rat} (hv:Fr h0 v q):Spec mach 115 #[v] h (fun v h'=>Sn h' v (.i (some q) (some q))) NP:=by
 obtain⟨_,_,_,_,_,_,_,rfl,hv⟩:=hv.sa
 refine Spec.go [] Tryz.func115 rfl rfl (by kernel_rfl) fun C _=>?_
 try simp(maxSteps:=999999) (disch:=omega) only[go_sem,ξ,ζ]
 exact⟨_,_,_,_,_,_,rfl,(En.of hv).to,(En.of hv).to⟩
theorem dP {h0 h:PH} [Le h0 h] {v w:Value} {x y:Rat} (hx:Fr h0 v x) (hy:Fr h0 w y) (bx:sz x≤2^36) (by_:sz y≤2^36):
  Spec mach 193 #[v,w] h (fun v h'=>Fr h' v (min x y)) NP:=by
 obtain⟨_,_,_,_,_,_,_,rfl,hx⟩:=hx.sa
 obtain⟨_,_,_,_,_,_,_,rfl,hy⟩:=hy.sa
 refine Spec.go [] Tryz.func193 rfl rfl (by kernel_rfl) fun C _=>?_
 try simp(maxSteps:=999999) (disch:=omega) only[go_sem,ξ,ζ]
 refine caN (by exact dq hy hx by_ bx) ?_;rintro v1 h1 s1 rfl
 try simp(maxSteps:=999999) (disch:=omega) only[go_sem,ξ,ζ]
 by_cases hc:y < x
 ·have e1:cmpQ y x < 0:=by simp[cmpQ,hc]
  try simp(maxSteps:=999999) (disch:=omega) only[go_sem,ξ,ζ]
  have:min x y=y:=by grind
  rw[this];exact hy.to
 ·have e1:¬cmpQ y x < 0:=by unfold cmpQ;rw[if_neg hc];split<;>decide
  try simp(maxSteps:=999999) (disch:=omega) only[go_sem,ξ,ζ]
  have:min x y=x:=by grind
  rw[this];exact hx.to
theorem cE {h0 h:PH} [Le h0 h] {v w:Value} {x y:Rat} (hx:Fr h0 v x) (hy:Fr h0 w y) (bx:sz x≤2^36) (by_:sz y≤2^36):
  Spec mach 169 #[v,w] h (fun v h'=>Fr h' v (max x y)) NP:=by
 obtain⟨_,_,_,_,_,_,_,rfl,hx⟩:=hx.sa
 obtain⟨_,_,_,_,_,_,_,rfl,hy⟩:=hy.sa
 refine Spec.go [] Tryz.func169 rfl rfl (by kernel_rfl) fun C _=>?_
 try simp(maxSteps:=999999) (disch:=omega) only[go_sem,ξ,ζ]
 refine caN (by exact dq hy hx by_ bx) ?_;rintro v1 h1 s1 rfl
 try simp(maxSteps:=999999) (disch:=omega) only[go_sem,ξ,ζ]
 by_cases hc:x < y
 ·have e1:0 < cmpQ y x:=by unfold cmpQ;grind
  try simp(maxSteps:=999999) (disch:=omega) only[go_sem,ξ,ζ]
  have:max x y=y:=by grind
  rw[this];exact hy.to
 ·have e1:¬0 < cmpQ y x:=by unfold cmpQ;grind
  try simp(maxSteps:=999999) (disch:=omega) only[go_sem,ξ,ζ]
  have:max x y=x:=by grind
  rw[this];exact hx.to
theorem Ei {h0 h:PH} [Le h0 h] {v:Value} {x:NS} (hv:Sn h0 v x):Spec mach 179 #[v] h (fun r _=>r=.bool x.zero) NP:=by
  obtain⟨b1,a1,m1,c1,a2,m2,c2,b2,a3,m3,c3,a4,m4,c4,l,u,rfl,hv⟩:=hv.sa
  refine Spec.go [] Tryz.func179 rfl rfl (by kernel_rfl) fun C _=>?_
  try simp(maxSteps:=999999) (disch:=omega) only[go_sem,ξ,ζ]
  cases x with
  | e=>
    dsimp only[NS.void] at hv ⊢
    try simp(maxSteps:=999999) (disch:=omega) only[go_sem,ξ,ζ]
    refine caN (by exact pv hv) ?_;rintro v1 h1 s1 ⟨m,n,rfl⟩
    try simp(maxSteps:=999999) (disch:=omega) only[go_sem,ξ,ζ]
    all_goals rfl
  | i a b=>
    dsimp only[NS.void] at hv ⊢
    try simp(maxSteps:=999999) (disch:=omega) only[go_sem,ξ,ζ]
    refine caN (by exact jT hv) ?_;rintro v1 h1 s1 rfl
    try simp(maxSteps:=999999) (disch:=omega) only[go_sem,ξ,ζ]
    by_cases g1:(NS.i a b).slo≤0
    · by_cases g2:0≤(NS.i a b).shi
      · have:(NS.i a b).zero=true:=by simp[NS.zero,NS.void,g1,g2]
        rw[this]
        try simp(maxSteps:=999999) (disch:=omega) only[go_sem,ξ,ζ]
      · have:(NS.i a b).zero=false:=by simp[NS.zero,g2]
        rw[this]
        try simp(maxSteps:=999999) (disch:=omega) only[go_sem,ξ,ζ]
    · have:(NS.i a b).zero=false:=by simp[NS.zero,g1]
      rw[this]
      try simp(maxSteps:=999999) (disch:=omega) only[go_sem,ξ,ζ]
theorem px {x y:Rat} {k:Nat} (hx:sz x≤k) (hy:sz y≤k):sz (max x y)≤k:=by
 by_cases h:x < y
 ·rw[show max x y=y by grind];exact hy
 ·rw[show max x y=x by grind];exact hx
theorem py {x y:Rat} {k:Nat} (hx:sz x≤k) (hy:sz y≤k):sz (min x y)≤k:=by
 by_cases h:y < x
 ·rw[show min x y=y by grind];exact hy
 ·rw[show min x y=x by grind];exact hx
theorem up36 {n:Nat} (h:n≤2^30):n≤2^36:=by omega
def Sd (h:PH) (v:Value):NS→Prop
 |.e=>∃b1 x1 y1 b2 x2 y2 p q,v=.agg #[.bool b1,x1,y1,.bool b2,x2,y2,.bool false,.bool false,.bool true]∧En h b1 x1 y1 (some p)∧En h b2 x2 y2 (some q)∧sz p≤2^30∧sz q≤2^30
 |.i a b=>Sn h v (.i a b)
theorem Sd.sn {h:PH} {v:Value} {x:NS} (r:Sd h v x):Sn h v x:=by
 cases x with
 |i a b=>exact r
 |e=>obtain⟨b1,x1,y1,b2,x2,y2,p,q,rfl,h1,h2,_⟩:=r;exact⟨_,_,_,_,_,_,_,_,rfl,h1.junk,h2.junk⟩
theorem Sd.to {h h':PH} {v:Value} {x:NS} (r:Sd h v x) [Le h h']:Sd h' v x:=by
 cases x with
 |i a b=>exact Sn.to (x:=.i a b) r
 |e=>obtain⟨b1,x1,y1,b2,x2,y2,p,q,hv,h1,h2,k⟩:=r;exact⟨b1,x1,y1,b2,x2,y2,p,q,hv,h1.to,h2.to,k⟩
theorem Sd.ee {h:PH} {v:Value} (r:Sd h v .e):∃b1 a1 m1 c1 a2 m2 c2 b2 a3 m3 c3 a4 m4 c4 p q,v=.agg #[.bool b1,.slice a1 m1 c1,.slice a2 m2 c2,.bool b2,.slice a3 m3 c3,.slice a4 m4 c4,.bool false,.bool false,.bool true]∧
  En h b1 (.slice a1 m1 c1) (.slice a2 m2 c2) (some p)∧En h b2 (.slice a3 m3 c3) (.slice a4 m4 c4) (some q)∧sz p≤2^30∧sz q≤2^30:=by
 obtain⟨b1,x1,y1,b2,x2,y2,p,q,rfl,h1,h2,k⟩:=r
 obtain⟨_,_,_,_,_,_,rfl,rfl⟩:=h1.sl
 obtain⟨_,_,_,_,_,_,rfl,rfl⟩:=h2.sl
 exact⟨_,_,_,_,_,_,_,_,_,_,_,_,_,_,_,_,rfl,h1,h2,k⟩
theorem dK {h0 h:PH} [Le h0 h] {v:Value} {x:RI} (hv:Iv h0 v x) (g:x.big=false):Spec mach 47 #[v] h (fun v h'=>Sd h' v x.set) NP:=by
 obtain⟨g1,g2⟩:=RI.small g
 refine(wy hv g1 g2).mono (fun v h' _ r=>?_) (fun _ _ _ e=>e)
 rw[←RI.set_eq]
 have z1:sz (qof x.n1 x.a1 x.d1)≤2^30:=by unfold Go.Q.lg at g1;omega
 have z2:sz (qof x.n2 x.a2 x.d2)≤2^30:=by unfold Go.Q.lg at g2;omega
 obtain⟨b1,x1,y1,b2,x2,y2,rfl,h1,h2⟩:=r
 unfold rdS PS.n at*
 dsimp only at*
 cases hl:x.l with
 | true=>exact⟨b1,x1,y1,b2,x2,y2,by cases x.u<;>rfl,(En.of h1).junk,by cases x.u with
  |true=>exact(En.of h2).junk
  |false=>exact En.of h2⟩
 | false=>
  cases hu:x.u with
  |true=>exact⟨b1,x1,y1,b2,x2,y2,rfl,En.of h1,(En.of h2).junk⟩
  | false=>
   by_cases hc:qof x.n2 x.a2 x.d2 < qof x.n1 x.a1 x.d1
   ·simp only[hc,decide_true,Bool.not_false,Bool.and_true,cond_true]
    exact⟨b1,x1,y1,b2,x2,y2,_,_,rfl,En.of h1,En.of h2,z1,z2⟩
   ·simp only[hc,decide_false,Bool.and_false,cond_false]
    exact⟨b1,x1,y1,b2,x2,y2,rfl,En.of h1,En.of h2⟩
theorem sum_set {h0 h:PH} [Le h0 h] {v w:Value} {a b c d:Option Rat} (hs:Sn h0 v (.i a b)) (ht:Sn h0 w (.i c d)) (ls:(NS.i a b).le (2^30)) (lt:(NS.i c d).le (2^30)):
  Spec mach 175 #[v,w] h (fun v h'=>Sn h' v (NS.sum (.i a b) (.i c d))) NP:=by
 obtain⟨b1,a1,m1,c1,a2,m2,c2,b2,a3,m3,c3,a4,m4,c4,rfl,h1,h2⟩:=hs.ie
 obtain⟨b1',a1',m1',c1',a2',m2',c2',b2',a3',m3',c3',a4',m4',c4',rfl,h3,h4⟩:=ht.ie
 rw[NS.le_i] at ls lt
 cases a<;>cases c<;>cases b<;>cases d<;>
 ·dsimp only[Option.isNone]
  refine Spec.go [] Tryz.func175 rfl rfl (by kernel_rfl) fun C _=>?_
  try simp(maxSteps:=999999) (disch:=omega) only[go_sem,ξ,ζ]
  try (refine caN (by exact iV h1.num h3.num (up36 (ls.1 _ rfl)) (up36 (lt.1 _ rfl))) ?_;rintro _ g1 _ f1;obtain⟨_,_,_,_,_,_,_,rfl,f1⟩:=f1.sa;(try simp(maxSteps:=999999) (disch:=omega) only[go_sem,ξ,ζ]))
  try (refine caN (by exact iV h2.num h4.num (up36 (ls.2 _ rfl)) (up36 (lt.2 _ rfl))) ?_;rintro _ g2 _ f2;obtain⟨_,_,_,_,_,_,_,rfl,f2⟩:=f2.sa;(try simp(maxSteps:=999999) (disch:=omega) only[go_sem,ξ,ζ]))
  try simp(maxSteps:=999999) (disch:=omega) only[go_sem,ξ,ζ]
  exact⟨_,_,_,_,_,_,rfl,by first |exact(En.of f1).to |exact En.nil _,by first |exact(En.of f2).to |exact En.nil _⟩
theorem Fp {h0 h:PH} [Le h0 h] {v w:Value} {a b c d:Option Rat} (hs:Sn h0 v (.i a b)) (ht:Sn h0 w (.i c d)) (ls:(NS.i a b).le (2^30)) (lt:(NS.i c d).le (2^30)):
  Spec mach 235 #[v,w] h (fun v h'=>Sn h' v (NS.joined (.i a b) (.i c d))) NP:=by
 obtain⟨b1,a1,m1,c1,a2,m2,c2,b2,a3,m3,c3,a4,m4,c4,rfl,h1,h2⟩:=hs.ie
 obtain⟨b1',a1',m1',c1',a2',m2',c2',b2',a3',m3',c3',a4',m4',c4',rfl,h3,h4⟩:=ht.ie
 rw[NS.le_i] at ls lt
 cases a<;>cases c<;>cases b<;>cases d<;>
 ·dsimp only[Option.isNone]
  refine Spec.go [] Tryz.func235 rfl rfl (by kernel_rfl) fun C _=>?_
  try simp(maxSteps:=999999) (disch:=omega) only[go_sem,ξ,ζ]
  try (refine caN (by exact dP h1.num h3.num (up36 (ls.1 _ rfl)) (up36 (lt.1 _ rfl))) ?_;rintro _ g1 _ f1;obtain⟨_,_,_,_,_,_,_,rfl,f1⟩:=f1.sa;(try simp(maxSteps:=999999) (disch:=omega) only[go_sem,ξ,ζ]))
  try (refine caN (by exact cE h2.num h4.num (up36 (ls.2 _ rfl)) (up36 (lt.2 _ rfl))) ?_;rintro _ g2 _ f2;obtain⟨_,_,_,_,_,_,_,rfl,f2⟩:=f2.sa;(try simp(maxSteps:=999999) (disch:=omega) only[go_sem,ξ,ζ]))
  try simp(maxSteps:=999999) (disch:=omega) only[go_sem,ξ,ζ]
  exact⟨_,_,_,_,_,_,rfl,by first |exact(En.of f1).to |exact En.nil _,by first |exact(En.of f2).to |exact En.nil _⟩
theorem Fq {h0 h:PH} [Le h0 h] {v w:Value} {a b c d:Option Rat} (hs:Sn h0 v (.i a b)) (ht:Sn h0 w (.i c d)) (ls:(NS.i a b).le (2^30)) (lt:(NS.i c d).le (2^30)):
  Spec mach 172 #[v,w] h (fun v h'=>Sn h' v (NS.lesser (.i a b) (.i c d))) NP:=by
 obtain⟨b1,a1,m1,c1,a2,m2,c2,b2,a3,m3,c3,a4,m4,c4,rfl,h1,h2⟩:=hs.ie
 obtain⟨b1',a1',m1',c1',a2',m2',c2',b2',a3',m3',c3',a4',m4',c4',rfl,h3,h4⟩:=ht.ie
 rw[NS.le_i] at ls lt
 cases a<;>cases c<;>cases b<;>cases d<;>
 ·dsimp only[Option.isNone]
  refine Spec.go [] Tryz.func172 rfl rfl (by kernel_rfl) fun C _=>?_
  try simp(maxSteps:=999999) (disch:=omega) only[go_sem,ξ,ζ]
  try (refine caN (by exact dP h1.num h3.num (up36 (ls.1 _ rfl)) (up36 (lt.1 _ rfl))) ?_;rintro _ g1 _ f1;obtain⟨_,_,_,_,_,_,_,rfl,f1⟩:=f1.sa;(try simp(maxSteps:=999999) (disch:=omega) only[go_sem,ξ,ζ]))
  try (refine caN (by exact dP h2.num h4.num (up36 (ls.2 _ rfl)) (up36 (lt.2 _ rfl))) ?_;rintro _ g2 _ f2;obtain⟨_,_,_,_,_,_,_,rfl,f2⟩:=f2.sa;(try simp(maxSteps:=999999) (disch:=omega) only[go_sem,ξ,ζ]))
  try simp(maxSteps:=999999) (disch:=omega) only[go_sem,ξ,ζ]
  exact⟨_,_,_,_,_,_,rfl,by first |exact(En.of f1).to |exact En.nil _,by first |exact(En.of f2).to |exact h4.to |exact h2.to⟩
theorem Jw {h0 h:PH} [Le h0 h] {v w:Value} {y:NS} (hs:Sn h0 v .e) (ht:Sn h0 w y):Spec mach 235 #[v,w] h (fun v h'=>Sn h' v y) NP:=by
 obtain⟨b1,a1,m1,c1,a2,m2,c2,b2,a3,m3,c3,a4,m4,c4,l,u,rfl,h1,h2⟩:=hs.ee
 obtain⟨b1',a1',m1',c1',a2',m2',c2',b2',a3',m3',c3',a4',m4',c4',l',u',rfl,ht⟩:=ht.sa
 refine Spec.go [] Tryz.func235 rfl rfl (by kernel_rfl) fun C _=>?_
 try simp(maxSteps:=999999) (disch:=omega) only[go_sem,ξ,ζ]
 exact ht.to
theorem Jx {h0 h:PH} [Le h0 h] {v w:Value} {a b:Option Rat} (hs:Sn h0 v (.i a b)) (ht:Sn h0 w .e):Spec mach 235 #[v,w] h (fun v h'=>Sn h' v (.i a b)) NP:=by
 obtain⟨b1,a1,m1,c1,a2,m2,c2,b2,a3,m3,c3,a4,m4,c4,l,u,rfl,hs⟩:=hs.sa
 obtain⟨b1',a1',m1',c1',a2',m2',c2',b2',a3',m3',c3',a4',m4',c4',l',u',rfl,h3,h4⟩:=ht.ee
 dsimp only[NS.void] at hs ⊢
 refine Spec.go [] Tryz.func235 rfl rfl (by kernel_rfl) fun C _=>?_
 try simp(maxSteps:=999999) (disch:=omega) only[go_sem,ξ,ζ]
 exact hs.to
theorem JA {h0 h:PH} [Le h0 h] {v w:Value} {y:NS} (hs:Sn h0 v .e) (ht:Sn h0 w y):Spec mach 172 #[v,w] h (fun v h'=>Sn h' v .e) NP:=by
 obtain⟨b1,a1,m1,c1,a2,m2,c2,b2,a3,m3,c3,a4,m4,c4,l,u,rfl,h1,h2⟩:=hs.ee
 obtain⟨b1',a1',m1',c1',a2',m2',c2',b2',a3',m3',c3',a4',m4',c4',l',u',rfl,ht⟩:=ht.sa
 refine Spec.go [] Tryz.func172 rfl rfl (by kernel_rfl) fun C _=>?_
 try simp(maxSteps:=999999) (disch:=omega) only[go_sem,ξ,ζ]
 exact⟨_,_,_,_,_,_,_,_,rfl,En.nil _,En.nil _⟩
theorem JB {h0 h:PH} [Le h0 h] {v w:Value} {a b:Option Rat} (hs:Sn h0 v (.i a b)) (ht:Sn h0 w .e):Spec mach 172 #[v,w] h (fun v h'=>Sn h' v .e) NP:=by
 obtain⟨b1,a1,m1,c1,a2,m2,c2,b2,a3,m3,c3,a4,m4,c4,l,u,rfl,hs⟩:=hs.sa
 obtain⟨b1',a1',m1',c1',a2',m2',c2',b2',a3',m3',c3',a4',m4',c4',l',u',rfl,h3,h4⟩:=ht.ee
 dsimp only[NS.void] at hs ⊢
 refine Spec.go [] Tryz.func172 rfl rfl (by kernel_rfl) fun C _=>?_
 try simp(maxSteps:=999999) (disch:=omega) only[go_sem,ξ,ζ]
 exact⟨_,_,_,_,_,_,_,_,rfl,En.nil _,En.nil _⟩
theorem mS {h0 h:PH} [Le h0 h] {v w:Value} {x y:NS} (hs:Sn h0 v x) (ht:Sn h0 w y) (ls:x.le (2^30)) (lt:y.le (2^30)):Spec mach 235 #[v,w] h (fun v h'=>Sn h' v (x.joined y)) NP:=by
 cases x with
 |e=>exact Jw hs ht
 | i a b=>cases y with
  |e=>exact Jx hs ht
  |i c d=>exact Fp hs ht ls lt
theorem wR {h0 h:PH} [Le h0 h] {v w:Value} {x y:NS} (hs:Sn h0 v x) (ht:Sn h0 w y) (ls:x.le (2^30)) (lt:y.le (2^30)):Spec mach 172 #[v,w] h (fun v h'=>Sn h' v (x.lesser y)) NP:=by
 cases x with
 |e=>exact JA hs ht
 | i a b=>cases y with
  |e=>exact JB hs ht
  |i c d=>exact Fq hs ht ls lt
end Go.Q
