/-
  Boxes, and what stands on it. Conditions: each theorem's own.
-/
import Derived.Test.YtbeoaipbdfbmoaaGreatDoorK458a53PkG
import Derived.Test.YtbeoaipbdfbmoaaGreatDoorK2a7f30PkN
import Derived.Test.YtbeoaipbdfbmoaaGreatDoorK0412d4PkM
import Derived.Test.YtbeoaipbdfbmoaaGreatDoorKb9b9aaPkI
import Derived.Test.YtbeoaipbdfbmoaaGreatDoorK90bd91PkA
import Derived.Test.YtbeoaipbdfbmoaaGreatDoorK958129PkD
import Derived.Test.YtbeoaipbdfbmoaaGreatDoorKa839c4PkK
set_option linter.unusedVariables false
set_option linter.unusedSimpArgs false
open Nat renaming reduceBEq→ξ,reduceAdd→ζ,le_trans→χ,le_refl→η,zero_le→qBh,mod_eq_of_lt→qBi,lt_or_ge→qBj
open Bool renaming and_eq_true→φ
open List renaming length_append→qAp,all_eq_true→qBd
namespace Go.Q
open Go.Proofs
set_option maxRecDepth 100000
set_option maxHeartbeats 8000000
theorem RBFind_spec {h0 h:PH} [Le h0 h] {v:Value} {l:List Sd1} {s:ByteArray} (hv:Boxv h0 v l):Spec mach 150 #[v,.string s] h (fun r h'=>Fnd h' r l s) NP:=by
 obtain⟨a,c,rfl,hl,k⟩:=hv
 have fin:∀{h1:PH} {r:Value} {i:Nat} {x:Sd1},l[i]?=some x→(x.1.toList == s.toList)=true→(∀j x,j < i→l[j]?=some x→(x.1.toList == s.toList)=false)→(∃v,r=.tuple #[v,.bool true]∧Iv h1 v x.2)→Fnd h1 r l s:=fun {h1 r i x} hx e hj k=>by
  have hi:=(List.getElem?_eq_some_iff.1 hx).1
  have ef:fnd l s=some i:=by
   unfold fnd
   refine List.findIdx?_eq_some_iff_getElem.2 ⟨hi,?_,fun j k=>?_⟩
   ·rw[List.getElem?_eq_getElem (by omega)] at hx
    cases hx;exact e
   ·have:=hj j _ k (List.getElem?_eq_getElem (by omega))
    simpa using this
  unfold Fnd
  rw[ef]
  obtain⟨v,h1,h2⟩:=k
  exact⟨v,x,hx,h1,h2⟩
 have none:∀{h1:PH},(∀j x,j < l.length→l[j]?=some x→(x.1.toList == s.toList)=false)→Fnd h1 (.tuple #[zIv,.bool false]) l s:=fun {h1} k=>by
  have ef:fnd l s=.none:=by
   unfold fnd
   refine List.findIdx?_eq_none_iff.2 fun x hx=>?_
   obtain⟨j,h⟩:=List.getElem?_of_mem hx
   exact k j x (List.getElem?_eq_some_iff.1 h).1 h
  unfold Fnd
  rw[ef]
 refine Spec.go [] Tryz.func150 rfl rfl (by kernel_rfl) fun C _=>?_
 try simp(maxSteps:=999999) (disch:=omega) only[go_sem,ξ,ζ]
 refine lp [] (fun i:Nat=>⟨[(0,.v (.slice a l.length c)),(1,.v (.string s)),(4,.p 0 0),(8,.v (.slice a l.length c)),(9,.v (.int .i64 l.length)),(10,.v (.int .i64 i))],[[.bool false,.slice .none 0 0,.slice .none 0 0,.bool false,.slice .none 0 0,.slice .none 0 0,.bool false,.bool false]]⟩) (fun i h'=>Le h0 h'∧i≤l.length∧∀j x,j < i→l[j]?=some x→(x.1.toList == s.toList)=false) (fun i=>l.length - i) 0 ?_ ⟨inferInstance,qBh _,fun j w hj=>absurd hj (by omega)⟩ (by kernel_rfl) ?_
 ·try simp(maxSteps:=999999) (disch:=omega) only[go_sem,ξ,ζ]
  all_goals rfl
 rintro i h2 ⟨le2,hi,hj⟩
 by_cases hlt:(i:Int) < l.length
 ·obtain⟨x,hx⟩:∃x,l[i]?=some x:=⟨_,List.getElem?_eq_getElem (by omega)⟩
  obtain⟨ad,b1,a1,m1,c1,a2,m2,c2,b2,a3,m3,c3,a4,m4,c4,e,u,rfl,hat,hiv⟩:=k i x hx
  try simp(maxSteps:=999999) (disch:=omega) only[go_sem,ξ,ζ,hlt,decide_true]
  refine Exists.intro [_,_,_,_,_,_,_,_,_] (And.intro rfl (And.intro (fun j v hj=>le2.sub.at (hat j v hj)) ?_))
  try simp(maxSteps:=999999) (disch:=omega) only[go_sem,ξ,ζ]
  cases e:(x.1.toList == s.toList) with
  | true=>
   try simp(maxSteps:=999999) (disch:=omega) only[go_sem,ξ,ζ,e]
   exact fin hx e hj ⟨_,rfl,hiv.to⟩
  | false=>
   try simp(maxSteps:=999999) (disch:=omega) only[go_sem,ξ,ζ,e]
   dsimp only[lpE];refine⟨i+1,?_,⟨inferInstance,by omega,fun j y k hy=>?_⟩,by omega⟩
   ·try simp(maxSteps:=999999) (disch:=omega) only[go_sem,ξ,ζ]
    all_goals rfl
   ·rcases qBj j i with g |g
    ·exact hj j y g hy
    ·obtain rfl:j=i:=by omega
     rw[hx] at hy
     cases hy
     exact e
 ·try simp(maxSteps:=999999) (disch:=omega) only[go_sem,ξ,ζ,hlt,decide_false]
  exact none (fun j x k=>hj j x (by omega))
def okS (l:List Sd1) (i:Nat):Bool:=match l[i]? with
 | some x=>nameB x.1 && (decide (i=0) || (match l[i - 1]? with
  |some y=>Op.bytesLess y.1.toList x.1.toList
  |none=>true)) && !x.2.big && !x.2.set.void
 |none=>true
def okB (l:List Sd1):Bool:=decide (l.length≤6) && (List.range l.length).all (okS l)
theorem okB_no {l:List Sd1} {i:Nat} (hi:i < l.length) (h:okS l i=false):okB l=false:=by
 unfold okB
 rw[Bool.and_eq_false_iff]
 right
 exact List.all_eq_false.2 ⟨i,List.mem_range.2 hi,by rw[h];decide⟩
theorem okB_yes {l:List Sd1} (hl:l.length≤6) (h:∀j,j < l.length→okS l j=true):okB l=true:=by
 unfold okB
 rw[decide_eq_true hl,Bool.true_and]
 exact qBd.2 fun j hj=>h j (List.mem_range.1 hj)
theorem BValid_spec {h0 h:PH} [Le h0 h] {v:Value} {l:List Sd1} (hv:Boxv h0 v l):Spec mach 39 #[v] h (fun r _=>r=.bool (okB l)) NP:=by
  obtain⟨a,c,rfl,hl,k⟩:=hv
  by_cases h6:(l.length:Int) > 6
  · have:okB l=false:=by unfold okB;rw[decide_eq_false (by omega)];rfl
    rw[this]
    refine Spec.go [] Tryz.func39 rfl rfl (by kernel_rfl) fun C _=>?_
    try simp(maxSteps:=999999) (disch:=omega) only[go_sem,ξ,ζ,h6,decide_true]
  · refine Spec.go [] Tryz.func39 rfl rfl (by kernel_rfl) fun C _=>?_
    try simp(maxSteps:=999999) (disch:=omega) only[go_sem,ξ,ζ,h6,decide_false]
    refine lp [] (fun i:Nat=>⟨[(0,.v (.slice a l.length c)),(10,.v (.slice a l.length c)),(11,.v (.int .i64 l.length)),(12,.v (.int .i64 i))],[]⟩) (fun i h'=>Le h0 h'∧i≤l.length∧∀j,j < i→okS l j=true) (fun i=>l.length - i) 0 ?_ ⟨inferInstance,qBh _,fun j hj=>absurd hj (by omega)⟩ (by kernel_rfl) ?_
    · try simp(maxSteps:=999999) (disch:=omega) only[go_sem,ξ,ζ]
      all_goals rfl
    rintro i h2 ⟨le2,hi,hj⟩
    by_cases hlt:(i:Int) < l.length
    · obtain⟨x,hx⟩:∃x,l[i]?=some x:=⟨_,List.getElem?_eq_getElem (by omega)⟩
      obtain⟨ad,b1,a1,m1,c1,a2,m2,c2,b2,a3,m3,c3,a4,m4,c4,e,u,rfl,hat,hiv⟩:=k i x hx
      try simp(maxSteps:=999999) (disch:=omega) only[go_sem,ξ,ζ,hlt,decide_true]
      refine Exists.intro [_,_,_,_,_,_,_,_,_] (And.intro rfl (And.intro (fun j v hj=>le2.sub.at (hat j v hj)) ?_))
      try simp(maxSteps:=999999) (disch:=omega) only[go_sem,ξ,ζ]
      refine caN (by exact IsName_spec) ?_;rintro v3 h3 s3 rfl
      try simp(maxSteps:=999999) (disch:=omega) only[go_sem,ξ,ζ]
      have big:x.2.big=true→okS l i=false:=fun g=>by unfold okS;rw[hx];simp[g]
      have voi:x.2.set.void=true→okS l i=false:=fun g=>by unfold okS;rw[hx];simp[g]
      have nam:nameB x.1=false→okS l i=false:=fun g=>by unfold okS;rw[hx];simp[g]
      have hi':i < l.length:=by omega
      cases hn:nameB x.1 with
      | false=>
        rw[okB_no hi' (nam hn)]
        try simp(maxSteps:=999999) (disch:=omega) only[go_sem,ξ,ζ,hn]
      | true=>
        have kE:=fun {h} [Le h2 h]=>sI (h:=h) (hiv.to (h':=h2))
        unfold RI.bo at kE
        have nxt:(decide (i=0) || (match l[i - 1]? with |some y=>Op.bytesLess y.1.toList x.1.toList |none=>true))=true→x.2.big=false→x.2.set.void=false→okS l i=true:=fun g1 g2 g3=>by
          unfold okS;rw[hx]
          show(nameB x.1 && _ && _ && _)=true
          rw[hn,g1,g2,g3];rfl
        by_cases i0:(i:Int) > 0
        · obtain⟨y,hy⟩:∃y,l[i - 1]?=some y:=⟨_,List.getElem?_eq_getElem (by omega)⟩
          obtain⟨ad',_,_,_,_,_,_,_,_,_,_,_,_,_,_,_,_,ea,hat',_⟩:=k (i - 1) y hy
          cases ea
          have hyat:h0.at (ad.add ((i - 1)*9))=some (.string y.1):=hat' 0 _ rfl
          have ew:((i:Int) - 1).toNat=i - 1:=by omega
          try simp(maxSteps:=999999) (disch:=omega) only[go_sem,ξ,ζ,hn,i0,decide_true,ew]
          refine aE ((inferInstance:Le h0 h3).sub.at hyat) ?_
          try simp(maxSteps:=999999) (disch:=omega) only[go_sem,ξ,ζ]
          cases hB:Op.bytesLess y.1.toList x.1.toList with
          | false=>
            rw[okB_no hi' (by unfold okS;rw[hx];simp only[hy,hB];rw[decide_eq_false (by omega)];simp)]
            try simp(maxSteps:=999999) (disch:=omega) only[go_sem,ξ,ζ,hB]
          | true=>
            try simp(maxSteps:=999999) (disch:=omega) only[go_sem,ξ,ζ,hB]
            cases gb:x.2.big with
            | true=>
              rw[gb,cond_true] at kE
              rw[okB_no hi' (big gb)]
              refine caN (by exact kE) ?_;rintro v4 h4 s4 q4;obtain rfl:v4=_:=q4
              try simp(maxSteps:=999999) (disch:=omega) only[go_sem,ξ,ζ]
            | false =>
              rw[gb,cond_false] at kE
              cases gv:x.2.set.void with
              | true=>
                rw[gv] at kE
                rw[okB_no hi' (voi gv)]
                refine caN (by exact kE) ?_;rintro v4 h4 s4 q4;obtain rfl:v4=_:=q4
                try simp(maxSteps:=999999) (disch:=omega) only[go_sem,ξ,ζ]
              | false=>
                rw[gv] at kE
                refine caN (by exact kE) ?_;rintro v4 h4 s4 q4;obtain rfl:v4=_:=q4
                try simp(maxSteps:=999999) (disch:=omega) only[go_sem,ξ,ζ]
                dsimp only[lpE];refine⟨i+1,?_,⟨inferInstance,by omega,fun j k=>?_⟩,by omega⟩
                · try simp(maxSteps:=999999) (disch:=omega) only[go_sem,ξ,ζ]
                  all_goals rfl
                · rcases qBj j i with g |g
                  · exact hj j g
                  · obtain rfl:j=i:=by omega
                    exact nxt (by rw[hy];simp[hB]) gb gv
        · try simp(maxSteps:=999999) (disch:=omega) only[go_sem,ξ,ζ,hn,i0,decide_false]
          cases gb:x.2.big with
          | true=>
            rw[gb,cond_true] at kE
            rw[okB_no hi' (big gb)]
            refine caN (by exact kE) ?_;rintro v4 h4 s4 q4;obtain rfl:v4=_:=q4
            try simp(maxSteps:=999999) (disch:=omega) only[go_sem,ξ,ζ]
          | false =>
            rw[gb,cond_false] at kE
            cases gv:x.2.set.void with
            | true=>
              rw[gv] at kE
              rw[okB_no hi' (voi gv)]
              refine caN (by exact kE) ?_;rintro v4 h4 s4 q4;obtain rfl:v4=_:=q4
              try simp(maxSteps:=999999) (disch:=omega) only[go_sem,ξ,ζ]
            | false=>
              rw[gv] at kE
              refine caN (by exact kE) ?_;rintro v4 h4 s4 q4;obtain rfl:v4=_:=q4
              try simp(maxSteps:=999999) (disch:=omega) only[go_sem,ξ,ζ]
              dsimp only[lpE];refine⟨i+1,?_,⟨inferInstance,by omega,fun j k=>?_⟩,by omega⟩
              · try simp(maxSteps:=999999) (disch:=omega) only[go_sem,ξ,ζ]
                all_goals rfl
              · rcases qBj j i with g |g
                · exact hj j g
                · obtain rfl:j=i:=by omega
                  exact nxt (by rw[decide_eq_true (by omega)];rfl) gb gv
    · rw[okB_yes (by omega) (fun j k=>hj j (by omega))]
      try simp(maxSteps:=999999) (disch:=omega) only[go_sem,ξ,ζ,hlt,decide_false]
theorem RBValid_spec {h0 h:PH} [Le h0 h] {v:Value} {l:List Sd1} (hv:Boxv h0 v l):Spec mach 76 #[v] h (fun r _=>r=.bool (okB l)) NP:=by
  obtain⟨a,c,rfl,hl,k⟩:=hv
  by_cases h6:(l.length:Int) > 6
  · have:okB l=false:=by unfold okB;rw[decide_eq_false (by omega)];rfl
    rw[this]
    refine Spec.go [] Tryz.func76 rfl rfl (by kernel_rfl) fun C _=>?_
    try simp(maxSteps:=999999) (disch:=omega) only[go_sem,ξ,ζ,h6,decide_true]
  · refine Spec.go [] Tryz.func76 rfl rfl (by kernel_rfl) fun C _=>?_
    try simp(maxSteps:=999999) (disch:=omega) only[go_sem,ξ,ζ,h6,decide_false]
    refine lp [] (fun i:Nat=>⟨[(0,.v (.slice a l.length c)),(8,.v (.slice a l.length c)),(9,.v (.int .i64 l.length)),(10,.v (.int .i64 i))],[]⟩) (fun i h'=>Le h0 h'∧i≤l.length∧∀j,j < i→okS l j=true) (fun i=>l.length - i) 0 ?_ ⟨inferInstance,qBh _,fun j hj=>absurd hj (by omega)⟩ (by kernel_rfl) ?_
    · try simp(maxSteps:=999999) (disch:=omega) only[go_sem,ξ,ζ]
      all_goals rfl
    rintro i h2 ⟨le2,hi,hj⟩
    by_cases hlt:(i:Int) < l.length
    · obtain⟨x,hx⟩:∃x,l[i]?=some x:=⟨_,List.getElem?_eq_getElem (by omega)⟩
      obtain⟨ad,b1,a1,m1,c1,a2,m2,c2,b2,a3,m3,c3,a4,m4,c4,e,u,rfl,hat,hiv⟩:=k i x hx
      try simp(maxSteps:=999999) (disch:=omega) only[go_sem,ξ,ζ,hlt,decide_true]
      refine Exists.intro [_,_,_,_,_,_,_,_,_] (And.intro rfl (And.intro (fun j v hj=>le2.sub.at (hat j v hj)) ?_))
      try simp(maxSteps:=999999) (disch:=omega) only[go_sem,ξ,ζ]
      refine caN (by exact RIsName_spec) ?_;rintro v3 h3 s3 rfl
      try simp(maxSteps:=999999) (disch:=omega) only[go_sem,ξ,ζ]
      have big:x.2.big=true→okS l i=false:=fun g=>by unfold okS;rw[hx];simp[g]
      have voi:x.2.set.void=true→okS l i=false:=fun g=>by unfold okS;rw[hx];simp[g]
      have nam:nameB x.1=false→okS l i=false:=fun g=>by unfold okS;rw[hx];simp[g]
      have hi':i < l.length:=by omega
      cases hn:nameB x.1 with
      | false=>
        rw[okB_no hi' (nam hn)]
        try simp(maxSteps:=999999) (disch:=omega) only[go_sem,ξ,ζ,hn]
      | true=>
        have kL:=fun {h} [Le h2 h]=>eZ (h:=h) (hiv.to (h':=h2))
        have nxt:(decide (i=0) || (match l[i - 1]? with |some y=>Op.bytesLess y.1.toList x.1.toList |none=>true))=true→x.2.big=false→x.2.set.void=false→okS l i=true:=fun g1 g2 g3=>by
          unfold okS;rw[hx]
          show(nameB x.1 && _ && _ && _)=true
          rw[hn,g1,g2,g3];rfl
        by_cases i0:(i:Int) > 0
        · obtain⟨y,hy⟩:∃y,l[i - 1]?=some y:=⟨_,List.getElem?_eq_getElem (by omega)⟩
          obtain⟨ad',_,_,_,_,_,_,_,_,_,_,_,_,_,_,_,_,ea,hat',_⟩:=k (i - 1) y hy
          cases ea
          have hyat:h0.at (ad.add ((i - 1)*9))=some (.string y.1):=hat' 0 _ rfl
          have ew:((i:Int) - 1).toNat=i - 1:=by omega
          try simp(maxSteps:=999999) (disch:=omega) only[go_sem,ξ,ζ,hn,i0,decide_true,ew]
          refine aE ((inferInstance:Le h0 h3).sub.at hyat) ?_
          try simp(maxSteps:=999999) (disch:=omega) only[go_sem,ξ,ζ]
          cases hB:Op.bytesLess y.1.toList x.1.toList with
          | false=>
            rw[okB_no hi' (by unfold okS;rw[hx];simp only[hy,hB];rw[decide_eq_false (by omega)];simp)]
            try simp(maxSteps:=999999) (disch:=omega) only[go_sem,ξ,ζ,hB]
          | true=>
            try simp(maxSteps:=999999) (disch:=omega) only[go_sem,ξ,ζ,hB]
            refine caN (by exact kL) ?_;rintro v4 h4 s4 rfl
            try simp(maxSteps:=999999) (disch:=omega) only[go_sem,ξ,ζ]
            cases gb:x.2.big with
            | true=>
              rw[okB_no hi' (big gb)]
              try simp(maxSteps:=999999) (disch:=omega) only[go_sem,ξ,ζ,gb]
            | false =>
              try simp(maxSteps:=999999) (disch:=omega) only[go_sem,ξ,ζ,gb]
              refine caN (by exact RefOf (hiv.to (h':=h4)) gb) ?_;rintro v5 h5 s5 q5;obtain⟨_,_,_,_,_,_,_,_,_,_,_,_,_,_,rfl,_⟩:=q5.sa
              try simp(maxSteps:=999999) (disch:=omega) only[go_sem,ξ,ζ]
              cases gv:x.2.set.void with
              | true=>
                rw[okB_no hi' (voi gv)]
                try simp(maxSteps:=999999) (disch:=omega) only[go_sem,ξ,ζ,gv]
              | false=>
                try simp(maxSteps:=999999) (disch:=omega) only[go_sem,ξ,ζ,gv]
                dsimp only[lpE];refine⟨i+1,?_,⟨inferInstance,by omega,fun j k=>?_⟩,by omega⟩
                · try simp(maxSteps:=999999) (disch:=omega) only[go_sem,ξ,ζ]
                  all_goals rfl
                · rcases qBj j i with g |g
                  · exact hj j g
                  · obtain rfl:j=i:=by omega
                    exact nxt (by rw[hy];simp[hB]) gb gv
        · try simp(maxSteps:=999999) (disch:=omega) only[go_sem,ξ,ζ,hn,i0,decide_false]
          refine caN (by exact kL) ?_;rintro v4 h4 s4 rfl
          try simp(maxSteps:=999999) (disch:=omega) only[go_sem,ξ,ζ]
          cases gb:x.2.big with
          | true=>
            rw[okB_no hi' (big gb)]
            try simp(maxSteps:=999999) (disch:=omega) only[go_sem,ξ,ζ,gb]
          | false =>
            try simp(maxSteps:=999999) (disch:=omega) only[go_sem,ξ,ζ,gb]
            refine caN (by exact RefOf (hiv.to (h':=h4)) gb) ?_;rintro v5 h5 s5 q5;obtain⟨_,_,_,_,_,_,_,_,_,_,_,_,_,_,rfl,_⟩:=q5.sa
            try simp(maxSteps:=999999) (disch:=omega) only[go_sem,ξ,ζ]
            cases gv:x.2.set.void with
            | true=>
              rw[okB_no hi' (voi gv)]
              try simp(maxSteps:=999999) (disch:=omega) only[go_sem,ξ,ζ,gv]
            | false=>
              try simp(maxSteps:=999999) (disch:=omega) only[go_sem,ξ,ζ,gv]
              dsimp only[lpE];refine⟨i+1,?_,⟨inferInstance,by omega,fun j k=>?_⟩,by omega⟩
              · try simp(maxSteps:=999999) (disch:=omega) only[go_sem,ξ,ζ]
                all_goals rfl
              · rcases qBj j i with g |g
                · exact hj j g
                · obtain rfl:j=i:=by omega
                  exact nxt (by rw[decide_eq_true (by omega)];rfl) gb gv
    · rw[okB_yes (by omega) (fun j k=>hj j (by omega))]
      try simp(maxSteps:=999999) (disch:=omega) only[go_sem,ξ,ζ,hlt,decide_false]
end Go.Q
namespace Go.Q
open Go.Proofs
open Go.RowKit (Below)
set_option maxRecDepth 100000
set_option maxHeartbeats 4000000
end Go.Q
namespace Go.Q
open Go.Proofs
set_option maxRecDepth 100000
set_option maxHeartbeats 4000000
def midQ:NS→Rat
 |.e=>0
 |.i none none=>((0:Int):Rat)
 |.i (some a) none=>a+((1:Int):Rat)
 |.i none (some b)=>b+((-1:Int):Rat)
 |.i (some a) (some b)=>(a+b) / 2
def cq (x:Sd1):ByteArray×Rat:=(x.1,midQ x.2.set)
theorem map_take {α β:Type} {f:α→β} {l:List α} {i:Nat} {y:α} (hy:l[i]?=some y):(l.take (i+1)).map f=(l.take i).map f ++[f y]:=by
 rw[List.take_add_one,hy];simp
set_option maxHeartbeats 8000000



theorem okB_big {l:List Sd1} (h:okB l=true) {i:Nat} {x:Sd1} (hx:l[i]?=some x):x.2.big=false:=by
 unfold okB at h
 rw[φ] at h
 have:=qBd.1 h.2 i (List.mem_range.2 (List.getElem?_eq_some_iff.1 hx).1)
 unfold okS at this
 rw[hx] at this
 simp only[φ,Bool.not_eq_true'] at this
 exact this.1.2
theorem Boxv.side {h:PH} {v:Value} {l:List Sd1} (r:Boxv h v l):∃a c,v=.slice a l.length c∧l.length≤2^30∧∀i x,l[i]?=some x→∃ad a1 m1 c1 a2 m2 c2 a3 m3 c3 a4 m4 c4,a=some ad∧
  (∀j v,([.string x.1,.bool x.2.n1,.slice a1 m1 c1,.slice a2 m2 c2,.bool x.2.n2,.slice a3 m3 c3,.slice a4 m4 c4,.bool x.2.l,.bool x.2.u]:List Value)[j]?=some v→h.at ((ad.add (i*9)).add j)=some v)∧
  Rw h (.agg #[.bool x.2.n1,.slice a1 m1 c1,.slice a2 m2 c2]) x.2.n1 x.2.a1 x.2.d1∧Rw h (.agg #[.bool x.2.n2,.slice a3 m3 c3,.slice a4 m4 c4]) x.2.n2 x.2.a2 x.2.d2∧Iv h (.agg #[.bool x.2.n1,.slice a1 m1 c1,.slice a2 m2 c2,.bool x.2.n2,.slice a3 m3 c3,.slice a4 m4 c4,.bool x.2.l,.bool x.2.u]) x.2:=by
 obtain⟨a,c,rfl,hl,k⟩:=r
 refine⟨a,c,rfl,hl,fun i x hx=>?_⟩
 obtain⟨ad,b1,a1,m1,c1,a2,m2,c2,b2,a3,m3,c3,a4,m4,c4,e,u,rfl,hat,hiv⟩:=k i x hx
 obtain⟨_,_,_,_,_,_,_,_,_,_,_,_,e0,r1,r2⟩:=hiv.sa
 have e1:=e0
 simp only[Value.agg.injEq,Array.mk.injEq,List.cons.injEq,and_true,Value.bool.injEq] at e1
 obtain⟨rfl,g1,g2,rfl,g3,g4,rfl,rfl⟩:=e1
 rw[←g1,←g2] at r1
 rw[←g3,←g4] at r2
 exact⟨ad,a1,m1,c1,a2,m2,c2,a3,m3,c3,a4,m4,c4,rfl,hat,r1,r2,hiv⟩
end Go.Q
namespace Go.Q
open Go.Proofs Go.RowKit
attribute [local go_sem] Oper.semAt_some
set_option maxRecDepth 100000
set_option maxHeartbeats 4000000
def sideF (l:List Sd1) (h:PH) (i:Nat) (x:Nat×List Value) (W0 W1:World):Prop:=x.1=i∧ivC x.2∧∃hn s,l[i]?=some s∧Sub h hn∧Has W1 hn∧New W0.heap.size h hn∧Iv hn (.agg x.2.toArray) s.2
def nmAt (l:List Sd1) (i:Nat):ByteArray:=(l[i]?.map (·.1)).getD ⟨#[]⟩
theorem box_x {n:Nat} {h0 h:PH} [l0:Le h0 h] {v:Value} {l:List Sd1} (hv:Boxv h0 v l) (hg:Sub mach.gl h) {B:Nat} {T:TypeId} {f:Nat×Nat}:
  SeqX Fence.wide n Tryz.prog 96 #[.pointer (some ⟨B,0,none⟩)] (fun x:Nat×List Value=>#[.int .i64 x.1,.agg (.string (nmAt l x.1) :: x.2).toArray]) (sideF l h) l.length (fun W=>Has W h∧W.heap[B]?=some (.cells #[v] T f)):=by
 obtain⟨a,c,rfl,hl,k⟩:=hv
 have k':∀i,∃C:List Value,∀s,l[i]?=some s→ivC C∧Iv h0 (.agg C.toArray) s.2∧∃ad:Addr,a=some ad∧∀j u,(sdC s.1 C)[j]?=some u→h0.at ((ad.add (i*9)).add j)=some u:=fun i=>by
  cases e:l[i]? with
  |none=>exact⟨[],fun s hs=>by cases hs⟩
  | some s=>
   obtain⟨ad,b1,a1,m1,c1,a2,m2,c2,b2,a3,m3,c3,a4,m4,c4,e,u,h1,h2,h3⟩:=k i s e
   exact⟨_,fun s' hs=>by cases hs;exact⟨⟨b1,a1,m1,c1,a2,m2,c2,b2,a3,m3,c3,a4,m4,c4,e,u,rfl⟩,h3,ad,h1,h2⟩⟩
 obtain⟨C,hC⟩:=Classical.axiomOfChoice k'
 have hs:∀i,i < l.length→∃s,l[i]?=some s:=fun i hi=>⟨_,List.getElem?_eq_getElem hi⟩
 obtain⟨blk,off,hA⟩:∃blk off,∀i,i < l.length→a=some ⟨blk,off,none⟩:=by
  cases a with
  |none=>exact⟨0,0,fun i hi=>by
    obtain⟨s,h1⟩:=hs i hi
    obtain⟨_,_,_,e,_⟩:=hC i s h1
    cases e⟩
  | some ad=>
   refine⟨ad.block,ad.off,fun i hi=>?_⟩
   obtain⟨s,h1⟩:=hs 0 (by omega)
   obtain⟨_,_,ad',e,h2⟩:=hC 0 s h1
   cases e
   have h3:=h2 0 _ rfl
   have hsp:ad.spot=none:=by
    cases e:ad.spot with
    |none=>rfl
    |some q=>simp[PH.at,Addr.add,e] at h3
   cases ad
   cases hsp
   rfl
 have hat:∀W,(Has W h∧W.heap[B]?=some (.cells #[.slice a l.length c] T f))→∀i,i < l.length→∀(j:Nat) u,(sdC (nmAt l i) (C i))[j]?=some u→W.cell? ⟨blk,off+i*9+j,none⟩=some u:=fun W hw i hi j u hu=>by
  obtain⟨s,h1⟩:=hs i hi
  obtain⟨_,_,ad,e,h2⟩:=hC i s h1
  rw[hA i hi] at e
  cases e
  have hn:nmAt l i=s.1:=by unfold nmAt;rw[h1];rfl
  rw[hn] at hu
  have h3:=hw.1.cell (l0.sub.at (h2 j u hu))
  have e:((⟨blk,off,none⟩:Addr).add (i*9)).add j=⟨blk,off+i*9+j,none⟩:=by
   unfold Addr.add
   split<;>split<;>simp_all
  rwa[e] at h3
 refine(sides_x (n:=n) (T:=T) (f:=f) (blk:=blk) (off:=off) hl (fun W hw=>hw.2) (fun A D hA hb=>⟨hA.1.below hb,(hb.block _ (Array.getElem?_eq_some_iff.1 hA.2).1).trans hA.2⟩) hA (S:=nmAt l) (C:=C) (fun i hi=>let ⟨s,h1⟩:=hs i hi;(hC i s h1).1) hat
  (Own:=fun i u W W'=>ivC u∧∃hn s,l[i]?=some s∧Sub h hn∧Has W' hn∧New W.heap.size h hn∧Iv hn (.agg u.toArray) s.2) (fun i m W hi hb=>?_)).mono fun i x W0 W1 hf=>?_
 ·obtain⟨s,h1⟩:=hs i hi
  refine callsIn_wide.2 (((Own_spec (h0:=h0) (h:=h) (hC i s h1).2.1).run W hb.1 hg).mono fun e W' hp=>?_)
  cases e with
  |outgrown=>exact(hp:False).elim
  |panicked ch=>obtain⟨_,_,_,_,_,hp⟩:=hp;exact(hp:False).elim
  | returned v=>
   obtain⟨hn,p1,p2,p3,p4,p5⟩:=hp
   obtain⟨_,_,_,_,_,_,_,_,_,_,_,_,rfl,_,_⟩:=p5.sa
   exact⟨_,rfl,⟨_,_,_,_,_,_,_,_,_,_,_,_,_,_,_,_,rfl⟩,p1,⟨_,_,_,_,_,_,_,_,_,_,_,_,_,_,_,_,rfl⟩,hn,s,h1,p3,p2,p4,p5⟩
 ·obtain⟨e,Wc,hb,hi,hn,s,h1,h2,h3,h4,h5⟩:=hf
  refine⟨e,hi,hn,s,h1,h2,h3,fun k hk=>?_,h5⟩
  rcases h4 k hk with g |g
  ·exact .inl g
  ·exact .inr (χ hb.size g)
theorem Has.set {W:World} {h:PH} (hh:Has W h) {b:Nat} (hb:h b=none) (v:Value):Has (W.setCell ⟨b,0,none⟩ v) h:=hh.kept (grownBy_setCell' W b v) (fun r e=>by cases e;exact hb)
end Go.Q
namespace Go.Q
open Go.Proofs
set_option maxRecDepth 100000
set_option maxHeartbeats 8000000

theorem Br.u {r r':Value} {o:Except Int Bool} (h:Br r o) (h':Br r' o):r'=r:=by
 cases o with
 |ok b=>cases(h:r=_);exact h'
 |error e=>cases(h:r=_);exact h'

section
variable {M:Mach} {C:Ctx} {n:Nat} {S:AS} {h:PH} {Q:Exit→AS→PH→Prop} {E:List PanicEntry→PH→Prop}
theorem order_o (l:List Nat):order (l.map .o)=l:=by
 induction l with
 |nil=>rfl
 |cons x l ih=>simp[order,ih]
theorem apO {id:Nat} {ops:Array Oper} {b:Bool} {d:Nat} {x y:Operand} {T U V:TypeId} {ps:String} {ar:Array Edge} {sz:Nat} (pl1:List Nat) (i:Nat) (pl2:List Nat) (hi:nth ops.toList i=some ⟨some d,.call {callee:=.builtin .append,args:=#[x,y],argTypes:=#[T,U]},V,ps,ar,none⟩)
  (hU:uk M.P U=.slice) (hz:mkN M.P T sz=true) (hc:(bif b then fi ops (pl1 ++i :: pl2) else (pl1 ++i :: pl2) == List.range ops.size)=true) (hd:d < n) (h1:(prep n ops (pl1.map .o)).isSome=true) (h2:(prep n ops (pl2.map .o)).isSome=true)
  (hw:walkO M E ops.toList (pickO ops.toList pl1) (fun S h=>appN sz S h (S.ev x) (S.ev y) fun S h v=>walkO M E ops.toList (pickO ops.toList pl2) (fun S h=>Q .normal S h) (S.put (some d) v) h) S h):AWP M n C (.region id ops b) Q E S h:=by
 obtain⟨l1,e1⟩:=Option.isSome_iff_exists.1 h1
 obtain⟨l2,e2⟩:=Option.isSome_iff_exists.1 h2
 simp only[oE pl2 l2 e2] at hw
 rw[oE pl1 l1 e1] at hw
 cases b with
 |true=>exact AWP_apD (pl1.map .o) i (pl2.map .o) hi hU hz (by rw[order_o,order_o];exact hc) hd e1 e2 hw
 |false=>exact AWP_app (pl1.map .o) i (pl2.map .o) hi hU hz (by rw[order_o,order_o];exact beq_iff_eq.1 hc) hd e1 e2 hw
end

theorem N32.rw {h:PH} {neg:Bool} {v w:Value} {n d:Nat} (hv:N32 h v n) (hw:N32 h w d) (bn:bl n≤2^30) (bd:bl d≤2^30):Rw h (.agg #[.bool neg,v,w]) neg n d:=by
 obtain⟨a,c,xs,rfl,ha,hx,rfl⟩:=hv.out
 obtain⟨a',c',ys,rfl,ha',hy,rfl⟩:=hw.out
 have l1:=dj (val 4294967296 xs)
 have l2:=dj (val 4294967296 ys)
 rw[hx] at l1
 rw[hy] at l2
 exact⟨a,c,xs,a',c',ys,rfl,ha,ha',rfl,rfl,by omega,by omega⟩
theorem rH {h0 h:PH} [Le h0 h] {v:Value} {n:Nat} (hv:N32 h0 v n):Spec mach 192 #[v] h (fun v h'=>N32 h' v n) NP:=by
 obtain⟨a,c,xs,rfl,ha,_,rfl⟩:=hv.out
 exact Of_N ha
theorem nameX:nameB ⟨#[120]⟩=true:=by decide+kernel
theorem Kids_x {h:PH}:Spec mach 271 #[.int .i64 2] h (fun v _=>v=.tuple #[.int .i64 0,.bool true]) NP:=by
 refine Spec.go [] Tryz.func271 rfl rfl (by kernel_rfl) fun C _=>?_
 try simp(maxSteps:=999999) (disch:=omega) only[go_sem,ξ,ζ]
theorem Kids_a {h:PH}:Spec mach 271 #[.int .i64 5] h (fun v _=>v=.tuple #[.int .i64 2,.bool true]) NP:=by
 refine Spec.go [] Tryz.func271 rfl rfl (by kernel_rfl) fun C _=>?_
 try simp(maxSteps:=999999) (disch:=omega) only[go_sem,ξ,ζ]
theorem Fields_x {h:PH}:Spec mach 230 #[exXv] h (fun v _=>v=.bool true) NP:=by
 unfold exXv
 refine Spec.go [] Tryz.func230 rfl rfl (by kernel_rfl) fun C _=>?_
 try simp(maxSteps:=999999) (disch:=omega) only[go_sem,ξ,ζ]
 refine caN (by exact Kids_x) ?_;rintro v1 h1 s1 rfl
 try simp(maxSteps:=999999) (disch:=omega) only[go_sem,ξ,ζ]
 refine caN (by exact IsName_spec) ?_;rintro v2 h2 s2 rfl
 try simp(maxSteps:=999999) (disch:=omega) only[go_sem,ξ,ζ,nameX]
 refine caN (by exact rH (N32.zero h2)) ?_;rintro v3 h3 s3 q3
 try simp(maxSteps:=999999) (disch:=omega) only[go_sem,ξ,ζ]
 refine caN (by exact bU q3) ?_;rintro v4 h4 s4 rfl
 try simp(maxSteps:=999999) (disch:=omega) only[go_sem,ξ,ζ]
 all_goals rfl
theorem Fields_a {h:PH} {b:Nat}:Spec mach 230 #[exAv b] h (fun v _=>v=.bool true) NP:=by
 unfold exAv
 refine Spec.go [] Tryz.func230 rfl rfl (by kernel_rfl) fun C _=>?_
 try simp(maxSteps:=999999) (disch:=omega) only[go_sem,ξ,ζ]
 refine caN (by exact Kids_a) ?_;rintro v1 h1 s1 rfl
 try simp(maxSteps:=999999) (disch:=omega) only[go_sem,ξ,ζ,beq_self_eq_true]
 refine caN (by exact rH (N32.zero h1)) ?_;rintro v3 h3 s3 q3
 try simp(maxSteps:=999999) (disch:=omega) only[go_sem,ξ,ζ]
 refine caN (by exact bU q3) ?_;rintro v4 h4 s4 rfl
 try simp(maxSteps:=999999) (disch:=omega) only[go_sem,ξ,ζ]
 all_goals rfl
theorem Count_x {h:PH} {d n:Int} (hd:0≤d∧d≤30) (hn:0≤n∧n < 300):Spec mach 169 #[exXv,.int .i64 d,.int .i64 n] h (fun v _=>v=.int .i64 (n+1)) NP:=by
 have k:=fun {h:PH}=>Fields_x (h:=h)
 unfold exXv at k ⊢
 have e1:¬n+1 > 300:=by omega
 have e2:¬d > 30:=by omega
 refine Spec.go [] Tryz.func169 rfl rfl (by kernel_rfl) fun C _=>?_
 try simp(maxSteps:=999999) (disch:=omega) only[go_sem,ξ,ζ,e1,e2,decide_false]
 refine caN (by exact k) ?_;rintro v1 h1 s1 rfl
 try simp(maxSteps:=999999) (disch:=omega) only[go_sem,ξ,ζ]
 refine lp [] (fun _:Nat=>⟨[(2,.v (.int .i64 (n+1))),(24,.v (.int .i64 0)),(25,.v (.int .i64 0))],[]⟩) (fun _ _=>True) (fun _=>0) 0 ?_ trivial (by kernel_rfl) ?_
 ·try simp(maxSteps:=999999) (disch:=omega) only[go_sem,ξ,ζ]
  all_goals rfl
 rintro i h2 _
 try simp(maxSteps:=999999) (disch:=omega) only[go_sem,ξ,ζ]
theorem kC_at {h0:PH} {b:Nat} (hb:kC b h0):∀i,i < 2→∀(j:Nat) v,xC7[j]?=some v→h0.at ((⟨b,i*7,none⟩:Addr).add j)=some v:=fun i hi j v hv=>by
 have hj:j < 7:=(List.getElem?_eq_some_iff.1 hv).1
 unfold kC at hb
 have:(⟨b,i*7,none⟩:Addr).add j=⟨b,i*7+j,none⟩:=by
  unfold Addr.add;split
  ·rename_i e;rw[e];rfl
  ·rfl
 rw[this]
 have e:h0.at ⟨b,i*7+j,none⟩=(xC7 ++xC7)[i*7+j]?:=by simp[PH.at,hb]
 rw[e]
 rcases(show i=0∨i=1 by omega) with rfl |rfl
 ·rw[List.getElem?_append_left (by show 0*7+j < 7;omega)];simpa using hv
 ·rw[List.getElem?_append_right (by show 7≤1*7+j;omega)]
  show xC7[1*7+j - 7]?=_
  rw[show 1*7+j - 7=j by omega];exact hv
theorem Count_a {h0 h:PH} [Le h0 h] {b:Nat} (hb:kC b h0):Spec mach 169 #[exAv b,.int .i64 1,.int .i64 0] h (fun v _=>v=.int .i64 3) NP:=by
 have k:=fun {h:PH}=>Fields_a (h:=h) (b:=b)
 have hat:=kC_at hb
 unfold exAv at k ⊢
 refine Spec.go [] Tryz.func169 rfl rfl (by kernel_rfl) fun C _=>?_
 try simp(maxSteps:=999999) (disch:=omega) only[go_sem,ξ,ζ]
 refine caN (by exact k) ?_;rintro v1 h1 s1 rfl
 try simp(maxSteps:=999999) (disch:=omega) only[go_sem,ξ,ζ]
 refine lp [] (fun i:Nat=>⟨[(1,.v (.int .i64 1)),(2,.v (.int .i64 (i+1:Nat))),(23,.v (.slice (some ⟨b,0,none⟩) 2 2)),(24,.v (.int .i64 2)),(25,.v (.int .i64 i))],[]⟩) (fun i h'=>Le h0 h'∧i≤2) (fun i=>2 - i) 0 ?_ ⟨inferInstance,by decide⟩ (by kernel_rfl) ?_
 ·try simp(maxSteps:=999999) (disch:=omega) only[go_sem,ξ,ζ]
  all_goals (constructor<;>rfl)
 rintro i h2 ⟨le2,hi⟩
 by_cases hl:(i:Int) < 2
 ·have kx:=fun {h:PH}=>Count_x (h:=h) (d:=2) (n:=(i+1:Nat)) (by omega) (by omega)
  unfold exXv at kx
  have e3:¬((i+1:Nat):Int)+1 > 300:=by omega
  try simp(maxSteps:=999999) (disch:=omega) only[go_sem,ξ,ζ,hl,decide_true]
  refine Exists.intro [.int .i64 2,.int .i64 0,.bool false,.slice none 0 0,.slice none 0 0,.string ⟨#[120]⟩,.slice none 0 0] (And.intro rfl (And.intro (fun j v hj=>le2.sub.at (hat i (by omega) j v hj)) ?_))
  try simp(maxSteps:=999999) (disch:=omega) only[go_sem,ξ,ζ]
  refine caN (by exact kx) ?_;rintro v3 h3 s3 rfl
  try simp(maxSteps:=999999) (disch:=omega) only[go_sem,ξ,ζ,e3,decide_false]
  dsimp only[lpE];refine⟨i+1,?_,⟨inferInstance,by omega⟩,by omega⟩
  try simp(maxSteps:=999999) (disch:=omega) only[go_sem,ξ,ζ]
  all_goals rfl
 ·have e:i=2:=by omega
  subst e
  try simp(maxSteps:=999999) (disch:=omega) only[go_sem,ξ,ζ,hl,decide_false]
  all_goals rfl
theorem EValid_spec {h0 h:PH} [Le h0 h] {b:Nat} (hb:kC b h0):Spec mach 113 #[exAv b] h (fun v _=>v=.bool true) NP:=by
 have k:=fun {h} [Le h0 h]=>Count_a (h:=h) hb
 unfold exAv at k ⊢
 refine Spec.go [] Tryz.func113 rfl rfl (by kernel_rfl) fun C _=>?_
 try simp(maxSteps:=999999) (disch:=omega) only[go_sem,ξ,ζ]
 refine caN (by exact k) ?_;rintro v1 h1 s1 rfl
 try simp(maxSteps:=999999) (disch:=omega) only[go_sem,ξ,ζ]
namespace NS
def clo:NS→Rat
 |.e=>1
 |.i a _=>a.getD 0
def chi:NS→Rat
 |.e=>0
 |.i _ b=>b.getD 0
theorem le_c {k:Nat} {x:NS} (hk:1≤k) (h:x.le k):sz x.clo≤k∧sz x.chi≤k:=by
 have h0:sz 0≤k:=χ HY hk
 have h1:sz 1≤k:=χ (by decide) hk
 cases x with
 |e=>exact⟨h1,h0⟩
 | i a b=>
  rw[le_i] at h
  refine⟨?_,?_⟩
  ·cases a with
   |none=>exact h0
   |some a=>exact h.1 _ rfl
  ·cases b with
   |none=>exact h0
   |some b=>exact h.2 _ rfl
end NS
theorem Cv.fl {h:PH} {v:Value} {x:NS} (r:Cv h v x):∃b1 a1 m1 c1 a2 m2 c2 b2 a3 m3 c3 a4 m4 c4,v=.agg #[.bool b1,.slice a1 m1 c1,.slice a2 m2 c2,.bool b2,.slice a3 m3 c3,.slice a4 m4 c4,.bool x.loN,.bool x.hiN]∧
  Cn h (.agg #[.bool b1,.slice a1 m1 c1,.slice a2 m2 c2]) x.clo∧Cn h (.agg #[.bool b2,.slice a3 m3 c3,.slice a4 m4 c4]) x.chi:=by
 have r0:=r
 obtain⟨b1,x1,y1,b2,x2,y2,rfl,h1,h2⟩:=r
 obtain⟨_,_,_,_,_,_,_,e1,_⟩:=h1.sa
 obtain⟨_,_,_,_,_,_,_,e2,_⟩:=h2.sa
 simp only[Value.agg.injEq,Array.mk.injEq,List.cons.injEq,and_true] at e1 e2
 obtain⟨_,rfl,rfl⟩:=e1
 obtain⟨_,rfl,rfl⟩:=e2
 cases x with
 |e=>exact⟨_,_,_,_,_,_,_,_,_,_,_,_,_,_,rfl,h1,h2⟩
 |i a b=>exact⟨_,_,_,_,_,_,_,_,_,_,_,_,_,_,rfl,h1,h2⟩
def NS.ri (x:NS):RI:=⟨decide (x.clo.num < 0),x.clo.num.natAbs,if x.clo.den=1 then 0 else x.clo.den,decide (x.chi.num < 0),x.chi.num.natAbs,if x.chi.den=1 then 0 else x.chi.den,x.loN,x.hiN⟩
theorem Cv.iv {h:PH} {v:Value} {x:NS} (r:Cv h v x) (hf:x.le 2048):Iv h v x.ri:=by
 obtain⟨b1,a1,m1,c1,a2,m2,c2,b2,a3,m3,c3,a4,m4,c4,rfl,h1,h2⟩:=r.fl
 have hs:=NS.le_c (by decide) hf
 exact Iv.mk (h1.rw (χ hs.1 (by decide))) (h2.rw (χ hs.2 (by decide))) _ _
theorem NS.ri_big {x:NS} (hf:x.le 2048):x.ri.big=false:=by
 have hs:=NS.le_c (by decide) hf
 unfold RI.big NS.ri
 dsimp only
 have h1:¬lg (decide (x.clo.num < 0)) x.clo.num.natAbs (if x.clo.den=1 then 0 else x.clo.den):=by rw[lg_cn];omega
 have h2:¬lg (decide (x.chi.num < 0)) x.chi.num.natAbs (if x.chi.den=1 then 0 else x.chi.den):=by rw[lg_cn];omega
 simp only[h1,h2,decide_false,Bool.or_self]
theorem NS.ri_set {x:NS} (hx:x.ok):x.ri.set=x:=by
 unfold RI.set RI.lo RI.hi NS.ri
 dsimp only
 rw[jA,jA]
 cases x with
 |e=>simp[NS.loN,NS.hiN,NS.clo,NS.chi,NS.mk',ordO,show decide ((0:Rat) < 1)=true by decide]
 |i a b=>cases a<;>cases b<;>simp[NS.loN,NS.hiN,NS.clo,NS.chi,NS.mk']<;>simp[NS.ok] at hx<;>simp[hx]<;>rfl
theorem mI (q:Rat):cmpQ q q=0:=by unfold cmpQ;grind
theorem zC {h:PH} {a:Option Addr} {m c n:Nat} (r:N32 h (.slice a m c) n) (h0:n≠0) (h1:n < 4294967296):m=1∧∃ad,a=some ad∧h.at ad=some (.int .u32 n):=by
 have hW:W 4294967296 n=[n]:=by
  rw[W_pos (by decide) h0,qBi h1,Nat.div_eq_of_lt h1,ff]
 obtain⟨a',c',e,A⟩:=r
 rw[hW] at e A
 simp only[Value.slice.injEq,List.length_cons,List.length_nil] at e
 obtain⟨rfl,rfl,rfl⟩:=e
 obtain⟨ad,e1,e2⟩:=A.at_ 0 n rfl
 refine⟨rfl,ad,e1,?_⟩
 simpa[Addr.add] using e2
theorem E4 {h:PH} {a:Option Addr} {m c:Nat} (r:N32 h (.slice a m c) 0):m=0:=by
 obtain⟨a',c',e,A⟩:=r
 rw[ff] at e
 simp only[Value.slice.injEq,List.length_nil] at e
 exact e.2.1
end Go.Q
namespace Go.Q
open Go.Proofs Go.RowKit
set_option maxRecDepth 100000
set_option maxHeartbeats 8000000
theorem Vars_spec {h0 h:PH} [l0:Le h0 h] {b:Nat} (hb:kC b h0):Spec mach 114 #[exAv b] h (fun r h'=>∃ad c,r=.tuple #[.slice (some ad) 1 c,.int .i64 0]∧h'.at ad=some (.string ⟨#[120]⟩)) NP:=by
 refine⟨by kernel_rfl,fun w hw hg=>?_⟩
 have hb1:h b=some (xC7 ++xC7).toArray:=l0.sub _ _ hb
 obtain⟨T,f,hk⟩:=hw _ _ hb1
 have kV:∀m W,Below w.heap.size w W→CallsIn Fence.wide m Tryz.prog 113 #[exAv b] W fun e W'=>e=.returned (.bool true)∧Below W.heap.size W W':=fun m W hB=>by
  refine callsIn_wide.2 (((EValid_spec (h:=h) hb).run W (hw.below hB) hg).mono fun e W' hp=>?_)
  cases e with
  |returned v=>obtain⟨h',p1,_,_,_,rfl⟩:=hp;exact⟨rfl,p1⟩
  |panicked ch=>obtain⟨_,_,_,_,_,hp⟩:=hp;exact(hp:False).elim
  |outgrown=>exact(hp:False).elim
 refine(callsIn_wide.1 (vars_in ⟨(Array.getElem?_eq_some_iff.1 hk).1,T,f,hk⟩ kV)).mono fun e w' hp=>?_
 obtain⟨v,rfl,hr,hB⟩:=hp
 rcases hr.2 with⟨_,h1⟩ |⟨g,cap,cur,rfl,hge,hh,hn,_,hs,ht⟩
 ·cases h1
 ·have hgn:h g=none:=by
   cases e:h g with
   |none=>rfl
   |some cs=>have:=hw.lt e;omega
  refine⟨fun k=>if k=g then some cur else h k,hB,fun k cs hx=>?_,fun k cs hx=>?_,fun k hx=>?_,⟨g,0,none⟩,cap,rfl,?_⟩
  ·have hx:(if k=g then some cur else h k)=some cs:=hx
   by_cases e:k=g
   ·rw[if_pos e] at hx;cases hx;exact⟨_,_,e▸hh⟩
   ·rw[if_neg e] at hx;exact(hw.below hB) _ _ hx
  ·show(if k=g then some cur else h k)=some cs
   rw[if_neg (fun e=>by rw[e,hgn] at hx;cases hx)];exact hx
  ·have hx:(if k=g then some cur else h k)≠none:=hx
   by_cases e:k=g
   ·exact .inr (e▸hge)
   ·rw[if_neg e] at hx;exact .inl hx
  ·have e0:cur[0]?=some (.string ⟨#[120]⟩):=by
    have:=congrArg (·[0]?) ht
    simpa using this
   unfold PH.at
   simp[e0]
def x01:RI:=⟨false,0,0,false,1,0,false,false⟩
def l01:List Sd1:=[(⟨#[120]⟩,x01)]
theorem l01_ok:okB l01=true:=by decide+kernel
theorem l01_fnd:fnd l01 ⟨#[120]⟩=some 0:=by decide+kernel
theorem Ready_spec {h0 h:PH} [Le h0 h] {v:Value} {b:Nat} (hb:kC b h0) (hv:Boxv h0 v l01):Spec mach 55 #[exAv b,v,.int .i64 2] h (fun r _=>r=.int .i64 0) NP:=by
 have kE:=fun {h} [Le h0 h]=>EValid_spec (h:=h) hb
 have kB:=fun {h} [Le h0 h]=>BValid_spec (h:=h) hv
 have kN:=fun {h} [Le h0 h]=>Vars_spec (h:=h) hb
 have kI:=fun {h} [Le h0 h]=>Index_spec (h:=h) (s:=⟨#[120]⟩) hv
 rw[l01_ok] at kB
 rw[l01_fnd] at kI
 obtain⟨va,vm,vc,rfl⟩:=hv.sa
 unfold exAv at kE kN ⊢
 refine Spec.go [] Tryz.func55 rfl rfl (by kernel_rfl) fun C _=>?_
 try simp(maxSteps:=999999) (disch:=omega) only[go_sem,ξ,ζ]
 refine caN (by exact kE) ?_;rintro v1 h1 s1 rfl
 try simp(maxSteps:=999999) (disch:=omega) only[go_sem,ξ,ζ]
 refine caN (by exact kB) ?_;rintro v2 h2 s2 rfl
 try simp(maxSteps:=999999) (disch:=omega) only[go_sem,ξ,ζ]
 refine caN (by exact kN) ?_;rintro v3 h3 s3 ⟨ad,c,rfl,hat⟩
 try simp(maxSteps:=999999) (disch:=omega) only[go_sem,ξ,ζ]
 refine lp [] (fun i:Nat=>⟨[(1,.v (.slice va vm vc)),(31,.v (.slice (some ad) 1 c)),(32,.v (.int .i64 1)),(33,.v (.int .i64 i))],[]⟩) (fun i h'=>Le h0 h'∧h'.at ad=some (.string ⟨#[120]⟩)∧i≤1) (fun i=>1 - i) 0 ?_ ⟨inferInstance,hat,by decide⟩ (by kernel_rfl) ?_
 ·try simp(maxSteps:=999999) (disch:=omega) only[go_sem,ξ,ζ]
  all_goals rfl
 rintro i h4 ⟨le4,hat4,hi⟩
 by_cases hl:(i:Int) < 1
 ·obtain rfl:i=0:=by omega
  try simp(maxSteps:=999999) (disch:=omega) only[go_sem,ξ,ζ]
  refine aE hat4 ?_
  try simp(maxSteps:=999999) (disch:=omega) only[go_sem,ξ,ζ]
  refine caN (by exact kI) ?_;rintro v5 h5 s5 rfl
  try simp(maxSteps:=999999) (disch:=omega) only[go_sem,ξ,ζ]
  dsimp only[lpE];refine⟨1,?_,⟨inferInstance,s5.sub.at hat4,by omega⟩,by omega⟩
  ·try simp(maxSteps:=999999) (disch:=omega) only[go_sem,ξ,ζ]
   all_goals rfl
 ·try simp(maxSteps:=999999) (disch:=omega) only[go_sem,ξ,ζ,hl,decide_false]
end Go.Q
namespace Go.Q
open Go.Proofs Go.RowKit
set_option maxRecDepth 100000
set_option maxHeartbeats 8000000
theorem out01:x01.fin (Out.prec 2 (.ok (x01.set.hull (2:Int).toNat)))=.ok (.i (some 0) (some 1)):=by
 have e:x01.set=.i (some 0) (some 1):=by kernel_rfl
 have b:x01.big=false:=by decide+kernel
 have e1:gdown 0 2=0:=by decide+kernel
 have e2:gup 1 2=1:=by decide+kernel
 have e3:decide (NS.le 2048 (NS.i (some 0) (some 1)))=true:=by decide
 unfold RI.fin Out.prec
 rw[b,e]
 simp[NS.hull,bad,Out.fin,e1,e2,e3]
theorem out02:RI.fin2 (NS.i (some 0) (some 1)).ri (NS.i (some 0) (some 1)).ri (rnd 2 (NS.i (some 0) (some 1)).ri.set (NS.i (some 0) (some 1)).ri.set (.ok ((NS.i (some 0) (some 1)).ri.set.sum (NS.i (some 0) (some 1)).ri.set)))=.ok (.i (some 0) (some 2)):=by
 have l1:(NS.i (some 0) (some 1)).le 2048:=by decide
 have o1:(NS.i (some 0) (some 1)).ok:=by unfold NS.ok ordO;decide
 rw[NS.ri_set o1]
 unfold RI.fin2 rnd Out.prec
 rw[NS.ri_big l1]
 have e1:gdown (0+0) 2=0:=by decide+kernel
 have e2:gup (1+1) 2=2:=by decide+kernel
 have e3:decide (NS.le 2048 (NS.i (some 0) (some 2)))=true:=by decide
 simp[NS.sum,oadd,NS.void,bad,NS.hull,Out.fin,e1,e2,e3]
theorem Leaf_x {h0 h:PH} [Le h0 h] {v:Value} (hv:Boxv h0 v l01):Spec mach 115 #[exXv,v,.int .i64 2] h (fun r h'=>Ir h' r (.ok (.i (some 0) (some 1)))) NP:=by
 have kF:=fun {h} [Le h0 h]=>BFind_spec (h:=h) (s:=⟨#[120]⟩) hv
 unfold Fnd at kF
 rw[l01_fnd] at kF
 obtain⟨_,_,_,rfl⟩:=hv.sa
 unfold exXv
 refine Spec.go [] Tryz.func115 rfl rfl (by kernel_rfl) fun C _=>?_
 try simp(maxSteps:=999999) (disch:=omega) only[go_sem,ξ,ζ]
 refine caN (by exact kF) ?_;rintro v1 h1 s1 ⟨v2,x2,e2,rfl,q2⟩;obtain rfl:x2=(⟨#[120]⟩,x01):=(by cases e2;rfl);obtain⟨_,_,_,_,_,_,_,_,_,_,_,_,rfl,_,_⟩:=q2.sa
 try simp(maxSteps:=999999) (disch:=omega) only[go_sem,ξ,ζ]
 have kR:=fun {h} [Le h1 h]=>du (h:=h) (p:=2) q2
 rw[out01] at kR
 refine caN (by exact kR) ?_;rintro r h2 s2 r2;obtain⟨u,rfl,c2⟩:=r2;obtain⟨_,_,_,_,_,_,_,_,_,_,_,_,_,_,_,_,rfl,c3⟩:=c2.sa
 try simp(maxSteps:=999999) (disch:=omega) only[go_sem,ξ,ζ]
 exact⟨_,rfl,c3⟩
theorem Eval_x {h0 h:PH} [Le h0 h] {v:Value} (hv:Boxv h0 v l01):Spec mach 56 #[exXv,v,.int .i64 2] h (fun r h'=>Ir h' r (.ok (.i (some 0) (some 1)))) NP:=by
 have kL:=fun {h} [Le h0 h]=>Leaf_x (h:=h) hv
 obtain⟨_,_,_,rfl⟩:=hv.sa
 unfold exXv at kL ⊢
 refine Spec.go [] Tryz.func56 rfl rfl (by kernel_rfl) fun C _=>?_
 try simp(maxSteps:=999999) (disch:=omega) only[go_sem,ξ,ζ]
 refine caN (by exact kL) ?_;rintro r h2 s2 r2;obtain⟨u,rfl,c2⟩:=r2;obtain⟨_,_,_,_,_,_,_,_,_,_,_,_,_,_,_,_,rfl,c3⟩:=c2.sa
 try simp(maxSteps:=999999) (disch:=omega) only[go_sem,ξ,ζ]
 exact⟨_,rfl,c3⟩
theorem Kid_x {h0 h:PH} [Le h0 h] {v:Value} {b1 b2:Nat} (hv:Boxv h0 v l01) (hb1:h0 b1=some #[v]) (hb2:h0 b2=some #[.int .i64 2]):Spec mach 117 #[exXv,.pointer (some ⟨b1,0,none⟩),.pointer (some ⟨b2,0,none⟩)] h (fun r h'=>Ir h' r (.ok (.i (some 0) (some 1)))) NP:=by
 have kL:=fun {h} [Le h0 h]=>Eval_x (h:=h) hv
 have hb1:=(inferInstance:Le h0 h).sub _ _ hb1
 have hb2:=(inferInstance:Le h0 h).sub _ _ hb2
 obtain⟨_,_,_,rfl⟩:=hv.sa
 unfold exXv at kL ⊢
 refine Spec.go [] Tryz.func117 rfl rfl (by kernel_rfl) fun C _=>?_
 try simp(maxSteps:=999999) (disch:=omega) only[go_sem,ξ,ζ]
 refine aE (aK hb1) ?_
 try simp(maxSteps:=999999) (disch:=omega) only[go_sem,ξ,ζ]
 refine aE (aK hb2) ?_
 try simp(maxSteps:=999999) (disch:=omega) only[go_sem,ξ,ζ]
 refine caN (by exact kL) ?_;rintro r h2 s2 r2;obtain⟨u,rfl,c2⟩:=r2;obtain⟨_,_,_,_,_,_,_,_,_,_,_,_,_,_,_,_,rfl,c3⟩:=c2.sa
 try simp(maxSteps:=999999) (disch:=omega) only[go_sem,ξ,ζ]
 exact⟨_,rfl,c3⟩
def q01 (h:PH) (cs:List Value) (_:Unit):Prop:=Cv h (.agg cs.toArray) (.i (some 0) (some 1))
theorem Comb_a {h0 h:PH} [Le h0 h] {v:Value} {b b1 b2:Nat} (hb:kC b h0) (hv:Boxv h0 v l01) (hb1:h0 b1=some #[v]) (hb2:h0 b2=some #[.int .i64 2]):Spec mach 116 #[exAv b,.int .i64 2,.func (.func 117) #[] #[.pointer (some ⟨b1,0,none⟩),.pointer (some ⟨b2,0,none⟩)]] h (fun r h'=>Ir h' r (.ok (.i (some 0) (some 2)))) NP:=by
 have kK:=fun {h} [Le h0 h]=>Kid_x (h:=h) hv hb1 hb2
 unfold exAv exXv at*
 refine Spec.go [(10,.x),(22,.o [0,1,2,3,4,5,6,7,8,9,10,11])] Tryz.func116 rfl rfl (by kernel_rfl) fun C _=>?_
 try simp(maxSteps:=999999) (disch:=omega) only[go_sem,ξ,ζ]
 refine lpSl [(10,.x),(22,.o [0,1,2,3,4,5,6,7,8,9,10,11])] (fun x:Option (Nat×Nat×List Value)=>match x with |none=>⟨[(1,.v (.int .i64 2)),(2,.v (.func (.func 117) #[] #[.pointer (some ⟨b1,0,none⟩),.pointer (some ⟨b2,0,none⟩)])),(3,.p 0 0),(6,.p 1 0),(7,.v (.int .i64 0)),(22,.v (.slice (some ⟨b,0,none⟩) 2 2)),(23,.v (.int .i64 (2:Nat))),(8,.v (.slice none 0 0)),(24,.v (.int .i64 0))],[[.int .i64 5,.int .i64 0,.bool false,.slice none 0 0,.slice none 0 0,.string ⟨#[]⟩,.slice (some ⟨b,0,none⟩) 2 2],[.bool false,.slice none 0 0,.slice none 0 0,.bool false,.slice none 0 0,.slice none 0 0,.bool false,.bool false]]⟩ |some x=>⟨[(1,.v (.int .i64 2)),(2,.v (.func (.func 117) #[] #[.pointer (some ⟨b1,0,none⟩),.pointer (some ⟨b2,0,none⟩)])),(3,.p 0 0),(6,.p 1 0),(7,.v (.int .i64 0)),(22,.v (.slice (some ⟨b,0,none⟩) 2 2)),(23,.v (.int .i64 (2:Nat))),(8,.s 2 0 x.1 x.2.1),(24,.v (.int .i64 x.1))],[[.int .i64 5,.int .i64 0,.bool false,.slice none 0 0,.slice none 0 0,.string ⟨#[]⟩,.slice (some ⟨b,0,none⟩) 2 2],[.bool false,.slice none 0 0,.slice none 0 0,.bool false,.slice none 0 0,.slice none 0 0,.bool false,.bool false],x.2.2]⟩) (fun x h'=>Le h0 h'∧match x with |none=>True |some x=>1≤x.1∧x.1≤2∧x.1≤x.2.1∧x.2.1*8=x.2.2.length∧RowOf 8 (q01 h') x.2.2 (List.replicate x.1 ())) (fun x=>match x with |none=>2 |some x=>2 - x.1) none [0,1] ?_ ⟨inferInstance,trivial⟩ (by kernel_rfl) ?_
 ·try simp(maxSteps:=999999) (disch:=omega) only[go_sem,ξ,ζ]
  all_goals rfl
 rintro(_ |⟨i,cap,row⟩) h2 ⟨le2,hr⟩
 ·have hl:(0:Int) < ((2:Nat):Int):=by decide
  dsimp only
  try simp(maxSteps:=999999) (disch:=omega) only[go_sem,ξ,ζ,hl,decide_true]
  refine Exists.intro [_,_,_,_,_,_,_] (And.intro rfl (And.intro (fun j v hj=>le2.sub.at (kC_at hb 0 (by decide) j v hj)) ?_))
  try simp(maxSteps:=999999) (disch:=omega) only[go_sem,ξ,ζ]
  refine caN (by exact kK) ?_;rintro r h3 s3 r3;obtain⟨u,rfl,c3⟩:=r3;obtain⟨x1,x2,x3,x4,x5,x6,x7,x8,x9,x10,x11,x12,x13,x14,x15,x16,rfl,c3⟩:=c3.sa
  try simp(maxSteps:=999999) (disch:=omega) only[go_sem,ξ,ζ]
  refine AWP_app (sz:=8) [.o 0,.o 1,.o 2] 3 [.o 4] rfl (by kernel_rfl) (by kernel_rfl) (by rfl) (by decide) rfl rfl ?_
  try simp(maxSteps:=999999) (disch:=omega) only[go_sem,ξ,ζ,walk,appN,Nat.reduceMul]
  intro cap junk hc hj
  have hR:RowOf 8 (q01 h3) ([.bool x1,.slice x2 x3 x4,.slice x5 x6 x7,.bool x8,.slice x9 x10 x11,.slice x12 x13 x14,.bool x15,.bool x16] ++junk) (List.replicate 1 ()):=(RowOf.nil (sz:=8) (Q:=q01 h3) (row:=[])).app (cs:=[.bool x1,.slice x2 x3 x4,.slice x5 x6 x7,.bool x8,.slice x9 x10 x11,.slice x12 x13 x14,.bool x15,.bool x16]) (s:=()) rfl c3 junk
  dsimp only[lpS]
  refine⟨some (1,cap,[.bool x1,.slice x2 x3 x4,.slice x5 x6 x7,.bool x8,.slice x9 x10 x11,.slice x12 x13 x14,.bool x15,.bool x16] ++junk),[0,1,5],?_,⟨inferInstance,η 1,Nat.le_succ 1,hc,by simp;omega,hR⟩,η 2⟩
  try simp(maxSteps:=999999) (disch:=omega) only[go_sem,ξ,ζ]
  all_goals rfl
 ·obtain⟨g1,g2,g3,g4,g5⟩:=hr
  dsimp only at g1 g2 g3 g4 g5 ⊢
  by_cases hl:(i:Int) < ((2:Nat):Int)
  ·obtain rfl:i=1:=by omega
   try simp(maxSteps:=999999) (disch:=omega) only[go_sem,ξ,ζ,hl,decide_true]
   refine Exists.intro [_,_,_,_,_,_,_] (And.intro rfl (And.intro (fun j v hj=>le2.sub.at (kC_at hb 1 (by decide) j v hj)) ?_))
   try simp(maxSteps:=999999) (disch:=omega) only[go_sem,ξ,ζ]
   refine caN (by exact kK) ?_;rintro r h3 s3 r3;obtain⟨u,rfl,c3⟩:=r3;obtain⟨x1,x2,x3,x4,x5,x6,x7,x8,x9,x10,x11,x12,x13,x14,x15,x16,rfl,c3⟩:=c3.sa
   try simp(maxSteps:=999999) (disch:=omega) only[go_sem,ξ,ζ]
   refine AWP_app (sz:=8) [.o 0,.o 1,.o 2] 3 [.o 4] rfl (by kernel_rfl) (by kernel_rfl) (by rfl) (by decide) rfl rfl ?_
   try simp(maxSteps:=999999) (disch:=omega) only[go_sem,ξ,ζ,walk,appN,Nat.reduceMul]
   intro cap' junk hc hj
   have hR:RowOf 8 (q01 h3) (row.take 8 ++[.bool x1,.slice x2 x3 x4,.slice x5 x6 x7,.bool x8,.slice x9 x10 x11,.slice x12 x13 x14,.bool x15,.bool x16] ++junk) (List.replicate 2 ()):=(g5.mono fun cs s (k:Cv h2 _ _)=>(k.to:Cv h3 _ _)).app (cs:=[.bool x1,.slice x2 x3 x4,.slice x5 x6 x7,.bool x8,.slice x9 x10 x11,.slice x12 x13 x14,.bool x15,.bool x16]) (s:=()) rfl c3 junk
   dsimp only[lpS]
   refine⟨some (2,cap',row.take 8 ++[.bool x1,.slice x2 x3 x4,.slice x5 x6 x7,.bool x8,.slice x9 x10 x11,.slice x12 x13 x14,.bool x15,.bool x16] ++junk),[0,1,6],?_,⟨inferInstance,Nat.le_succ 1,η 2,hc,by simp;omega,hR⟩,η 1⟩
   try simp(maxSteps:=999999) (disch:=omega) only[go_sem,ξ,ζ]
   all_goals rfl
  ·obtain rfl:i=2:=by omega
   try simp(maxSteps:=999999) (disch:=omega) only[go_sem,ξ,ζ,hl,decide_false]
   have c1:Cv h2 (.agg (List.take 8 (List.drop (0*8) row)).toArray) (.i (some 0) (some 1)):=g5.2 0 () rfl
   have c2:Cv h2 (.agg (List.take 8 (List.drop (Int.toNat 1*8) row)).toArray) (.i (some 0) (some 1)):=g5.2 1 () rfl
   have kA:=fun {h} [Le h2 h]=>jf (h:=h) (p:=2) (c1.iv (by decide)) (c2.iv (by decide))
   rw[out02] at kA
   refine caN (by exact kA) ?_;rintro r h3 s3 r3;obtain⟨u,rfl,c3⟩:=r3;obtain⟨_,_,_,_,_,_,_,_,_,_,_,_,_,_,_,_,rfl,c3⟩:=c3.sa
   try simp(maxSteps:=999999) (disch:=omega) only[go_sem,ξ,ζ]
   exact⟨_,rfl,c3⟩
theorem Eval_a {h0 h:PH} [Le h0 h] {v:Value} {b:Nat} (hb:kC b h0) (hv:Boxv h0 v l01):Spec mach 56 #[exAv b,v,.int .i64 2] h (fun r h'=>Ir h' r (.ok (.i (some 0) (some 2)))) NP:=by
 have hv0:=hv
 obtain⟨_,_,_,rfl⟩:=hv.sa
 have hb0:=hb
 unfold exAv
 refine Spec.go [(3,.t (.s [0,1] (.p 1 (.p 2 (.s [2,3,4,5,6,7] .d)))))] Tryz.func56 rfl rfl (by kernel_rfl) fun C _=>?_
 try simp(maxSteps:=999999) (disch:=omega) only[go_sem,ξ,ζ]
 intro b1 h1 st1 hb1
 try simp(maxSteps:=999999) (disch:=omega) only[go_sem,ξ,ζ]
 intro b2 h2 st2 hb2
 try simp(maxSteps:=999999) (disch:=omega) only[go_sem,ξ,ζ]
 have hb1:=st2.sub _ _ (hb1 (by simp))
 have hb2:=hb2 (by simp)
 have kC2:=fun {h} [Le h2 h]=>Comb_a (h:=h) ((inferInstance:Le h0 h2).sub _ _ hb0) (hv0.to (h':=h2)) hb1 hb2
 unfold exAv at kC2
 refine caN (by exact kC2) ?_;rintro r h3 s3 r3;obtain⟨u,rfl,c3⟩:=r3;obtain⟨_,_,_,_,_,_,_,_,_,_,_,_,_,_,_,_,rfl,c3⟩:=c3.sa
 try simp(maxSteps:=999999) (disch:=omega) only[go_sem,ξ,ζ]
 exact⟨_,rfl,c3⟩
theorem Range_a {h0 h:PH} [Le h0 h] {v:Value} {b:Nat} (hb:kC b h0) (hv:Boxv h0 v l01):Spec mach 19 #[exAv b,v,.int .i64 2] h (fun r h'=>Ir h' r (.ok (.i (some 0) (some 2)))) NP:=by
 have kR:=fun {h} [Le h0 h]=>Ready_spec (h:=h) hb hv
 have kE:=fun {h} [Le h0 h]=>Eval_a (h:=h) hb hv
 obtain⟨_,_,_,rfl⟩:=hv.sa
 unfold exAv at*
 refine Spec.go [] Tryz.func19 rfl rfl (by kernel_rfl) fun C _=>?_
 try simp(maxSteps:=999999) (disch:=omega) only[go_sem,ξ,ζ]
 refine caN (by exact kR) ?_;rintro v1 h1 s1 rfl
 try simp(maxSteps:=999999) (disch:=omega) only[go_sem,ξ,ζ]
 refine caN (by exact kE) ?_;rintro r h3 s3 r3;obtain⟨u,rfl,c3⟩:=r3;obtain⟨_,_,_,_,_,_,_,_,_,_,_,_,_,_,_,_,rfl,c3⟩:=c3.sa
 try simp(maxSteps:=999999) (disch:=omega) only[go_sem,ξ,ζ]
 exact⟨_,rfl,c3⟩
theorem awake05_spec {h:PH}:Spec mach 14 #[] h (fun r _=>r=.bool true) NP:=by
 refine Spec.go [(3,.t (.p 1 (.s [0,1,2] (.p 2 (.s [3,4,5,6,7,8,9,10,11] .d)))))] Tryz.func14 rfl rfl (by kernel_rfl) fun C _=>?_
 try simp(maxSteps:=999999) (disch:=omega) only[go_sem,ξ,ζ]
 refine caN (by exact aF (n:=1) (by decide) (by decide)) ?_;rintro _ h1 _ f1;obtain⟨_,_,_,_,_,_,_,rfl,f1⟩:=f1.sa
 try simp(maxSteps:=999999) (disch:=omega) only[go_sem,ξ,ζ]
 refine caN (by exact cA f1 (by decide)) ?_;rintro _ h2 _ f2;obtain⟨v2_0,v2_1,v2_2,v2_3,v2_4,v2_5,v2_6,rfl,f2⟩:=f2.sa
 try simp(maxSteps:=999999) (disch:=omega) only[go_sem,ξ,ζ,Nat.reduceMul]
 intro bs h3 st3 hbs
 try simp(maxSteps:=999999) (disch:=omega) only[go_sem,ξ,ζ]
 have hbs:=hbs (by simp)
 intro bk h4 st4 hbk
 try simp(maxSteps:=999999) (disch:=omega) only[go_sem,ξ,ζ]
 have hbk:kC bk h4:=hbk (by simp)
 have hat:∀j v,([.string ⟨#[120]⟩,.bool false,.slice none 0 0,.slice none 0 0,.bool v2_0,.slice v2_1 v2_2 v2_3,.slice v2_4 v2_5 v2_6,.bool false,.bool false]:List Value)[j]?=some v→h4.at (((⟨bs,0,none⟩:Addr).add 0).add j)=some v:=fun j v hj=>by
  refine st4.sub.at ?_
  rw[at_off hbs,Nat.zero_add]
  simpa using hj
 have hv:Boxv h4 (.slice (some ⟨bs,0,none⟩) 1 1) l01:=⟨_,_,rfl,by decide,fun i s hi=>by
  have hi1:i < 1:=(List.getElem?_eq_some_iff.1 hi).1
  obtain rfl:i=0:=by omega
  cases hi
  refine⟨_,_,_,_,_,_,_,_,_,_,_,_,_,_,_,_,_,rfl,hat,?_⟩
  have c1:Cv h4 (.agg #[.bool false,.slice none 0 0,.slice none 0 0,.bool v2_0,.slice v2_1 v2_2 v2_3,.slice v2_4 v2_5 v2_6,.bool false,.bool false]) (.i (some 0) (some 1)):=⟨_,_,_,_,_,_,rfl,Cn.zero h4,by simpa using f2.to (h':=h4)⟩
  exact c1.iv (by decide)⟩
 have kR:=fun {h} [Le h4 h]=>Range_a (h:=h) hbk hv
 have kV:=fun {h} [Le h4 h]=>BValid_spec (h:=h) hv
 rw[l01_ok] at kV
 unfold exAv at kR
 refine caN (by exact kR) ?_;rintro r h5 s5 r5;obtain⟨u,rfl,c5⟩:=r5;obtain⟨d1,w1,w2,w3,w4,w5,w6,d2,w7,w8,w9,w10,w11,w12,rfl,p1,p2⟩:=c5.fl
 try simp(maxSteps:=999999) (disch:=omega) only[go_sem,ξ,ζ]
 have p1:Cn h5 _ 0:=p1
 have p2:Cn h5 _ 2:=p2
 obtain⟨sn,sd,e1,n1,n2⟩:=p1
 obtain⟨sn',sd',e2,n3,n4⟩:=p2
 simp only[Value.agg.injEq,Array.mk.injEq,List.cons.injEq,and_true] at e1 e2
 obtain⟨_,rfl,rfl⟩:=e1
 obtain⟨_,rfl,rfl⟩:=e2
 have:=E4 (by simpa using n1)
 subst this
 obtain⟨rfl,ad',rfl,t2⟩:=zC (n:=2) n3 (by decide) (by decide)
 have:=E4 (by simpa using n4)
 subst this
 try simp(maxSteps:=999999) (disch:=omega) only[go_sem,ξ,ζ]
 refine aE t2 ?_
 try simp(maxSteps:=999999) (disch:=omega) only[go_sem,ξ,ζ]
 refine caN (by exact kV) ?_;rintro v6 h6 s6 rfl
 try simp(maxSteps:=999999) (disch:=omega) only[go_sem,ξ,ζ]
 all_goals rfl
end Go.Q
namespace Go.Q
open Go.Proofs
set_option maxRecDepth 100000
set_option maxHeartbeats 8000000
theorem okB_six {b:List Sd1} (h:okB b=true):b.length≤6:=by
 unfold okB at h
 rw[φ] at h
 exact of_decide_eq_true h.1
theorem SameSides_yes {h0 h:PH} [Le h0 h] {a a':Option Addr} {c c' n:Nat} (k:∀i,i < n→∃(ad ad':Addr) (s s':ByteArray) (cs cs':List Value),a=some ad∧a'=some ad'∧(s.toList == s'.toList)=true∧cs.length=8∧cs'.length=8∧
  (∀j v,(.string s :: cs)[j]?=some v→h0.at ((ad.add (i*9)).add j)=some v)∧(∀j v,(.string s' :: cs')[j]?=some v→h0.at ((ad'.add (i*9)).add j)=some v)∧
  ∀{h} [Le h0 h],Spec mach 89 #[.agg cs.toArray,.agg cs'.toArray] h (fun r _=>r=.bool true) NP) (hn:n≤2^30):Spec mach 47 #[.slice a n c,.slice a' n c'] h (fun r _=>r=.bool true) NP:=by
 have en:((n:Int) != (n:Int))=false:=by simp
 refine Spec.go [] Tryz.func47 rfl rfl (by kernel_rfl) fun C _=>?_
 try simp(maxSteps:=999999) (disch:=omega) only[go_sem,ξ,ζ,en]
 refine lp [] (fun i:Nat=>⟨[(0,.v (.slice a n c)),(1,.v (.slice a' n c')),(11,.v (.slice a n c)),(12,.v (.int .i64 n)),(13,.v (.int .i64 i))],[]⟩) (fun i h'=>Le h0 h'∧i≤n) (fun i=>n - i) 0 ?_ ⟨inferInstance,qBh _⟩ (by kernel_rfl) ?_
 ·try simp(maxSteps:=999999) (disch:=omega) only[go_sem,ξ,ζ]
  all_goals rfl
 rintro i h2 ⟨le2,hi⟩
 by_cases hlt:(i:Int) < n
 ·obtain⟨ad,ad',s,s',cs,cs',rfl,rfl,hs,hl,hl',hat,hat',kS⟩:=k i (by omega)
  have e0:h0.at (ad.add (i*9))=some (.string s):=hat 0 _ rfl
  have e0':h0.at (ad'.add (i*9))=some (.string s'):=hat' 0 _ rfl
  try simp(maxSteps:=999999) (disch:=omega) only[go_sem,ξ,ζ,hlt,decide_true]
  refine aE (le2.sub.at e0) ?_
  try simp(maxSteps:=999999) (disch:=omega) only[go_sem,ξ,ζ]
  refine aE (le2.sub.at e0') ?_
  try simp(maxSteps:=999999) (disch:=omega) only[go_sem,ξ,ζ,hs]
  refine Exists.intro cs (And.intro hl (And.intro (fun j v hj=>by rw[add_1];exact le2.sub.at (hat (j+1) v hj)) ?_))
  try simp(maxSteps:=999999) (disch:=omega) only[go_sem,ξ,ζ]
  refine Exists.intro cs' (And.intro hl' (And.intro (fun j v hj=>by rw[add_1];exact le2.sub.at (hat' (j+1) v hj)) ?_))
  try simp(maxSteps:=999999) (disch:=omega) only[go_sem,ξ,ζ]
  refine caN (by exact kS) ?_;rintro v3 h3 s3 rfl
  try simp(maxSteps:=999999) (disch:=omega) only[go_sem,ξ,ζ]
  dsimp only[lpE];refine⟨i+1,?_,⟨inferInstance,by omega⟩,by omega⟩
  ·try simp(maxSteps:=999999) (disch:=omega) only[go_sem,ξ,ζ]
   all_goals rfl
 ·try simp(maxSteps:=999999) (disch:=omega) only[go_sem,ξ,ζ,hlt,decide_false]
theorem Box_no {h:PH} {e:Int} (he:e≠0):Spec mach 13 #[.slice none 0 0,.int .i64 e,.slice none 0 0,.int .i64 e] h (fun r _=>r=.bool true) NP:=by
 have e1:(e != e)=false:=by simp
 have e2:(e != 0)=true:=by simp[he]
 refine Spec.go [] Tryz.func13 rfl rfl (by kernel_rfl) fun C _=>?_
 try simp(maxSteps:=999999) (disch:=omega) only[go_sem,ξ,ζ,e1,e2]
 all_goals rfl
theorem Box_yes {h0 h:PH} [Le h0 h] {a a':Option Addr} {m m' c c':Nat} (k:∀{h} [Le h0 h],Spec mach 47 #[.slice a m c,.slice a' m' c'] h (fun r _=>r=.bool true) NP):Spec mach 13 #[.slice a m c,.int .i64 0,.slice a' m' c',.int .i64 0] h (fun r _=>r=.bool true) NP:=by
 refine Spec.go [] Tryz.func13 rfl rfl (by kernel_rfl) fun C _=>?_
 try simp(maxSteps:=999999) (disch:=omega) only[go_sem,ξ,ζ]
 refine caN (by exact k) ?_;rintro v1 h1 s1 rfl
 try simp(maxSteps:=999999) (disch:=omega) only[go_sem,ξ,ζ]
def namE (l:List Sd1) (s:ByteArray) (good:Bool):Int:=bif nameB s then (bif okB l && good then (bif (fnd l s).isSome then 0 else 51) else 50) else 41
theorem RHas_spec {h0 h:PH} [Le h0 h] {v:Value} {l:List Sd1} {s:ByteArray} (hv:Boxv h0 v l):Spec mach 100 #[v,.string s] h (fun r _=>r=.bool (fnd l s).isSome) NP:=by
 have kF:=fun {h} [Le h0 h]=>RBFind_spec (h:=h) (s:=s) hv
 unfold Fnd at kF
 obtain⟨_,_,_,rfl⟩:=hv.sa
 cases e:fnd l s with
 | none=>
  rw[e] at kF
  unfold zIv at kF
  refine Spec.go [] Tryz.func100 rfl rfl (by kernel_rfl) fun C _=>?_
  try simp(maxSteps:=999999) (disch:=omega) only[go_sem,ξ,ζ]
  refine caN (by exact kF) ?_;rintro v1 h1 s1 rfl
  try simp(maxSteps:=999999) (disch:=omega) only[go_sem,ξ,ζ]
  all_goals rfl
 | some i=>
  rw[e] at kF
  refine Spec.go [] Tryz.func100 rfl rfl (by kernel_rfl) fun C _=>?_
  try simp(maxSteps:=999999) (disch:=omega) only[go_sem,ξ,ζ]
  refine caN (by exact kF) ?_;rintro v1 h1 s1 ⟨u1,x,ex,rfl,q1⟩;obtain⟨_,_,_,_,_,_,_,_,_,_,_,_,rfl,_,_⟩:=q1.sa
  try simp(maxSteps:=999999) (disch:=omega) only[go_sem,ξ,ζ]
  all_goals rfl
theorem Named_spec {h0 h:PH} [Le h0 h] {v:Value} {l:List Sd1} {s:ByteArray} {good:Bool} (hv:Boxv h0 v l):Spec mach 45 #[v,.string s,.bool good] h (fun r _=>r=.int .i64 (namE l s good)) NP:=by
 have kN:=fun {h:PH}=>RIsName_spec (h:=h) (s:=s)
 have kV:=fun {h} [Le h0 h]=>RBValid_spec (h:=h) hv
 have kH:=fun {h} [Le h0 h]=>RHas_spec (h:=h) (s:=s) hv
 unfold namE
 obtain⟨_,_,_,rfl⟩:=hv.sa
 cases g1:nameB s with
 | false=>
  rw[g1] at kN
  refine Spec.go [] Tryz.func45 rfl rfl (by kernel_rfl) fun C _=>?_
  try simp(maxSteps:=999999) (disch:=omega) only[go_sem,ξ,ζ]
  refine caN (by exact kN) ?_;rintro v1 h1 s1 rfl
  try simp(maxSteps:=999999) (disch:=omega) only[go_sem,ξ,ζ]
  all_goals rfl
 | true=>
  rw[g1] at kN
  cases g2:okB l with
  | false=>
   rw[g2] at kV
   refine Spec.go [] Tryz.func45 rfl rfl (by kernel_rfl) fun C _=>?_
   try simp(maxSteps:=999999) (disch:=omega) only[go_sem,ξ,ζ]
   refine caN (by exact kN) ?_;rintro v1 h1 s1 rfl
   try simp(maxSteps:=999999) (disch:=omega) only[go_sem,ξ,ζ]
   refine caN (by exact kV) ?_;rintro v2 h2 s2 rfl
   try simp(maxSteps:=999999) (disch:=omega) only[go_sem,ξ,ζ]
   all_goals rfl
  | true=>
   rw[g2] at kV
   cases good with
   | false=>
    refine Spec.go [] Tryz.func45 rfl rfl (by kernel_rfl) fun C _=>?_
    try simp(maxSteps:=999999) (disch:=omega) only[go_sem,ξ,ζ]
    refine caN (by exact kN) ?_;rintro v1 h1 s1 rfl
    try simp(maxSteps:=999999) (disch:=omega) only[go_sem,ξ,ζ]
    refine caN (by exact kV) ?_;rintro v2 h2 s2 rfl
    try simp(maxSteps:=999999) (disch:=omega) only[go_sem,ξ,ζ]
    all_goals rfl
   | true=>
    cases g3:(fnd l s).isSome with
    | false=>
     rw[g3] at kH
     refine Spec.go [] Tryz.func45 rfl rfl (by kernel_rfl) fun C _=>?_
     try simp(maxSteps:=999999) (disch:=omega) only[go_sem,ξ,ζ]
     refine caN (by exact kN) ?_;rintro v1 h1 s1 rfl
     try simp(maxSteps:=999999) (disch:=omega) only[go_sem,ξ,ζ]
     refine caN (by exact kV) ?_;rintro v2 h2 s2 rfl
     try simp(maxSteps:=999999) (disch:=omega) only[go_sem,ξ,ζ]
     refine caN (by exact kH) ?_;rintro v3 h3 s3 rfl
     try simp(maxSteps:=999999) (disch:=omega) only[go_sem,ξ,ζ]
     all_goals rfl
    | true=>
     rw[g3] at kH
     refine Spec.go [] Tryz.func45 rfl rfl (by kernel_rfl) fun C _=>?_
     try simp(maxSteps:=999999) (disch:=omega) only[go_sem,ξ,ζ]
     refine caN (by exact kN) ?_;rintro v1 h1 s1 rfl
     try simp(maxSteps:=999999) (disch:=omega) only[go_sem,ξ,ζ]
     refine caN (by exact kV) ?_;rintro v2 h2 s2 rfl
     try simp(maxSteps:=999999) (disch:=omega) only[go_sem,ξ,ζ]
     refine caN (by exact kH) ?_;rintro v3 h3 s3 rfl
     try simp(maxSteps:=999999) (disch:=omega) only[go_sem,ξ,ζ]
     all_goals rfl
def Qs (h:PH) (cs:List Value) (s:Sd1):Prop:=∃ds:List Value,cs=.string s.1 :: ds∧ds.length=8∧Iv h (.agg ds.toArray) s.2
theorem Qs.to {h h':PH} {cs:List Value} {s:Sd1} (q:Qs h cs s) [Le h h']:Qs h' cs s:=let ⟨ds,e1,e2,e3⟩:=q;⟨ds,e1,e2,e3.to⟩
def Bxr (h:PH) (v:Value) (l:List Sd1):Prop:=∃a c,v=.slice a l.length c∧∀i s,l[i]?=some s→∃ad cs,a=some ad∧Qs h cs s∧∀j v,cs[j]?=some v→h.at ((ad.add (i*9)).add j)=some v
theorem Bxr.of {h:PH} {b c:Nat} {row:List Value} {l:List Sd1} (hb:h b=some row.toArray) (hr:RowOf 9 (Qs h) row l):Bxr h (.slice (some ⟨b,0,none⟩) l.length c) l:=by
 refine⟨_,_,rfl,fun i s hi=>⟨_,_,rfl,hr.2 i s hi,fun j v hj=>?_⟩⟩
 rw[at_off hb]
 rw[List.getElem?_take] at hj
 split at hj
 ·rw[List.getElem?_drop] at hj
  simpa using hj
 ·cases hj
theorem Bxr.nil (h:PH):Bxr h (.slice none 0 0) []:=⟨none,0,rfl,fun i s hi=>by simp at hi⟩
def kept (s:ByteArray) (x:Sd1):Bool:=!(x.1.toList == s.toList)
theorem filt_take {l:List Sd1} {i:Nat} {x:Sd1} {f:Sd1→Bool} (hx:l[i]?=some x):(l.take (i+1)).filter f=if f x then (l.take i).filter f ++[x] else (l.take i).filter f:=by
 rw[List.take_add_one,hx,List.filter_append]
 cases e:f x<;>simp[e]
def DropR (h:PH) (r:Value) (l:List Sd1) (s:ByteArray):Prop:=match decide (namE l s true=0) with
 |true=>∃u,r=.tuple #[u,.int .i64 0]∧Bxr h u (l.filter (kept s))
 |false=>r=.tuple #[.slice none 0 0,.int .i64 (namE l s true)]
theorem namE_six {l:List Sd1} {s:ByteArray} {g:Bool} (h:namE l s g=0):l.length≤6:=by
 unfold namE at h
 cases h1:nameB s with
 |false=>rw[h1] at h;cases h
 | true=>
  rw[h1,cond_true] at h
  cases h2:okB l with
  |false=>rw[h2] at h;cases h
  |true=>exact okB_six h2
theorem RDrop_spec {h0 h:PH} [Le h0 h] {v:Value} {l:List Sd1} {s:ByteArray} (hv:Boxv h0 v l):Spec mach 12 #[v,.string s] h (fun r h'=>DropR h' r l s) NP:=by
 have kN:=fun {h} [Le h0 h]=>Named_spec (h:=h) (s:=s) (good:=true) hv
 unfold DropR
 generalize hG:namE l s true=e at*
 cases hE0:decide (e=0) with
 | false=>
  have e1:(e != 0)=true:=by simpa using of_decide_eq_false hE0
  obtain⟨_,_,_,rfl⟩:=hv.sa
  refine Spec.go [(9,.x),(11,.x)] Tryz.func12 rfl rfl (by kernel_rfl) fun C _=>?_
  try simp(maxSteps:=999999) (disch:=omega) only[go_sem,ξ,ζ]
  refine caN (by exact kN) ?_;rintro v1 h1 s1 rfl
  try simp(maxSteps:=999999) (disch:=omega) only[go_sem,ξ,ζ,e1]
  all_goals rfl
 | true=>
  obtain rfl:e=0:=of_decide_eq_true hE0
  have h6:=namE_six hG
  obtain⟨a,c,rfl,hl,k⟩:=hv.side
  refine Spec.go [(9,.x),(11,.x)] Tryz.func12 rfl rfl (by kernel_rfl) fun C _=>?_
  try simp(maxSteps:=999999) (disch:=omega) only[go_sem,ξ,ζ]
  refine caN (by exact kN) ?_;rintro v1 h1 s1 rfl
  try simp(maxSteps:=999999) (disch:=omega) only[go_sem,ξ,ζ]
  refine lpSl [(9,.x),(11,.x)] (fun x:Nat×Option (Nat×Nat×List Value)=>match x.2 with |none=>⟨[(1,.v (.string s)),(7,.v (.slice none 0 0)),(16,.v (.slice a l.length c)),(17,.v (.int .i64 l.length)),(18,.v (.int .i64 x.1))],[]⟩ |some y=>⟨[(1,.v (.string s)),(7,.s 0 0 y.1 y.2.1),(16,.v (.slice a l.length c)),(17,.v (.int .i64 l.length)),(18,.v (.int .i64 x.1))],[y.2.2]⟩) (fun x h'=>Le h0 h'∧x.1≤l.length∧match x.2 with |none=>(l.take x.1).filter (kept s)=[] |some y=>1≤y.1∧y.1≤x.1∧y.1≤y.2.1∧y.2.1*9=y.2.2.length∧y.1=((l.take x.1).filter (kept s)).length∧RowOf 9 (Qs h') y.2.2 ((l.take x.1).filter (kept s))) (fun x=>l.length - x.1) (0,none) [] ?_ ⟨inferInstance,qBh _,rfl⟩ (by kernel_rfl) ?_
  ·try simp(maxSteps:=999999) (disch:=omega) only[go_sem,ξ,ζ]
   all_goals rfl
  rintro⟨i,_ |⟨n,cap,row⟩⟩ h2 ⟨le2,hi,hr0⟩
  ·dsimp only at hi hr0 ⊢
   by_cases hlt:(i:Int) < (l.length:Int)
   ·obtain⟨x,hx⟩:∃x,l[i]?=some x:=⟨_,List.getElem?_eq_getElem (by omega)⟩
    obtain⟨ad,a1,m1,c1,a2,m2,c2,a3,m3,c3,a4,m4,c4,rfl,hat,r1,r2,hiv⟩:=k i x hx
    try simp(maxSteps:=999999) (disch:=omega) only[go_sem,ξ,ζ,hlt,decide_true]
    refine Exists.intro [_,_,_,_,_,_,_,_,_] (And.intro rfl (And.intro (fun j v hj=>le2.sub.at (hat j v hj)) ?_))
    try simp(maxSteps:=999999) (disch:=omega) only[go_sem,ξ,ζ]
    cases hE:(x.1.toList == s.toList) with
    | true=>
     have eT:(l.take (i+1)).filter (kept s)=(l.take i).filter (kept s):=by rw[filt_take hx,if_neg (by unfold kept;rw[hE];decide)]
     try simp(maxSteps:=999999) (disch:=omega) only[go_sem,ξ,ζ,hE]
     dsimp only[lpS]
     refine⟨(i+1,none),[],?_,⟨inferInstance,by show i+1≤_;omega,by show(l.take (i+1)).filter _=[];rw[eT];exact hr0⟩,by show l.length - (i+1) < l.length - i;omega⟩
     try simp(maxSteps:=999999) (disch:=omega) only[go_sem,ξ,ζ]
     all_goals rfl
    | false=>
     have eT:(l.take (i+1)).filter (kept s)=(l.take i).filter (kept s) ++[x]:=by rw[filt_take hx,if_pos (by unfold kept;rw[hE];rfl)]
     try simp(maxSteps:=999999) (disch:=omega) only[go_sem,ξ,ζ,hE]
     refine apO (sz:=9) [0,1,2] 3 [4] rfl (by kernel_rfl) (by kernel_rfl) (by kernel_rfl) (by decide) (by kernel_rfl) (by kernel_rfl) ?_
     try simp(maxSteps:=999999) (disch:=omega) only[go_sem,ξ,ζ,appN,Nat.reduceMul]
     intro cap junk hc hj
     have hR:RowOf 9 (Qs h2) ([.string x.1,.bool x.2.n1,.slice a1 m1 c1,.slice a2 m2 c2,.bool x.2.n2,.slice a3 m3 c3,.slice a4 m4 c4,.bool x.2.l,.bool x.2.u] ++junk) ((l.take (i+1)).filter (kept s)):=by
      rw[eT,hr0]
      exact(RowOf.nil (sz:=9) (Q:=Qs h2) (row:=[])).app (cs:=[.string x.1,.bool x.2.n1,.slice a1 m1 c1,.slice a2 m2 c2,.bool x.2.n2,.slice a3 m3 c3,.slice a4 m4 c4,.bool x.2.l,.bool x.2.u]) (s:=x) rfl ⟨_,rfl,rfl,hiv.to⟩ junk
     dsimp only[lpS]
     refine⟨(i+1,some (1,cap,[.string x.1,.bool x.2.n1,.slice a1 m1 c1,.slice a2 m2 c2,.bool x.2.n2,.slice a3 m3 c3,.slice a4 m4 c4,.bool x.2.l,.bool x.2.u] ++junk)),[2],?_,⟨inferInstance,by show i+1≤_;omega,η 1,by show 1≤i+1;omega,hc,by simp;omega,by show 1=_;rw[eT,hr0];rfl,hR⟩,by show l.length - (i+1) < l.length - i;omega⟩
     try simp(maxSteps:=999999) (disch:=omega) only[go_sem,ξ,ζ]
     all_goals rfl
   ·obtain rfl:i=l.length:=by omega
    rw[List.take_length] at hr0
    rw[hr0]
    try simp(maxSteps:=999999) (disch:=omega) only[go_sem,ξ,ζ,hlt,decide_false]
    refine rn [] (by kernel_rfl) ?_
    try simp(maxSteps:=999999) (disch:=omega) only[go_sem,ξ,ζ]
    exact⟨_,rfl,Bxr.nil _⟩
  ·obtain⟨g1,g2,g3,g4,g5,g6⟩:=hr0
   dsimp only at hi g1 g2 g3 g4 g5 g6 ⊢
   replace g6:=g6.mono fun cs s' (q:Qs h2 cs s')=>q
   by_cases hlt:(i:Int) < (l.length:Int)
   ·obtain⟨x,hx⟩:∃x,l[i]?=some x:=⟨_,List.getElem?_eq_getElem (by omega)⟩
    obtain⟨ad,a1,m1,c1,a2,m2,c2,a3,m3,c3,a4,m4,c4,rfl,hat,r1,r2,hiv⟩:=k i x hx
    try simp(maxSteps:=999999) (disch:=omega) only[go_sem,ξ,ζ,hlt,decide_true]
    refine Exists.intro [_,_,_,_,_,_,_,_,_] (And.intro rfl (And.intro (fun j v hj=>le2.sub.at (hat j v hj)) ?_))
    try simp(maxSteps:=999999) (disch:=omega) only[go_sem,ξ,ζ]
    cases hE:(x.1.toList == s.toList) with
    | true=>
     have eT:(l.take (i+1)).filter (kept s)=(l.take i).filter (kept s):=by rw[filt_take hx,if_neg (by unfold kept;rw[hE];decide)]
     try simp(maxSteps:=999999) (disch:=omega) only[go_sem,ξ,ζ,hE]
     dsimp only[lpS]
     refine⟨(i+1,some (n,cap,row)),[0],?_,⟨inferInstance,by show i+1≤_;omega,g1,by show n≤i+1;omega,g3,g4,by show n=_;rw[eT];exact g5,by show RowOf 9 _ row _;rw[eT];exact g6⟩,by show l.length - (i+1) < l.length - i;omega⟩
     try simp(maxSteps:=999999) (disch:=omega) only[go_sem,ξ,ζ]
     all_goals rfl
    | false=>
     have eT:(l.take (i+1)).filter (kept s)=(l.take i).filter (kept s) ++[x]:=by rw[filt_take hx,if_pos (by unfold kept;rw[hE];rfl)]
     try simp(maxSteps:=999999) (disch:=omega) only[go_sem,ξ,ζ,hE]
     refine apO (sz:=9) [0,1,2] 3 [4] rfl (by kernel_rfl) (by kernel_rfl) (by kernel_rfl) (by decide) (by kernel_rfl) (by kernel_rfl) ?_
     try simp(maxSteps:=999999) (disch:=omega) only[go_sem,ξ,ζ,appN,Nat.reduceMul]
     intro cap' junk hc hj
     have hR:RowOf 9 (Qs h2) (row.take (n*9) ++[.string x.1,.bool x.2.n1,.slice a1 m1 c1,.slice a2 m2 c2,.bool x.2.n2,.slice a3 m3 c3,.slice a4 m4 c4,.bool x.2.l,.bool x.2.u] ++junk) ((l.take (i+1)).filter (kept s)):=by
      rw[eT]
      have:=g6.app (cs:=[.string x.1,.bool x.2.n1,.slice a1 m1 c1,.slice a2 m2 c2,.bool x.2.n2,.slice a3 m3 c3,.slice a4 m4 c4,.bool x.2.l,.bool x.2.u]) (s:=x) rfl ⟨_,rfl,rfl,hiv.to⟩ junk
      rw[←g5] at this
      exact this
     dsimp only[lpS]
     refine⟨(i+1,some (n+1,cap',row.take (n*9) ++[.string x.1,.bool x.2.n1,.slice a1 m1 c1,.slice a2 m2 c2,.bool x.2.n2,.slice a3 m3 c3,.slice a4 m4 c4,.bool x.2.l,.bool x.2.u] ++junk)),[3],?_,⟨inferInstance,by show i+1≤_;omega,by show 1≤n+1;omega,by show n+1≤i+1;omega,hc,by simp;omega,by show n+1=_;rw[eT,qAp,←g5];rfl,hR⟩,by show l.length - (i+1) < l.length - i;omega⟩
     try simp(maxSteps:=999999) (disch:=omega) only[go_sem,ξ,ζ]
     all_goals rfl
   ·obtain rfl:i=l.length:=by omega
    rw[List.take_length] at g5 g6
    try simp(maxSteps:=999999) (disch:=omega) only[go_sem,ξ,ζ,hlt,decide_false]
    refine rn [(11,.t (.p 0 (.s [0,1,2] .d)))] (by kernel_rfl) ?_
    try simp(maxSteps:=999999) (disch:=omega) only[go_sem,ξ,ζ]
    intro b h3 st3 hb
    try simp(maxSteps:=999999) (disch:=omega) only[go_sem,ξ,ζ]
    have hb:=hb (fun e=>by rw[e] at g4;simp at g4;omega)
    have:=Bxr.of (c:=cap) hb (g6.mono fun cs s' (q:Qs h2 cs s')=>(q.to:Qs h3 cs s'))
    rw[←g5] at this
    exact⟨_,rfl,this⟩



def putS (s:ByteArray) (y:RI) (x:Sd1):Sd1:=bif x.1.toList == s.toList then (x.1,y.set.ri) else x
def putG (y:RI):Bool:=!y.big && !y.set.void
def PutR (h:PH) (r:Value) (l:List Sd1) (s:ByteArray) (y:RI):Prop:=match decide (namE l s (putG y)=0) with
 |true=>∃u,r=.tuple #[u,.int .i64 0]∧Bxr h u (l.map (putS s y))
 |false=>r=.tuple #[.slice none 0 0,.int .i64 (namE l s (putG y))]
theorem namE_good {l:List Sd1} {s:ByteArray} {g:Bool} (h:namE l s g=0):g=true:=by
 unfold namE at h
 cases g with
 |true=>rfl
 | false=>
  rw[Bool.and_false] at h
  cases h1:nameB s<;>rw[h1] at h<;>cases h
theorem RPut_spec {h0 h:PH} [Le h0 h] {v w:Value} {l:List Sd1} {s:ByteArray} {y:RI} (hv:Boxv h0 v l) (hw:Iv h0 w y):Spec mach 10 #[v,.string s,w] h (fun r h'=>PutR h' r l s y) NP:=by
 have kN:=fun {h} [Le h0 h]=>Named_spec (h:=h) (s:=s) (good:=putG y) hv
 have kL:=fun {h} [Le h0 h]=>eZ (h:=h) hw
 have kO:=fun(g:y.big=false) {h} [Le h0 h]=>RefOf (h:=h) hw g
 unfold PutR
 generalize hG:namE l s (putG y)=e at*
 obtain⟨a,c,rfl,hl,k⟩:=hv.side
 obtain⟨e1,e2,e3,e4,e5,e6,e7,e8,e9,e10,e11,e12,rfl,_,_⟩:=hw.sa
 cases hE0:decide (e=0) with
 | false=>
  have en:(e != 0)=true:=by simpa using of_decide_eq_false hE0
  cases hbig:y.big with
  | true=>
   rw[hbig] at kL
   unfold putG at kN
   rw[hbig,Bool.not_true,Bool.false_and] at kN
   refine Spec.go [(11,.x),(13,.x)] Tryz.func10 rfl rfl (by kernel_rfl) fun C _=>?_
   try simp(maxSteps:=999999) (disch:=omega) only[go_sem,ξ,ζ]
   refine caN (by exact kL) ?_;rintro v1 h1 s1 rfl
   try simp(maxSteps:=999999) (disch:=omega) only[go_sem,ξ,ζ]
   refine caN (by exact kN) ?_;rintro v2 h2 s2 rfl
   try simp(maxSteps:=999999) (disch:=omega) only[go_sem,ξ,ζ,en]
   all_goals rfl
  | false=>
   rw[hbig] at kL
   unfold putG at kN
   rw[hbig,Bool.not_false,Bool.true_and] at kN
   refine Spec.go [(11,.x),(13,.x)] Tryz.func10 rfl rfl (by kernel_rfl) fun C _=>?_
   try simp(maxSteps:=999999) (disch:=omega) only[go_sem,ξ,ζ]
   refine caN (by exact kL) ?_;rintro v1 h1 s1 rfl
   try simp(maxSteps:=999999) (disch:=omega) only[go_sem,ξ,ζ]
   refine caN (by exact kO hbig) ?_;rintro _ h2 _ f2;obtain⟨_,_,_,_,_,_,_,_,_,_,_,_,_,_,rfl,f2⟩:=f2.sa
   try simp(maxSteps:=999999) (disch:=omega) only[go_sem,ξ,ζ]
   refine caN (by exact kN) ?_;rintro v3 h3 s3 rfl
   try simp(maxSteps:=999999) (disch:=omega) only[go_sem,ξ,ζ,en]
   all_goals rfl
 | true=>
  obtain rfl:e=0:=of_decide_eq_true hE0
  have h6:=namE_six hG
  have hgood:=namE_good hG
  have hg2:=hgood
  unfold putG at hg2
  rw[φ,Bool.not_eq_true',Bool.not_eq_true'] at hg2
  obtain⟨hbig,hvoid⟩:=hg2
  rw[hbig] at kL
  rw[hgood] at kN
  refine Spec.go [(11,.x),(13,.x)] Tryz.func10 rfl rfl (by kernel_rfl) fun C _=>?_
  try simp(maxSteps:=999999) (disch:=omega) only[go_sem,ξ,ζ]
  refine caN (by exact kL) ?_;rintro v1 h1 s1 rfl
  try simp(maxSteps:=999999) (disch:=omega) only[go_sem,ξ,ζ]
  refine caN (by exact kO hbig) ?_;rintro _ h2 _ f2;obtain⟨_,_,_,_,_,_,_,_,_,_,_,_,_,_,rfl,f2⟩:=f2.sa
  try simp(maxSteps:=999999) (disch:=omega) only[go_sem,ξ,ζ,hvoid]
  refine caN (by exact kN) ?_;rintro v3 h3 s3 rfl
  try simp(maxSteps:=999999) (disch:=omega) only[go_sem,ξ,ζ]
  refine lpSl [(11,.x),(13,.x)] (fun x:Option (Nat×Nat×List Value)=>match x with |none=>⟨[(1,.v (.string s)),(5,.p 0 0),(10,.v (.slice none 0 0)),(29,.v (.slice a l.length c)),(30,.v (.int .i64 l.length)),(31,.v (.int .i64 0))],[[.bool y.n1,.slice e1 e2 e3,.slice e4 e5 e6,.bool y.n2,.slice e7 e8 e9,.slice e10 e11 e12,.bool y.l,.bool y.u]]⟩ |some x=>⟨[(1,.v (.string s)),(5,.p 0 0),(10,.s 1 0 x.1 x.2.1),(29,.v (.slice a l.length c)),(30,.v (.int .i64 l.length)),(31,.v (.int .i64 x.1))],[[.bool y.n1,.slice e1 e2 e3,.slice e4 e5 e6,.bool y.n2,.slice e7 e8 e9,.slice e10 e11 e12,.bool y.l,.bool y.u],x.2.2]⟩) (fun x h'=>Le h0 h'∧match x with |none=>True |some x=>1≤x.1∧x.1≤l.length∧x.1≤x.2.1∧x.2.1*9=x.2.2.length∧RowOf 9 (Qs h') x.2.2 ((l.take x.1).map (putS s y))) (fun x=>match x with |none=>l.length |some x=>l.length - x.1) none [0] ?_ ⟨inferInstance,trivial⟩ (by kernel_rfl) ?_
  ·try simp(maxSteps:=999999) (disch:=omega) only[go_sem,ξ,ζ]
   all_goals rfl
  rintro(_ |⟨i,cap,row⟩) h2 ⟨le2,hr0⟩
  ·dsimp only
   by_cases hlt:(0:Int) < (l.length:Int)
   ·obtain⟨x,hx⟩:∃x,l[0]?=some x:=⟨_,List.getElem?_eq_getElem (by omega)⟩
    obtain⟨ad,a1,m1,c1,a2,m2,c2,a3,m3,c3,a4,m4,c4,rfl,hat,r1,r2,hiv⟩:=k 0 x hx
    try simp(maxSteps:=999999) (disch:=omega) only[go_sem,ξ,ζ,hlt,decide_true]
    refine Exists.intro [_,_,_,_,_,_,_,_,_] (And.intro rfl (And.intro (fun j v hj=>le2.sub.at (hat j v hj)) ?_))
    try simp(maxSteps:=999999) (disch:=omega) only[go_sem,ξ,ζ]
    cases hE:(x.1.toList == s.toList) with
    | true=>
     have eP:putS s y x=(x.1,y.set.ri):=by unfold putS;rw[hE];rfl
     try simp(maxSteps:=999999) (disch:=omega) only[go_sem,ξ,ζ,hE]
     refine caN (by exact RefOf (hw.to (h':=h2)) hbig) ?_;rintro _ h3 _ f3;obtain⟨_,_,_,_,_,_,_,_,_,_,_,_,_,_,rfl,f3⟩:=f3.sa
     try simp(maxSteps:=999999) (disch:=omega) only[go_sem,ξ,ζ]
     refine caN (by exact jp f3 ((RI.le hbig).up (by decide))) ?_;rintro u5 h4 s4 f4;obtain⟨x1,x2,x3,x4,x5,x6,x7,x8,x9,x10,x11,x12,x13,x14,x15,x16,rfl,f4⟩:=f4.sa
     try simp(maxSteps:=999999) (disch:=omega) only[go_sem,ξ,ζ]
     refine apO (sz:=9) [0,1,2] 3 [4] rfl (by kernel_rfl) (by kernel_rfl) (by kernel_rfl) (by decide) (by kernel_rfl) (by kernel_rfl) ?_
     try simp(maxSteps:=999999) (disch:=omega) only[go_sem,ξ,ζ,appN,Nat.reduceMul]
     intro cap junk hc hj
     have hR:RowOf 9 (Qs h4) ([.string x.1,.bool x1,.slice x2 x3 x4,.slice x5 x6 x7,.bool x8,.slice x9 x10 x11,.slice x12 x13 x14,.bool x15,.bool x16] ++junk) ((l.take (0+1)).map (putS s y)):=by
      rw[map_take hx,eP]
      exact(RowOf.nil (sz:=9) (Q:=Qs h4) (row:=[])).app (cs:=[.string x.1,.bool x1,.slice x2 x3 x4,.slice x5 x6 x7,.bool x8,.slice x9 x10 x11,.slice x12 x13 x14,.bool x15,.bool x16]) (s:=(x.1,y.set.ri)) rfl ⟨_,rfl,rfl,f4.iv (RI.le hbig)⟩ junk
     dsimp only[lpS]
     refine⟨some (1,cap,[.string x.1,.bool x1,.slice x2 x3 x4,.slice x5 x6 x7,.bool x8,.slice x9 x10 x11,.slice x12 x13 x14,.bool x15,.bool x16] ++junk),[0,3],?_,⟨inferInstance,η 1,by show 1≤l.length;omega,hc,by simp;omega,hR⟩,by show l.length - 1 < l.length;omega⟩
     try simp(maxSteps:=999999) (disch:=omega) only[go_sem,ξ,ζ]
     all_goals rfl
    | false=>
     have eP:putS s y x=x:=by unfold putS;rw[hE];rfl
     try simp(maxSteps:=999999) (disch:=omega) only[go_sem,ξ,ζ,hE]
     refine apO (sz:=9) [0,1,2] 3 [4] rfl (by kernel_rfl) (by kernel_rfl) (by kernel_rfl) (by decide) (by kernel_rfl) (by kernel_rfl) ?_
     try simp(maxSteps:=999999) (disch:=omega) only[go_sem,ξ,ζ,appN,Nat.reduceMul]
     intro cap junk hc hj
     have hR:RowOf 9 (Qs h2) ([.string x.1,.bool x.2.n1,.slice a1 m1 c1,.slice a2 m2 c2,.bool x.2.n2,.slice a3 m3 c3,.slice a4 m4 c4,.bool x.2.l,.bool x.2.u] ++junk) ((l.take (0+1)).map (putS s y)):=by
      rw[map_take hx,eP]
      exact(RowOf.nil (sz:=9) (Q:=Qs h2) (row:=[])).app (cs:=[.string x.1,.bool x.2.n1,.slice a1 m1 c1,.slice a2 m2 c2,.bool x.2.n2,.slice a3 m3 c3,.slice a4 m4 c4,.bool x.2.l,.bool x.2.u]) rfl ⟨_,rfl,rfl,hiv.to⟩ junk
     dsimp only[lpS]
     refine⟨some (1,cap,[.string x.1,.bool x.2.n1,.slice a1 m1 c1,.slice a2 m2 c2,.bool x.2.n2,.slice a3 m3 c3,.slice a4 m4 c4,.bool x.2.l,.bool x.2.u] ++junk),[0,3],?_,⟨inferInstance,η 1,by show 1≤l.length;omega,hc,by simp;omega,hR⟩,by show l.length - 1 < l.length;omega⟩
     try simp(maxSteps:=999999) (disch:=omega) only[go_sem,ξ,ζ]
     all_goals rfl
   ·try simp(maxSteps:=999999) (disch:=omega) only[go_sem,ξ,ζ,hlt,decide_false]
    refine rn [] (by kernel_rfl) ?_
    try simp(maxSteps:=999999) (disch:=omega) only[go_sem,ξ,ζ]
    have e:l=[]:=List.length_eq_zero_iff.1 (by omega)
    subst e
    exact⟨_,rfl,Bxr.nil _⟩
  ·obtain⟨g1,g2,g3,g4,g5⟩:=hr0
   dsimp only at g1 g2 g3 g4 g5 ⊢
   by_cases hlt:(i:Int) < (l.length:Int)
   ·obtain⟨x,hx⟩:∃x,l[i]?=some x:=⟨_,List.getElem?_eq_getElem (by omega)⟩
    obtain⟨ad,a1,m1,c1,a2,m2,c2,a3,m3,c3,a4,m4,c4,rfl,hat,r1,r2,hiv⟩:=k i x hx
    try simp(maxSteps:=999999) (disch:=omega) only[go_sem,ξ,ζ,hlt,decide_true]
    refine Exists.intro [_,_,_,_,_,_,_,_,_] (And.intro rfl (And.intro (fun j v hj=>le2.sub.at (hat j v hj)) ?_))
    try simp(maxSteps:=999999) (disch:=omega) only[go_sem,ξ,ζ]
    cases hE:(x.1.toList == s.toList) with
    | true=>
     have eP:putS s y x=(x.1,y.set.ri):=by unfold putS;rw[hE];rfl
     try simp(maxSteps:=999999) (disch:=omega) only[go_sem,ξ,ζ,hE]
     refine caN (by exact RefOf (hw.to (h':=h2)) hbig) ?_;rintro _ h3 _ f3;obtain⟨_,_,_,_,_,_,_,_,_,_,_,_,_,_,rfl,f3⟩:=f3.sa
     try simp(maxSteps:=999999) (disch:=omega) only[go_sem,ξ,ζ]
     refine caN (by exact jp f3 ((RI.le hbig).up (by decide))) ?_;rintro u5 h4 s4 f4;obtain⟨x1,x2,x3,x4,x5,x6,x7,x8,x9,x10,x11,x12,x13,x14,x15,x16,rfl,f4⟩:=f4.sa
     try simp(maxSteps:=999999) (disch:=omega) only[go_sem,ξ,ζ]
     refine apO (sz:=9) [0,1,2] 3 [4] rfl (by kernel_rfl) (by kernel_rfl) (by kernel_rfl) (by decide) (by kernel_rfl) (by kernel_rfl) ?_
     try simp(maxSteps:=999999) (disch:=omega) only[go_sem,ξ,ζ,appN,Nat.reduceMul]
     intro cap' junk hc hj
     have hR:RowOf 9 (Qs h4) (row.take (i*9) ++[.string x.1,.bool x1,.slice x2 x3 x4,.slice x5 x6 x7,.bool x8,.slice x9 x10 x11,.slice x12 x13 x14,.bool x15,.bool x16] ++junk) ((l.take (i+1)).map (putS s y)):=by
      rw[map_take hx,eP]
      have:=(g5.mono fun cs s' (q:Qs h2 cs s')=>(q.to:Qs h4 cs s')).app (cs:=[.string x.1,.bool x1,.slice x2 x3 x4,.slice x5 x6 x7,.bool x8,.slice x9 x10 x11,.slice x12 x13 x14,.bool x15,.bool x16]) (s:=(x.1,y.set.ri)) rfl ⟨_,rfl,rfl,f4.iv (RI.le hbig)⟩ junk
      rw[List.length_map,List.length_take,Nat.min_eq_left (by omega)] at this
      exact this
     dsimp only[lpS]
     refine⟨some (i+1,cap',row.take (i*9) ++[.string x.1,.bool x1,.slice x2 x3 x4,.slice x5 x6 x7,.bool x8,.slice x9 x10 x11,.slice x12 x13 x14,.bool x15,.bool x16] ++junk),[0,4],?_,⟨inferInstance,by show 1≤i+1;omega,by show i+1≤_;omega,hc,by simp;omega,hR⟩,by show l.length - (i+1) < l.length - i;omega⟩
     try simp(maxSteps:=999999) (disch:=omega) only[go_sem,ξ,ζ]
     all_goals rfl
    | false=>
     have eP:putS s y x=x:=by unfold putS;rw[hE];rfl
     try simp(maxSteps:=999999) (disch:=omega) only[go_sem,ξ,ζ,hE]
     refine apO (sz:=9) [0,1,2] 3 [4] rfl (by kernel_rfl) (by kernel_rfl) (by kernel_rfl) (by decide) (by kernel_rfl) (by kernel_rfl) ?_
     try simp(maxSteps:=999999) (disch:=omega) only[go_sem,ξ,ζ,appN,Nat.reduceMul]
     intro cap' junk hc hj
     have hR:RowOf 9 (Qs h2) (row.take (i*9) ++[.string x.1,.bool x.2.n1,.slice a1 m1 c1,.slice a2 m2 c2,.bool x.2.n2,.slice a3 m3 c3,.slice a4 m4 c4,.bool x.2.l,.bool x.2.u] ++junk) ((l.take (i+1)).map (putS s y)):=by
      rw[map_take hx,eP]
      have:=(g5.mono fun cs s' (q:Qs h2 cs s')=>(q.to:Qs h2 cs s')).app (cs:=[.string x.1,.bool x.2.n1,.slice a1 m1 c1,.slice a2 m2 c2,.bool x.2.n2,.slice a3 m3 c3,.slice a4 m4 c4,.bool x.2.l,.bool x.2.u]) rfl ⟨_,rfl,rfl,hiv.to⟩ junk
      rw[List.length_map,List.length_take,Nat.min_eq_left (by omega)] at this
      exact this
     dsimp only[lpS]
     refine⟨some (i+1,cap',row.take (i*9) ++[.string x.1,.bool x.2.n1,.slice a1 m1 c1,.slice a2 m2 c2,.bool x.2.n2,.slice a3 m3 c3,.slice a4 m4 c4,.bool x.2.l,.bool x.2.u] ++junk),[0,4],?_,⟨inferInstance,by show 1≤i+1;omega,by show i+1≤_;omega,hc,by simp;omega,hR⟩,by show l.length - (i+1) < l.length - i;omega⟩
     try simp(maxSteps:=999999) (disch:=omega) only[go_sem,ξ,ζ]
     all_goals rfl
   ·obtain rfl:i=l.length:=by omega
    rw[List.take_length] at g5
    try simp(maxSteps:=999999) (disch:=omega) only[go_sem,ξ,ζ,hlt,decide_false]
    refine rn [(13,.t (.p 1 (.s [0,1,2] .d)))] (by kernel_rfl) ?_
    try simp(maxSteps:=999999) (disch:=omega) only[go_sem,ξ,ζ]
    intro b h3 st3 hb
    try simp(maxSteps:=999999) (disch:=omega) only[go_sem,ξ,ζ]
    have hb:=hb (fun e=>by rw[e] at g4;simp at g4;omega)
    have:=Bxr.of (c:=cap) hb (g5.mono fun cs s' (q:Qs h2 cs s')=>(q.to:Qs h3 cs s'))
    rw[List.length_map] at this
    exact⟨_,rfl,this⟩
end Go.Q
