/-
  Contracts of package interval, and what stands on it. Conditions: each theorem's own.
-/
import Derived.Test.YtgmcchhklbeckaaGreatDoorKf08e96PkG
import Derived.Test.YtgmcchhklbeckaaGreatDoorK745974PkM
import Derived.Test.YtgmcchhklbeckaaGreatDoorK6145e3PkL
set_option linter.unusedVariables false
set_option linter.unusedSimpArgs false
open Nat renaming reduceBEq→ξ,reduceAdd→ζ
open Bool renaming and_eq_true→φ,false_eq_true→qAw
open Rat renaming le_trans→qAq,div_def→qAx
namespace Go.Q
open Go.Proofs
set_option maxRecDepth 100000
set_option maxHeartbeats 4000000
theorem mz {a b:Rat} {p:Prop} (h1:b < a→p) (h2:¬b < a→p):p:=by
 by_cases h:b < a
 ·exact h1 h
 ·exact h2 h
theorem met_1 {h0 h:PH} [Le h0 h] {v w:Value} (hs:Sd h0 v (.i none none)) (ht:Sd h0 w (.i none none)) (ls:NS.le (2^30) (.i none none)) (lt:NS.le (2^30) (.i none none)):
  Spec mach 114 #[v,w] h (fun v h'=>Sn h' v (NS.met (.i none none) (.i none none))) NP:=by
 obtain⟨b1,a1,m1,c1,a2,m2,c2,b2,a3,m3,c3,a4,m4,c4,rfl,h1,h2⟩:=Sn.ie hs
 rw[NS.le_i] at ls
 obtain⟨b1',a1',m1',c1',a2',m2',c2',b2',a3',m3',c3',a4',m4',c4',rfl,h3,h4⟩:=Sn.ie ht
 rw[NS.le_i] at lt
 try dsimp only[Option.isNone]
 refine Spec.go [] Tryz.func114 rfl rfl (by kernel_rfl) fun C _=>?_
 try simp(maxSteps:=999999) (disch:=omega) only[go_sem,ξ,ζ]
 exact⟨_,_,_,_,_,_,rfl,h3.to,h4.to⟩
theorem met_2 {h0 h:PH} [Le h0 h] {v w:Value} {d:Rat} (hs:Sd h0 v (.i none none)) (ht:Sd h0 w (.i none (some d))) (ls:NS.le (2^30) (.i none none)) (lt:NS.le (2^30) (.i none (some d))):
  Spec mach 114 #[v,w] h (fun v h'=>Sn h' v (NS.met (.i none none) (.i none (some d)))) NP:=by
 obtain⟨b1,a1,m1,c1,a2,m2,c2,b2,a3,m3,c3,a4,m4,c4,rfl,h1,h2⟩:=Sn.ie hs
 rw[NS.le_i] at ls
 obtain⟨b1',a1',m1',c1',a2',m2',c2',b2',a3',m3',c3',a4',m4',c4',rfl,h3,h4⟩:=Sn.ie ht
 rw[NS.le_i] at lt
 have z4:=lt.2 _ rfl
 try dsimp only[Option.isNone]
 refine Spec.go [] Tryz.func114 rfl rfl (by kernel_rfl) fun C _=>?_
 try simp(maxSteps:=999999) (disch:=omega) only[go_sem,ξ,ζ]
 exact⟨_,_,_,_,_,_,rfl,h3.to,h4.to⟩
theorem met_3 {h0 h:PH} [Le h0 h] {v w:Value} {c:Rat} (hs:Sd h0 v (.i none none)) (ht:Sd h0 w (.i (some c) none)) (ls:NS.le (2^30) (.i none none)) (lt:NS.le (2^30) (.i (some c) none)):
  Spec mach 114 #[v,w] h (fun v h'=>Sn h' v (NS.met (.i none none) (.i (some c) none))) NP:=by
 obtain⟨b1,a1,m1,c1,a2,m2,c2,b2,a3,m3,c3,a4,m4,c4,rfl,h1,h2⟩:=Sn.ie hs
 rw[NS.le_i] at ls
 obtain⟨b1',a1',m1',c1',a2',m2',c2',b2',a3',m3',c3',a4',m4',c4',rfl,h3,h4⟩:=Sn.ie ht
 rw[NS.le_i] at lt
 have z3:=lt.1 _ rfl
 try dsimp only[Option.isNone]
 refine Spec.go [] Tryz.func114 rfl rfl (by kernel_rfl) fun C _=>?_
 try simp(maxSteps:=999999) (disch:=omega) only[go_sem,ξ,ζ]
 exact⟨_,_,_,_,_,_,rfl,h3.to,h4.to⟩
theorem met_4 {h0 h:PH} [Le h0 h] {v w:Value} {c d:Rat} (hs:Sd h0 v (.i none none)) (ht:Sd h0 w (.i (some c) (some d))) (ls:NS.le (2^30) (.i none none)) (lt:NS.le (2^30) (.i (some c) (some d))):
  Spec mach 114 #[v,w] h (fun v h'=>Sn h' v (NS.met (.i none none) (.i (some c) (some d)))) NP:=by
 obtain⟨b1,a1,m1,c1,a2,m2,c2,b2,a3,m3,c3,a4,m4,c4,rfl,h1,h2⟩:=Sn.ie hs
 rw[NS.le_i] at ls
 obtain⟨b1',a1',m1',c1',a2',m2',c2',b2',a3',m3',c3',a4',m4',c4',rfl,h3,h4⟩:=Sn.ie ht
 rw[NS.le_i] at lt
 have z3:=lt.1 _ rfl
 have z4:=lt.2 _ rfl
 try dsimp only[Option.isNone]
 refine Spec.go [] Tryz.func114 rfl rfl (by kernel_rfl) fun C _=>?_
 try simp(maxSteps:=999999) (disch:=omega) only[go_sem,ξ,ζ]
 refine caN (by exact dq h3.num h4.num (up36 (z3)) (up36 (z4))) ?_;rintro vc hc sc rfl
 try simp(maxSteps:=999999) (disch:=omega) only[go_sem,ξ,ζ]
 refine mz (a:=c) (b:=d) (fun hlt=>?_) (fun hle=>?_)
 ·have e1:0 < cmpQ c d:=by unfold cmpQ;grind
  try simp(maxSteps:=999999) (disch:=omega) only[go_sem,ξ,ζ]
  have eq:NS.met (.i none none) (.i (some c) (some d))=.e:=by simp[NS.met,omax,omin,NS.mk',ordO,hlt]
  rw[eq]
  exact⟨_,_,_,_,_,_,_,_,rfl,h3.junk.to,h4.junk.to⟩
 ·have e1:¬0 < cmpQ c d:=by unfold cmpQ;grind
  try simp(maxSteps:=999999) (disch:=omega) only[go_sem,ξ,ζ]
  have eq:NS.met (.i none none) (.i (some c) (some d))=.i (some c) (some d):=by simp[NS.met,omax,omin,NS.mk',ordO,hle]
  rw[eq]
  exact⟨_,_,_,_,_,_,rfl,h3.to,h4.to⟩
theorem met_5 {h0 h:PH} [Le h0 h] {v w:Value} (hs:Sd h0 v (.i none none)) (ht:Sd h0 w .e) (ls:NS.le (2^30) (.i none none)) (lt:NS.le (2^30) .e):
  Spec mach 114 #[v,w] h (fun v h'=>Sn h' v (NS.met (.i none none) .e)) NP:=by
 obtain⟨b1,a1,m1,c1,a2,m2,c2,b2,a3,m3,c3,a4,m4,c4,rfl,h1,h2⟩:=Sn.ie hs
 rw[NS.le_i] at ls
 obtain⟨b1',a1',m1',c1',a2',m2',c2',b2',a3',m3',c3',a4',m4',c4',c,d,rfl,h3,h4,z3,z4⟩:=ht.ee
 try dsimp only[Option.isNone]
 refine Spec.go [] Tryz.func114 rfl rfl (by kernel_rfl) fun C _=>?_
 try simp(maxSteps:=999999) (disch:=omega) only[go_sem,ξ,ζ]
 exact⟨_,_,_,_,_,_,_,_,rfl,h3.junk.to,h4.junk.to⟩
theorem met_6 {h0 h:PH} [Le h0 h] {v w:Value} {b:Rat} (hs:Sd h0 v (.i none (some b))) (ht:Sd h0 w (.i none none)) (ls:NS.le (2^30) (.i none (some b))) (lt:NS.le (2^30) (.i none none)):
  Spec mach 114 #[v,w] h (fun v h'=>Sn h' v (NS.met (.i none (some b)) (.i none none))) NP:=by
 obtain⟨b1,a1,m1,c1,a2,m2,c2,b2,a3,m3,c3,a4,m4,c4,rfl,h1,h2⟩:=Sn.ie hs
 rw[NS.le_i] at ls
 have z2:=ls.2 _ rfl
 obtain⟨b1',a1',m1',c1',a2',m2',c2',b2',a3',m3',c3',a4',m4',c4',rfl,h3,h4⟩:=Sn.ie ht
 rw[NS.le_i] at lt
 try dsimp only[Option.isNone]
 refine Spec.go [] Tryz.func114 rfl rfl (by kernel_rfl) fun C _=>?_
 try simp(maxSteps:=999999) (disch:=omega) only[go_sem,ξ,ζ]
 exact⟨_,_,_,_,_,_,rfl,h3.to,h2.to⟩
theorem met_7 {h0 h:PH} [Le h0 h] {v w:Value} {b d:Rat} (hs:Sd h0 v (.i none (some b))) (ht:Sd h0 w (.i none (some d))) (ls:NS.le (2^30) (.i none (some b))) (lt:NS.le (2^30) (.i none (some d))):
  Spec mach 114 #[v,w] h (fun v h'=>Sn h' v (NS.met (.i none (some b)) (.i none (some d)))) NP:=by
 obtain⟨b1,a1,m1,c1,a2,m2,c2,b2,a3,m3,c3,a4,m4,c4,rfl,h1,h2⟩:=Sn.ie hs
 rw[NS.le_i] at ls
 have z2:=ls.2 _ rfl
 obtain⟨b1',a1',m1',c1',a2',m2',c2',b2',a3',m3',c3',a4',m4',c4',rfl,h3,h4⟩:=Sn.ie ht
 rw[NS.le_i] at lt
 have z4:=lt.2 _ rfl
 try dsimp only[Option.isNone]
 refine Spec.go [] Tryz.func114 rfl rfl (by kernel_rfl) fun C _=>?_
 try simp(maxSteps:=999999) (disch:=omega) only[go_sem,ξ,ζ]
 refine caN (by exact dP h2.num h4.num (up36 z2) (up36 z4)) ?_;rintro _ g2 _ f2;obtain⟨_,_,_,_,_,_,_,rfl,f2⟩:=f2.sa
 try simp(maxSteps:=999999) (disch:=omega) only[go_sem,ξ,ζ]
 exact⟨_,_,_,_,_,_,rfl,h3.to,(En.of f2).to⟩
theorem met_8 {h0 h:PH} [Le h0 h] {v w:Value} {b c:Rat} (hs:Sd h0 v (.i none (some b))) (ht:Sd h0 w (.i (some c) none)) (ls:NS.le (2^30) (.i none (some b))) (lt:NS.le (2^30) (.i (some c) none)):
  Spec mach 114 #[v,w] h (fun v h'=>Sn h' v (NS.met (.i none (some b)) (.i (some c) none))) NP:=by
 obtain⟨b1,a1,m1,c1,a2,m2,c2,b2,a3,m3,c3,a4,m4,c4,rfl,h1,h2⟩:=Sn.ie hs
 rw[NS.le_i] at ls
 have z2:=ls.2 _ rfl
 obtain⟨b1',a1',m1',c1',a2',m2',c2',b2',a3',m3',c3',a4',m4',c4',rfl,h3,h4⟩:=Sn.ie ht
 rw[NS.le_i] at lt
 have z3:=lt.1 _ rfl
 try dsimp only[Option.isNone]
 refine Spec.go [] Tryz.func114 rfl rfl (by kernel_rfl) fun C _=>?_
 try simp(maxSteps:=999999) (disch:=omega) only[go_sem,ξ,ζ]
 refine caN (by exact dq h3.num h2.num (up36 (z3)) (up36 (z2))) ?_;rintro vc hc sc rfl
 try simp(maxSteps:=999999) (disch:=omega) only[go_sem,ξ,ζ]
 refine mz (a:=c) (b:=b) (fun hlt=>?_) (fun hle=>?_)
 ·have e1:0 < cmpQ c b:=by unfold cmpQ;grind
  try simp(maxSteps:=999999) (disch:=omega) only[go_sem,ξ,ζ]
  have eq:NS.met (.i none (some b)) (.i (some c) none)=.e:=by simp[NS.met,omax,omin,NS.mk',ordO,hlt]
  rw[eq]
  exact⟨_,_,_,_,_,_,_,_,rfl,h3.junk.to,h2.junk.to⟩
 ·have e1:¬0 < cmpQ c b:=by unfold cmpQ;grind
  try simp(maxSteps:=999999) (disch:=omega) only[go_sem,ξ,ζ]
  have eq:NS.met (.i none (some b)) (.i (some c) none)=.i (some c) (some b):=by simp[NS.met,omax,omin,NS.mk',ordO,hle]
  rw[eq]
  exact⟨_,_,_,_,_,_,rfl,h3.to,h2.to⟩
theorem met_9 {h0 h:PH} [Le h0 h] {v w:Value} {b c d:Rat} (hs:Sd h0 v (.i none (some b))) (ht:Sd h0 w (.i (some c) (some d))) (ls:NS.le (2^30) (.i none (some b))) (lt:NS.le (2^30) (.i (some c) (some d))):
  Spec mach 114 #[v,w] h (fun v h'=>Sn h' v (NS.met (.i none (some b)) (.i (some c) (some d)))) NP:=by
 obtain⟨b1,a1,m1,c1,a2,m2,c2,b2,a3,m3,c3,a4,m4,c4,rfl,h1,h2⟩:=Sn.ie hs
 rw[NS.le_i] at ls
 have z2:=ls.2 _ rfl
 obtain⟨b1',a1',m1',c1',a2',m2',c2',b2',a3',m3',c3',a4',m4',c4',rfl,h3,h4⟩:=Sn.ie ht
 rw[NS.le_i] at lt
 have z3:=lt.1 _ rfl
 have z4:=lt.2 _ rfl
 try dsimp only[Option.isNone]
 refine Spec.go [] Tryz.func114 rfl rfl (by kernel_rfl) fun C _=>?_
 try simp(maxSteps:=999999) (disch:=omega) only[go_sem,ξ,ζ]
 refine caN (by exact dP h2.num h4.num (up36 z2) (up36 z4)) ?_;rintro _ g2 _ f2;obtain⟨_,_,_,_,_,_,_,rfl,f2⟩:=f2.sa
 try simp(maxSteps:=999999) (disch:=omega) only[go_sem,ξ,ζ]
 refine caN (by exact dq (h3.num.to (h':=g2)) ((En.of f2).num.to (h':=g2)) (up36 (z3)) (up36 (py z2 z4))) ?_;rintro vc hc sc rfl
 try simp(maxSteps:=999999) (disch:=omega) only[go_sem,ξ,ζ]
 refine mz (a:=c) (b:=(min b d)) (fun hlt=>?_) (fun hle=>?_)
 ·have e1:0 < cmpQ c (min b d):=by unfold cmpQ;grind
  try simp(maxSteps:=999999) (disch:=omega) only[go_sem,ξ,ζ]
  have eq:NS.met (.i none (some b)) (.i (some c) (some d))=.e:=by simp[NS.met,omax,omin,NS.mk',ordO,hlt]
  rw[eq]
  exact⟨_,_,_,_,_,_,_,_,rfl,h3.junk.to,(En.of f2).junk.to⟩
 ·have e1:¬0 < cmpQ c (min b d):=by unfold cmpQ;grind
  try simp(maxSteps:=999999) (disch:=omega) only[go_sem,ξ,ζ]
  have eq:NS.met (.i none (some b)) (.i (some c) (some d))=.i (some c) (some (min b d)):=by simp[NS.met,omax,omin,NS.mk',ordO,hle]
  rw[eq]
  exact⟨_,_,_,_,_,_,rfl,h3.to,(En.of f2).to⟩
theorem met_10 {h0 h:PH} [Le h0 h] {v w:Value} {b:Rat} (hs:Sd h0 v (.i none (some b))) (ht:Sd h0 w .e) (ls:NS.le (2^30) (.i none (some b))) (lt:NS.le (2^30) .e):
  Spec mach 114 #[v,w] h (fun v h'=>Sn h' v (NS.met (.i none (some b)) .e)) NP:=by
 obtain⟨b1,a1,m1,c1,a2,m2,c2,b2,a3,m3,c3,a4,m4,c4,rfl,h1,h2⟩:=Sn.ie hs
 rw[NS.le_i] at ls
 have z2:=ls.2 _ rfl
 obtain⟨b1',a1',m1',c1',a2',m2',c2',b2',a3',m3',c3',a4',m4',c4',c,d,rfl,h3,h4,z3,z4⟩:=ht.ee
 try dsimp only[Option.isNone]
 refine Spec.go [] Tryz.func114 rfl rfl (by kernel_rfl) fun C _=>?_
 try simp(maxSteps:=999999) (disch:=omega) only[go_sem,ξ,ζ]
 refine caN (by exact dP h2.num h4.num (up36 z2) (up36 z4)) ?_;rintro _ g2 _ f2;obtain⟨_,_,_,_,_,_,_,rfl,f2⟩:=f2.sa
 try simp(maxSteps:=999999) (disch:=omega) only[go_sem,ξ,ζ]
 exact⟨_,_,_,_,_,_,_,_,rfl,h3.junk.to,(En.of f2).junk.to⟩
theorem met_11 {h0 h:PH} [Le h0 h] {v w:Value} {a:Rat} (hs:Sd h0 v (.i (some a) none)) (ht:Sd h0 w (.i none none)) (ls:NS.le (2^30) (.i (some a) none)) (lt:NS.le (2^30) (.i none none)):
  Spec mach 114 #[v,w] h (fun v h'=>Sn h' v (NS.met (.i (some a) none) (.i none none))) NP:=by
 obtain⟨b1,a1,m1,c1,a2,m2,c2,b2,a3,m3,c3,a4,m4,c4,rfl,h1,h2⟩:=Sn.ie hs
 rw[NS.le_i] at ls
 have z1:=ls.1 _ rfl
 obtain⟨b1',a1',m1',c1',a2',m2',c2',b2',a3',m3',c3',a4',m4',c4',rfl,h3,h4⟩:=Sn.ie ht
 rw[NS.le_i] at lt
 try dsimp only[Option.isNone]
 refine Spec.go [] Tryz.func114 rfl rfl (by kernel_rfl) fun C _=>?_
 try simp(maxSteps:=999999) (disch:=omega) only[go_sem,ξ,ζ]
 exact⟨_,_,_,_,_,_,rfl,h1.to,h4.to⟩
theorem met_12 {h0 h:PH} [Le h0 h] {v w:Value} {a d:Rat} (hs:Sd h0 v (.i (some a) none)) (ht:Sd h0 w (.i none (some d))) (ls:NS.le (2^30) (.i (some a) none)) (lt:NS.le (2^30) (.i none (some d))):
  Spec mach 114 #[v,w] h (fun v h'=>Sn h' v (NS.met (.i (some a) none) (.i none (some d)))) NP:=by
 obtain⟨b1,a1,m1,c1,a2,m2,c2,b2,a3,m3,c3,a4,m4,c4,rfl,h1,h2⟩:=Sn.ie hs
 rw[NS.le_i] at ls
 have z1:=ls.1 _ rfl
 obtain⟨b1',a1',m1',c1',a2',m2',c2',b2',a3',m3',c3',a4',m4',c4',rfl,h3,h4⟩:=Sn.ie ht
 rw[NS.le_i] at lt
 have z4:=lt.2 _ rfl
 try dsimp only[Option.isNone]
 refine Spec.go [] Tryz.func114 rfl rfl (by kernel_rfl) fun C _=>?_
 try simp(maxSteps:=999999) (disch:=omega) only[go_sem,ξ,ζ]
 refine caN (by exact dq h1.num h4.num (up36 (z1)) (up36 (z4))) ?_;rintro vc hc sc rfl
 try simp(maxSteps:=999999) (disch:=omega) only[go_sem,ξ,ζ]
 refine mz (a:=a) (b:=d) (fun hlt=>?_) (fun hle=>?_)
 ·have e1:0 < cmpQ a d:=by unfold cmpQ;grind
  try simp(maxSteps:=999999) (disch:=omega) only[go_sem,ξ,ζ]
  have eq:NS.met (.i (some a) none) (.i none (some d))=.e:=by simp[NS.met,omax,omin,NS.mk',ordO,hlt]
  rw[eq]
  exact⟨_,_,_,_,_,_,_,_,rfl,h1.junk.to,h4.junk.to⟩
 ·have e1:¬0 < cmpQ a d:=by unfold cmpQ;grind
  try simp(maxSteps:=999999) (disch:=omega) only[go_sem,ξ,ζ]
  have eq:NS.met (.i (some a) none) (.i none (some d))=.i (some a) (some d):=by simp[NS.met,omax,omin,NS.mk',ordO,hle]
  rw[eq]
  exact⟨_,_,_,_,_,_,rfl,h1.to,h4.to⟩
theorem met_13 {h0 h:PH} [Le h0 h] {v w:Value} {a c:Rat} (hs:Sd h0 v (.i (some a) none)) (ht:Sd h0 w (.i (some c) none)) (ls:NS.le (2^30) (.i (some a) none)) (lt:NS.le (2^30) (.i (some c) none)):
  Spec mach 114 #[v,w] h (fun v h'=>Sn h' v (NS.met (.i (some a) none) (.i (some c) none))) NP:=by
 obtain⟨b1,a1,m1,c1,a2,m2,c2,b2,a3,m3,c3,a4,m4,c4,rfl,h1,h2⟩:=Sn.ie hs
 rw[NS.le_i] at ls
 have z1:=ls.1 _ rfl
 obtain⟨b1',a1',m1',c1',a2',m2',c2',b2',a3',m3',c3',a4',m4',c4',rfl,h3,h4⟩:=Sn.ie ht
 rw[NS.le_i] at lt
 have z3:=lt.1 _ rfl
 try dsimp only[Option.isNone]
 refine Spec.go [] Tryz.func114 rfl rfl (by kernel_rfl) fun C _=>?_
 try simp(maxSteps:=999999) (disch:=omega) only[go_sem,ξ,ζ]
 refine caN (by exact cE h1.num h3.num (up36 z1) (up36 z3)) ?_;rintro _ g1 _ f1;obtain⟨_,_,_,_,_,_,_,rfl,f1⟩:=f1.sa
 try simp(maxSteps:=999999) (disch:=omega) only[go_sem,ξ,ζ]
 exact⟨_,_,_,_,_,_,rfl,(En.of f1).to,h4.to⟩
theorem met_14 {h0 h:PH} [Le h0 h] {v w:Value} {a c d:Rat} (hs:Sd h0 v (.i (some a) none)) (ht:Sd h0 w (.i (some c) (some d))) (ls:NS.le (2^30) (.i (some a) none)) (lt:NS.le (2^30) (.i (some c) (some d))):
  Spec mach 114 #[v,w] h (fun v h'=>Sn h' v (NS.met (.i (some a) none) (.i (some c) (some d)))) NP:=by
 obtain⟨b1,a1,m1,c1,a2,m2,c2,b2,a3,m3,c3,a4,m4,c4,rfl,h1,h2⟩:=Sn.ie hs
 rw[NS.le_i] at ls
 have z1:=ls.1 _ rfl
 obtain⟨b1',a1',m1',c1',a2',m2',c2',b2',a3',m3',c3',a4',m4',c4',rfl,h3,h4⟩:=Sn.ie ht
 rw[NS.le_i] at lt
 have z3:=lt.1 _ rfl
 have z4:=lt.2 _ rfl
 try dsimp only[Option.isNone]
 refine Spec.go [] Tryz.func114 rfl rfl (by kernel_rfl) fun C _=>?_
 try simp(maxSteps:=999999) (disch:=omega) only[go_sem,ξ,ζ]
 refine caN (by exact cE h1.num h3.num (up36 z1) (up36 z3)) ?_;rintro _ g1 _ f1;obtain⟨_,_,_,_,_,_,_,rfl,f1⟩:=f1.sa
 try simp(maxSteps:=999999) (disch:=omega) only[go_sem,ξ,ζ]
 refine caN (by exact dq ((En.of f1).num.to (h':=g1)) (h4.num.to (h':=g1)) (up36 (px z1 z3)) (up36 (z4))) ?_;rintro vc hc sc rfl
 try simp(maxSteps:=999999) (disch:=omega) only[go_sem,ξ,ζ]
 refine mz (a:=(max a c)) (b:=d) (fun hlt=>?_) (fun hle=>?_)
 ·have e1:0 < cmpQ (max a c) d:=by unfold cmpQ;grind
  try simp(maxSteps:=999999) (disch:=omega) only[go_sem,ξ,ζ]
  have eq:NS.met (.i (some a) none) (.i (some c) (some d))=.e:=by simp[NS.met,omax,omin,NS.mk',ordO,hlt]
  rw[eq]
  exact⟨_,_,_,_,_,_,_,_,rfl,(En.of f1).junk.to,h4.junk.to⟩
 ·have e1:¬0 < cmpQ (max a c) d:=by unfold cmpQ;grind
  try simp(maxSteps:=999999) (disch:=omega) only[go_sem,ξ,ζ]
  have eq:NS.met (.i (some a) none) (.i (some c) (some d))=.i (some (max a c)) (some d):=by simp[NS.met,omax,omin,NS.mk',ordO,hle]
  rw[eq]
  exact⟨_,_,_,_,_,_,rfl,(En.of f1).to,h4.to⟩
theorem met_15 {h0 h:PH} [Le h0 h] {v w:Value} {a:Rat} (hs:Sd h0 v (.i (some a) none)) (ht:Sd h0 w .e) (ls:NS.le (2^30) (.i (some a) none)) (lt:NS.le (2^30) .e):
  Spec mach 114 #[v,w] h (fun v h'=>Sn h' v (NS.met (.i (some a) none) .e)) NP:=by
 obtain⟨b1,a1,m1,c1,a2,m2,c2,b2,a3,m3,c3,a4,m4,c4,rfl,h1,h2⟩:=Sn.ie hs
 rw[NS.le_i] at ls
 have z1:=ls.1 _ rfl
 obtain⟨b1',a1',m1',c1',a2',m2',c2',b2',a3',m3',c3',a4',m4',c4',c,d,rfl,h3,h4,z3,z4⟩:=ht.ee
 try dsimp only[Option.isNone]
 refine Spec.go [] Tryz.func114 rfl rfl (by kernel_rfl) fun C _=>?_
 try simp(maxSteps:=999999) (disch:=omega) only[go_sem,ξ,ζ]
 refine caN (by exact cE h1.num h3.num (up36 z1) (up36 z3)) ?_;rintro _ g1 _ f1;obtain⟨_,_,_,_,_,_,_,rfl,f1⟩:=f1.sa
 try simp(maxSteps:=999999) (disch:=omega) only[go_sem,ξ,ζ]
 exact⟨_,_,_,_,_,_,_,_,rfl,(En.of f1).junk.to,h4.junk.to⟩
theorem met_16 {h0 h:PH} [Le h0 h] {v w:Value} {a b:Rat} (hs:Sd h0 v (.i (some a) (some b))) (ht:Sd h0 w (.i none none)) (ls:NS.le (2^30) (.i (some a) (some b))) (lt:NS.le (2^30) (.i none none)):
  Spec mach 114 #[v,w] h (fun v h'=>Sn h' v (NS.met (.i (some a) (some b)) (.i none none))) NP:=by
 obtain⟨b1,a1,m1,c1,a2,m2,c2,b2,a3,m3,c3,a4,m4,c4,rfl,h1,h2⟩:=Sn.ie hs
 rw[NS.le_i] at ls
 have z1:=ls.1 _ rfl
 have z2:=ls.2 _ rfl
 obtain⟨b1',a1',m1',c1',a2',m2',c2',b2',a3',m3',c3',a4',m4',c4',rfl,h3,h4⟩:=Sn.ie ht
 rw[NS.le_i] at lt
 try dsimp only[Option.isNone]
 refine Spec.go [] Tryz.func114 rfl rfl (by kernel_rfl) fun C _=>?_
 try simp(maxSteps:=999999) (disch:=omega) only[go_sem,ξ,ζ]
 refine caN (by exact dq h1.num h2.num (up36 (z1)) (up36 (z2))) ?_;rintro vc hc sc rfl
 try simp(maxSteps:=999999) (disch:=omega) only[go_sem,ξ,ζ]
 refine mz (a:=a) (b:=b) (fun hlt=>?_) (fun hle=>?_)
 ·have e1:0 < cmpQ a b:=by unfold cmpQ;grind
  try simp(maxSteps:=999999) (disch:=omega) only[go_sem,ξ,ζ]
  have eq:NS.met (.i (some a) (some b)) (.i none none)=.e:=by simp[NS.met,omax,omin,NS.mk',ordO,hlt]
  rw[eq]
  exact⟨_,_,_,_,_,_,_,_,rfl,h1.junk.to,h2.junk.to⟩
 ·have e1:¬0 < cmpQ a b:=by unfold cmpQ;grind
  try simp(maxSteps:=999999) (disch:=omega) only[go_sem,ξ,ζ]
  have eq:NS.met (.i (some a) (some b)) (.i none none)=.i (some a) (some b):=by simp[NS.met,omax,omin,NS.mk',ordO,hle]
  rw[eq]
  exact⟨_,_,_,_,_,_,rfl,h1.to,h2.to⟩
theorem met_17 {h0 h:PH} [Le h0 h] {v w:Value} {a b d:Rat} (hs:Sd h0 v (.i (some a) (some b))) (ht:Sd h0 w (.i none (some d))) (ls:NS.le (2^30) (.i (some a) (some b))) (lt:NS.le (2^30) (.i none (some d))):
  Spec mach 114 #[v,w] h (fun v h'=>Sn h' v (NS.met (.i (some a) (some b)) (.i none (some d)))) NP:=by
 obtain⟨b1,a1,m1,c1,a2,m2,c2,b2,a3,m3,c3,a4,m4,c4,rfl,h1,h2⟩:=Sn.ie hs
 rw[NS.le_i] at ls
 have z1:=ls.1 _ rfl
 have z2:=ls.2 _ rfl
 obtain⟨b1',a1',m1',c1',a2',m2',c2',b2',a3',m3',c3',a4',m4',c4',rfl,h3,h4⟩:=Sn.ie ht
 rw[NS.le_i] at lt
 have z4:=lt.2 _ rfl
 try dsimp only[Option.isNone]
 refine Spec.go [] Tryz.func114 rfl rfl (by kernel_rfl) fun C _=>?_
 try simp(maxSteps:=999999) (disch:=omega) only[go_sem,ξ,ζ]
 refine caN (by exact dP h2.num h4.num (up36 z2) (up36 z4)) ?_;rintro _ g2 _ f2;obtain⟨_,_,_,_,_,_,_,rfl,f2⟩:=f2.sa
 try simp(maxSteps:=999999) (disch:=omega) only[go_sem,ξ,ζ]
 refine caN (by exact dq (h1.num.to (h':=g2)) ((En.of f2).num.to (h':=g2)) (up36 (z1)) (up36 (py z2 z4))) ?_;rintro vc hc sc rfl
 try simp(maxSteps:=999999) (disch:=omega) only[go_sem,ξ,ζ]
 refine mz (a:=a) (b:=(min b d)) (fun hlt=>?_) (fun hle=>?_)
 ·have e1:0 < cmpQ a (min b d):=by unfold cmpQ;grind
  try simp(maxSteps:=999999) (disch:=omega) only[go_sem,ξ,ζ]
  have eq:NS.met (.i (some a) (some b)) (.i none (some d))=.e:=by simp[NS.met,omax,omin,NS.mk',ordO,hlt]
  rw[eq]
  exact⟨_,_,_,_,_,_,_,_,rfl,h1.junk.to,(En.of f2).junk.to⟩
 ·have e1:¬0 < cmpQ a (min b d):=by unfold cmpQ;grind
  try simp(maxSteps:=999999) (disch:=omega) only[go_sem,ξ,ζ]
  have eq:NS.met (.i (some a) (some b)) (.i none (some d))=.i (some a) (some (min b d)):=by simp[NS.met,omax,omin,NS.mk',ordO,hle]
  rw[eq]
  exact⟨_,_,_,_,_,_,rfl,h1.to,(En.of f2).to⟩
theorem met_18 {h0 h:PH} [Le h0 h] {v w:Value} {a b c:Rat} (hs:Sd h0 v (.i (some a) (some b))) (ht:Sd h0 w (.i (some c) none)) (ls:NS.le (2^30) (.i (some a) (some b))) (lt:NS.le (2^30) (.i (some c) none)):
  Spec mach 114 #[v,w] h (fun v h'=>Sn h' v (NS.met (.i (some a) (some b)) (.i (some c) none))) NP:=by
 obtain⟨b1,a1,m1,c1,a2,m2,c2,b2,a3,m3,c3,a4,m4,c4,rfl,h1,h2⟩:=Sn.ie hs
 rw[NS.le_i] at ls
 have z1:=ls.1 _ rfl
 have z2:=ls.2 _ rfl
 obtain⟨b1',a1',m1',c1',a2',m2',c2',b2',a3',m3',c3',a4',m4',c4',rfl,h3,h4⟩:=Sn.ie ht
 rw[NS.le_i] at lt
 have z3:=lt.1 _ rfl
 try dsimp only[Option.isNone]
 refine Spec.go [] Tryz.func114 rfl rfl (by kernel_rfl) fun C _=>?_
 try simp(maxSteps:=999999) (disch:=omega) only[go_sem,ξ,ζ]
 refine caN (by exact cE h1.num h3.num (up36 z1) (up36 z3)) ?_;rintro _ g1 _ f1;obtain⟨_,_,_,_,_,_,_,rfl,f1⟩:=f1.sa
 try simp(maxSteps:=999999) (disch:=omega) only[go_sem,ξ,ζ]
 refine caN (by exact dq ((En.of f1).num.to (h':=g1)) (h2.num.to (h':=g1)) (up36 (px z1 z3)) (up36 (z2))) ?_;rintro vc hc sc rfl
 try simp(maxSteps:=999999) (disch:=omega) only[go_sem,ξ,ζ]
 refine mz (a:=(max a c)) (b:=b) (fun hlt=>?_) (fun hle=>?_)
 ·have e1:0 < cmpQ (max a c) b:=by unfold cmpQ;grind
  try simp(maxSteps:=999999) (disch:=omega) only[go_sem,ξ,ζ]
  have eq:NS.met (.i (some a) (some b)) (.i (some c) none)=.e:=by simp[NS.met,omax,omin,NS.mk',ordO,hlt]
  rw[eq]
  exact⟨_,_,_,_,_,_,_,_,rfl,(En.of f1).junk.to,h2.junk.to⟩
 ·have e1:¬0 < cmpQ (max a c) b:=by unfold cmpQ;grind
  try simp(maxSteps:=999999) (disch:=omega) only[go_sem,ξ,ζ]
  have eq:NS.met (.i (some a) (some b)) (.i (some c) none)=.i (some (max a c)) (some b):=by simp[NS.met,omax,omin,NS.mk',ordO,hle]
  rw[eq]
  exact⟨_,_,_,_,_,_,rfl,(En.of f1).to,h2.to⟩
theorem met_19 {h0 h:PH} [Le h0 h] {v w:Value} {a b c d:Rat} (hs:Sd h0 v (.i (some a) (some b))) (ht:Sd h0 w (.i (some c) (some d))) (ls:NS.le (2^30) (.i (some a) (some b))) (lt:NS.le (2^30) (.i (some c) (some d))):
  Spec mach 114 #[v,w] h (fun v h'=>Sn h' v (NS.met (.i (some a) (some b)) (.i (some c) (some d)))) NP:=by
 obtain⟨b1,a1,m1,c1,a2,m2,c2,b2,a3,m3,c3,a4,m4,c4,rfl,h1,h2⟩:=Sn.ie hs
 rw[NS.le_i] at ls
 have z1:=ls.1 _ rfl
 have z2:=ls.2 _ rfl
 obtain⟨b1',a1',m1',c1',a2',m2',c2',b2',a3',m3',c3',a4',m4',c4',rfl,h3,h4⟩:=Sn.ie ht
 rw[NS.le_i] at lt
 have z3:=lt.1 _ rfl
 have z4:=lt.2 _ rfl
 try dsimp only[Option.isNone]
 refine Spec.go [] Tryz.func114 rfl rfl (by kernel_rfl) fun C _=>?_
 try simp(maxSteps:=999999) (disch:=omega) only[go_sem,ξ,ζ]
 refine caN (by exact cE h1.num h3.num (up36 z1) (up36 z3)) ?_;rintro _ g1 _ f1;obtain⟨_,_,_,_,_,_,_,rfl,f1⟩:=f1.sa
 try simp(maxSteps:=999999) (disch:=omega) only[go_sem,ξ,ζ]
 refine caN (by exact dP h2.num h4.num (up36 z2) (up36 z4)) ?_;rintro _ g2 _ f2;obtain⟨_,_,_,_,_,_,_,rfl,f2⟩:=f2.sa
 try simp(maxSteps:=999999) (disch:=omega) only[go_sem,ξ,ζ]
 refine caN (by exact dq ((En.of f1).num.to (h':=g2)) ((En.of f2).num.to (h':=g2)) (up36 (px z1 z3)) (up36 (py z2 z4))) ?_;rintro vc hc sc rfl
 try simp(maxSteps:=999999) (disch:=omega) only[go_sem,ξ,ζ]
 refine mz (a:=(max a c)) (b:=(min b d)) (fun hlt=>?_) (fun hle=>?_)
 ·have e1:0 < cmpQ (max a c) (min b d):=by unfold cmpQ;grind
  try simp(maxSteps:=999999) (disch:=omega) only[go_sem,ξ,ζ]
  have eq:NS.met (.i (some a) (some b)) (.i (some c) (some d))=.e:=by simp[NS.met,omax,omin,NS.mk',ordO,hlt]
  rw[eq]
  exact⟨_,_,_,_,_,_,_,_,rfl,(En.of f1).junk.to,(En.of f2).junk.to⟩
 ·have e1:¬0 < cmpQ (max a c) (min b d):=by unfold cmpQ;grind
  try simp(maxSteps:=999999) (disch:=omega) only[go_sem,ξ,ζ]
  have eq:NS.met (.i (some a) (some b)) (.i (some c) (some d))=.i (some (max a c)) (some (min b d)):=by simp[NS.met,omax,omin,NS.mk',ordO,hle]
  rw[eq]
  exact⟨_,_,_,_,_,_,rfl,(En.of f1).to,(En.of f2).to⟩
theorem met_20 {h0 h:PH} [Le h0 h] {v w:Value} {a b:Rat} (hs:Sd h0 v (.i (some a) (some b))) (ht:Sd h0 w .e) (ls:NS.le (2^30) (.i (some a) (some b))) (lt:NS.le (2^30) .e):
  Spec mach 114 #[v,w] h (fun v h'=>Sn h' v (NS.met (.i (some a) (some b)) .e)) NP:=by
 obtain⟨b1,a1,m1,c1,a2,m2,c2,b2,a3,m3,c3,a4,m4,c4,rfl,h1,h2⟩:=Sn.ie hs
 rw[NS.le_i] at ls
 have z1:=ls.1 _ rfl
 have z2:=ls.2 _ rfl
 obtain⟨b1',a1',m1',c1',a2',m2',c2',b2',a3',m3',c3',a4',m4',c4',c,d,rfl,h3,h4,z3,z4⟩:=ht.ee
 try dsimp only[Option.isNone]
 refine Spec.go [] Tryz.func114 rfl rfl (by kernel_rfl) fun C _=>?_
 try simp(maxSteps:=999999) (disch:=omega) only[go_sem,ξ,ζ]
 refine caN (by exact cE h1.num h3.num (up36 z1) (up36 z3)) ?_;rintro _ g1 _ f1;obtain⟨_,_,_,_,_,_,_,rfl,f1⟩:=f1.sa
 try simp(maxSteps:=999999) (disch:=omega) only[go_sem,ξ,ζ]
 refine caN (by exact dP h2.num h4.num (up36 z2) (up36 z4)) ?_;rintro _ g2 _ f2;obtain⟨_,_,_,_,_,_,_,rfl,f2⟩:=f2.sa
 try simp(maxSteps:=999999) (disch:=omega) only[go_sem,ξ,ζ]
 exact⟨_,_,_,_,_,_,_,_,rfl,(En.of f1).junk.to,(En.of f2).junk.to⟩
theorem met_21 {h0 h:PH} [Le h0 h] {v w:Value} (hs:Sd h0 v .e) (ht:Sd h0 w (.i none none)) (ls:NS.le (2^30) .e) (lt:NS.le (2^30) (.i none none)):
  Spec mach 114 #[v,w] h (fun v h'=>Sn h' v (NS.met .e (.i none none))) NP:=by
 obtain⟨b1,a1,m1,c1,a2,m2,c2,b2,a3,m3,c3,a4,m4,c4,a,b,rfl,h1,h2,z1,z2⟩:=hs.ee
 obtain⟨b1',a1',m1',c1',a2',m2',c2',b2',a3',m3',c3',a4',m4',c4',rfl,h3,h4⟩:=Sn.ie ht
 rw[NS.le_i] at lt
 try dsimp only[Option.isNone]
 refine Spec.go [] Tryz.func114 rfl rfl (by kernel_rfl) fun C _=>?_
 try simp(maxSteps:=999999) (disch:=omega) only[go_sem,ξ,ζ]
 exact⟨_,_,_,_,_,_,_,_,rfl,h1.junk.to,h2.junk.to⟩
theorem met_22 {h0 h:PH} [Le h0 h] {v w:Value} {d:Rat} (hs:Sd h0 v .e) (ht:Sd h0 w (.i none (some d))) (ls:NS.le (2^30) .e) (lt:NS.le (2^30) (.i none (some d))):
  Spec mach 114 #[v,w] h (fun v h'=>Sn h' v (NS.met .e (.i none (some d)))) NP:=by
 obtain⟨b1,a1,m1,c1,a2,m2,c2,b2,a3,m3,c3,a4,m4,c4,a,b,rfl,h1,h2,z1,z2⟩:=hs.ee
 obtain⟨b1',a1',m1',c1',a2',m2',c2',b2',a3',m3',c3',a4',m4',c4',rfl,h3,h4⟩:=Sn.ie ht
 rw[NS.le_i] at lt
 have z4:=lt.2 _ rfl
 try dsimp only[Option.isNone]
 refine Spec.go [] Tryz.func114 rfl rfl (by kernel_rfl) fun C _=>?_
 try simp(maxSteps:=999999) (disch:=omega) only[go_sem,ξ,ζ]
 refine caN (by exact dP h2.num h4.num (up36 z2) (up36 z4)) ?_;rintro _ g2 _ f2;obtain⟨_,_,_,_,_,_,_,rfl,f2⟩:=f2.sa
 try simp(maxSteps:=999999) (disch:=omega) only[go_sem,ξ,ζ]
 exact⟨_,_,_,_,_,_,_,_,rfl,h1.junk.to,(En.of f2).junk.to⟩
theorem met_23 {h0 h:PH} [Le h0 h] {v w:Value} {c:Rat} (hs:Sd h0 v .e) (ht:Sd h0 w (.i (some c) none)) (ls:NS.le (2^30) .e) (lt:NS.le (2^30) (.i (some c) none)):
  Spec mach 114 #[v,w] h (fun v h'=>Sn h' v (NS.met .e (.i (some c) none))) NP:=by
 obtain⟨b1,a1,m1,c1,a2,m2,c2,b2,a3,m3,c3,a4,m4,c4,a,b,rfl,h1,h2,z1,z2⟩:=hs.ee
 obtain⟨b1',a1',m1',c1',a2',m2',c2',b2',a3',m3',c3',a4',m4',c4',rfl,h3,h4⟩:=Sn.ie ht
 rw[NS.le_i] at lt
 have z3:=lt.1 _ rfl
 try dsimp only[Option.isNone]
 refine Spec.go [] Tryz.func114 rfl rfl (by kernel_rfl) fun C _=>?_
 try simp(maxSteps:=999999) (disch:=omega) only[go_sem,ξ,ζ]
 refine caN (by exact cE h1.num h3.num (up36 z1) (up36 z3)) ?_;rintro _ g1 _ f1;obtain⟨_,_,_,_,_,_,_,rfl,f1⟩:=f1.sa
 try simp(maxSteps:=999999) (disch:=omega) only[go_sem,ξ,ζ]
 exact⟨_,_,_,_,_,_,_,_,rfl,(En.of f1).junk.to,h2.junk.to⟩
theorem met_24 {h0 h:PH} [Le h0 h] {v w:Value} {c d:Rat} (hs:Sd h0 v .e) (ht:Sd h0 w (.i (some c) (some d))) (ls:NS.le (2^30) .e) (lt:NS.le (2^30) (.i (some c) (some d))):
  Spec mach 114 #[v,w] h (fun v h'=>Sn h' v (NS.met .e (.i (some c) (some d)))) NP:=by
 obtain⟨b1,a1,m1,c1,a2,m2,c2,b2,a3,m3,c3,a4,m4,c4,a,b,rfl,h1,h2,z1,z2⟩:=hs.ee
 obtain⟨b1',a1',m1',c1',a2',m2',c2',b2',a3',m3',c3',a4',m4',c4',rfl,h3,h4⟩:=Sn.ie ht
 rw[NS.le_i] at lt
 have z3:=lt.1 _ rfl
 have z4:=lt.2 _ rfl
 try dsimp only[Option.isNone]
 refine Spec.go [] Tryz.func114 rfl rfl (by kernel_rfl) fun C _=>?_
 try simp(maxSteps:=999999) (disch:=omega) only[go_sem,ξ,ζ]
 refine caN (by exact cE h1.num h3.num (up36 z1) (up36 z3)) ?_;rintro _ g1 _ f1;obtain⟨_,_,_,_,_,_,_,rfl,f1⟩:=f1.sa
 try simp(maxSteps:=999999) (disch:=omega) only[go_sem,ξ,ζ]
 refine caN (by exact dP h2.num h4.num (up36 z2) (up36 z4)) ?_;rintro _ g2 _ f2;obtain⟨_,_,_,_,_,_,_,rfl,f2⟩:=f2.sa
 try simp(maxSteps:=999999) (disch:=omega) only[go_sem,ξ,ζ]
 exact⟨_,_,_,_,_,_,_,_,rfl,(En.of f1).junk.to,(En.of f2).junk.to⟩
theorem met_25 {h0 h:PH} [Le h0 h] {v w:Value} (hs:Sd h0 v .e) (ht:Sd h0 w .e) (ls:NS.le (2^30) .e) (lt:NS.le (2^30) .e):
  Spec mach 114 #[v,w] h (fun v h'=>Sn h' v (NS.met .e .e)) NP:=by
 obtain⟨b1,a1,m1,c1,a2,m2,c2,b2,a3,m3,c3,a4,m4,c4,a,b,rfl,h1,h2,z1,z2⟩:=hs.ee
 obtain⟨b1',a1',m1',c1',a2',m2',c2',b2',a3',m3',c3',a4',m4',c4',c,d,rfl,h3,h4,z3,z4⟩:=ht.ee
 try dsimp only[Option.isNone]
 refine Spec.go [] Tryz.func114 rfl rfl (by kernel_rfl) fun C _=>?_
 try simp(maxSteps:=999999) (disch:=omega) only[go_sem,ξ,ζ]
 refine caN (by exact cE h1.num h3.num (up36 z1) (up36 z3)) ?_;rintro _ g1 _ f1;obtain⟨_,_,_,_,_,_,_,rfl,f1⟩:=f1.sa
 try simp(maxSteps:=999999) (disch:=omega) only[go_sem,ξ,ζ]
 refine caN (by exact dP h2.num h4.num (up36 z2) (up36 z4)) ?_;rintro _ g2 _ f2;obtain⟨_,_,_,_,_,_,_,rfl,f2⟩:=f2.sa
 try simp(maxSteps:=999999) (disch:=omega) only[go_sem,ξ,ζ]
 exact⟨_,_,_,_,_,_,_,_,rfl,(En.of f1).junk.to,(En.of f2).junk.to⟩
theorem Gj {h0 h:PH} [Le h0 h] {v w:Value} {x y:NS} (hs:Sd h0 v x) (ht:Sd h0 w y) (ls:x.le (2^30)) (lt:y.le (2^30)):Spec mach 114 #[v,w] h (fun v h'=>Sn h' v (x.met y)) NP:=by
  cases x with
  | e =>
    cases y with
    |e=>exact met_25 hs ht ls lt
    | i c d=>
      cases c with
      | none=>cases d with
        |none=>exact met_21 hs ht ls lt
        |some d=>exact met_22 hs ht ls lt
      | some c=>cases d with
        |none=>exact met_23 hs ht ls lt
        |some d=>exact met_24 hs ht ls lt
  | i a b =>
    cases a with
    | none=>cases b with
      | none=>
        cases y with
        |e=>exact met_5 hs ht ls lt
        | i c d=>
          cases c with
          | none=>cases d with
            |none=>exact met_1 hs ht ls lt
            |some d=>exact met_2 hs ht ls lt
          | some c=>cases d with
            |none=>exact met_3 hs ht ls lt
            |some d=>exact met_4 hs ht ls lt
      | some b=>
        cases y with
        |e=>exact met_10 hs ht ls lt
        | i c d=>
          cases c with
          | none=>cases d with
            |none=>exact met_6 hs ht ls lt
            |some d=>exact met_7 hs ht ls lt
          | some c=>cases d with
            |none=>exact met_8 hs ht ls lt
            |some d=>exact met_9 hs ht ls lt
    | some a=>cases b with
      | none=>
        cases y with
        |e=>exact met_15 hs ht ls lt
        | i c d=>
          cases c with
          | none=>cases d with
            |none=>exact met_11 hs ht ls lt
            |some d=>exact met_12 hs ht ls lt
          | some c=>cases d with
            |none=>exact met_13 hs ht ls lt
            |some d=>exact met_14 hs ht ls lt
      | some b=>
        cases y with
        |e=>exact met_20 hs ht ls lt
        | i c d=>
          cases c with
          | none=>cases d with
            |none=>exact met_16 hs ht ls lt
            |some d=>exact met_17 hs ht ls lt
          | some c=>cases d with
            |none=>exact met_18 hs ht ls lt
            |some d=>exact met_19 hs ht ls lt
theorem Le.tr {a b c:PH} (x:Le a b) (y:Le b c):Le a c:=⟨x.sub.trans y.sub⟩
theorem fG {h:PH} {b:Nat} {cs:List Value} (hb:h b=some cs.toArray) (j:Nat) (v:Value) (hj:cs[j]?=some v):h.at ⟨b,j,none⟩=some v:=by
 simp[PH.at,hb,hj]
theorem dG {h:PH} {b:Nat} {cs:List Value} (hb:h b=some cs.toArray) (j:Nat) (v:Value) (hj:cs[j]?=some v):h.at ((⟨b,0,none⟩:Addr).add j)=some v:=by
 cases j<;>simp[PH.at,Addr.add,hb,hj]
theorem aK {h:PH} {b:Nat} {v:Value} (hb:h b=some #[v]):h.at ⟨b,0,none⟩=some v:=by
 simp[PH.at,hb]
def zIv:Value:=.agg #[.bool false,.slice none 0 0,.slice none 0 0,.bool false,.slice none 0 0,.slice none 0 0,.bool false,.bool false]
theorem Cv.sa {h:PH} {v:Value} {x:NS} (r:Cv h v x):∃b1 a1 m1 c1 a2 m2 c2 b2 a3 m3 c3 a4 m4 c4 l u,v=.agg #[.bool b1,.slice a1 m1 c1,.slice a2 m2 c2,.bool b2,.slice a3 m3 c3,.slice a4 m4 c4,.bool l,.bool u]∧
  Cv h (.agg #[.bool b1,.slice a1 m1 c1,.slice a2 m2 c2,.bool b2,.slice a3 m3 c3,.slice a4 m4 c4,.bool l,.bool u]) x:=by
 have r0:=r
 obtain⟨b1,x1,y1,b2,x2,y2,rfl,h1,h2⟩:=r
 obtain⟨_,_,_,_,_,_,_,e1,_⟩:=h1.sa
 obtain⟨_,_,_,_,_,_,_,e2,_⟩:=h2.sa
 simp only[Value.agg.injEq,Array.mk.injEq,List.cons.injEq,and_true] at e1 e2
 obtain⟨_,rfl,rfl⟩:=e1
 obtain⟨_,rfl,rfl⟩:=e2
 exact⟨_,_,_,_,_,_,_,_,_,_,_,_,_,_,_,_,rfl,r0⟩
theorem Cv.eight {h:PH} {v:Value} {x:NS} (r:Cv h v x):∃r0 r1 r2 r3 r4 r5 r6 r7,v=.agg #[r0,r1,r2,r3,r4,r5,r6,r7]∧[r0,r1,r2,r3,r4,r5,r6,r7].all Value.oneCell'=true:=by
 obtain⟨_,_,_,_,_,_,_,_,_,_,_,_,_,_,_,_,rfl,_⟩:=r.sa
 exact⟨_,_,_,_,_,_,_,_,rfl,rfl⟩
def Ir (h:PH) (r:Value):Out→Prop
 |.error e=>r=.tuple #[zIv,.int .i64 e]
 |.ok x=>∃u,r=.tuple #[u,.int .i64 0]∧Cv h u x
theorem Ir.to {h h':PH} {r:Value} {o:Out} (k:Ir h r o) [Le h h']:Ir h' r o:=by
 cases o with
 |error e=>exact k
 |ok x=>obtain⟨u,e,c⟩:=k;exact⟨u,e,c.to⟩
theorem Ir.sa {h:PH} {r:Value} {o:Out} (k:Ir h r o):∃b1 a1 m1 c1 a2 m2 c2 b2 a3 m3 c3 a4 m4 c4 l u e,r=.tuple #[.agg #[.bool b1,.slice a1 m1 c1,.slice a2 m2 c2,.bool b2,.slice a3 m3 c3,.slice a4 m4 c4,.bool l,.bool u],.int .i64 e]∧
  Ir h (.tuple #[.agg #[.bool b1,.slice a1 m1 c1,.slice a2 m2 c2,.bool b2,.slice a3 m3 c3,.slice a4 m4 c4,.bool l,.bool u],.int .i64 e]) o:=by
 cases o with
 |error e=>cases(k:r=_);exact⟨_,_,_,_,_,_,_,_,_,_,_,_,_,_,_,_,_,rfl,rfl⟩
 | ok x=>
  obtain⟨u,rfl,c⟩:=k
  obtain⟨_,_,_,_,_,_,_,_,_,_,_,_,_,_,_,_,rfl,c⟩:=c.sa
  exact⟨_,_,_,_,_,_,_,_,_,_,_,_,_,_,_,_,_,rfl,_,rfl,c⟩
theorem Sd.sa {h:PH} {v:Value} {x:NS} (r:Sd h v x):∃b1 a1 m1 c1 a2 m2 c2 b2 a3 m3 c3 a4 m4 c4 l u,v=.agg #[.bool b1,.slice a1 m1 c1,.slice a2 m2 c2,.bool b2,.slice a3 m3 c3,.slice a4 m4 c4,.bool l,.bool u,.bool x.void]∧
  Sd h (.agg #[.bool b1,.slice a1 m1 c1,.slice a2 m2 c2,.bool b2,.slice a3 m3 c3,.slice a4 m4 c4,.bool l,.bool u,.bool x.void]) x:=by
 cases x with
 |e=>obtain⟨_,_,_,_,_,_,_,_,_,_,_,_,_,_,p,q,rfl,h1,h2,k⟩:=r.ee;exact⟨_,_,_,_,_,_,_,_,_,_,_,_,_,_,_,_,rfl,_,_,_,_,_,_,p,q,rfl,h1,h2,k⟩
 |i a b=>obtain⟨_,_,_,_,_,_,_,_,_,_,_,_,_,_,rfl,h1,h2⟩:=Sn.ie r;exact⟨_,_,_,_,_,_,_,_,_,_,_,_,_,_,_,_,rfl,_,_,_,_,_,_,rfl,h1,h2⟩
def Does (f:FuncId) (args:Array Value) (h:PH):Out→Prop
 |.ok x=>Spec mach f args h (fun v h'=>Sn h' v x) NP
 |.error e=>Spec mach f args h NR (fail e)
def Gives (f:FuncId) (args:Array Value) (h:PH):Out→Prop
 |.ok x=>Spec mach f args h (fun v h'=>Cv h' v x) NP
 |.error e=>Spec mach f args h NR (fail e)
theorem Does.ok {f:FuncId} {args:Array Value} {h:PH} {x:NS} (d:Does f args h (.ok x)):Spec mach f args h (fun v h'=>Sn h' v x) NP:=d
theorem Does.err {f:FuncId} {args:Array Value} {h:PH} {e:Int} (d:Does f args h (.error e)):Spec mach f args h NR (fail e):=d
def RI.fin (x:RI) (o:Out):Out:=bif x.big then .error 1 else o.fin
def RI.fin2 (x y:RI) (o:Out):Out:=bif x.big || y.big then .error 1 else o.fin
theorem HZ {h:PH} {f:FuncId} {cap:Array Value} {o:Out} (g:Gives f cap h o):Spec mach 205 #[.func (.func f) #[] cap] h (fun r h'=>Ir h' r o) NP:=by
 cases o with
 |ok x=>exact tryIv_ok g (fun v h' _ r=>⟨r.eight,v,rfl,r⟩)
 |error e=>exact F4 g (fun _ _=>rfl)
theorem Ea {h0 h:PH} [Le h0 h] {v:Value} {x:RI} {f:FuncId} {cap:Array Value} {b1 b2:Nat} {cs:List Value} {o:Out} (hv:Iv h0 v x) (hb1:h b1=some #[.func (.func f) #[] cap]) (hc:v=.agg cs.toArray) (hl:cs.length=8) (hb2:h b2=some cs.toArray)
  (hd:x.big=false→∀(h':PH) [Le h h'] (s:Value),Sd h' s x.set→Does f (s :: cap.toList).toArray h' o):
  Gives 206 #[.pointer (some ⟨b1,0,none⟩),.pointer (some ⟨b2,0,none⟩)] h (x.fin o):=by
 subst hc
 unfold RI.fin
 cases g:x.big with
 | true=>
  refine Spec.go [] Tryz.func206 rfl rfl (by kernel_rfl) fun C _=>?_
  try simp(disch:=omega) only[go_sem,ξ,ζ]
  refine aE (aK hb1) ?_
  try simp(disch:=omega) only[go_sem,ξ,ζ]
  refine dL cs hl (dG hb2) ?_
  try simp(disch:=omega) only[go_sem,ξ,ζ]
  exact caF (by exact fF hv g) (fun _ _ h=>h)
 | false=>
  have hd:=hd g
  dsimp only[cond_false]
  cases o with
  | error e=>
   refine Spec.go [] Tryz.func206 rfl rfl (by kernel_rfl) fun C _=>?_
   try simp(disch:=omega) only[go_sem,ξ,ζ]
   refine aE (aK hb1) ?_
   try simp(disch:=omega) only[go_sem,ξ,ζ]
   refine dL cs hl (dG hb2) ?_
   try simp(disch:=omega) only[go_sem,ξ,ζ]
   refine caN (by exact dK hv g) ?_;rintro s1 h1 st1 hs1
   try simp(disch:=omega) only[go_sem,ξ,ζ]
   exact caF (by exact(hd _ s1 hs1).err) (fun _ _ h=>h)
  | ok y=>
   dsimp only[Out.fin]
   by_cases hy:y.le 2048
   ·rw[decide_eq_true hy,cond_true]
    refine Spec.go [] Tryz.func206 rfl rfl (by kernel_rfl) fun C _=>?_
    try simp(disch:=omega) only[go_sem,ξ,ζ]
    refine aE (aK hb1) ?_
    try simp(disch:=omega) only[go_sem,ξ,ζ]
    refine dL cs hl (dG hb2) ?_
    try simp(disch:=omega) only[go_sem,ξ,ζ]
    refine caN (by exact dK hv g) ?_;rintro s1 h1 st1 hs1
    try simp(disch:=omega) only[go_sem,ξ,ζ]
    refine caN (by exact(hd _ s1 hs1).ok) ?_;rintro s2 h2 st2 hs2
    try simp(disch:=omega) only[go_sem,ξ,ζ]
    refine caN (by exact Ck hs2 hy) ?_;rintro v3 h3 st3 hv3;obtain⟨_,_,_,_,_,_,_,_,_,_,_,_,_,_,_,_,rfl,hv3⟩:=hv3.sa
    try simp(disch:=omega) only[go_sem,ξ,ζ]
    exact hv3
   ·rw[decide_eq_false hy,cond_false]
    refine Spec.go [] Tryz.func206 rfl rfl (by kernel_rfl) fun C _=>?_
    try simp(disch:=omega) only[go_sem,ξ,ζ]
    refine aE (aK hb1) ?_
    try simp(disch:=omega) only[go_sem,ξ,ζ]
    refine dL cs hl (dG hb2) ?_
    try simp(disch:=omega) only[go_sem,ξ,ζ]
    refine caN (by exact dK hv g) ?_;rintro s1 h1 st1 hs1
    try simp(disch:=omega) only[go_sem,ξ,ζ]
    refine caN (by exact(hd _ s1 hs1).ok) ?_;rintro s2 h2 st2 hs2
    try simp(disch:=omega) only[go_sem,ξ,ζ]
    exact caF (by exact ze hs2 hy) (fun _ _ h=>h)
theorem jX {h0 h:PH} [Le h0 h] {v:Value} {x:RI} {f:FuncId} {cap:Array Value} {o:Out} (hv:Iv h0 v x)
  (hd:x.big=false→∀(h':PH) [Le h h'] (s:Value),Sd h' s x.set→Does f (s :: cap.toList).toArray h' o):
  Spec mach 124 #[v,.func (.func f) #[] cap] h (fun r h'=>Ir h' r (x.fin o)) NP:=by
 have hv0:=hv
 obtain⟨a1,m1,c1,a2,m2,c2,a3,m3,c3,a4,m4,c4,rfl,_,_⟩:=hv.sa
 refine Spec.go [(1,.t (.p 0 (.p 1 (.s [0,1,2,3,4,5] .d))))] Tryz.func124 rfl rfl (by kernel_rfl) fun C _=>?_
 try simp(disch:=omega) only[go_sem,ξ,ζ]
 intro b2 h2 st2 hb2
 try simp(disch:=omega) only[go_sem,ξ,ζ]
 intro b1 h1 st1 hb1
 try simp(disch:=omega) only[go_sem,ξ,ζ]
 have hb1:=hb1 (by simp)
 have hb2:=st1.sub _ _ (hb2 (by simp))
 refine caN (by exact HZ (Ea (hv0.to (h':=h1)) hb1 rfl rfl hb2 (fun g h' i s hs=>@hd g h' (Le.tr inferInstance i) s hs))) ?_;rintro r3 h3 st3 hr3;obtain⟨_,_,_,_,_,_,_,_,_,_,_,_,_,_,_,_,_,rfl,hr3⟩:=hr3.sa
 try simp(disch:=omega) only[go_sem,ξ,ζ]
 exact hr3
theorem Db {h0 h:PH} [Le h0 h] {v w:Value} {x y:RI} {f:FuncId} {cap:Array Value} {b1 b2 b3:Nat} {cs ds:List Value} {o:Out} (hv:Iv h0 v x) (hw:Iv h0 w y) (hc:v=.agg cs.toArray) (hl:cs.length=8) (hb1:h b1=some cs.toArray) (hb2:h b2=some #[.func (.func f) #[] cap]) (hc':w=.agg ds.toArray) (hl':ds.length=8) (hb3:h b3=some ds.toArray)
  (hd:x.big=false→y.big=false→∀(h':PH) [Le h h'] (s t:Value),Sd h' s x.set→Sd h' t y.set→Does f (s :: t :: cap.toList).toArray h' o):
  Gives 236 #[.pointer (some ⟨b1,0,none⟩),.pointer (some ⟨b2,0,none⟩),.pointer (some ⟨b3,0,none⟩)] h (x.fin2 y o):=by
 subst hc
 subst hc'
 unfold RI.fin2
 cases g:x.big with
 | true=>
  refine Spec.go [] Tryz.func236 rfl rfl (by kernel_rfl) fun C _=>?_
  try simp(disch:=omega) only[go_sem,ξ,ζ]
  refine dL cs hl (dG hb1) ?_
  try simp(disch:=omega) only[go_sem,ξ,ζ]
  exact caF (by exact fF hv g) (fun _ _ h=>h)
 | false =>
  cases g':y.big with
  | true=>
   refine Spec.go [] Tryz.func236 rfl rfl (by kernel_rfl) fun C _=>?_
   try simp(disch:=omega) only[go_sem,ξ,ζ]
   refine dL cs hl (dG hb1) ?_
   try simp(disch:=omega) only[go_sem,ξ,ζ]
   refine caN (by exact dK hv g) ?_;rintro s1 h1 st1 hs1;obtain⟨_,_,_,_,_,_,_,_,_,_,_,_,_,_,_,_,rfl,hs1⟩:=hs1.sa
   try simp(disch:=omega) only[go_sem,ξ,ζ]
   refine aE (aK (st1.sub _ _ hb2)) ?_
   try simp(disch:=omega) only[go_sem,ξ,ζ]
   refine dL ds hl' (dG (st1.sub _ _ hb3)) ?_
   try simp(disch:=omega) only[go_sem,ξ,ζ]
   exact caF (by exact fF hw g') (fun _ _ h=>h)
  | false=>
   have hd:=hd g g'
   show Gives _ _ _ o.fin
   cases o with
   | error e=>
    refine Spec.go [] Tryz.func236 rfl rfl (by kernel_rfl) fun C _=>?_
    try simp(disch:=omega) only[go_sem,ξ,ζ]
    refine dL cs hl (dG hb1) ?_
    try simp(disch:=omega) only[go_sem,ξ,ζ]
    refine caN (by exact dK hv g) ?_;rintro s1 h1 st1 hs1;obtain⟨_,_,_,_,_,_,_,_,_,_,_,_,_,_,_,_,rfl,hs1⟩:=hs1.sa
    try simp(disch:=omega) only[go_sem,ξ,ζ]
    refine aE (aK (st1.sub _ _ hb2)) ?_
    try simp(disch:=omega) only[go_sem,ξ,ζ]
    refine dL ds hl' (dG (st1.sub _ _ hb3)) ?_
    try simp(disch:=omega) only[go_sem,ξ,ζ]
    refine caN (by exact dK hw g') ?_;rintro s2 h2 st2 hs2
    try simp(disch:=omega) only[go_sem,ξ,ζ]
    exact caF (by exact(hd _ _ s2 hs1.to hs2).err) (fun _ _ h=>h)
   | ok z=>
    dsimp only[Out.fin]
    by_cases hy:z.le 2048
    ·rw[decide_eq_true hy,cond_true]
     refine Spec.go [] Tryz.func236 rfl rfl (by kernel_rfl) fun C _=>?_
     try simp(disch:=omega) only[go_sem,ξ,ζ]
     refine dL cs hl (dG hb1) ?_
     try simp(disch:=omega) only[go_sem,ξ,ζ]
     refine caN (by exact dK hv g) ?_;rintro s1 h1 st1 hs1;obtain⟨_,_,_,_,_,_,_,_,_,_,_,_,_,_,_,_,rfl,hs1⟩:=hs1.sa
     try simp(disch:=omega) only[go_sem,ξ,ζ]
     refine aE (aK (st1.sub _ _ hb2)) ?_
     try simp(disch:=omega) only[go_sem,ξ,ζ]
     refine dL ds hl' (dG (st1.sub _ _ hb3)) ?_
     try simp(disch:=omega) only[go_sem,ξ,ζ]
     refine caN (by exact dK hw g') ?_;rintro s2 h2 st2 hs2
     try simp(disch:=omega) only[go_sem,ξ,ζ]
     refine caN (by exact(hd _ _ s2 hs1.to hs2).ok) ?_;rintro s3 h3 st3 hs3
     try simp(disch:=omega) only[go_sem,ξ,ζ]
     refine caN (by exact Ck hs3 hy) ?_;rintro v4 h4 st4 hv4;obtain⟨_,_,_,_,_,_,_,_,_,_,_,_,_,_,_,_,rfl,hv4⟩:=hv4.sa
     try simp(disch:=omega) only[go_sem,ξ,ζ]
     exact hv4
    ·rw[decide_eq_false hy,cond_false]
     refine Spec.go [] Tryz.func236 rfl rfl (by kernel_rfl) fun C _=>?_
     try simp(disch:=omega) only[go_sem,ξ,ζ]
     refine dL cs hl (dG hb1) ?_
     try simp(disch:=omega) only[go_sem,ξ,ζ]
     refine caN (by exact dK hv g) ?_;rintro s1 h1 st1 hs1;obtain⟨_,_,_,_,_,_,_,_,_,_,_,_,_,_,_,_,rfl,hs1⟩:=hs1.sa
     try simp(disch:=omega) only[go_sem,ξ,ζ]
     refine aE (aK (st1.sub _ _ hb2)) ?_
     try simp(disch:=omega) only[go_sem,ξ,ζ]
     refine dL ds hl' (dG (st1.sub _ _ hb3)) ?_
     try simp(disch:=omega) only[go_sem,ξ,ζ]
     refine caN (by exact dK hw g') ?_;rintro s2 h2 st2 hs2
     try simp(disch:=omega) only[go_sem,ξ,ζ]
     refine caN (by exact(hd _ _ s2 hs1.to hs2).ok) ?_;rintro s3 h3 st3 hs3
     try simp(disch:=omega) only[go_sem,ξ,ζ]
     exact caF (by exact ze hs3 hy) (fun _ _ h=>h)
theorem mV {h0 h:PH} [Le h0 h] {v w:Value} {x y:RI} {f:FuncId} {cap:Array Value} {o:Out} (hv:Iv h0 v x) (hw:Iv h0 w y)
  (hd:x.big=false→y.big=false→∀(h':PH) [Le h h'] (s t:Value),Sd h' s x.set→Sd h' t y.set→Does f (s :: t :: cap.toList).toArray h' o):
  Spec mach 171 #[v,w,.func (.func f) #[] cap] h (fun r h'=>Ir h' r (x.fin2 y o)) NP:=by
 have hv0:=hv
 have hw0:=hw
 obtain⟨a1,m1,c1,a2,m2,c2,a3,m3,c3,a4,m4,c4,rfl,_,_⟩:=hv.sa
 obtain⟨a1',m1',c1',a2',m2',c2',a3',m3',c3',a4',m4',c4',rfl,_,_⟩:=hw.sa
 refine Spec.go [(1,.t (.p 0 (.p 1 (.p 2 (.s [0,1,2,3,4,5] .d)))))] Tryz.func171 rfl rfl (by kernel_rfl) fun C _=>?_
 try simp(disch:=omega) only[go_sem,ξ,ζ]
 intro b1 h1 st1 hb1
 try simp(disch:=omega) only[go_sem,ξ,ζ]
 intro b3 h2 st2 hb3
 try simp(disch:=omega) only[go_sem,ξ,ζ]
 intro b2 h3 st3 hb2
 try simp(disch:=omega) only[go_sem,ξ,ζ]
 have hb2:=hb2 (by simp)
 have hb3:=st3.sub _ _ (hb3 (by simp))
 have hb1:=st3.sub _ _ (st2.sub _ _ (hb1 (by simp)))
 refine caN (by exact HZ (Db (hv0.to (h':=h3)) (hw0.to (h':=h3)) rfl rfl hb1 hb2 rfl rfl hb3 (fun g g' h' i s t hs ht=>@hd g g' h' (Le.tr inferInstance i) s t hs ht))) ?_;rintro r4 h4 st4 hr4;obtain⟨_,_,_,_,_,_,_,_,_,_,_,_,_,_,_,_,_,rfl,hr4⟩:=hr4.sa
 try simp(disch:=omega) only[go_sem,ξ,ζ]
 exact hr4
def bad (p:Int):Bool:=decide (p < 0) || decide (128 < p)
theorem jt {p:Int} (h:bad p=false):0≤p∧p≤128:=by
 unfold bad at h
 simp only[Bool.or_eq_false_iff,decide_eq_false_iff_not] at h
 omega
theorem i7 {p:Int} (h:bad p=true):p < 0∨128 < p:=by
 unfold bad at h
 simpa using h
def Out.prec (p:Int) (o:Out):Out:=bif bad p then .error 2 else o
theorem NS.le30 {x:NS} (h:x.le 2048):x.le (2^30):=h.up (by decide)
theorem RI.le30 {x:RI} (h:x.big=false):x.set.le (2^30):=NS.le30 (RI.le h)
theorem Ah {h0 h:PH} [Le h0 h] {v:Value} {x:NS} {p:Int} (hv:Sn h0 v x) (hf:x.le (2^30)) (hp:0≤p∧p≤128):
  Spec mach 127 #[v,.int .i64 p] h (fun v h'=>Sn h' v (x.hull p.toNat)) NP:=by
 have:=Hull_set (h:=h) (p:=p.toNat) hv hf (by omega)
 rwa[show((p.toNat:Nat):Int)=p by omega] at this
theorem Does.mk {f:FuncId} {args:Array Value} {h:PH} {x:NS} (s:Spec mach f args h (fun v h'=>Sn h' v x) NP):Does f args h (.ok x):=s
theorem Canon1 {h0 h:PH} [Le h0 h] {s:Value} {x:NS} (hs:Sd h0 s x):Does 232 #[s] h (.ok x):=by
 obtain⟨_,_,_,_,_,_,_,_,_,_,_,_,_,_,_,_,rfl,hs⟩:=hs.sa
 refine Spec.go [] Tryz.func232 rfl rfl (by kernel_rfl) fun C _=>?_
 try simp(disch:=omega) only[go_sem,ξ,ζ]
 exact hs.sn.to
theorem wN {h0 h:PH} [Le h0 h] {v:Value} {x:RI} (hv:Iv h0 v x):Spec mach 162 #[v] h (fun r h'=>Ir h' r (x.fin (.ok x.set))) NP:=by
 have hv0:=hv
 obtain⟨a1,m1,c1,a2,m2,c2,a3,m3,c3,a4,m4,c4,rfl,_,_⟩:=hv.sa
 refine Spec.go [] Tryz.func162 rfl rfl (by kernel_rfl) fun C _=>?_
 try simp(disch:=omega) only[go_sem,ξ,ζ]
 refine caN (by exact jX hv0 (fun _ h' _ s hs=>Canon1 hs)) ?_;rintro r3 h3 st3 hr3;obtain⟨_,_,_,_,_,_,_,_,_,_,_,_,_,_,_,_,_,rfl,hr3⟩:=hr3.sa
 try simp(disch:=omega) only[go_sem,ξ,ζ]
 exact hr3
theorem Round1 {h0 h:PH} [Le h0 h] {s:Value} {x:NS} {p:Int} {b:Nat} (hs:Sd h0 s x) (hf:x.le (2^30)) (hb:h b=some #[.int .i64 p]):Does 125 #[s,.pointer (some ⟨b,0,none⟩)] h (Out.prec p (.ok (x.hull p.toNat))):=by
 obtain⟨_,_,_,_,_,_,_,_,_,_,_,_,_,_,_,_,rfl,hs⟩:=hs.sa
 unfold Out.prec
 cases g:bad p with
 | true=>
  show Spec _ _ _ _ NR (fail 2)
  refine Spec.go [] Tryz.func125 rfl rfl (by kernel_rfl) fun C _=>?_
  try simp(disch:=omega) only[go_sem,ξ,ζ]
  refine aE (aK hb) ?_
  try simp(disch:=omega) only[go_sem,ξ,ζ]
  exact caF (by exact iN (i7 g)) (fun _ _ h=>h)
 | false=>
  show Spec _ _ _ _ _ NP
  have hp:=jt g
  refine Spec.go [] Tryz.func125 rfl rfl (by kernel_rfl) fun C _=>?_
  try simp(disch:=omega) only[go_sem,ξ,ζ]
  refine aE (aK hb) ?_
  try simp(disch:=omega) only[go_sem,ξ,ζ]
  refine caN (by exact aU hp.1 hp.2) ?_;rintro v1 h1 st1 _
  try simp(disch:=omega) only[go_sem,ξ,ζ]
  refine aE (aK (st1.sub _ _ hb)) ?_
  try simp(disch:=omega) only[go_sem,ξ,ζ]
  refine caN (by exact Ah hs.sn hf hp) ?_;rintro s2 h2 st2 hs2;obtain⟨_,_,_,_,_,_,_,_,_,_,_,_,_,_,_,_,rfl,hs2⟩:=hs2.sa
  try simp(disch:=omega) only[go_sem,ξ,ζ]
  exact hs2
theorem du {h0 h:PH} [Le h0 h] {v:Value} {x:RI} {p:Int} (hv:Iv h0 v x):Spec mach 66 #[v,.int .i64 p] h (fun r h'=>Ir h' r (x.fin (Out.prec p (.ok (x.set.hull p.toNat))))) NP:=by
 have hv0:=hv
 obtain⟨a1,m1,c1,a2,m2,c2,a3,m3,c3,a4,m4,c4,rfl,_,_⟩:=hv.sa
 refine Spec.go [(1,.t (.p 1 (.s [0,1,2,3,4,5,6] .d)))] Tryz.func66 rfl rfl (by kernel_rfl) fun C _=>?_
 try simp(disch:=omega) only[go_sem,ξ,ζ]
 intro b h1 st1 hb
 try simp(disch:=omega) only[go_sem,ξ,ζ]
 have hb:=hb (by simp)
 refine caN (by exact jX (hv0.to (h':=h1)) (fun g h' i s hs=>Round1 hs (RI.le30 g) (i.sub _ _ hb))) ?_;rintro r3 h3 st3 hr3;obtain⟨_,_,_,_,_,_,_,_,_,_,_,_,_,_,_,_,_,rfl,hr3⟩:=hr3.sa
 try simp(disch:=omega) only[go_sem,ξ,ζ]
 exact hr3
theorem wW {h0 h:PH} [Le h0 h] {v:Value} {x:RI} (hv:Iv h0 v x):Spec mach 100 #[v] h (fun r h'=>Ir h' r (x.fin (.ok x.set.minus))) NP:=by
 have hv0:=hv
 obtain⟨a1,m1,c1,a2,m2,c2,a3,m3,c3,a4,m4,c4,rfl,_,_⟩:=hv.sa
 refine Spec.go [] Tryz.func100 rfl rfl (by kernel_rfl) fun C _=>?_
 try simp(disch:=omega) only[go_sem,ξ,ζ]
 refine caN (by exact jX hv0 (fun _ h' _ s hs=>Does.mk (jK hs.sn))) ?_;rintro r3 h3 st3 hr3;obtain⟨_,_,_,_,_,_,_,_,_,_,_,_,_,_,_,_,_,rfl,hr3⟩:=hr3.sa
 try simp(disch:=omega) only[go_sem,ξ,ζ]
 exact hr3
theorem Iv.mk {h:PH} {b b':Bool} {x y x' y':Value} {n1 n2:Bool} {a1 d1 a2 d2:Nat} (hv:Rw h (.agg #[.bool b,x,y]) n1 a1 d1) (hw:Rw h (.agg #[.bool b',x',y']) n2 a2 d2) (l u:Bool):Iv h (.agg #[.bool b,x,y,.bool b',x',y',.bool l,.bool u]) ⟨n1,a1,d1,n2,a2,d2,l,u⟩:=by
 have e1:=hv
 have e2:=hw
 obtain⟨_,_,_,_,_,_,e1,_⟩:=e1
 obtain⟨_,_,_,_,_,_,e2,_⟩:=e2
 simp only[Value.agg.injEq,Array.mk.injEq,List.cons.injEq,and_true,Value.bool.injEq] at e1 e2
 obtain⟨rfl,_,_⟩:=e1
 obtain⟨rfl,_,_⟩:=e2
 exact⟨_,_,_,_,rfl,hv,hw⟩
theorem oK {h0 h:PH} [Le h0 h] {v w:Value} {n1 n2:Bool} {a1 d1 a2 d2:Nat} (hv:Rw h0 v n1 a1 d1) (hw:Rw h0 w n2 a2 d2):
  Spec mach 98 #[v,w] h (fun r h'=>Ir h' r (RI.fin ⟨n1,a1,d1,n2,a2,d2,false,false⟩ (.ok (RI.set ⟨n1,a1,d1,n2,a2,d2,false,false⟩)))) NP:=by
 obtain⟨_,_,_,_,_,_,_,rfl,hv⟩:=hv.sa
 obtain⟨_,_,_,_,_,_,_,rfl,hw⟩:=hw.sa
 refine Spec.go [] Tryz.func98 rfl rfl (by kernel_rfl) fun C _=>?_
 try simp(disch:=omega) only[go_sem,ξ,ζ]
 refine caN (by exact wN (Iv.mk hv hw false false)) ?_;rintro _ h3 _ hr3;obtain⟨_,_,_,_,_,_,_,_,_,_,_,_,_,_,_,_,_,rfl,hr3⟩:=hr3.sa
 try simp(disch:=omega) only[go_sem,ξ,ζ]
 exact hr3
theorem EE {h0 h:PH} [Le h0 h] {v:Value} {n1:Bool} {a1 d1:Nat} (hv:Rw h0 v n1 a1 d1):
  Spec mach 61 #[v] h (fun r h'=>Ir h' r (RI.fin ⟨n1,a1,d1,n1,a1,d1,false,false⟩ (.ok (RI.set ⟨n1,a1,d1,n1,a1,d1,false,false⟩)))) NP:=by
 obtain⟨_,_,_,_,_,_,_,rfl,hv⟩:=hv.sa
 refine Spec.go [] Tryz.func61 rfl rfl (by kernel_rfl) fun C _=>?_
 try simp(disch:=omega) only[go_sem,ξ,ζ]
 refine caN (by exact oK hv hv) ?_;rintro _ h3 _ hr3;obtain⟨_,_,_,_,_,_,_,_,_,_,_,_,_,_,_,_,_,rfl,hr3⟩:=hr3.sa
 try simp(disch:=omega) only[go_sem,ξ,ζ]
 exact hr3
theorem CA {h0 h:PH} [Le h0 h] {v w:Value} {x y:RI} (hv:Iv h0 v x) (hw:Iv h0 w y):Spec mach 102 #[v,w] h (fun r h'=>Ir h' r (x.fin2 y (.ok (x.set.lesser y.set)))) NP:=by
 have hv0:=hv
 have hw0:=hw
 obtain⟨a1,m1,c1,a2,m2,c2,a3,m3,c3,a4,m4,c4,rfl,_,_⟩:=hv.sa
 obtain⟨a1',m1',c1',a2',m2',c2',a3',m3',c3',a4',m4',c4',rfl,_,_⟩:=hw.sa
 refine Spec.go [] Tryz.func102 rfl rfl (by kernel_rfl) fun C _=>?_
 try simp(disch:=omega) only[go_sem,ξ,ζ]
 refine caN (by exact mV hv0 hw0 (fun g g' h' _ s t hs ht=>Does.mk (wR hs.sn ht.sn (RI.le30 g) (RI.le30 g')))) ?_;rintro _ h3 _ hr3;obtain⟨_,_,_,_,_,_,_,_,_,_,_,_,_,_,_,_,_,rfl,hr3⟩:=hr3.sa
 try simp(disch:=omega) only[go_sem,ξ,ζ]
 exact hr3
theorem NS.le.minus {x:NS} {k:Nat} (h:x.le k):x.minus.le k:=by
 cases x with
 |e=>exact h
 | i a b=>
  rw[NS.le_i] at h
  show NS.le k (.i (b.map (-·)) (a.map (-·)))
  rw[NS.le_i]
  refine⟨fun q e=>?_,fun q e=>?_⟩
  ·cases b with
   |none=>cases e
   |some b=>cases e;rw[cz];exact h.2 _ rfl
  ·cases a with
   |none=>cases e
   |some a=>cases e;rw[cz];exact h.1 _ rfl
theorem Max1 {h0 h:PH} [Le h0 h] {s t:Value} {x y:NS} (hs:Sn h0 s x) (ht:Sn h0 t y) (lx:x.le (2^30)) (ly:y.le (2^30)):Spec mach 173 #[s,t] h (fun v h'=>Sn h' v (x.minus.lesser y.minus).minus) NP:=by
 obtain⟨_,_,_,_,_,_,_,_,_,_,_,_,_,_,_,_,rfl,hs⟩:=hs.sa
 obtain⟨_,_,_,_,_,_,_,_,_,_,_,_,_,_,_,_,rfl,ht⟩:=ht.sa
 refine Spec.go [(1,.o [0,2,1,3,4,5,6])] Tryz.func173 rfl rfl (by kernel_rfl) fun C _=>?_
 try simp(disch:=omega) only[go_sem,ξ,ζ]
 refine caN (by exact jK hs) ?_;rintro v1 h1 st1 hv1
 try simp(disch:=omega) only[go_sem,ξ,ζ]
 refine caN (by exact jK ht) ?_;rintro v2 h2 st2 hv2
 try simp(disch:=omega) only[go_sem,ξ,ζ]
 refine caN (by exact wR (hv1.to (h':=h2)) hv2 lx.minus ly.minus) ?_;rintro v3 h3 st3 hv3
 try simp(disch:=omega) only[go_sem,ξ,ζ]
 refine caN (by exact jK hv3) ?_;rintro _ h4 _ hv4;obtain⟨_,_,_,_,_,_,_,_,_,_,_,_,_,_,_,_,rfl,hv4⟩:=hv4.sa
 try simp(disch:=omega) only[go_sem,ξ,ζ]
 exact hv4
theorem Co {h0 h:PH} [Le h0 h] {v w:Value} {x y:RI} (hv:Iv h0 v x) (hw:Iv h0 w y):Spec mach 103 #[v,w] h (fun r h'=>Ir h' r (x.fin2 y (.ok (x.set.minus.lesser y.set.minus).minus))) NP:=by
 have hv0:=hv
 have hw0:=hw
 obtain⟨a1,m1,c1,a2,m2,c2,a3,m3,c3,a4,m4,c4,rfl,_,_⟩:=hv.sa
 obtain⟨a1',m1',c1',a2',m2',c2',a3',m3',c3',a4',m4',c4',rfl,_,_⟩:=hw.sa
 refine Spec.go [] Tryz.func103 rfl rfl (by kernel_rfl) fun C _=>?_
 try simp(disch:=omega) only[go_sem,ξ,ζ]
 refine caN (by exact mV hv0 hw0 (fun g g' h' _ s t hs ht=>Does.mk (Max1 hs.sn ht.sn (RI.le30 g) (RI.le30 g')))) ?_;rintro _ h3 _ hr3;obtain⟨_,_,_,_,_,_,_,_,_,_,_,_,_,_,_,_,_,rfl,hr3⟩:=hr3.sa
 try simp(disch:=omega) only[go_sem,ξ,ζ]
 exact hr3
def rnd (p:Int) (x y:NS) (o:Out):Out:=Out.prec p (bif x.void || y.void then .ok .e else match o with |.error e=>.error e |.ok z=>.ok (z.hull p.toNat))
theorem yW {h0 h:PH} [Le h0 h] {s t:Value} {x y:NS} {p:Int} {f:FuncId} {cap:Array Value} {b1 b2:Nat} {o:Out} (hs:Sd h0 s x) (ht:Sd h0 t y) (hb1:h b1=some #[.int .i64 p]) (hb2:h b2=some #[.func (.func f) #[] cap])
  (hd:x.void=false→y.void=false→∀(h':PH) [Le h h'] (s t:Value),Sd h' s x→Sd h' t y→Does f (s :: t :: cap.toList).toArray h' o) (hl:∀z,o=.ok z→z.le (2^30)):
  Does 237 #[s,t,.pointer (some ⟨b1,0,none⟩),.pointer (some ⟨b2,0,none⟩)] h (rnd p x y o):=by
 obtain⟨_,_,_,_,_,_,_,_,_,_,_,_,_,_,_,_,rfl,hs⟩:=hs.sa
 obtain⟨_,_,_,_,_,_,_,_,_,_,_,_,_,_,_,_,rfl,ht⟩:=ht.sa
 unfold rnd Out.prec
 cases g:bad p with
 | true=>
  show Spec _ _ _ _ NR (fail 2)
  refine Spec.go [(4,.o [0,1,2,4,3,5,6])] Tryz.func237 rfl rfl (by kernel_rfl) fun C _=>?_
  try simp(disch:=omega) only[go_sem,ξ,ζ]
  refine aE (aK hb1) ?_
  try simp(disch:=omega) only[go_sem,ξ,ζ]
  exact caF (by exact iN (i7 g)) (fun _ _ h=>h)
 | false =>
  have hp:=jt g
  dsimp only[cond_false]
  cases gx:x.void with
  | true=>
   rw[gx] at hs
   show Spec _ _ _ _ _ NP
   refine Spec.go [(4,.o [0,1,2,4,3,5,6])] Tryz.func237 rfl rfl (by kernel_rfl) fun C _=>?_
   try simp(disch:=omega) only[go_sem,ξ,ζ]
   refine aE (aK hb1) ?_
   try simp(disch:=omega) only[go_sem,ξ,ζ]
   refine caN (by exact aU hp.1 hp.2) ?_;rintro v1 h1 st1 _
   try simp(disch:=omega) only[go_sem,ξ,ζ]
   exact⟨_,_,_,_,_,_,_,_,rfl,En.nil _,En.nil _⟩
  | false=>
   rw[gx] at hs
   cases gy:y.void with
   | true=>
    rw[gy] at ht
    show Spec _ _ _ _ _ NP
    refine Spec.go [(4,.o [0,1,2,4,3,5,6])] Tryz.func237 rfl rfl (by kernel_rfl) fun C _=>?_
    try simp(disch:=omega) only[go_sem,ξ,ζ]
    refine aE (aK hb1) ?_
    try simp(disch:=omega) only[go_sem,ξ,ζ]
    refine caN (by exact aU hp.1 hp.2) ?_;rintro v1 h1 st1 _
    try simp(disch:=omega) only[go_sem,ξ,ζ]
    exact⟨_,_,_,_,_,_,_,_,rfl,En.nil _,En.nil _⟩
   | false=>
    rw[gy] at ht
    have hd:=hd gx gy
    cases o with
    | error e=>
     show Spec _ _ _ _ NR (fail e)
     refine Spec.go [(4,.o [0,1,2,4,3,5,6])] Tryz.func237 rfl rfl (by kernel_rfl) fun C _=>?_
     try simp(disch:=omega) only[go_sem,ξ,ζ]
     refine aE (aK hb1) ?_
     try simp(disch:=omega) only[go_sem,ξ,ζ]
     refine caN (by exact aU hp.1 hp.2) ?_;rintro v1 h1 st1 _
     try simp(disch:=omega) only[go_sem,ξ,ζ]
     refine aE (aK (st1.sub _ _ hb2)) ?_
     try simp(disch:=omega) only[go_sem,ξ,ζ]
     refine aE (aK (st1.sub _ _ hb1)) ?_
     try simp(disch:=omega) only[go_sem,ξ,ζ]
     exact caF (by exact(hd _ _ _ hs.to ht.to).err) (fun _ _ h=>h)
    | ok z=>
     show Spec _ _ _ _ _ NP
     refine Spec.go [(4,.o [0,1,2,4,3,5,6])] Tryz.func237 rfl rfl (by kernel_rfl) fun C _=>?_
     try simp(disch:=omega) only[go_sem,ξ,ζ]
     refine aE (aK hb1) ?_
     try simp(disch:=omega) only[go_sem,ξ,ζ]
     refine caN (by exact aU hp.1 hp.2) ?_;rintro v1 h1 st1 _
     try simp(disch:=omega) only[go_sem,ξ,ζ]
     refine aE (aK (st1.sub _ _ hb2)) ?_
     try simp(disch:=omega) only[go_sem,ξ,ζ]
     refine aE (aK (st1.sub _ _ hb1)) ?_
     try simp(disch:=omega) only[go_sem,ξ,ζ]
     refine caN (by exact(hd _ _ _ hs.to ht.to).ok) ?_;rintro v2 h2 st2 hv2
     try simp(disch:=omega) only[go_sem,ξ,ζ]
     refine caN (by exact Ah hv2 (hl _ rfl) hp) ?_;rintro _ h3 _ hv3;obtain⟨_,_,_,_,_,_,_,_,_,_,_,_,_,_,_,_,rfl,hv3⟩:=hv3.sa
     try simp(disch:=omega) only[go_sem,ξ,ζ]
     exact hv3
theorem mC {h0 h:PH} [Le h0 h] {v w:Value} {x y:RI} {p:Int} {f:FuncId} {cap:Array Value} {o:Out} (hv:Iv h0 v x) (hw:Iv h0 w y)
  (hd:x.big=false→y.big=false→x.set.void=false→y.set.void=false→∀(h':PH) [Le h h'] (s t:Value),Sd h' s x.set→Sd h' t y.set→Does f (s :: t :: cap.toList).toArray h' o) (hl:x.big=false→y.big=false→∀z,o=.ok z→z.le (2^30)):
  Spec mach 174 #[v,w,.int .i64 p,.func (.func f) #[] cap] h (fun r h'=>Ir h' r (x.fin2 y (rnd p x.set y.set o))) NP:=by
 have hv0:=hv
 have hw0:=hw
 obtain⟨a1,m1,c1,a2,m2,c2,a3,m3,c3,a4,m4,c4,rfl,_,_⟩:=hv.sa
 obtain⟨a1',m1',c1',a2',m2',c2',a3',m3',c3',a4',m4',c4',rfl,_,_⟩:=hw.sa
 refine Spec.go [(1,.t (.p 2 (.p 3 (.s [0,1,2,3,4,5,6,7] .d))))] Tryz.func174 rfl rfl (by kernel_rfl) fun C _=>?_
 try simp(disch:=omega) only[go_sem,ξ,ζ]
 intro b1 h1 st1 hb1
 try simp(disch:=omega) only[go_sem,ξ,ζ]
 intro b2 h2 st2 hb2
 try simp(disch:=omega) only[go_sem,ξ,ζ]
 have hb2:=hb2 (by simp)
 have hb1:=st2.sub _ _ (hb1 (by simp))
 refine caN (by exact mV (hv0.to (h':=h2)) (hw0.to (h':=h2)) (fun g g' h' i s t hs ht=>yW hs ht (i.sub _ _ hb1) (i.sub _ _ hb2) (fun k k' h'' i' s t hs ht=>@hd g g' k k' h'' (Le.tr (Le.tr inferInstance i) i') s t hs ht) (hl g g'))) ?_;rintro _ h4 _ hr4;obtain⟨_,_,_,_,_,_,_,_,_,_,_,_,_,_,_,_,_,rfl,hr4⟩:=hr4.sa
 try simp(disch:=omega) only[go_sem,ξ,ζ]
 exact hr4
theorem NS.le.sum {x y:NS} (hx:x.le 2048) (hy:y.le 2048):(x.sum y).le (2^30):=by
  cases x with
  |e=>rfl
  | i a b =>cases y with
    |e=>rfl
    | i c d =>
      rw[NS.le_i] at hx hy
      show NS.le _ (.i (oadd a c) (oadd b d))
      rw[NS.le_i]
      refine⟨fun q e=>?_,fun q e=>?_⟩
      · cases a with
        |none=>cases e
        | some a=>cases c with
          |none=>cases e
          | some c=>
            cases e
            have:=dA a c
            have:=hx.1 _ rfl
            have:=hy.1 _ rfl
            omega
      · cases b with
        |none=>cases e
        | some b=>cases d with
          |none=>cases e
          | some d=>
            cases e
            have:=dA b d
            have:=hx.2 _ rfl
            have:=hy.2 _ rfl
            omega
theorem Sum1 {h0 h:PH} [Le h0 h] {s t:Value} {x y:NS} (hs:Sn h0 s x) (ht:Sn h0 t y) (gx:x.void=false) (gy:y.void=false) (lx:x.le (2^30)) (ly:y.le (2^30)):Spec mach 175 #[s,t] h (fun v h'=>Sn h' v (x.sum y)) NP:=by
 cases x with
 |e=>cases gx
 | i a b=>cases y with
  |e=>cases gy
  |i c d=>exact sum_set hs ht lx ly
theorem Gb (x:NS):x.minus.void=x.void:=by cases x<;>rfl
theorem Sub1 {h0 h:PH} [Le h0 h] {s t:Value} {x y:NS} (hs:Sn h0 s x) (ht:Sn h0 t y) (gx:x.void=false) (gy:y.void=false) (lx:x.le (2^30)) (ly:y.le (2^30)):Spec mach 176 #[s,t] h (fun v h'=>Sn h' v (x.sum y.minus)) NP:=by
 obtain⟨_,_,_,_,_,_,_,_,_,_,_,_,_,_,_,_,rfl,hs⟩:=hs.sa
 obtain⟨_,_,_,_,_,_,_,_,_,_,_,_,_,_,_,_,rfl,ht⟩:=ht.sa
 refine Spec.go [] Tryz.func176 rfl rfl (by kernel_rfl) fun C _=>?_
 try simp(maxSteps:=999999) (disch:=omega) only[go_sem,ξ,ζ]
 refine caN (by exact jK ht) ?_;rintro v1 h1 st1 hv1
 try simp(maxSteps:=999999) (disch:=omega) only[go_sem,ξ,ζ]
 refine caN (by exact Sum1 (hs.to (h':=h1)) hv1 gx (by rw[Gb];exact gy) lx ly.minus) ?_;rintro _ h2 _ hv2;obtain⟨_,_,_,_,_,_,_,_,_,_,_,_,_,_,_,_,rfl,hv2⟩:=hv2.sa
 try simp(maxSteps:=999999) (disch:=omega) only[go_sem,ξ,ζ]
 exact hv2
theorem jf {h0 h:PH} [Le h0 h] {v w:Value} {x y:RI} {p:Int} (hv:Iv h0 v x) (hw:Iv h0 w y):Spec mach 104 #[v,w,.int .i64 p] h (fun r h'=>Ir h' r (x.fin2 y (rnd p x.set y.set (.ok (x.set.sum y.set))))) NP:=by
 have hv0:=hv
 have hw0:=hw
 obtain⟨a1,m1,c1,a2,m2,c2,a3,m3,c3,a4,m4,c4,rfl,_,_⟩:=hv.sa
 obtain⟨a1',m1',c1',a2',m2',c2',a3',m3',c3',a4',m4',c4',rfl,_,_⟩:=hw.sa
 refine Spec.go [] Tryz.func104 rfl rfl (by kernel_rfl) fun C _=>?_
 try simp(maxSteps:=999999) (disch:=omega) only[go_sem,ξ,ζ]
 refine caN (by exact mC hv0 hw0 (fun g g' k k' h' _ s t hs ht=>Does.mk (Sum1 hs.sn ht.sn k k' (RI.le30 g) (RI.le30 g'))) (fun g g' z e=>by cases e;exact NS.le.sum (RI.le g) (RI.le g'))) ?_;rintro _ h3 _ hr3;obtain⟨_,_,_,_,_,_,_,_,_,_,_,_,_,_,_,_,_,rfl,hr3⟩:=hr3.sa
 try simp(maxSteps:=999999) (disch:=omega) only[go_sem,ξ,ζ]
 exact hr3
theorem qA {h0 h:PH} [Le h0 h] {v w:Value} {x y:RI} {p:Int} (hv:Iv h0 v x) (hw:Iv h0 w y):Spec mach 105 #[v,w,.int .i64 p] h (fun r h'=>Ir h' r (x.fin2 y (rnd p x.set y.set (.ok (x.set.sum y.set.minus))))) NP:=by
 have hv0:=hv
 have hw0:=hw
 obtain⟨a1,m1,c1,a2,m2,c2,a3,m3,c3,a4,m4,c4,rfl,_,_⟩:=hv.sa
 obtain⟨a1',m1',c1',a2',m2',c2',a3',m3',c3',a4',m4',c4',rfl,_,_⟩:=hw.sa
 refine Spec.go [] Tryz.func105 rfl rfl (by kernel_rfl) fun C _=>?_
 try simp(maxSteps:=999999) (disch:=omega) only[go_sem,ξ,ζ]
 refine caN (by exact mC hv0 hw0 (fun g g' k k' h' _ s t hs ht=>Does.mk (Sub1 hs.sn ht.sn k k' (RI.le30 g) (RI.le30 g'))) (fun g g' z e=>by cases e;exact NS.le.sum (RI.le g) (NS.le.minus (RI.le g')))) ?_;rintro _ h3 _ hr3;obtain⟨_,_,_,_,_,_,_,_,_,_,_,_,_,_,_,_,_,rfl,hr3⟩:=hr3.sa
 try simp(maxSteps:=999999) (disch:=omega) only[go_sem,ξ,ζ]
 exact hr3
namespace NS
theorem has_i {a b:Option Rat} {q:Rat}:(NS.i a b).has q=true↔(∀x,a=some x→x≤q)∧(∀x,b=some x→q≤x):=by
 cases a<;>cases b<;>simp[has]<;>grind
theorem ne_has {a b:Option Rat} (h:ordO a b=true):∃q,(NS.i a b).has q=true:=by
 cases a with
 | none=>cases b with
  |none=>exact⟨0,by simp[has]⟩
  |some b=>exact⟨b,by simp[has]<;>grind⟩
 | some a=>cases b with
  |none=>exact⟨a,by simp[has]<;>grind⟩
  |some b=>exact⟨a,by simp[ordO] at h;simp[has];grind⟩
theorem low_has {b:Option Rat} (c:Rat):∃q,q < c∧(NS.i none b).has q=true:=by
 cases b with
 |none=>exact⟨c - 1,by grind,by simp[has]⟩
 |some b=>exact⟨min (c - 1) b,by grind,by simp[has]<;>grind⟩
theorem high_has {a:Option Rat} (c:Rat):∃q,c < q∧(NS.i a none).has q=true:=by
 cases a with
 |none=>exact⟨c+1,by grind,by simp[has]⟩
 |some a=>exact⟨max (c+1) a,by grind,by simp[has]<;>grind⟩
theorem lo_has {a:Rat} {b:Option Rat} (h:ordO (some a) b=true):(NS.i (some a) b).has a=true:=by
 cases b with
 |none=>simp[has]<;>grind
 |some b=>simp[ordO] at h;simp[has];grind
theorem hi_has {a:Option Rat} {b:Rat} (h:ordO a (some b)=true):(NS.i a (some b)).has b=true:=by
 cases a with
 |none=>simp[has]<;>grind
 |some a=>simp[ordO] at h;simp[has];grind
theorem within_iff {x y:NS} (hx:x.ok):x.within y=true↔∀q,x.has q=true→y.has q=true:=by
 cases x with
 |e=>simp[within,has]
 | i a b =>
  cases y with
  | e=>
   obtain⟨q,hq⟩:=ne_has hx
   simp only[within,has,qAw,false_iff]
   exact fun h=>h q hq
  | i c d =>
   constructor
   ·intro h q hq
    rw[has_i] at hq ⊢
    cases a<;>cases b<;>cases c<;>cases d<;>simp[within,lowIn,highIn] at h hq ⊢<;>grind
   ·intro h
    have h1:lowIn c a=true:=by
     cases c with
     |none=>rfl
     | some c=>cases a with
      | none=>
       obtain⟨q,hc,hq⟩:=low_has (b:=b) c
       have:=has_i.1 (h q hq)
       have:=this.1 c rfl
       grind
      | some a=>
       have:=has_i.1 (h a (lo_has hx))
       have:=this.1 c rfl
       simp[lowIn,highIn];grind
    have h2:highIn d b=true:=by
     cases d with
     |none=>rfl
     | some d=>cases b with
      | none=>
       obtain⟨q,hc,hq⟩:=high_has (a:=a) d
       have:=has_i.1 (h q hq)
       have:=this.2 d rfl
       grind
      | some b=>
       have:=has_i.1 (h b (hi_has hx))
       have:=this.2 d rfl
       simp[lowIn,highIn];grind
    simp only[within,h1,h2,Bool.and_self]
theorem anti {x y:NS} (hx:x.ok) (hy:y.ok) (h1:x.within y=true) (h2:y.within x=true):x=y:=by
 cases x with
 | e=>cases y with
  |e=>rfl
  |i c d=>cases h2
 | i a b=>cases y with
  |e=>cases h1
  | i c d=>
   cases a<;>cases b<;>cases c<;>cases d<;>simp[within,lowIn,highIn] at h1 h2 ⊢<;>grind
theorem ext {x y:NS} (hx:x.ok) (hy:y.ok) (h:∀q,x.has q=y.has q):x=y:=
 anti hx hy ((within_iff hx).2 fun q k=>by rw[←h];exact k) ((within_iff hy).2 fun q k=>by rw[h];exact k)
theorem ok_mk {a b:Option Rat}:(mk' a b).ok:=by
 unfold mk'
 cases h:ordO a b with
 |true=>exact h
 |false=>trivial
theorem has_mk {a b:Option Rat} {q:Rat}:(mk' a b).has q=(NS.i a b).has q:=by
 unfold mk'
 cases h:ordO a b with
 |true=>rfl
 | false=>
  cases a<;>cases b<;>simp[ordO] at h
  simp only[has,cond_false]
  symm
  simp[has];grind
theorem has_met {x y:NS} {q:Rat}:(met x y).has q=(x.has q && y.has q):=by
 cases x with
 |e=>cases y<;>simp[met,has]
 | i a b=>cases y with
  |e=>simp[met,has]
  | i c d=>
   simp only[met,has_mk]
   rw[Bool.eq_iff_iff,φ]
   cases a<;>cases b<;>cases c<;>cases d<;>simp[has,omax,omin]<;>grind
theorem ok_met {x y:NS}:(met x y).ok:=by
 cases x<;>cases y<;>first |trivial |exact ok_mk
theorem ok_joined {x y:NS} (hx:x.ok) (hy:y.ok):(joined x y).ok:=by
 cases x with
 |e=>exact hy
 | i a b=>cases y with
  |e=>exact hx
  |i c d=>cases a<;>cases b<;>cases c<;>cases d<;>simp[ok,ordO,joined,jmin,jmax] at hx hy ⊢<;>grind
theorem joined_comm (x y:NS):joined x y=joined y x:=by
 cases x with
 |e=>cases y<;>rfl
 | i a b=>cases y with
  |e=>rfl
  |i c d=>cases a<;>cases b<;>cases c<;>cases d<;>simp[joined,jmin,jmax]<;>grind
end NS
theorem co (p:Nat):(0:Rat) < 2^p:=Rat.pow_pos (by decide)
theorem GK {a b c:Rat} (hb:0 < b):a / b≤c↔a≤c*b:=by
 have:=Rat.lt_div_iff (a:=c) (b:=a) hb
 grind
theorem mW {x y:Rat} (p:Nat) (h:x≤y):gdown x p≤gdown y p:=by
 unfold gdown
 have h1:x*2^p≤y*2^p:=mlr h (llt (co p))
 have h2:(x*2^p).floor≤(y*2^p).floor:=Rat.le_floor_iff.2 (qAq (Rat.floor_le _) h1)
 rw[GK (co p),Rat.div_mul_cancel (by have:=co p;grind)]
 exact_mod_cast h2
theorem GY (x:Rat) (p:Nat):gup (-x) p= -gdown x p:=by
 unfold gup gdown
 rw[Rat.neg_mul,Rat.ceil_eq_neg_floor_neg,Rat.neg_neg,Rat.intCast_neg,qAx,Rat.neg_mul,←qAx]
theorem zG (x:Rat) (p:Nat):gdown (-x) p= -gup x p:=by
 have:=GY (-x) p
 rw[Rat.neg_neg] at this
 rw[this,Rat.neg_neg]
theorem uG (x:Rat) (p:Nat):gup x p= -gdown (-x) p:=by rw[zG,Rat.neg_neg]
theorem xR {x y:Rat} (p:Nat) (h:x≤y):gup x p≤gup y p:=by
 have:=mW p (x:=-y) (y:=-x) (by grind)
 rw[uG,uG];grind
namespace NS
theorem hull_mono {x y:NS} {p:Nat} (h:x.within y=true):(hull p x).within (hull p y)=true:=by
 cases x with
 |e=>rfl
 | i a b=>cases y with
  |e=>cases h
  | i c d=>
   simp only[within,φ] at h
   simp only[hull,within,φ]
   constructor
   ·cases a<;>cases c<;>simp[lowIn,highIn] at h ⊢
    rename_i a c
    have:=mW p (x:=c) (y:=a) (by grind)
    grind
   ·cases b<;>cases d<;>simp[lowIn,highIn] at h ⊢
    rename_i b d
    have:=xR p (x:=b) (y:=d) (by grind)
    grind
theorem ok_minus {x:NS} (hx:x.ok):(minus x).ok:=by
 cases x with
 |e=>trivial
 |i a b=>cases a<;>cases b<;>simp[ok,ordO,minus] at hx ⊢;grind
end NS
def Bd (f:FuncId) (args:Array Value) (h:PH):Except Int Bool→Prop
 |.ok b=>Spec mach f args h (fun v _=>v=.bool b) NP
 |.error e=>Spec mach f args h NR (fail e)
def Br (r:Value):Except Int Bool→Prop
 |.ok b=>r=.tuple #[.bool b,.int .i64 0]
 |.error e=>r=.tuple #[.bool false,.int .i64 e]
theorem Br.sa {r:Value} {o:Except Int Bool} (k:Br r o):∃b e,r=.tuple #[.bool b,.int .i64 e]∧Br (.tuple #[.bool b,.int .i64 e]) o:=by
 cases o with
 |ok b=>exact⟨_,_,k,rfl⟩
 |error e=>exact⟨_,_,k,rfl⟩
theorem tU {h:PH} {f:FuncId} {cap:Array Value} {o:Except Int Bool} (g:Bd f cap h o):Spec mach 45 #[.func (.func f) #[] cap] h (fun r _=>Br r o) NP:=by
 cases o with
 |ok b=>exact tryBo_ok g (fun v h' _ r=>by subst r;exact⟨⟨b,rfl,rfl⟩,rfl⟩)
 |error e=>exact FZ g (fun _ _=>rfl)
theorem Sf.sa {h:PH} {v:Value} {s:PS} (r:Sf h v s):∃b1 a1 m1 c1 a2 m2 c2 b2 a3 m3 c3 a4 m4 c4,v=.agg #[.bool b1,.slice a1 m1 c1,.slice a2 m2 c2,.bool b2,.slice a3 m3 c3,.slice a4 m4 c4,.bool s.l,.bool s.u,.bool s.e]∧
  Fr h (.agg #[.bool b1,.slice a1 m1 c1,.slice a2 m2 c2]) s.lo∧Fr h (.agg #[.bool b2,.slice a3 m3 c3,.slice a4 m4 c4]) s.hi:=by
 obtain⟨b1,x1,y1,b2,x2,y2,rfl,h1,h2⟩:=r
 obtain⟨_,_,_,_,_,_,_,e1,_⟩:=h1.sa
 obtain⟨_,_,_,_,_,_,_,e2,_⟩:=h2.sa
 simp only[Value.agg.injEq,Array.mk.injEq,List.cons.injEq,and_true] at e1 e2
 obtain⟨_,rfl,rfl⟩:=e1
 obtain⟨_,rfl,rfl⟩:=e2
 exact⟨_,_,_,_,_,_,_,_,_,_,_,_,_,_,rfl,h1,h2⟩
theorem Sf.sb {h:PH} {v:Value} {p q:Rat} {l u e:Bool} (r:Sf h v ⟨p,q,l,u,e⟩):∃b1 a1 m1 c1 a2 m2 c2 b2 a3 m3 c3 a4 m4 c4,v=.agg #[.bool b1,.slice a1 m1 c1,.slice a2 m2 c2,.bool b2,.slice a3 m3 c3,.slice a4 m4 c4,.bool l,.bool u,.bool e]∧
  Fr h (.agg #[.bool b1,.slice a1 m1 c1,.slice a2 m2 c2]) p∧Fr h (.agg #[.bool b2,.slice a3 m3 c3,.slice a4 m4 c4]) q:=r.sa
theorem NS.has_one {x:NS} {q:Rat} (hx:x.ok):(!(x.met (.i (some q) (some q))).void)=x.has q:=by
 have h1:(x.met (.i (some q) (some q))).has q=x.has q:=by rw[NS.has_met];simp[NS.has]
 have h2:(x.met (.i (some q) (some q))).ok:=NS.ok_met
 generalize hm:x.met (.i (some q) (some q))=m at*
 cases m with
 |e=>rw[←h1];rfl
 | i a b=>
  obtain⟨q',hq⟩:=NS.ne_has h2
  have h3:=hq
  rw[←hm,NS.has_met,φ,NS.has_i (a:=some q)] at h3
  obtain⟨h3,h4,h5⟩:=h3
  have:q'=q:=Rat.le_antisymm (h5 _ rfl) (h4 _ rfl)
  subst this
  rw[h3];rfl
theorem NS.le_one {q:Rat} {k:Nat} (h:sz q≤k):(NS.i (some q) (some q)).le k:=by
 rw[NS.le_i];exact⟨fun _ e=>by cases e;exact h,fun _ e=>by cases e;exact h⟩
def hasO (x:RI) (neg:Bool) (n d:Nat):Except Int Bool:=bif x.big || decide (lg neg n d) then .error 1 else .ok (x.set.has (qof neg n d))
theorem Has1 {h0 h:PH} [Le h0 h] {v w:Value} {x:RI} {neg:Bool} {n d:Nat} {b1 b2:Nat} {cs ds:List Value} (hv:Iv h0 v x) (hw:Rw h0 w neg n d) (hc:v=.agg cs.toArray) (hl:cs.length=8) (hb1:h b1=some cs.toArray) (hc':w=.agg ds.toArray) (hl':ds.length=3) (hb2:h b2=some ds.toArray):
  Bd 113 #[.pointer (some ⟨b1,0,none⟩),.pointer (some ⟨b2,0,none⟩)] h (hasO x neg n d):=by
 subst hc
 subst hc'
 unfold hasO
 cases g:x.big with
 | true=>
  simp only[Bool.true_or,cond_true]
  refine Spec.go [] Tryz.func113 rfl rfl (by kernel_rfl) fun C _=>?_
  try simp(maxSteps:=999999) (disch:=omega) only[go_sem,ξ,ζ]
  refine dL cs hl (dG hb1) ?_
  try simp(maxSteps:=999999) (disch:=omega) only[go_sem,ξ,ζ]
  exact caF (by exact fF hv g) (fun _ _ h=>h)
 | false=>
  by_cases gl:lg neg n d
  ·simp only[gl,decide_true,Bool.or_true,cond_true]
   refine Spec.go [] Tryz.func113 rfl rfl (by kernel_rfl) fun C _=>?_
   try simp(maxSteps:=999999) (disch:=omega) only[go_sem,ξ,ζ]
   refine dL cs hl (dG hb1) ?_
   try simp(maxSteps:=999999) (disch:=omega) only[go_sem,ξ,ζ]
   refine caN (by exact dK hv g) ?_;rintro s1 h1 st1 hs1;obtain⟨_,_,_,_,_,_,_,_,_,_,_,_,_,_,_,_,rfl,hs1⟩:=hs1.sa
   try simp(maxSteps:=999999) (disch:=omega) only[go_sem,ξ,ζ]
   refine dL ds hl' (dG (st1.sub _ _ hb2)) ?_
   try simp(maxSteps:=999999) (disch:=omega) only[go_sem,ξ,ζ]
   exact caF (by exact jn hw gl) (fun _ _ h=>h)
  ·have z:sz (qof neg n d)≤2^30:=by unfold lg at gl;omega
   simp only[gl,decide_false,Bool.or_false,cond_false]
   rw[←NS.has_one (RI.set_ok x)]
   refine Spec.go [] Tryz.func113 rfl rfl (by kernel_rfl) fun C _=>?_
   try simp(maxSteps:=999999) (disch:=omega) only[go_sem,ξ,ζ]
   refine dL cs hl (dG hb1) ?_
   try simp(maxSteps:=999999) (disch:=omega) only[go_sem,ξ,ζ]
   refine caN (by exact dK hv g) ?_;rintro s1 h1 st1 hs1;obtain⟨_,_,_,_,_,_,_,_,_,_,_,_,_,_,_,_,rfl,hs1⟩:=hs1.sa
   try simp(maxSteps:=999999) (disch:=omega) only[go_sem,ξ,ζ]
   refine dL ds hl' (dG (st1.sub _ _ hb2)) ?_
   try simp(maxSteps:=999999) (disch:=omega) only[go_sem,ξ,ζ]
   refine caN (by exact iM hw gl) ?_;rintro _ h2 _ f2;obtain⟨_,_,_,_,_,_,_,rfl,f2⟩:=f2.sa
   try simp(maxSteps:=999999) (disch:=omega) only[go_sem,ξ,ζ]
   refine caN (by exact qU f2) ?_;rintro _ h3 _ hs3;obtain⟨_,_,_,_,_,_,_,_,_,_,_,_,_,_,_,_,rfl,hs3⟩:=hs3.sa
   try simp(maxSteps:=999999) (disch:=omega) only[go_sem,ξ,ζ]
   refine caN (by exact Gj (hs1.to (h':=h3)) (show Sd h3 _ (.i (some _) (some _)) from hs3) (RI.le30 g) (NS.le_one z)) ?_;rintro _ h4 _ hs4;obtain⟨_,_,_,_,_,_,_,_,_,_,_,_,_,_,_,_,rfl,hs4⟩:=hs4.sa
   try simp(maxSteps:=999999) (disch:=omega) only[go_sem,ξ,ζ]
theorem wP {h0 h:PH} [Le h0 h] {v w:Value} {x:RI} {neg:Bool} {n d:Nat} (hv:Iv h0 v x) (hw:Rw h0 w neg n d):Spec mach 60 #[v,w] h (fun r _=>Br r (hasO x neg n d)) NP:=by
 have hv0:=hv
 have hw0:=hw
 obtain⟨a1,m1,c1,a2,m2,c2,a3,m3,c3,a4,m4,c4,rfl,_,_⟩:=hv.sa
 obtain⟨_,_,_,_,_,_,_,rfl,_⟩:=hw.sa
 refine Spec.go [(1,.t (.p 0 (.p 1 (.s [0,1,2,3,4,5] .d))))] Tryz.func60 rfl rfl (by kernel_rfl) fun C _=>?_
 try simp(maxSteps:=999999) (disch:=omega) only[go_sem,ξ,ζ]
 intro b1 h1 st1 hb1
 try simp(maxSteps:=999999) (disch:=omega) only[go_sem,ξ,ζ]
 intro b2 h2 st2 hb2
 try simp(maxSteps:=999999) (disch:=omega) only[go_sem,ξ,ζ]
 have hb2:=hb2 (by simp)
 have hb1:=st2.sub _ _ (hb1 (by simp))
 refine caN (by exact tU (Has1 (hv0.to (h':=h2)) (hw0.to (h':=h2)) rfl rfl hb1 rfl rfl hb2)) ?_;rintro r3 h3 st3 hr3;obtain⟨_,_,rfl,hr3⟩:=hr3.sa
 try simp(maxSteps:=999999) (disch:=omega) only[go_sem,ξ,ζ]
 exact hr3
theorem NumSign {h0 h:PH} [Le h0 h] {v:Value} {neg:Bool} {n d:Nat} (hv:Rw h0 v neg n d) (hl:¬lg neg n d):Spec mach 29 #[v] h (fun r _=>r=.tuple #[.int .i64 (sgn3 (qof neg n d)),.int .i64 0]) NP:=by
 have hv0:=hv
 obtain⟨_,_,_,_,_,_,_,rfl,_⟩:=hv.sa
 refine Spec.go [] Tryz.func29 rfl rfl (by kernel_rfl) fun C _=>?_
 try simp(disch:=omega) only[go_sem,ξ,ζ]
 refine caN (by exact sN hv0 hl) ?_;rintro v1 h1 s1 ⟨f,rfl,hf⟩;have hf0:=hf;obtain⟨_,_,_,_,_,_,_,rfl,hf⟩:=hf.sa
 try simp(disch:=omega) only[go_sem,ξ,ζ]
 refine caN (by exact dv hf0) ?_;rintro v2 h2 s2 rfl
 try simp(disch:=omega) only[go_sem,ξ,ζ]
end Go.Q
