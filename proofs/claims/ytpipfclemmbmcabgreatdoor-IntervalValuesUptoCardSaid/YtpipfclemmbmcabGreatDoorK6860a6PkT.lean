/-
  Contracts of package interval, and what stands on it. Conditions: each theorem's own.
-/
import Derived.Test.YtpipfclemmbmcabGreatDoorK3aad23PkF
import Derived.Test.YtpipfclemmbmcabGreatDoorK39f9e2PkQ
import Derived.Test.YtpipfclemmbmcabGreatDoorK29b37cPkS
import Derived.Test.YtpipfclemmbmcabGreatDoorK3f4f2bPkL
import Derived.Test.YtpipfclemmbmcabGreatDoorK3b89e4PkN
set_option linter.unusedVariables false
set_option linter.unusedSimpArgs false
open Nat renaming reduceBEq→ξ,reduceAdd→ζ,le_trans→χ
open Bool renaming and_eq_true→φ
namespace Go.Q
open Go.Proofs
set_option maxRecDepth 100000
set_option maxHeartbeats 4000000
theorem mz {a b:Rat} {p:Prop} (h1:b < a→p) (h2:¬b < a→p):p:=by
 by_cases h:b < a
 ·exact h1 h
 ·exact h2 h
theorem met_1 {h0 h:PH} [Le h0 h] {v w:Value} (hs:Sd h0 v (.i none none)) (ht:Sd h0 w (.i none none)) (ls:NS.le (2^30) (.i none none)) (lt:NS.le (2^30) (.i none none)):
  Spec mach 43 #[v,w] h (fun v h'=>Sn h' v (NS.met (.i none none) (.i none none))) NP:=by
 obtain⟨b1,a1,m1,c1,a2,m2,c2,b2,a3,m3,c3,a4,m4,c4,rfl,h1,h2⟩:=Sn.ie hs
 rw[NS.le_i] at ls
 obtain⟨b1',a1',m1',c1',a2',m2',c2',b2',a3',m3',c3',a4',m4',c4',rfl,h3,h4⟩:=Sn.ie ht
 rw[NS.le_i] at lt
 try dsimp only[Option.isNone]
 refine Spec.go [] Tryz.func43 rfl rfl (by kernel_rfl) fun C _=>?_
 try simp(maxSteps:=999999) (disch:=omega) only[go_sem,ξ,ζ]
 exact⟨_,_,_,_,_,_,rfl,h3.to,h4.to⟩
theorem met_2 {h0 h:PH} [Le h0 h] {v w:Value} {d:Rat} (hs:Sd h0 v (.i none none)) (ht:Sd h0 w (.i none (some d))) (ls:NS.le (2^30) (.i none none)) (lt:NS.le (2^30) (.i none (some d))):
  Spec mach 43 #[v,w] h (fun v h'=>Sn h' v (NS.met (.i none none) (.i none (some d)))) NP:=by
 obtain⟨b1,a1,m1,c1,a2,m2,c2,b2,a3,m3,c3,a4,m4,c4,rfl,h1,h2⟩:=Sn.ie hs
 rw[NS.le_i] at ls
 obtain⟨b1',a1',m1',c1',a2',m2',c2',b2',a3',m3',c3',a4',m4',c4',rfl,h3,h4⟩:=Sn.ie ht
 rw[NS.le_i] at lt
 have z4:=lt.2 _ rfl
 try dsimp only[Option.isNone]
 refine Spec.go [] Tryz.func43 rfl rfl (by kernel_rfl) fun C _=>?_
 try simp(maxSteps:=999999) (disch:=omega) only[go_sem,ξ,ζ]
 exact⟨_,_,_,_,_,_,rfl,h3.to,h4.to⟩
theorem met_3 {h0 h:PH} [Le h0 h] {v w:Value} {c:Rat} (hs:Sd h0 v (.i none none)) (ht:Sd h0 w (.i (some c) none)) (ls:NS.le (2^30) (.i none none)) (lt:NS.le (2^30) (.i (some c) none)):
  Spec mach 43 #[v,w] h (fun v h'=>Sn h' v (NS.met (.i none none) (.i (some c) none))) NP:=by
 obtain⟨b1,a1,m1,c1,a2,m2,c2,b2,a3,m3,c3,a4,m4,c4,rfl,h1,h2⟩:=Sn.ie hs
 rw[NS.le_i] at ls
 obtain⟨b1',a1',m1',c1',a2',m2',c2',b2',a3',m3',c3',a4',m4',c4',rfl,h3,h4⟩:=Sn.ie ht
 rw[NS.le_i] at lt
 have z3:=lt.1 _ rfl
 try dsimp only[Option.isNone]
 refine Spec.go [] Tryz.func43 rfl rfl (by kernel_rfl) fun C _=>?_
 try simp(maxSteps:=999999) (disch:=omega) only[go_sem,ξ,ζ]
 exact⟨_,_,_,_,_,_,rfl,h3.to,h4.to⟩
theorem met_4 {h0 h:PH} [Le h0 h] {v w:Value} {c d:Rat} (hs:Sd h0 v (.i none none)) (ht:Sd h0 w (.i (some c) (some d))) (ls:NS.le (2^30) (.i none none)) (lt:NS.le (2^30) (.i (some c) (some d))):
  Spec mach 43 #[v,w] h (fun v h'=>Sn h' v (NS.met (.i none none) (.i (some c) (some d)))) NP:=by
 obtain⟨b1,a1,m1,c1,a2,m2,c2,b2,a3,m3,c3,a4,m4,c4,rfl,h1,h2⟩:=Sn.ie hs
 rw[NS.le_i] at ls
 obtain⟨b1',a1',m1',c1',a2',m2',c2',b2',a3',m3',c3',a4',m4',c4',rfl,h3,h4⟩:=Sn.ie ht
 rw[NS.le_i] at lt
 have z3:=lt.1 _ rfl
 have z4:=lt.2 _ rfl
 try dsimp only[Option.isNone]
 refine Spec.go [] Tryz.func43 rfl rfl (by kernel_rfl) fun C _=>?_
 try simp(maxSteps:=999999) (disch:=omega) only[go_sem,ξ,ζ]
 refine caN (by exact dq h3.num h4.num (up36 (z3)) (up36 (z4))) ?_;rintro vc hc sc rfl
 try simp(maxSteps:=999999) (disch:=omega) only[go_sem,ξ,ζ]
 refine mz (a:=c) (b:=d) (fun hlt=>?_) (fun hle=>?_)
 ·have e1:0 < cmpQ c d:=by unfold cmpQ;grind
  try simp(maxSteps:=999999) (disch:=omega) only[go_sem,ξ,ζ]
  have eq:NS.met (.i none none) (.i (some c) (some d))=.e:=by simp[NS.met,omax,omin,NS.mk',ordO,hlt]
  rw[eq]
  exact⟨_,_,_,_,_,_,_,_,rfl,h3.junk.to,h4.junk.to⟩
 ·have e1:¬0 < cmpQ c d:=by unfold cmpQ;grind
  try simp(maxSteps:=999999) (disch:=omega) only[go_sem,ξ,ζ]
  have eq:NS.met (.i none none) (.i (some c) (some d))=.i (some c) (some d):=by simp[NS.met,omax,omin,NS.mk',ordO,hle]
  rw[eq]
  exact⟨_,_,_,_,_,_,rfl,h3.to,h4.to⟩
theorem met_5 {h0 h:PH} [Le h0 h] {v w:Value} (hs:Sd h0 v (.i none none)) (ht:Sd h0 w .e) (ls:NS.le (2^30) (.i none none)) (lt:NS.le (2^30) .e):
  Spec mach 43 #[v,w] h (fun v h'=>Sn h' v (NS.met (.i none none) .e)) NP:=by
 obtain⟨b1,a1,m1,c1,a2,m2,c2,b2,a3,m3,c3,a4,m4,c4,rfl,h1,h2⟩:=Sn.ie hs
 rw[NS.le_i] at ls
 obtain⟨b1',a1',m1',c1',a2',m2',c2',b2',a3',m3',c3',a4',m4',c4',c,d,rfl,h3,h4,z3,z4⟩:=ht.ee
 try dsimp only[Option.isNone]
 refine Spec.go [] Tryz.func43 rfl rfl (by kernel_rfl) fun C _=>?_
 try simp(maxSteps:=999999) (disch:=omega) only[go_sem,ξ,ζ]
 exact⟨_,_,_,_,_,_,_,_,rfl,h3.junk.to,h4.junk.to⟩
theorem met_6 {h0 h:PH} [Le h0 h] {v w:Value} {b:Rat} (hs:Sd h0 v (.i none (some b))) (ht:Sd h0 w (.i none none)) (ls:NS.le (2^30) (.i none (some b))) (lt:NS.le (2^30) (.i none none)):
  Spec mach 43 #[v,w] h (fun v h'=>Sn h' v (NS.met (.i none (some b)) (.i none none))) NP:=by
 obtain⟨b1,a1,m1,c1,a2,m2,c2,b2,a3,m3,c3,a4,m4,c4,rfl,h1,h2⟩:=Sn.ie hs
 rw[NS.le_i] at ls
 have z2:=ls.2 _ rfl
 obtain⟨b1',a1',m1',c1',a2',m2',c2',b2',a3',m3',c3',a4',m4',c4',rfl,h3,h4⟩:=Sn.ie ht
 rw[NS.le_i] at lt
 try dsimp only[Option.isNone]
 refine Spec.go [] Tryz.func43 rfl rfl (by kernel_rfl) fun C _=>?_
 try simp(maxSteps:=999999) (disch:=omega) only[go_sem,ξ,ζ]
 exact⟨_,_,_,_,_,_,rfl,h3.to,h2.to⟩
theorem met_7 {h0 h:PH} [Le h0 h] {v w:Value} {b d:Rat} (hs:Sd h0 v (.i none (some b))) (ht:Sd h0 w (.i none (some d))) (ls:NS.le (2^30) (.i none (some b))) (lt:NS.le (2^30) (.i none (some d))):
  Spec mach 43 #[v,w] h (fun v h'=>Sn h' v (NS.met (.i none (some b)) (.i none (some d)))) NP:=by
 obtain⟨b1,a1,m1,c1,a2,m2,c2,b2,a3,m3,c3,a4,m4,c4,rfl,h1,h2⟩:=Sn.ie hs
 rw[NS.le_i] at ls
 have z2:=ls.2 _ rfl
 obtain⟨b1',a1',m1',c1',a2',m2',c2',b2',a3',m3',c3',a4',m4',c4',rfl,h3,h4⟩:=Sn.ie ht
 rw[NS.le_i] at lt
 have z4:=lt.2 _ rfl
 try dsimp only[Option.isNone]
 refine Spec.go [] Tryz.func43 rfl rfl (by kernel_rfl) fun C _=>?_
 try simp(maxSteps:=999999) (disch:=omega) only[go_sem,ξ,ζ]
 refine caN (by exact dP h2.num h4.num (up36 z2) (up36 z4)) ?_;rintro _ g2 _ f2;obtain⟨_,_,_,_,_,_,_,rfl,f2⟩:=f2.sa
 try simp(maxSteps:=999999) (disch:=omega) only[go_sem,ξ,ζ]
 exact⟨_,_,_,_,_,_,rfl,h3.to,(En.of f2).to⟩
theorem met_8 {h0 h:PH} [Le h0 h] {v w:Value} {b c:Rat} (hs:Sd h0 v (.i none (some b))) (ht:Sd h0 w (.i (some c) none)) (ls:NS.le (2^30) (.i none (some b))) (lt:NS.le (2^30) (.i (some c) none)):
  Spec mach 43 #[v,w] h (fun v h'=>Sn h' v (NS.met (.i none (some b)) (.i (some c) none))) NP:=by
 obtain⟨b1,a1,m1,c1,a2,m2,c2,b2,a3,m3,c3,a4,m4,c4,rfl,h1,h2⟩:=Sn.ie hs
 rw[NS.le_i] at ls
 have z2:=ls.2 _ rfl
 obtain⟨b1',a1',m1',c1',a2',m2',c2',b2',a3',m3',c3',a4',m4',c4',rfl,h3,h4⟩:=Sn.ie ht
 rw[NS.le_i] at lt
 have z3:=lt.1 _ rfl
 try dsimp only[Option.isNone]
 refine Spec.go [] Tryz.func43 rfl rfl (by kernel_rfl) fun C _=>?_
 try simp(maxSteps:=999999) (disch:=omega) only[go_sem,ξ,ζ]
 refine caN (by exact dq h3.num h2.num (up36 (z3)) (up36 (z2))) ?_;rintro vc hc sc rfl
 try simp(maxSteps:=999999) (disch:=omega) only[go_sem,ξ,ζ]
 refine mz (a:=c) (b:=b) (fun hlt=>?_) (fun hle=>?_)
 ·have e1:0 < cmpQ c b:=by unfold cmpQ;grind
  try simp(maxSteps:=999999) (disch:=omega) only[go_sem,ξ,ζ]
  have eq:NS.met (.i none (some b)) (.i (some c) none)=.e:=by simp[NS.met,omax,omin,NS.mk',ordO,hlt]
  rw[eq]
  exact⟨_,_,_,_,_,_,_,_,rfl,h3.junk.to,h2.junk.to⟩
 ·have e1:¬0 < cmpQ c b:=by unfold cmpQ;grind
  try simp(maxSteps:=999999) (disch:=omega) only[go_sem,ξ,ζ]
  have eq:NS.met (.i none (some b)) (.i (some c) none)=.i (some c) (some b):=by simp[NS.met,omax,omin,NS.mk',ordO,hle]
  rw[eq]
  exact⟨_,_,_,_,_,_,rfl,h3.to,h2.to⟩
theorem met_9 {h0 h:PH} [Le h0 h] {v w:Value} {b c d:Rat} (hs:Sd h0 v (.i none (some b))) (ht:Sd h0 w (.i (some c) (some d))) (ls:NS.le (2^30) (.i none (some b))) (lt:NS.le (2^30) (.i (some c) (some d))):
  Spec mach 43 #[v,w] h (fun v h'=>Sn h' v (NS.met (.i none (some b)) (.i (some c) (some d)))) NP:=by
 obtain⟨b1,a1,m1,c1,a2,m2,c2,b2,a3,m3,c3,a4,m4,c4,rfl,h1,h2⟩:=Sn.ie hs
 rw[NS.le_i] at ls
 have z2:=ls.2 _ rfl
 obtain⟨b1',a1',m1',c1',a2',m2',c2',b2',a3',m3',c3',a4',m4',c4',rfl,h3,h4⟩:=Sn.ie ht
 rw[NS.le_i] at lt
 have z3:=lt.1 _ rfl
 have z4:=lt.2 _ rfl
 try dsimp only[Option.isNone]
 refine Spec.go [] Tryz.func43 rfl rfl (by kernel_rfl) fun C _=>?_
 try simp(maxSteps:=999999) (disch:=omega) only[go_sem,ξ,ζ]
 refine caN (by exact dP h2.num h4.num (up36 z2) (up36 z4)) ?_;rintro _ g2 _ f2;obtain⟨_,_,_,_,_,_,_,rfl,f2⟩:=f2.sa
 try simp(maxSteps:=999999) (disch:=omega) only[go_sem,ξ,ζ]
 refine caN (by exact dq (h3.num.to (h':=g2)) ((En.of f2).num.to (h':=g2)) (up36 (z3)) (up36 (py z2 z4))) ?_;rintro vc hc sc rfl
 try simp(maxSteps:=999999) (disch:=omega) only[go_sem,ξ,ζ]
 refine mz (a:=c) (b:=(min b d)) (fun hlt=>?_) (fun hle=>?_)
 ·have e1:0 < cmpQ c (min b d):=by unfold cmpQ;grind
  try simp(maxSteps:=999999) (disch:=omega) only[go_sem,ξ,ζ]
  have eq:NS.met (.i none (some b)) (.i (some c) (some d))=.e:=by simp[NS.met,omax,omin,NS.mk',ordO,hlt]
  rw[eq]
  exact⟨_,_,_,_,_,_,_,_,rfl,h3.junk.to,(En.of f2).junk.to⟩
 ·have e1:¬0 < cmpQ c (min b d):=by unfold cmpQ;grind
  try simp(maxSteps:=999999) (disch:=omega) only[go_sem,ξ,ζ]
  have eq:NS.met (.i none (some b)) (.i (some c) (some d))=.i (some c) (some (min b d)):=by simp[NS.met,omax,omin,NS.mk',ordO,hle]
  rw[eq]
  exact⟨_,_,_,_,_,_,rfl,h3.to,(En.of f2).to⟩
theorem met_10 {h0 h:PH} [Le h0 h] {v w:Value} {b:Rat} (hs:Sd h0 v (.i none (some b))) (ht:Sd h0 w .e) (ls:NS.le (2^30) (.i none (some b))) (lt:NS.le (2^30) .e):
  Spec mach 43 #[v,w] h (fun v h'=>Sn h' v (NS.met (.i none (some b)) .e)) NP:=by
 obtain⟨b1,a1,m1,c1,a2,m2,c2,b2,a3,m3,c3,a4,m4,c4,rfl,h1,h2⟩:=Sn.ie hs
 rw[NS.le_i] at ls
 have z2:=ls.2 _ rfl
 obtain⟨b1',a1',m1',c1',a2',m2',c2',b2',a3',m3',c3',a4',m4',c4',c,d,rfl,h3,h4,z3,z4⟩:=ht.ee
 try dsimp only[Option.isNone]
 refine Spec.go [] Tryz.func43 rfl rfl (by kernel_rfl) fun C _=>?_
 try simp(maxSteps:=999999) (disch:=omega) only[go_sem,ξ,ζ]
 refine caN (by exact dP h2.num h4.num (up36 z2) (up36 z4)) ?_;rintro _ g2 _ f2;obtain⟨_,_,_,_,_,_,_,rfl,f2⟩:=f2.sa
 try simp(maxSteps:=999999) (disch:=omega) only[go_sem,ξ,ζ]
 exact⟨_,_,_,_,_,_,_,_,rfl,h3.junk.to,(En.of f2).junk.to⟩
theorem met_11 {h0 h:PH} [Le h0 h] {v w:Value} {a:Rat} (hs:Sd h0 v (.i (some a) none)) (ht:Sd h0 w (.i none none)) (ls:NS.le (2^30) (.i (some a) none)) (lt:NS.le (2^30) (.i none none)):
  Spec mach 43 #[v,w] h (fun v h'=>Sn h' v (NS.met (.i (some a) none) (.i none none))) NP:=by
 obtain⟨b1,a1,m1,c1,a2,m2,c2,b2,a3,m3,c3,a4,m4,c4,rfl,h1,h2⟩:=Sn.ie hs
 rw[NS.le_i] at ls
 have z1:=ls.1 _ rfl
 obtain⟨b1',a1',m1',c1',a2',m2',c2',b2',a3',m3',c3',a4',m4',c4',rfl,h3,h4⟩:=Sn.ie ht
 rw[NS.le_i] at lt
 try dsimp only[Option.isNone]
 refine Spec.go [] Tryz.func43 rfl rfl (by kernel_rfl) fun C _=>?_
 try simp(maxSteps:=999999) (disch:=omega) only[go_sem,ξ,ζ]
 exact⟨_,_,_,_,_,_,rfl,h1.to,h4.to⟩
theorem met_12 {h0 h:PH} [Le h0 h] {v w:Value} {a d:Rat} (hs:Sd h0 v (.i (some a) none)) (ht:Sd h0 w (.i none (some d))) (ls:NS.le (2^30) (.i (some a) none)) (lt:NS.le (2^30) (.i none (some d))):
  Spec mach 43 #[v,w] h (fun v h'=>Sn h' v (NS.met (.i (some a) none) (.i none (some d)))) NP:=by
 obtain⟨b1,a1,m1,c1,a2,m2,c2,b2,a3,m3,c3,a4,m4,c4,rfl,h1,h2⟩:=Sn.ie hs
 rw[NS.le_i] at ls
 have z1:=ls.1 _ rfl
 obtain⟨b1',a1',m1',c1',a2',m2',c2',b2',a3',m3',c3',a4',m4',c4',rfl,h3,h4⟩:=Sn.ie ht
 rw[NS.le_i] at lt
 have z4:=lt.2 _ rfl
 try dsimp only[Option.isNone]
 refine Spec.go [] Tryz.func43 rfl rfl (by kernel_rfl) fun C _=>?_
 try simp(maxSteps:=999999) (disch:=omega) only[go_sem,ξ,ζ]
 refine caN (by exact dq h1.num h4.num (up36 (z1)) (up36 (z4))) ?_;rintro vc hc sc rfl
 try simp(maxSteps:=999999) (disch:=omega) only[go_sem,ξ,ζ]
 refine mz (a:=a) (b:=d) (fun hlt=>?_) (fun hle=>?_)
 ·have e1:0 < cmpQ a d:=by unfold cmpQ;grind
  try simp(maxSteps:=999999) (disch:=omega) only[go_sem,ξ,ζ]
  have eq:NS.met (.i (some a) none) (.i none (some d))=.e:=by simp[NS.met,omax,omin,NS.mk',ordO,hlt]
  rw[eq]
  exact⟨_,_,_,_,_,_,_,_,rfl,h1.junk.to,h4.junk.to⟩
 ·have e1:¬0 < cmpQ a d:=by unfold cmpQ;grind
  try simp(maxSteps:=999999) (disch:=omega) only[go_sem,ξ,ζ]
  have eq:NS.met (.i (some a) none) (.i none (some d))=.i (some a) (some d):=by simp[NS.met,omax,omin,NS.mk',ordO,hle]
  rw[eq]
  exact⟨_,_,_,_,_,_,rfl,h1.to,h4.to⟩
theorem met_13 {h0 h:PH} [Le h0 h] {v w:Value} {a c:Rat} (hs:Sd h0 v (.i (some a) none)) (ht:Sd h0 w (.i (some c) none)) (ls:NS.le (2^30) (.i (some a) none)) (lt:NS.le (2^30) (.i (some c) none)):
  Spec mach 43 #[v,w] h (fun v h'=>Sn h' v (NS.met (.i (some a) none) (.i (some c) none))) NP:=by
 obtain⟨b1,a1,m1,c1,a2,m2,c2,b2,a3,m3,c3,a4,m4,c4,rfl,h1,h2⟩:=Sn.ie hs
 rw[NS.le_i] at ls
 have z1:=ls.1 _ rfl
 obtain⟨b1',a1',m1',c1',a2',m2',c2',b2',a3',m3',c3',a4',m4',c4',rfl,h3,h4⟩:=Sn.ie ht
 rw[NS.le_i] at lt
 have z3:=lt.1 _ rfl
 try dsimp only[Option.isNone]
 refine Spec.go [] Tryz.func43 rfl rfl (by kernel_rfl) fun C _=>?_
 try simp(maxSteps:=999999) (disch:=omega) only[go_sem,ξ,ζ]
 refine caN (by exact cE h1.num h3.num (up36 z1) (up36 z3)) ?_;rintro _ g1 _ f1;obtain⟨_,_,_,_,_,_,_,rfl,f1⟩:=f1.sa
 try simp(maxSteps:=999999) (disch:=omega) only[go_sem,ξ,ζ]
 exact⟨_,_,_,_,_,_,rfl,(En.of f1).to,h4.to⟩
theorem met_14 {h0 h:PH} [Le h0 h] {v w:Value} {a c d:Rat} (hs:Sd h0 v (.i (some a) none)) (ht:Sd h0 w (.i (some c) (some d))) (ls:NS.le (2^30) (.i (some a) none)) (lt:NS.le (2^30) (.i (some c) (some d))):
  Spec mach 43 #[v,w] h (fun v h'=>Sn h' v (NS.met (.i (some a) none) (.i (some c) (some d)))) NP:=by
 obtain⟨b1,a1,m1,c1,a2,m2,c2,b2,a3,m3,c3,a4,m4,c4,rfl,h1,h2⟩:=Sn.ie hs
 rw[NS.le_i] at ls
 have z1:=ls.1 _ rfl
 obtain⟨b1',a1',m1',c1',a2',m2',c2',b2',a3',m3',c3',a4',m4',c4',rfl,h3,h4⟩:=Sn.ie ht
 rw[NS.le_i] at lt
 have z3:=lt.1 _ rfl
 have z4:=lt.2 _ rfl
 try dsimp only[Option.isNone]
 refine Spec.go [] Tryz.func43 rfl rfl (by kernel_rfl) fun C _=>?_
 try simp(maxSteps:=999999) (disch:=omega) only[go_sem,ξ,ζ]
 refine caN (by exact cE h1.num h3.num (up36 z1) (up36 z3)) ?_;rintro _ g1 _ f1;obtain⟨_,_,_,_,_,_,_,rfl,f1⟩:=f1.sa
 try simp(maxSteps:=999999) (disch:=omega) only[go_sem,ξ,ζ]
 refine caN (by exact dq ((En.of f1).num.to (h':=g1)) (h4.num.to (h':=g1)) (up36 (px z1 z3)) (up36 (z4))) ?_;rintro vc hc sc rfl
 try simp(maxSteps:=999999) (disch:=omega) only[go_sem,ξ,ζ]
 refine mz (a:=(max a c)) (b:=d) (fun hlt=>?_) (fun hle=>?_)
 ·have e1:0 < cmpQ (max a c) d:=by unfold cmpQ;grind
  try simp(maxSteps:=999999) (disch:=omega) only[go_sem,ξ,ζ]
  have eq:NS.met (.i (some a) none) (.i (some c) (some d))=.e:=by simp[NS.met,omax,omin,NS.mk',ordO,hlt]
  rw[eq]
  exact⟨_,_,_,_,_,_,_,_,rfl,(En.of f1).junk.to,h4.junk.to⟩
 ·have e1:¬0 < cmpQ (max a c) d:=by unfold cmpQ;grind
  try simp(maxSteps:=999999) (disch:=omega) only[go_sem,ξ,ζ]
  have eq:NS.met (.i (some a) none) (.i (some c) (some d))=.i (some (max a c)) (some d):=by simp[NS.met,omax,omin,NS.mk',ordO,hle]
  rw[eq]
  exact⟨_,_,_,_,_,_,rfl,(En.of f1).to,h4.to⟩
theorem met_15 {h0 h:PH} [Le h0 h] {v w:Value} {a:Rat} (hs:Sd h0 v (.i (some a) none)) (ht:Sd h0 w .e) (ls:NS.le (2^30) (.i (some a) none)) (lt:NS.le (2^30) .e):
  Spec mach 43 #[v,w] h (fun v h'=>Sn h' v (NS.met (.i (some a) none) .e)) NP:=by
 obtain⟨b1,a1,m1,c1,a2,m2,c2,b2,a3,m3,c3,a4,m4,c4,rfl,h1,h2⟩:=Sn.ie hs
 rw[NS.le_i] at ls
 have z1:=ls.1 _ rfl
 obtain⟨b1',a1',m1',c1',a2',m2',c2',b2',a3',m3',c3',a4',m4',c4',c,d,rfl,h3,h4,z3,z4⟩:=ht.ee
 try dsimp only[Option.isNone]
 refine Spec.go [] Tryz.func43 rfl rfl (by kernel_rfl) fun C _=>?_
 try simp(maxSteps:=999999) (disch:=omega) only[go_sem,ξ,ζ]
 refine caN (by exact cE h1.num h3.num (up36 z1) (up36 z3)) ?_;rintro _ g1 _ f1;obtain⟨_,_,_,_,_,_,_,rfl,f1⟩:=f1.sa
 try simp(maxSteps:=999999) (disch:=omega) only[go_sem,ξ,ζ]
 exact⟨_,_,_,_,_,_,_,_,rfl,(En.of f1).junk.to,h4.junk.to⟩
theorem met_16 {h0 h:PH} [Le h0 h] {v w:Value} {a b:Rat} (hs:Sd h0 v (.i (some a) (some b))) (ht:Sd h0 w (.i none none)) (ls:NS.le (2^30) (.i (some a) (some b))) (lt:NS.le (2^30) (.i none none)):
  Spec mach 43 #[v,w] h (fun v h'=>Sn h' v (NS.met (.i (some a) (some b)) (.i none none))) NP:=by
 obtain⟨b1,a1,m1,c1,a2,m2,c2,b2,a3,m3,c3,a4,m4,c4,rfl,h1,h2⟩:=Sn.ie hs
 rw[NS.le_i] at ls
 have z1:=ls.1 _ rfl
 have z2:=ls.2 _ rfl
 obtain⟨b1',a1',m1',c1',a2',m2',c2',b2',a3',m3',c3',a4',m4',c4',rfl,h3,h4⟩:=Sn.ie ht
 rw[NS.le_i] at lt
 try dsimp only[Option.isNone]
 refine Spec.go [] Tryz.func43 rfl rfl (by kernel_rfl) fun C _=>?_
 try simp(maxSteps:=999999) (disch:=omega) only[go_sem,ξ,ζ]
 refine caN (by exact dq h1.num h2.num (up36 (z1)) (up36 (z2))) ?_;rintro vc hc sc rfl
 try simp(maxSteps:=999999) (disch:=omega) only[go_sem,ξ,ζ]
 refine mz (a:=a) (b:=b) (fun hlt=>?_) (fun hle=>?_)
 ·have e1:0 < cmpQ a b:=by unfold cmpQ;grind
  try simp(maxSteps:=999999) (disch:=omega) only[go_sem,ξ,ζ]
  have eq:NS.met (.i (some a) (some b)) (.i none none)=.e:=by simp[NS.met,omax,omin,NS.mk',ordO,hlt]
  rw[eq]
  exact⟨_,_,_,_,_,_,_,_,rfl,h1.junk.to,h2.junk.to⟩
 ·have e1:¬0 < cmpQ a b:=by unfold cmpQ;grind
  try simp(maxSteps:=999999) (disch:=omega) only[go_sem,ξ,ζ]
  have eq:NS.met (.i (some a) (some b)) (.i none none)=.i (some a) (some b):=by simp[NS.met,omax,omin,NS.mk',ordO,hle]
  rw[eq]
  exact⟨_,_,_,_,_,_,rfl,h1.to,h2.to⟩
theorem met_17 {h0 h:PH} [Le h0 h] {v w:Value} {a b d:Rat} (hs:Sd h0 v (.i (some a) (some b))) (ht:Sd h0 w (.i none (some d))) (ls:NS.le (2^30) (.i (some a) (some b))) (lt:NS.le (2^30) (.i none (some d))):
  Spec mach 43 #[v,w] h (fun v h'=>Sn h' v (NS.met (.i (some a) (some b)) (.i none (some d)))) NP:=by
 obtain⟨b1,a1,m1,c1,a2,m2,c2,b2,a3,m3,c3,a4,m4,c4,rfl,h1,h2⟩:=Sn.ie hs
 rw[NS.le_i] at ls
 have z1:=ls.1 _ rfl
 have z2:=ls.2 _ rfl
 obtain⟨b1',a1',m1',c1',a2',m2',c2',b2',a3',m3',c3',a4',m4',c4',rfl,h3,h4⟩:=Sn.ie ht
 rw[NS.le_i] at lt
 have z4:=lt.2 _ rfl
 try dsimp only[Option.isNone]
 refine Spec.go [] Tryz.func43 rfl rfl (by kernel_rfl) fun C _=>?_
 try simp(maxSteps:=999999) (disch:=omega) only[go_sem,ξ,ζ]
 refine caN (by exact dP h2.num h4.num (up36 z2) (up36 z4)) ?_;rintro _ g2 _ f2;obtain⟨_,_,_,_,_,_,_,rfl,f2⟩:=f2.sa
 try simp(maxSteps:=999999) (disch:=omega) only[go_sem,ξ,ζ]
 refine caN (by exact dq (h1.num.to (h':=g2)) ((En.of f2).num.to (h':=g2)) (up36 (z1)) (up36 (py z2 z4))) ?_;rintro vc hc sc rfl
 try simp(maxSteps:=999999) (disch:=omega) only[go_sem,ξ,ζ]
 refine mz (a:=a) (b:=(min b d)) (fun hlt=>?_) (fun hle=>?_)
 ·have e1:0 < cmpQ a (min b d):=by unfold cmpQ;grind
  try simp(maxSteps:=999999) (disch:=omega) only[go_sem,ξ,ζ]
  have eq:NS.met (.i (some a) (some b)) (.i none (some d))=.e:=by simp[NS.met,omax,omin,NS.mk',ordO,hlt]
  rw[eq]
  exact⟨_,_,_,_,_,_,_,_,rfl,h1.junk.to,(En.of f2).junk.to⟩
 ·have e1:¬0 < cmpQ a (min b d):=by unfold cmpQ;grind
  try simp(maxSteps:=999999) (disch:=omega) only[go_sem,ξ,ζ]
  have eq:NS.met (.i (some a) (some b)) (.i none (some d))=.i (some a) (some (min b d)):=by simp[NS.met,omax,omin,NS.mk',ordO,hle]
  rw[eq]
  exact⟨_,_,_,_,_,_,rfl,h1.to,(En.of f2).to⟩
theorem met_18 {h0 h:PH} [Le h0 h] {v w:Value} {a b c:Rat} (hs:Sd h0 v (.i (some a) (some b))) (ht:Sd h0 w (.i (some c) none)) (ls:NS.le (2^30) (.i (some a) (some b))) (lt:NS.le (2^30) (.i (some c) none)):
  Spec mach 43 #[v,w] h (fun v h'=>Sn h' v (NS.met (.i (some a) (some b)) (.i (some c) none))) NP:=by
 obtain⟨b1,a1,m1,c1,a2,m2,c2,b2,a3,m3,c3,a4,m4,c4,rfl,h1,h2⟩:=Sn.ie hs
 rw[NS.le_i] at ls
 have z1:=ls.1 _ rfl
 have z2:=ls.2 _ rfl
 obtain⟨b1',a1',m1',c1',a2',m2',c2',b2',a3',m3',c3',a4',m4',c4',rfl,h3,h4⟩:=Sn.ie ht
 rw[NS.le_i] at lt
 have z3:=lt.1 _ rfl
 try dsimp only[Option.isNone]
 refine Spec.go [] Tryz.func43 rfl rfl (by kernel_rfl) fun C _=>?_
 try simp(maxSteps:=999999) (disch:=omega) only[go_sem,ξ,ζ]
 refine caN (by exact cE h1.num h3.num (up36 z1) (up36 z3)) ?_;rintro _ g1 _ f1;obtain⟨_,_,_,_,_,_,_,rfl,f1⟩:=f1.sa
 try simp(maxSteps:=999999) (disch:=omega) only[go_sem,ξ,ζ]
 refine caN (by exact dq ((En.of f1).num.to (h':=g1)) (h2.num.to (h':=g1)) (up36 (px z1 z3)) (up36 (z2))) ?_;rintro vc hc sc rfl
 try simp(maxSteps:=999999) (disch:=omega) only[go_sem,ξ,ζ]
 refine mz (a:=(max a c)) (b:=b) (fun hlt=>?_) (fun hle=>?_)
 ·have e1:0 < cmpQ (max a c) b:=by unfold cmpQ;grind
  try simp(maxSteps:=999999) (disch:=omega) only[go_sem,ξ,ζ]
  have eq:NS.met (.i (some a) (some b)) (.i (some c) none)=.e:=by simp[NS.met,omax,omin,NS.mk',ordO,hlt]
  rw[eq]
  exact⟨_,_,_,_,_,_,_,_,rfl,(En.of f1).junk.to,h2.junk.to⟩
 ·have e1:¬0 < cmpQ (max a c) b:=by unfold cmpQ;grind
  try simp(maxSteps:=999999) (disch:=omega) only[go_sem,ξ,ζ]
  have eq:NS.met (.i (some a) (some b)) (.i (some c) none)=.i (some (max a c)) (some b):=by simp[NS.met,omax,omin,NS.mk',ordO,hle]
  rw[eq]
  exact⟨_,_,_,_,_,_,rfl,(En.of f1).to,h2.to⟩
theorem met_19 {h0 h:PH} [Le h0 h] {v w:Value} {a b c d:Rat} (hs:Sd h0 v (.i (some a) (some b))) (ht:Sd h0 w (.i (some c) (some d))) (ls:NS.le (2^30) (.i (some a) (some b))) (lt:NS.le (2^30) (.i (some c) (some d))):
  Spec mach 43 #[v,w] h (fun v h'=>Sn h' v (NS.met (.i (some a) (some b)) (.i (some c) (some d)))) NP:=by
 obtain⟨b1,a1,m1,c1,a2,m2,c2,b2,a3,m3,c3,a4,m4,c4,rfl,h1,h2⟩:=Sn.ie hs
 rw[NS.le_i] at ls
 have z1:=ls.1 _ rfl
 have z2:=ls.2 _ rfl
 obtain⟨b1',a1',m1',c1',a2',m2',c2',b2',a3',m3',c3',a4',m4',c4',rfl,h3,h4⟩:=Sn.ie ht
 rw[NS.le_i] at lt
 have z3:=lt.1 _ rfl
 have z4:=lt.2 _ rfl
 try dsimp only[Option.isNone]
 refine Spec.go [] Tryz.func43 rfl rfl (by kernel_rfl) fun C _=>?_
 try simp(maxSteps:=999999) (disch:=omega) only[go_sem,ξ,ζ]
 refine caN (by exact cE h1.num h3.num (up36 z1) (up36 z3)) ?_;rintro _ g1 _ f1;obtain⟨_,_,_,_,_,_,_,rfl,f1⟩:=f1.sa
 try simp(maxSteps:=999999) (disch:=omega) only[go_sem,ξ,ζ]
 refine caN (by exact dP h2.num h4.num (up36 z2) (up36 z4)) ?_;rintro _ g2 _ f2;obtain⟨_,_,_,_,_,_,_,rfl,f2⟩:=f2.sa
 try simp(maxSteps:=999999) (disch:=omega) only[go_sem,ξ,ζ]
 refine caN (by exact dq ((En.of f1).num.to (h':=g2)) ((En.of f2).num.to (h':=g2)) (up36 (px z1 z3)) (up36 (py z2 z4))) ?_;rintro vc hc sc rfl
 try simp(maxSteps:=999999) (disch:=omega) only[go_sem,ξ,ζ]
 refine mz (a:=(max a c)) (b:=(min b d)) (fun hlt=>?_) (fun hle=>?_)
 ·have e1:0 < cmpQ (max a c) (min b d):=by unfold cmpQ;grind
  try simp(maxSteps:=999999) (disch:=omega) only[go_sem,ξ,ζ]
  have eq:NS.met (.i (some a) (some b)) (.i (some c) (some d))=.e:=by simp[NS.met,omax,omin,NS.mk',ordO,hlt]
  rw[eq]
  exact⟨_,_,_,_,_,_,_,_,rfl,(En.of f1).junk.to,(En.of f2).junk.to⟩
 ·have e1:¬0 < cmpQ (max a c) (min b d):=by unfold cmpQ;grind
  try simp(maxSteps:=999999) (disch:=omega) only[go_sem,ξ,ζ]
  have eq:NS.met (.i (some a) (some b)) (.i (some c) (some d))=.i (some (max a c)) (some (min b d)):=by simp[NS.met,omax,omin,NS.mk',ordO,hle]
  rw[eq]
  exact⟨_,_,_,_,_,_,rfl,(En.of f1).to,(En.of f2).to⟩
theorem met_20 {h0 h:PH} [Le h0 h] {v w:Value} {a b:Rat} (hs:Sd h0 v (.i (some a) (some b))) (ht:Sd h0 w .e) (ls:NS.le (2^30) (.i (some a) (some b))) (lt:NS.le (2^30) .e):
  Spec mach 43 #[v,w] h (fun v h'=>Sn h' v (NS.met (.i (some a) (some b)) .e)) NP:=by
 obtain⟨b1,a1,m1,c1,a2,m2,c2,b2,a3,m3,c3,a4,m4,c4,rfl,h1,h2⟩:=Sn.ie hs
 rw[NS.le_i] at ls
 have z1:=ls.1 _ rfl
 have z2:=ls.2 _ rfl
 obtain⟨b1',a1',m1',c1',a2',m2',c2',b2',a3',m3',c3',a4',m4',c4',c,d,rfl,h3,h4,z3,z4⟩:=ht.ee
 try dsimp only[Option.isNone]
 refine Spec.go [] Tryz.func43 rfl rfl (by kernel_rfl) fun C _=>?_
 try simp(maxSteps:=999999) (disch:=omega) only[go_sem,ξ,ζ]
 refine caN (by exact cE h1.num h3.num (up36 z1) (up36 z3)) ?_;rintro _ g1 _ f1;obtain⟨_,_,_,_,_,_,_,rfl,f1⟩:=f1.sa
 try simp(maxSteps:=999999) (disch:=omega) only[go_sem,ξ,ζ]
 refine caN (by exact dP h2.num h4.num (up36 z2) (up36 z4)) ?_;rintro _ g2 _ f2;obtain⟨_,_,_,_,_,_,_,rfl,f2⟩:=f2.sa
 try simp(maxSteps:=999999) (disch:=omega) only[go_sem,ξ,ζ]
 exact⟨_,_,_,_,_,_,_,_,rfl,(En.of f1).junk.to,(En.of f2).junk.to⟩
theorem met_21 {h0 h:PH} [Le h0 h] {v w:Value} (hs:Sd h0 v .e) (ht:Sd h0 w (.i none none)) (ls:NS.le (2^30) .e) (lt:NS.le (2^30) (.i none none)):
  Spec mach 43 #[v,w] h (fun v h'=>Sn h' v (NS.met .e (.i none none))) NP:=by
 obtain⟨b1,a1,m1,c1,a2,m2,c2,b2,a3,m3,c3,a4,m4,c4,a,b,rfl,h1,h2,z1,z2⟩:=hs.ee
 obtain⟨b1',a1',m1',c1',a2',m2',c2',b2',a3',m3',c3',a4',m4',c4',rfl,h3,h4⟩:=Sn.ie ht
 rw[NS.le_i] at lt
 try dsimp only[Option.isNone]
 refine Spec.go [] Tryz.func43 rfl rfl (by kernel_rfl) fun C _=>?_
 try simp(maxSteps:=999999) (disch:=omega) only[go_sem,ξ,ζ]
 exact⟨_,_,_,_,_,_,_,_,rfl,h1.junk.to,h2.junk.to⟩
theorem met_22 {h0 h:PH} [Le h0 h] {v w:Value} {d:Rat} (hs:Sd h0 v .e) (ht:Sd h0 w (.i none (some d))) (ls:NS.le (2^30) .e) (lt:NS.le (2^30) (.i none (some d))):
  Spec mach 43 #[v,w] h (fun v h'=>Sn h' v (NS.met .e (.i none (some d)))) NP:=by
 obtain⟨b1,a1,m1,c1,a2,m2,c2,b2,a3,m3,c3,a4,m4,c4,a,b,rfl,h1,h2,z1,z2⟩:=hs.ee
 obtain⟨b1',a1',m1',c1',a2',m2',c2',b2',a3',m3',c3',a4',m4',c4',rfl,h3,h4⟩:=Sn.ie ht
 rw[NS.le_i] at lt
 have z4:=lt.2 _ rfl
 try dsimp only[Option.isNone]
 refine Spec.go [] Tryz.func43 rfl rfl (by kernel_rfl) fun C _=>?_
 try simp(maxSteps:=999999) (disch:=omega) only[go_sem,ξ,ζ]
 refine caN (by exact dP h2.num h4.num (up36 z2) (up36 z4)) ?_;rintro _ g2 _ f2;obtain⟨_,_,_,_,_,_,_,rfl,f2⟩:=f2.sa
 try simp(maxSteps:=999999) (disch:=omega) only[go_sem,ξ,ζ]
 exact⟨_,_,_,_,_,_,_,_,rfl,h1.junk.to,(En.of f2).junk.to⟩
theorem met_23 {h0 h:PH} [Le h0 h] {v w:Value} {c:Rat} (hs:Sd h0 v .e) (ht:Sd h0 w (.i (some c) none)) (ls:NS.le (2^30) .e) (lt:NS.le (2^30) (.i (some c) none)):
  Spec mach 43 #[v,w] h (fun v h'=>Sn h' v (NS.met .e (.i (some c) none))) NP:=by
 obtain⟨b1,a1,m1,c1,a2,m2,c2,b2,a3,m3,c3,a4,m4,c4,a,b,rfl,h1,h2,z1,z2⟩:=hs.ee
 obtain⟨b1',a1',m1',c1',a2',m2',c2',b2',a3',m3',c3',a4',m4',c4',rfl,h3,h4⟩:=Sn.ie ht
 rw[NS.le_i] at lt
 have z3:=lt.1 _ rfl
 try dsimp only[Option.isNone]
 refine Spec.go [] Tryz.func43 rfl rfl (by kernel_rfl) fun C _=>?_
 try simp(maxSteps:=999999) (disch:=omega) only[go_sem,ξ,ζ]
 refine caN (by exact cE h1.num h3.num (up36 z1) (up36 z3)) ?_;rintro _ g1 _ f1;obtain⟨_,_,_,_,_,_,_,rfl,f1⟩:=f1.sa
 try simp(maxSteps:=999999) (disch:=omega) only[go_sem,ξ,ζ]
 exact⟨_,_,_,_,_,_,_,_,rfl,(En.of f1).junk.to,h2.junk.to⟩
theorem met_24 {h0 h:PH} [Le h0 h] {v w:Value} {c d:Rat} (hs:Sd h0 v .e) (ht:Sd h0 w (.i (some c) (some d))) (ls:NS.le (2^30) .e) (lt:NS.le (2^30) (.i (some c) (some d))):
  Spec mach 43 #[v,w] h (fun v h'=>Sn h' v (NS.met .e (.i (some c) (some d)))) NP:=by
 obtain⟨b1,a1,m1,c1,a2,m2,c2,b2,a3,m3,c3,a4,m4,c4,a,b,rfl,h1,h2,z1,z2⟩:=hs.ee
 obtain⟨b1',a1',m1',c1',a2',m2',c2',b2',a3',m3',c3',a4',m4',c4',rfl,h3,h4⟩:=Sn.ie ht
 rw[NS.le_i] at lt
 have z3:=lt.1 _ rfl
 have z4:=lt.2 _ rfl
 try dsimp only[Option.isNone]
 refine Spec.go [] Tryz.func43 rfl rfl (by kernel_rfl) fun C _=>?_
 try simp(maxSteps:=999999) (disch:=omega) only[go_sem,ξ,ζ]
 refine caN (by exact cE h1.num h3.num (up36 z1) (up36 z3)) ?_;rintro _ g1 _ f1;obtain⟨_,_,_,_,_,_,_,rfl,f1⟩:=f1.sa
 try simp(maxSteps:=999999) (disch:=omega) only[go_sem,ξ,ζ]
 refine caN (by exact dP h2.num h4.num (up36 z2) (up36 z4)) ?_;rintro _ g2 _ f2;obtain⟨_,_,_,_,_,_,_,rfl,f2⟩:=f2.sa
 try simp(maxSteps:=999999) (disch:=omega) only[go_sem,ξ,ζ]
 exact⟨_,_,_,_,_,_,_,_,rfl,(En.of f1).junk.to,(En.of f2).junk.to⟩
theorem met_25 {h0 h:PH} [Le h0 h] {v w:Value} (hs:Sd h0 v .e) (ht:Sd h0 w .e) (ls:NS.le (2^30) .e) (lt:NS.le (2^30) .e):
  Spec mach 43 #[v,w] h (fun v h'=>Sn h' v (NS.met .e .e)) NP:=by
 obtain⟨b1,a1,m1,c1,a2,m2,c2,b2,a3,m3,c3,a4,m4,c4,a,b,rfl,h1,h2,z1,z2⟩:=hs.ee
 obtain⟨b1',a1',m1',c1',a2',m2',c2',b2',a3',m3',c3',a4',m4',c4',c,d,rfl,h3,h4,z3,z4⟩:=ht.ee
 try dsimp only[Option.isNone]
 refine Spec.go [] Tryz.func43 rfl rfl (by kernel_rfl) fun C _=>?_
 try simp(maxSteps:=999999) (disch:=omega) only[go_sem,ξ,ζ]
 refine caN (by exact cE h1.num h3.num (up36 z1) (up36 z3)) ?_;rintro _ g1 _ f1;obtain⟨_,_,_,_,_,_,_,rfl,f1⟩:=f1.sa
 try simp(maxSteps:=999999) (disch:=omega) only[go_sem,ξ,ζ]
 refine caN (by exact dP h2.num h4.num (up36 z2) (up36 z4)) ?_;rintro _ g2 _ f2;obtain⟨_,_,_,_,_,_,_,rfl,f2⟩:=f2.sa
 try simp(maxSteps:=999999) (disch:=omega) only[go_sem,ξ,ζ]
 exact⟨_,_,_,_,_,_,_,_,rfl,(En.of f1).junk.to,(En.of f2).junk.to⟩
theorem Gj {h0 h:PH} [Le h0 h] {v w:Value} {x y:NS} (hs:Sd h0 v x) (ht:Sd h0 w y) (ls:x.le (2^30)) (lt:y.le (2^30)):Spec mach 43 #[v,w] h (fun v h'=>Sn h' v (x.met y)) NP:=by
  cases x with
  | e =>
    cases y with
    |e=>exact met_25 hs ht ls lt
    | i c d=>
      cases c with
      | none=>cases d with
        |none=>exact met_21 hs ht ls lt
        |some d=>exact met_22 hs ht ls lt
      | some c=>cases d with
        |none=>exact met_23 hs ht ls lt
        |some d=>exact met_24 hs ht ls lt
  | i a b =>
    cases a with
    | none=>cases b with
      | none=>
        cases y with
        |e=>exact met_5 hs ht ls lt
        | i c d=>
          cases c with
          | none=>cases d with
            |none=>exact met_1 hs ht ls lt
            |some d=>exact met_2 hs ht ls lt
          | some c=>cases d with
            |none=>exact met_3 hs ht ls lt
            |some d=>exact met_4 hs ht ls lt
      | some b=>
        cases y with
        |e=>exact met_10 hs ht ls lt
        | i c d=>
          cases c with
          | none=>cases d with
            |none=>exact met_6 hs ht ls lt
            |some d=>exact met_7 hs ht ls lt
          | some c=>cases d with
            |none=>exact met_8 hs ht ls lt
            |some d=>exact met_9 hs ht ls lt
    | some a=>cases b with
      | none=>
        cases y with
        |e=>exact met_15 hs ht ls lt
        | i c d=>
          cases c with
          | none=>cases d with
            |none=>exact met_11 hs ht ls lt
            |some d=>exact met_12 hs ht ls lt
          | some c=>cases d with
            |none=>exact met_13 hs ht ls lt
            |some d=>exact met_14 hs ht ls lt
      | some b=>
        cases y with
        |e=>exact met_20 hs ht ls lt
        | i c d=>
          cases c with
          | none=>cases d with
            |none=>exact met_16 hs ht ls lt
            |some d=>exact met_17 hs ht ls lt
          | some c=>cases d with
            |none=>exact met_18 hs ht ls lt
            |some d=>exact met_19 hs ht ls lt
def Bd (f:FuncId) (args:Array Value) (h:PH):Except Int Bool→Prop
 |.ok b=>Spec mach f args h (fun v _=>v=.bool b) NP
 |.error e=>Spec mach f args h NR (fail e)
def Br (r:Value):Except Int Bool→Prop
 |.ok b=>r=.tuple #[.bool b,.int .i64 0]
 |.error e=>r=.tuple #[.bool false,.int .i64 e]
theorem Br.sa {r:Value} {o:Except Int Bool} (k:Br r o):∃b e,r=.tuple #[.bool b,.int .i64 e]∧Br (.tuple #[.bool b,.int .i64 e]) o:=by
 cases o with
 |ok b=>exact⟨_,_,k,rfl⟩
 |error e=>exact⟨_,_,k,rfl⟩
theorem tU {h:PH} {f:FuncId} {cap:Array Value} {o:Except Int Bool} (g:Bd f cap h o):Spec mach 44 #[.func (.func f) #[] cap] h (fun r _=>Br r o) NP:=by
 cases o with
 |ok b=>exact tryBo_ok g (fun v h' _ r=>by subst r;exact⟨⟨b,rfl,rfl⟩,rfl⟩)
 |error e=>exact FZ g (fun _ _=>rfl)
theorem Sf.sa {h:PH} {v:Value} {s:PS} (r:Sf h v s):∃b1 a1 m1 c1 a2 m2 c2 b2 a3 m3 c3 a4 m4 c4,v=.agg #[.bool b1,.slice a1 m1 c1,.slice a2 m2 c2,.bool b2,.slice a3 m3 c3,.slice a4 m4 c4,.bool s.l,.bool s.u,.bool s.e]∧
  Fr h (.agg #[.bool b1,.slice a1 m1 c1,.slice a2 m2 c2]) s.lo∧Fr h (.agg #[.bool b2,.slice a3 m3 c3,.slice a4 m4 c4]) s.hi:=by
 obtain⟨b1,x1,y1,b2,x2,y2,rfl,h1,h2⟩:=r
 obtain⟨_,_,_,_,_,_,_,e1,_⟩:=h1.sa
 obtain⟨_,_,_,_,_,_,_,e2,_⟩:=h2.sa
 simp only[Value.agg.injEq,Array.mk.injEq,List.cons.injEq,and_true] at e1 e2
 obtain⟨_,rfl,rfl⟩:=e1
 obtain⟨_,rfl,rfl⟩:=e2
 exact⟨_,_,_,_,_,_,_,_,_,_,_,_,_,_,rfl,h1,h2⟩
theorem Sf.sb {h:PH} {v:Value} {p q:Rat} {l u e:Bool} (r:Sf h v ⟨p,q,l,u,e⟩):∃b1 a1 m1 c1 a2 m2 c2 b2 a3 m3 c3 a4 m4 c4,v=.agg #[.bool b1,.slice a1 m1 c1,.slice a2 m2 c2,.bool b2,.slice a3 m3 c3,.slice a4 m4 c4,.bool l,.bool u,.bool e]∧
  Fr h (.agg #[.bool b1,.slice a1 m1 c1,.slice a2 m2 c2]) p∧Fr h (.agg #[.bool b2,.slice a3 m3 c3,.slice a4 m4 c4]) q:=r.sa
theorem NS.has_one {x:NS} {q:Rat} (hx:x.ok):(!(x.met (.i (some q) (some q))).void)=x.has q:=by
 have h1:(x.met (.i (some q) (some q))).has q=x.has q:=by rw[NS.has_met];simp[NS.has]
 have h2:(x.met (.i (some q) (some q))).ok:=NS.ok_met
 generalize hm:x.met (.i (some q) (some q))=m at*
 cases m with
 |e=>rw[←h1];rfl
 | i a b=>
  obtain⟨q',hq⟩:=NS.ne_has h2
  have h3:=hq
  rw[←hm,NS.has_met,φ,NS.has_i (a:=some q)] at h3
  obtain⟨h3,h4,h5⟩:=h3
  have:q'=q:=Rat.le_antisymm (h5 _ rfl) (h4 _ rfl)
  subst this
  rw[h3];rfl
theorem NS.le_one {q:Rat} {k:Nat} (h:sz q≤k):(NS.i (some q) (some q)).le k:=by
 rw[NS.le_i];exact⟨fun _ e=>by cases e;exact h,fun _ e=>by cases e;exact h⟩
def hasO (x:RI) (neg:Bool) (n d:Nat):Except Int Bool:=bif x.big || decide (lg neg n d) then .error 1 else .ok (x.set.has (qof neg n d))
theorem Has1 {h0 h:PH} [Le h0 h] {v w:Value} {x:RI} {neg:Bool} {n d:Nat} {b1 b2:Nat} {cs ds:List Value} (hv:Iv h0 v x) (hw:Rw h0 w neg n d) (hc:v=.agg cs.toArray) (hl:cs.length=8) (hb1:h b1=some cs.toArray) (hc':w=.agg ds.toArray) (hl':ds.length=3) (hb2:h b2=some ds.toArray):
  Bd 89 #[.pointer (some ⟨b1,0,none⟩),.pointer (some ⟨b2,0,none⟩)] h (hasO x neg n d):=by
 subst hc
 subst hc'
 unfold hasO
 cases g:x.big with
 | true=>
  simp only[Bool.true_or,cond_true]
  refine Spec.go [] Tryz.func89 rfl rfl (by kernel_rfl) fun C _=>?_
  try simp(maxSteps:=999999) (disch:=omega) only[go_sem,ξ,ζ]
  refine dL cs hl (dG hb1) ?_
  try simp(maxSteps:=999999) (disch:=omega) only[go_sem,ξ,ζ]
  exact caF (by exact fF hv g) (fun _ _ h=>h)
 | false=>
  by_cases gl:lg neg n d
  ·simp only[gl,decide_true,Bool.or_true,cond_true]
   refine Spec.go [] Tryz.func89 rfl rfl (by kernel_rfl) fun C _=>?_
   try simp(maxSteps:=999999) (disch:=omega) only[go_sem,ξ,ζ]
   refine dL cs hl (dG hb1) ?_
   try simp(maxSteps:=999999) (disch:=omega) only[go_sem,ξ,ζ]
   refine caN (by exact dK hv g) ?_;rintro s1 h1 st1 hs1;obtain⟨_,_,_,_,_,_,_,_,_,_,_,_,_,_,_,_,rfl,hs1⟩:=hs1.sa
   try simp(maxSteps:=999999) (disch:=omega) only[go_sem,ξ,ζ]
   refine dL ds hl' (dG (st1.sub _ _ hb2)) ?_
   try simp(maxSteps:=999999) (disch:=omega) only[go_sem,ξ,ζ]
   exact caF (by exact jn hw gl) (fun _ _ h=>h)
  ·have z:sz (qof neg n d)≤2^30:=by unfold lg at gl;omega
   simp only[gl,decide_false,Bool.or_false,cond_false]
   rw[←NS.has_one (RI.set_ok x)]
   refine Spec.go [] Tryz.func89 rfl rfl (by kernel_rfl) fun C _=>?_
   try simp(maxSteps:=999999) (disch:=omega) only[go_sem,ξ,ζ]
   refine dL cs hl (dG hb1) ?_
   try simp(maxSteps:=999999) (disch:=omega) only[go_sem,ξ,ζ]
   refine caN (by exact dK hv g) ?_;rintro s1 h1 st1 hs1;obtain⟨_,_,_,_,_,_,_,_,_,_,_,_,_,_,_,_,rfl,hs1⟩:=hs1.sa
   try simp(maxSteps:=999999) (disch:=omega) only[go_sem,ξ,ζ]
   refine dL ds hl' (dG (st1.sub _ _ hb2)) ?_
   try simp(maxSteps:=999999) (disch:=omega) only[go_sem,ξ,ζ]
   refine caN (by exact iM hw gl) ?_;rintro _ h2 _ f2;obtain⟨_,_,_,_,_,_,_,rfl,f2⟩:=f2.sa
   try simp(maxSteps:=999999) (disch:=omega) only[go_sem,ξ,ζ]
   refine caN (by exact qU f2) ?_;rintro _ h3 _ hs3;obtain⟨_,_,_,_,_,_,_,_,_,_,_,_,_,_,_,_,rfl,hs3⟩:=hs3.sa
   try simp(maxSteps:=999999) (disch:=omega) only[go_sem,ξ,ζ]
   refine caN (by exact Gj (hs1.to (h':=h3)) (show Sd h3 _ (.i (some _) (some _)) from hs3) (RI.le30 g) (NS.le_one z)) ?_;rintro _ h4 _ hs4;obtain⟨_,_,_,_,_,_,_,_,_,_,_,_,_,_,_,_,rfl,hs4⟩:=hs4.sa
   try simp(maxSteps:=999999) (disch:=omega) only[go_sem,ξ,ζ]
theorem wP {h0 h:PH} [Le h0 h] {v w:Value} {x:RI} {neg:Bool} {n d:Nat} (hv:Iv h0 v x) (hw:Rw h0 w neg n d):Spec mach 30 #[v,w] h (fun r _=>Br r (hasO x neg n d)) NP:=by
 have hv0:=hv
 have hw0:=hw
 obtain⟨a1,m1,c1,a2,m2,c2,a3,m3,c3,a4,m4,c4,rfl,_,_⟩:=hv.sa
 obtain⟨_,_,_,_,_,_,_,rfl,_⟩:=hw.sa
 refine Spec.go [(1,.t (.p 0 (.p 1 (.s [0,1,2,3,4,5] .d))))] Tryz.func30 rfl rfl (by kernel_rfl) fun C _=>?_
 try simp(maxSteps:=999999) (disch:=omega) only[go_sem,ξ,ζ]
 intro b1 h1 st1 hb1
 try simp(maxSteps:=999999) (disch:=omega) only[go_sem,ξ,ζ]
 intro b2 h2 st2 hb2
 try simp(maxSteps:=999999) (disch:=omega) only[go_sem,ξ,ζ]
 have hb2:=hb2 (by simp)
 have hb1:=st2.sub _ _ (hb1 (by simp))
 refine caN (by exact tU (Has1 (hv0.to (h':=h2)) (hw0.to (h':=h2)) rfl rfl hb1 rfl rfl hb2)) ?_;rintro r3 h3 st3 hr3;obtain⟨_,_,rfl,hr3⟩:=hr3.sa
 try simp(maxSteps:=999999) (disch:=omega) only[go_sem,ξ,ζ]
 exact hr3
theorem tf {h0 h:PH} [Le h0 h] {v w:Value} {x:RI} {neg:Bool} {n d:Nat} (hv:Iv h0 v x) (hw:Rw h0 w neg n d):Spec mach 9 #[v,w] h (fun r _=>r=.bool (!x.big && !decide (lg neg n d) && x.set.has (qof neg n d))) NP:=by
 have hv0:=hv
 have hw0:=hw
 have kH:=fun {h} [Le h0 h]=>wP (h:=h) hv hw
 obtain⟨a1,m1,c1,a2,m2,c2,a3,m3,c3,a4,m4,c4,rfl,_,_⟩:=hv.sa
 obtain⟨_,_,_,_,_,_,_,rfl,_⟩:=hw.sa
 unfold hasO at kH
 obtain⟨l,el⟩:∃l,(x.big || decide (lg neg n d))=l:=⟨_,rfl⟩
 have e1:(!x.big && !decide (lg neg n d))=!l:=by rw[←el,Bool.not_or]
 rw[e1]
 rw[el] at kH
 clear el e1
 cases l with
 | true=>
  dsimp only[cond_true] at kH
  refine Spec.go [] Tryz.func9 rfl rfl (by kernel_rfl) fun C _=>?_
  try simp(maxSteps:=999999) (disch:=omega) only[go_sem,ξ,ζ]
  refine caN (by exact kH) ?_;rintro v1 h1 s1 q1;obtain rfl:v1=.tuple #[.bool false,.int .i64 1]:=q1
  try simp(maxSteps:=999999) (disch:=omega) only[go_sem,ξ,ζ]
  all_goals rfl
 | false=>
  dsimp only[cond_false] at kH
  generalize x.set.has (qof neg n d)=hb at kH ⊢
  cases hb with
  | true=>
   refine Spec.go [] Tryz.func9 rfl rfl (by kernel_rfl) fun C _=>?_
   try simp(maxSteps:=999999) (disch:=omega) only[go_sem,ξ,ζ]
   refine caN (by exact kH) ?_;rintro v1 h1 s1 q1;obtain rfl:v1=.tuple #[.bool true,.int .i64 0]:=q1
   try simp(maxSteps:=999999) (disch:=omega) only[go_sem,ξ,ζ]
   all_goals rfl
  | false=>
   refine Spec.go [] Tryz.func9 rfl rfl (by kernel_rfl) fun C _=>?_
   try simp(maxSteps:=999999) (disch:=omega) only[go_sem,ξ,ζ]
   refine caN (by exact kH) ?_;rintro v1 h1 s1 q1;obtain rfl:v1=.tuple #[.bool false,.int .i64 0]:=q1
   try simp(maxSteps:=999999) (disch:=omega) only[go_sem,ξ,ζ]
   all_goals rfl
theorem zi {h0 h:PH} [Le h0 h] {v w:Value} {x y:RI} (hv:Iv h0 v x) (hw:Iv h0 w y):Spec mach 12 #[v,w] h (fun r h'=>Ir h' r (x.fin2 y (.ok (x.set.met y.set)))) NP:=by
 have hv0:=hv
 have hw0:=hw
 obtain⟨a1,m1,c1,a2,m2,c2,a3,m3,c3,a4,m4,c4,rfl,_,_⟩:=hv.sa
 obtain⟨a1',m1',c1',a2',m2',c2',a3',m3',c3',a4',m4',c4',rfl,_,_⟩:=hw.sa
 refine Spec.go [] Tryz.func12 rfl rfl (by kernel_rfl) fun C _=>?_
 try simp(maxSteps:=999999) (disch:=omega) only[go_sem,ξ,ζ]
 refine caN (by exact mV hv0 hw0 (fun g g' h' _ s t hs ht=>Does.mk (Gj hs ht (RI.le30 g) (RI.le30 g')))) ?_;rintro _ h3 _ hr3;obtain⟨_,_,_,_,_,_,_,_,_,_,_,_,_,_,_,_,_,rfl,hr3⟩:=hr3.sa
 try simp(maxSteps:=999999) (disch:=omega) only[go_sem,ξ,ζ]
 exact hr3
theorem NS.le.met {x y:NS} {k:Nat} (hx:x.le k) (hy:y.le k):(x.met y).le k:=by
 cases x with
 |e=>rfl
 | i a b =>
  cases y with
  |e=>rfl
  | i c d =>
   rw[NS.le_i] at hx hy
   show NS.le k (NS.mk' (omax a c) (omin b d))
   have h1:NS.le k (.i (omax a c) (omin b d)):=by
    rw[NS.le_i]
    refine⟨fun q e=>?_,fun q e=>?_⟩
    ·cases a with
     |none=>exact hy.1 _ e
     | some a=>
      cases c with
      |none=>exact hx.1 _ e
      |some c=>cases e;exact px (hx.1 _ rfl) (hy.1 _ rfl)
    ·cases b with
     |none=>exact hy.2 _ e
     | some b=>
      cases d with
      |none=>exact hx.2 _ e
      |some d=>cases e;exact py (hx.2 _ rfl) (hy.2 _ rfl)
   unfold NS.mk'
   cases ordO (omax a c) (omin b d) with
   |true=>exact h1
   |false=>rfl
theorem o5 {h0 h:PH} [Le h0 h] {v w:Value} {x y:RI} (hv:Iv h0 v x) (hw:Iv h0 w y) (g:x.big=false) (g':y.big=false):Spec mach 12 #[v,w] h (fun r h'=>Ir h' r (.ok (x.set.met y.set))) NP:=by
 have k:=zi (h:=h) hv hw
 have e:x.fin2 y (.ok (x.set.met y.set))=.ok (x.set.met y.set):=by
  unfold RI.fin2 Out.fin
  simp only[g,g',Bool.or_self,cond_false,(RI.le g).met (RI.le g'),decide_true,cond_true]
 rwa[e] at k
def NS.size:NS→NS
 |.e=>.e
 |.i a b=>if 0≤(NS.i a b).slo then .i a b else if (NS.i a b).shi≤0 then (NS.i a b).minus else .i (some ((0:Int):Rat)) (jmax (a.map (-·)) b)
theorem NS.size_i {a b:Option Rat}:(NS.i a b).size=if 0≤(NS.i a b).slo then .i a b else if (NS.i a b).shi≤0 then (NS.i a b).minus else .i (some ((0:Int):Rat)) (jmax (a.map (-·)) b):=rfl
theorem NS.le.size {x:NS} {k:Nat} (hk:1≤k) (h:x.le k):x.size.le k:=by
 cases x with
 |e=>exact h
 | i a b =>
  rw[NS.size_i]
  split
  ·exact h
  ·split
   ·exact h.minus
   ·rw[NS.le_i] at h ⊢
    refine⟨fun q e=>?_,fun q e=>?_⟩
    ·cases e;exact χ (by decide) hk
    ·cases a with
     |none=>cases e
     | some a=>
      cases b with
      |none=>cases e
      |some b=>cases e;exact px (by rw[cz];exact h.1 _ rfl) (h.2 _ rfl)
def NS.fin:NS→Bool
 |.e=>true
 |.i a b=>!a.isNone && !b.isNone
def RI.bo (x:RI) (b:Bool):Except Int Bool:=bif x.big then .error 1 else .ok b
theorem IsEmpty1 {h0 h:PH} [Le h0 h] {v:Value} {x:RI} {b1:Nat} {cs:List Value} (hv:Iv h0 v x) (hc:v=.agg cs.toArray) (hl:cs.length=8) (hb1:h b1=some cs.toArray):
  Bd 45 #[.pointer (some ⟨b1,0,none⟩)] h (x.bo x.set.void):=by
 subst hc
 unfold RI.bo
 cases g:x.big with
 | true=>
  dsimp only[cond_true]
  refine Spec.enter (args:=[_]) (n:=5) Tryz.func45 rfl (by kernel_rfl) rfl (by simp) [.tmp 1] rfl (fun C _=>?_)
  repeat (first |(refine wo rfl (fun k hk=>?_);simp(disch:=omega) only[go_sem,ξ,ζ];apply hk;clear hk k) |refine wkt rfl ?_ |refine wk0 ?_ |refine rg rfl rfl (fun K hK=>?_) |((first |refine ae ?_ |refine ac ?_);simp(disch:=decide) only[qs,qb,if_true,if_false,reduceIte]) |refine ah rfl (fun K hK=>?_) |refine ct rfl ?_ |((try simp(disch:=omega) only[go_sem,ξ,ζ]);(first |apply hK |(clear hK;apply hK) |(clear hK;clear hK;apply hK));clear hK;(try clear K);(try dsimp only[ag,qs,qb])))
  refine wk (fun k hk=>?_);simp(disch:=omega) only[go_sem,ξ,ζ];refine⟨cs,hl,fG hb1,?_⟩;apply hk;clear hk k;(repeat (first |(refine wo rfl (fun k hk=>?_);simp(disch:=omega) only[go_sem,ξ,ζ];apply hk;clear hk k) |refine wkt rfl ?_));(try refine wk0 ?_)
  exact cF rfl rfl rfl rfl (by exact fF hv g) (fun _ _ h=>h)
 | false=>
  dsimp only[cond_false]
  have kR:=fun {h} [Le h0 h]=>dK (h:=h) hv g
  generalize x.set=s at*
  cases s with
  | e=>
   refine Spec.enter (args:=[_]) (n:=5) Tryz.func45 rfl (by kernel_rfl) rfl (by simp) [.tmp 1] rfl (fun C _=>?_)
   repeat (first |(refine wo rfl (fun k hk=>?_);simp(disch:=omega) only[go_sem,ξ,ζ];apply hk;clear hk k) |refine wkt rfl ?_ |refine wk0 ?_ |refine rg rfl rfl (fun K hK=>?_) |((first |refine ae ?_ |refine ac ?_);simp(disch:=decide) only[qs,qb,if_true,if_false,reduceIte]) |refine ah rfl (fun K hK=>?_) |refine ct rfl ?_ |((try simp(disch:=omega) only[go_sem,ξ,ζ]);(first |apply hK |(clear hK;apply hK) |(clear hK;clear hK;apply hK));clear hK;(try clear K);(try dsimp only[ag,qs,qb])))
   refine wk (fun k hk=>?_);simp(disch:=omega) only[go_sem,ξ,ζ];refine⟨cs,hl,fG hb1,?_⟩;apply hk;clear hk k;(repeat (first |(refine wo rfl (fun k hk=>?_);simp(disch:=omega) only[go_sem,ξ,ζ];apply hk;clear hk k) |refine wkt rfl ?_));(try refine wk0 ?_)
   refine cN rfl rfl rfl rfl (by exact kR) ?_;rintro s1 h1 st1 hs1;obtain⟨_,_,_,_,_,_,_,_,_,_,_,_,_,_,_,_,rfl,hs1⟩:=hs1.ee
   repeat (first |(refine wo rfl (fun k hk=>?_);simp(disch:=omega) only[go_sem,ξ,ζ];apply hk;clear hk k) |refine wkt rfl ?_ |refine wk0 ?_ |refine rg rfl rfl (fun K hK=>?_) |((first |refine ae ?_ |refine ac ?_);simp(disch:=decide) only[qs,qb,if_true,if_false,reduceIte]) |refine ah rfl (fun K hK=>?_) |refine ct rfl ?_ |((try simp(disch:=omega) only[go_sem,ξ,ζ]);(first |apply hK |(clear hK;apply hK) |(clear hK;clear hK;apply hK));clear hK;(try clear K);(try dsimp only[ag,qs,qb])))
   refine ai ?_;simp(disch:=omega) only[go_sem,ξ,ζ]
   all_goals rfl
  | i a b=>
   have kR:=fun {h} [Le h0 h]=>(kR (h:=h)).mono (R':=fun v h'=>Sn h' v (.i a b)) (E':=NP) (fun _ _ _ k=>k) (fun _ _ _ k=>k)
   cases a<;>cases b<;>
   ·refine Spec.enter (args:=[_]) (n:=5) Tryz.func45 rfl (by kernel_rfl) rfl (by simp) [.tmp 1] rfl (fun C _=>?_)
    repeat (first |(refine wo rfl (fun k hk=>?_);simp(disch:=omega) only[go_sem,ξ,ζ];apply hk;clear hk k) |refine wkt rfl ?_ |refine wk0 ?_ |refine rg rfl rfl (fun K hK=>?_) |((first |refine ae ?_ |refine ac ?_);simp(disch:=decide) only[qs,qb,if_true,if_false,reduceIte]) |refine ah rfl (fun K hK=>?_) |refine ct rfl ?_ |((try simp(disch:=omega) only[go_sem,ξ,ζ]);(first |apply hK |(clear hK;apply hK) |(clear hK;clear hK;apply hK));clear hK;(try clear K);(try dsimp only[ag,qs,qb])))
    refine wk (fun k hk=>?_);simp(disch:=omega) only[go_sem,ξ,ζ];refine⟨cs,hl,fG hb1,?_⟩;apply hk;clear hk k;(repeat (first |(refine wo rfl (fun k hk=>?_);simp(disch:=omega) only[go_sem,ξ,ζ];apply hk;clear hk k) |refine wkt rfl ?_));(try refine wk0 ?_)
    refine cN rfl rfl rfl rfl (by exact kR) ?_;rintro s1 h1 st1 hs1;obtain⟨_,_,_,_,_,_,_,_,_,_,_,_,_,_,rfl,e1,e2⟩:=hs1.ie;(repeat (first |(refine wo rfl (fun k hk=>?_);simp(disch:=omega) only[go_sem,ξ,ζ];apply hk;clear hk k) |refine wkt rfl ?_));(try refine wk0 ?_)
    (try (simp(disch:=omega) only[go_sem,ξ,ζ]));apply hK;clear hK;(try clear K);(try dsimp only[ag,qs])
    dsimp only[Option.isNone]
    repeat (first |(refine wo rfl (fun k hk=>?_);simp(disch:=omega) only[go_sem,ξ,ζ];apply hk;clear hk k) |refine wkt rfl ?_ |refine wk0 ?_ |refine rg rfl rfl (fun K hK=>?_) |((first |refine ae ?_ |refine ac ?_);simp(disch:=decide) only[qs,qb,if_true,if_false,reduceIte]) |refine ah rfl (fun K hK=>?_) |refine ct rfl ?_ |((try simp(disch:=omega) only[go_sem,ξ,ζ]);(first |apply hK |(clear hK;apply hK) |(clear hK;clear hK;apply hK));clear hK;(try clear K);(try dsimp only[ag,qs,qb])))
    refine ai ?_;simp(disch:=omega) only[go_sem,ξ,ζ]
    all_goals rfl
theorem sI {h0 h:PH} [Le h0 h] {v:Value} {x:RI} (hv:Iv h0 v x):Spec mach 13 #[v] h (fun r _=>Br r (x.bo x.set.void)) NP:=by
 have hv0:=hv
 obtain⟨a1,m1,c1,a2,m2,c2,a3,m3,c3,a4,m4,c4,rfl,_,_⟩:=hv.sa
 refine Spec.enter (args:=[_]) (n:=8) Tryz.func13 rfl (by kernel_rfl) rfl (by simp) [.tmp 2,.tmp 3] rfl (fun C _=>?_)
 repeat (first |(refine rg rfl rfl (fun K hK=>?_);(repeat (first |(refine wo rfl (fun k hk=>?_);simp(disch:=omega) only[go_sem,ξ,ζ];apply hk;clear hk k) |refine wkt rfl ?_));(try refine wk0 ?_);apply hK;clear hK K;(try dsimp only[ag,qs,qb])) |((first |refine ae ?_ |refine ac ?_);simp(disch:=decide) only[qs,qb,if_true,if_false,reduceIte]) |refine ah rfl (fun K hK=>?_) |refine ct rfl ?_ |((first |refine hK _ _ ?_ |(clear hK;refine hK _ _ ?_) |(clear hK;clear hK;refine hK _ _ ?_));clear hK;(try clear K)))
 refine fk [.p 0,.o 0,.o 1,.o 2,.o 3,.o 4,.o 5] rfl rfl (fun K hK=>?_);(repeat (first |(refine wo rfl (fun k hk=>?_);simp(disch:=omega) only[go_sem,ξ,ζ];apply hk;clear hk k) |refine wkt rfl ?_));(try refine wk0 ?_)
 refine wkp ?_;simp(disch:=omega) only[go_sem,ξ,ζ];intro b1 h1 st1 hb1;(repeat (first |(refine wo rfl (fun k hk=>?_);simp(disch:=omega) only[go_sem,ξ,ζ];apply hk;clear hk k) |refine wkt rfl ?_));(try refine wk0 ?_)
 have hb1:=hb1 (by simp)
 refine cN rfl rfl rfl rfl (by exact tU (IsEmpty1 (hv0.to (h':=h1)) rfl rfl hb1)) ?_;rintro r3 h3 st3 hr3;obtain⟨_,_,rfl,hr3⟩:=hr3.sa;(repeat (first |(refine wo rfl (fun k hk=>?_);simp(disch:=omega) only[go_sem,ξ,ζ];apply hk;clear hk k) |refine wkt rfl ?_));(try refine wk0 ?_)
 (try (simp(disch:=omega) only[go_sem,ξ,ζ]));apply hK;clear hK;(try clear K);(try dsimp only[ag,qs])
 refine ai ?_;simp(disch:=omega) only[go_sem,ξ,ζ]
 exact hr3
set_option maxHeartbeats 8000000
theorem has_rv2 {h0:PH} {v:Value} {x:RI} {neg:Bool} {n d:Nat} (hv:Rw h0 v neg n d) (e:(!x.big && !decide (lg neg n d) && x.set.has (qof neg n d))=true):Rv h0 v (qof neg n d)∧x.set.has (qof neg n d)=true∧x.big=false:=by
 simp only[φ,Bool.not_eq_true',decide_eq_false_iff_not] at e
 exact⟨⟨_,_,_,hv,e.1.2,rfl⟩,e.2,e.1.1⟩
theorem betw2 {b b':Bool} {n n' d d':Nat} (w:¬lg b n d) (w':¬lg b' n' d') (hl:qof b n d≤qof b' n' d'):RI.fin ⟨b,n,d,b',n',d',false,false⟩ (.ok (RI.set ⟨b,n,d,b',n',d',false,false⟩))=.ok (.i (some (qof b n d)) (some (qof b' n' d')))∧(NS.i (some (qof b n d)) (some (qof b' n' d'))).le 2048∧(NS.i (some (qof b n d)) (some (qof b' n' d'))).ok:=by
 have e1:RI.set ⟨b,n,d,b',n',d',false,false⟩=.i (some (qof b n d)) (some (qof b' n' d')):=by
  show NS.mk' (some (qof b n d)) (some (qof b' n' d'))=_
  have:ordO (some (qof b n d)) (some (qof b' n' d'))=true:=by simp[ordO];grind
  unfold NS.mk';rw[this];rfl
 have g:RI.big ⟨b,n,d,b',n',d',false,false⟩=false:=by simp[RI.big,w,w']
 have l:(NS.i (some (qof b n d)) (some (qof b' n' d'))).le 2048:=by rw[←e1];exact RI.le g
 refine⟨?_,l,by show ordO _ _=true;simp[ordO];grind⟩
 rw[e1]
 unfold RI.fin
 rw[g]
 exact Out.fin_le l
theorem call_fit {x:RI} {fn p:Int}:Fit (x.fin (callO fn p x.set)):=Fit.one (Fit.fin (fun _=>callO_ok (RI.set_ok x)) (fun e k=>by
 unfold callO at k
 cases gf:badf fn with
 |true=>rw[gf] at k;cases k;decide
 | false=>
  rw[gf,cond_false] at k
  unfold Out.prec at k
  cases gp:bad p with
  |true=>rw[gp] at k;cases k;decide
  |false=>rw[gp,cond_false] at k;exact call_ne e k))
theorem call_out {x:RI} {fn p:Int} {C:NS} (g:x.big=false) (h:x.fin (callO fn p x.set)=.ok C):callO fn p x.set=.ok C:=by
 unfold RI.fin at h
 rw[g,cond_false] at h
 exact(Out.fin_ok h).1
theorem el_in {fn:Int} {x:Rat} {q:Int} (h:elE fn x q=0):brE fn x q=0∧brL fn x q=elL fn x q∧brH fn x q=elH fn x q∧elL fn x q≤elH fn x q:=by
 obtain⟨a,b,c⟩:=el_br h
 have:=br_meet a a
 exact⟨a,b,c,by rw[←b,←c];grind⟩
theorem Values_law {h0 h:PH} [Le h0 h] {v1 v2:Value} {x:RI} {ng:Bool} {nn nd:Nat} {fn p f:Int} (hf:0≤fn∧fn≤255) (hv1:Iv h0 v1 x) (hv2:Rw h0 v2 ng nn nd) (hp:0≤p∧p≤255) (hq:0≤f∧f≤255):
  Spec mach 4 #[.int .u8 fn,v1,v2,.int .u8 p,.int .u8 f] h (fun r _=>r=.bool true) NP:=by
 obtain⟨q,ew,hq0,hq1⟩:∃q,IntKind.i64.wrap (p.tmod 64)=q∧0≤q∧q≤63:=by
  refine⟨p % 64,?_,by omega,by omega⟩
  rw[Int.tmod_eq_emod_of_nonneg hp.1]
  exact wi64 (by omega) (by omega)
 obtain⟨g,eg,hg0,hg1⟩:∃q,IntKind.i64.wrap (f.tmod 129)=q∧0≤q∧q≤128:=by
  refine⟨f % 129,?_,by omega,by omega⟩
  rw[Int.tmod_eq_emod_of_nonneg hq.1]
  exact wi64 (by omega) (by omega)
 obtain⟨m,em,hm0,hm1⟩:∃q,IntKind.i64.wrap (fn.tmod 8)=q∧0≤q∧q≤7:=by
  refine⟨fn % 8,?_,by omega,by omega⟩
  rw[Int.tmod_eq_emod_of_nonneg hf.1]
  exact wi64 (by omega) (by omega)
 obtain⟨k,ek⟩:∃k,IntKind.i64.wrap (1+m)=k:=⟨_,rfl⟩
 clear hp hq hf hm0 hm1 hq0 hq1
 have kC:=fun {h} [Le h0 h]=>CallI_spec (h:=h) (fn:=k) (p:=q) hv1
 have kA:=fun {h} [Le h0 h]=>tf (h:=h) hv1 hv2
 have fC:Fit (x.fin (callO k q x.set)):=call_fit
 have rA:=has_rv2 (x:=x) hv2
 have cO:=fun {C}=>call_out (x:=x) (fn:=k) (p:=q) (C:=C)
 obtain⟨_,_,_,_,_,_,_,_,_,_,_,_,rfl,_,_⟩:=hv1.sa
 obtain⟨_,_,_,_,_,_,_,rfl,_⟩:=hv2.sa
 clear hv1 hv2
 cases oC:x.fin (callO k q x.set) with
 | error e=>
  have he:=fC.2 e oC
  rw[oC] at kC
  refine Spec.go [] Tryz.func4 rfl rfl (by kernel_rfl) fun C _=>?_
  try simp(maxSteps:=999999) (disch:=omega) only[go_sem,ξ,ζ,em,ek,ew]
  refine caN (by exact kC) ?_;rintro v5 h5 s5 q5;obtain rfl:=q5.ea
  try simp(maxSteps:=999999) (disch:=omega) only[go_sem,ξ,ζ]
  refine caN (by exact au) ?_;rintro v6 h6 s6 rfl
  try simp(maxSteps:=999999) (disch:=omega) only[go_sem,ξ,ζ]
 | ok C=>
  obtain⟨kC1,kC2⟩:=fC.1 C oC
  rw[oC] at kC
  cases eA:(!x.big && !decide (lg ng nn nd) && x.set.has (qof ng nn nd)) with
  | false=>
   rw[eA] at kA
   refine Spec.go [] Tryz.func4 rfl rfl (by kernel_rfl) fun C _=>?_
   try simp(maxSteps:=999999) (disch:=omega) only[go_sem,ξ,ζ,em,ek,ew]
   refine caN (by exact kC) ?_;rintro v5 h5 s5 q5
   obtain⟨_,_,_,_,_,_,_,_,_,_,_,_,_,_,_,_,rfl,c5⟩:=q5.oa
   try simp(maxSteps:=999999) (disch:=omega) only[go_sem,ξ,ζ]
   refine caN (by exact kA) ?_;rintro v6 h6 s6 rfl
   try simp(maxSteps:=999999) (disch:=omega) only[go_sem,ξ,ζ]
   refine caN (by exact au) ?_;rintro v7 h7 s7 rfl
   try simp(maxSteps:=999999) (disch:=omega) only[go_sem,ξ,ζ]
  | true=>
   rw[eA] at kA
   obtain⟨rA,hA,gA⟩:=rA eA
   have cC:=cO gA oC
   generalize qof ng nn nd=y at*
   have kE:=fun {h} [Le h0 h]=>pH (h:=h) (fn:=k) (p:=g) rA
   have hsz:=el_sz (fn:=k) (x:=y) (p:=g)
   clear kC2 cO
   have kC2:=(fC.1 C oC).2
   rcases call_def hA cC ⟨hg0,hg1⟩ with e0 |e0
   ·obtain⟨b1,b2,b3,b4⟩:=el_in e0
    have hM:=over_met kC1 b4 (by rw[←b2,←b3];exact call_has hA cC b1)
    rw[e0] at kE
    clear b1 b2 b3 e0
    generalize elL k y g=L at*
    generalize elH k y g=H at*
    refine Spec.go [] Tryz.func4 rfl rfl (by kernel_rfl) fun C _=>?_
    try simp(maxSteps:=999999) (disch:=omega) only[go_sem,ξ,ζ,em,ek,ew]
    refine caN (by exact kC) ?_;rintro v5 h5 s5 q5
    obtain⟨_,_,_,_,_,_,_,_,_,_,_,_,_,_,_,_,rfl,c5⟩:=q5.oa
    try simp(maxSteps:=999999) (disch:=omega) only[go_sem,ξ,ζ]
    refine caN (by exact kA) ?_;rintro v6 h6 s6 rfl
    try simp(maxSteps:=999999) (disch:=omega) only[go_sem,ξ,ζ,eg]
    refine caN (by exact kE) ?_;rintro v8 h8 s8 q8
    obtain⟨_,_,_,_,_,_,_,_,_,_,_,_,_,_,rfl,w1,w4⟩:=q8
    obtain⟨_,_,_,u1,w2,rfl⟩:=Rv.of w1 hsz.1
    obtain⟨_,_,_,u4,w5,rfl⟩:=Rv.of w4 hsz.2
    obtain⟨eB,lB,oB⟩:=betw2 w2 w5 b4
    try simp(maxSteps:=999999) (disch:=omega) only[go_sem,ξ,ζ]
    refine caN (by exact oK u1 u4) ?_;rintro v9 h9 s9 q9
    rw[eB] at q9
    obtain⟨_,_,_,_,_,_,_,_,_,_,_,_,_,_,_,_,rfl,c9⟩:=q9.oa
    try simp(maxSteps:=999999) (disch:=omega) only[go_sem,ξ,ζ]
    refine caN (by exact o5 ((c5.iv kC2).to (h':=h9)) (c9.iv lB) (NS.ri_big kC2) (NS.ri_big lB)) ?_;rintro v10 h10 s10 q10
    rw[NS.ri_set kC1,NS.ri_set oB] at q10
    obtain⟨_,_,_,_,_,_,_,_,_,_,_,_,_,_,_,_,rfl,c10⟩:=q10.oa
    try simp(maxSteps:=999999) (disch:=omega) only[go_sem,ξ,ζ]
    have kF:=fun {h} [Le h10 h]=>sI (h:=h) (c10.iv (kC2.met lB))
    unfold RI.bo at kF
    rw[NS.ri_big (kC2.met lB),NS.ri_set NS.ok_met,hM] at kF
    refine caN (by exact kF) ?_;rintro v11 h11 s11 q11
    obtain rfl:v11=.tuple #[.bool false,.int .i64 0]:=q11
    try simp(maxSteps:=999999) (disch:=omega) only[go_sem,ξ,ζ]
    refine caN (by exact au) ?_;rintro v12 h12 s12 rfl
    try simp(maxSteps:=999999) (disch:=omega) only[go_sem,ξ,ζ]
   ·rw[e0] at kE
    refine Spec.go [] Tryz.func4 rfl rfl (by kernel_rfl) fun C _=>?_
    try simp(maxSteps:=999999) (disch:=omega) only[go_sem,ξ,ζ,em,ek,ew]
    refine caN (by exact kC) ?_;rintro v5 h5 s5 q5
    obtain⟨_,_,_,_,_,_,_,_,_,_,_,_,_,_,_,_,rfl,c5⟩:=q5.oa
    try simp(maxSteps:=999999) (disch:=omega) only[go_sem,ξ,ζ]
    refine caN (by exact kA) ?_;rintro v6 h6 s6 rfl
    try simp(maxSteps:=999999) (disch:=omega) only[go_sem,ξ,ζ,eg]
    refine caN (by exact kE) ?_;rintro v8 h8 s8 q8
    obtain⟨_,_,_,_,_,_,_,_,_,_,_,_,_,_,rfl,w1,w4⟩:=q8
    try simp(maxSteps:=999999) (disch:=omega) only[go_sem,ξ,ζ]
    refine caN (by exact au) ?_;rintro v9 h9 s9 rfl
    try simp(maxSteps:=999999) (disch:=omega) only[go_sem,ξ,ζ]
end Go.Q
