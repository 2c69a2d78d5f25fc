/-
  The range of a linear form over a box, and what stands on it. Conditions: each theorem's own.
-/
import Derived.Test.YtgmcchhklbeckaaGreatDoorK6ec5bbPkT
import Derived.Test.YtgmcchhklbeckaaGreatDoorK7c64e3PkL
import Derived.Test.YtgmcchhklbeckaaGreatDoorKf2e869PkN
import Derived.Test.YtgmcchhklbeckaaGreatDoorK0717e6PkR
set_option linter.unusedVariables false
set_option linter.unusedSimpArgs false
open Nat renaming reduceBEq→ξ,reduceAdd→ζ,zero_le→qBh
namespace Go.Q
open Go.Proofs
set_option maxRecDepth 100000
set_option maxHeartbeats 16000000
theorem plusE_nz {p:Int} {z x y:RI}:Enz (plusE p z x y):=fun e h=>by
 unfold plusE at h
 split at h
 ·rename_i hm;cases h;exact mulE_nz _ hm
 ·exact addE_nz _ h
theorem plusE_le {p:Int} {z x y:RI} {w:NS} (h:plusE p z x y=.ok w):w.le 2048:=by
 unfold plusE at h
 split at h
 ·cases h
 ·exact fin2_le h
theorem rcF_err {p:Int} {o:Out} {ks:List RQ} {ds:List NS} {i:Nat} {e:Int} (h:rcF p o ks ds i=.error e):rcF p o ks ds (i+1)=.error e:=by
 unfold rcF
 rw[h]
theorem rcF_nz {p:Int} {o:Out} {ks:List RQ} {ds:List NS} (ho:Enz o):∀i,Enz (rcF p o ks ds i)
 |0=>ho
 | i +1=>fun e h=>by
  unfold rcF at h
  split at h
  ·rename_i hm;cases h;exact rcF_nz ho i _ hm
  ·split at h
   ·exact plusE_nz _ h
   ·cases h
theorem Reach_spec {h0 h:PH} [l0:Le h0 h] {p:Int} {x:RI} {ks:List RQ} {ds:List NS} {sa va da:Option Addr} {sc n vc dc:Nat} {cva:Option Addr} {cvm cvc:Nat} {b1 b2 e1 e2:Bool} {a1 a2 a3 a4:Option Addr} {m1 k1 m2 k2 m3 k3 m4 k4:Nat}
    (hx:Iv h0 (.agg #[.bool b1,.slice a1 m1 k1,.slice a2 m2 k2,.bool b2,.slice a3 m3 k3,.slice a4 m4 k4,.bool e1,.bool e2]) x) (hk:Rats h0 (.slice sa ks.length sc) ks) (hd:Dsv h0 (.slice da ds.length dc) ds) (hn:n=ks.length) (hl:ds.length=ks.length):
    Spec mach 39 #[.agg #[.bool b1,.slice a1 m1 k1,.slice a2 m2 k2,.bool b2,.slice a3 m3 k3,.slice a4 m4 k4,.bool e1,.bool e2,.slice sa ks.length sc],.agg #[.slice va n vc,.int .i64 p,.slice cva cvm cvc,.slice da ds.length dc]] h (fun r h'=>Ir h' r (rcF p (x.fin (Out.prec p (.ok (x.set.hull p.toNat)))) ks ds n)) NP:=by
  have kR:=fun {h} [Le h0 h]=>RefRound (h:=h) (p:=p) hx
  have hz0:Enz (x.fin (Out.prec p (.ok (x.set.hull p.toNat)))):=Enz.fin1
  generalize ho:x.fin (Out.prec p (.ok (x.set.hull p.toNat)))=o0 at kR hz0 ⊢
  obtain⟨_,hkk⟩:=hk.at_
  obtain⟨da',dc',Cs,hde,_,hdk⟩:=hd
  simp only[Value.slice.injEq,true_and] at hde
  obtain⟨rfl,rfl⟩:=hde
  refine Spec.go [(6,.h [] [] [] [0,1,2,3,4,5,6,7,8,9,10,11,12,13,14,15,16,17,18,19,20,21,22,23,24])] Tryz.func39 rfl rfl (by kernel_rfl) fun C _=>?_
  try simp(disch:=omega) only[go_sem,ξ,ζ]
  refine caN (by exact kR) ?_;rintro _ h1 s1 r1;obtain⟨w1,w2,w3,w4,w5,w6,w7,w8,w9,w10,w11,w12,w13,w14,w15,w16,e,rfl,r1⟩:=r1.sa
  have sm1:=SmR_of r1 hz0 (fun z hz=>by rw[←ho] at hz;exact fin_le hz)
  try simp(disch:=omega) only[go_sem,ξ,ζ]
  refine lp [(6,.h [] [] [] [0,1,2,3,4,5,6,7,8,9,10,11,12,13,14,15,16,17,18,19,20,21,22,23,24])] (fun x:Nat×List Value×Int=>⟨[(2,.p 0 0),(3,.p 1 0),(4,.p 2 0),(5,.v (.int .i64 0)),(6,.p 3 0),(7,.v (.int .i64 x.2.2)),(19,.v (.int .i64 n)),(20,.v (.int .i64 x.1))],[[.bool b1,.slice a1 m1 k1,.slice a2 m2 k2,.bool b2,.slice a3 m3 k3,.slice a4 m4 k4,.bool e1,.bool e2,.slice sa ks.length sc],[.slice va n vc,.int .i64 p,.slice cva cvm cvc,.slice da ds.length dc],[.bool false,.slice none 0 0,.slice none 0 0,.bool false,.slice none 0 0,.slice none 0 0,.bool false,.bool false],x.2.1]⟩) (fun x h'=>Le h0 h'∧x.1≤n∧ivC x.2.1∧SmR h' x.2.1 x.2.2 (rcF p o0 ks ds x.1)) (fun x=>n - x.1) (0,[.bool w1,.slice w2 w3 w4,.slice w5 w6 w7,.bool w8,.slice w9 w10 w11,.slice w12 w13 w14,.bool w15,.bool w16],e) ?_ ⟨inferInstance,qBh _,⟨_,_,_,_,_,_,_,_,_,_,_,_,_,_,_,_,rfl⟩,sm1⟩ (by kernel_rfl) ?_
  · try simp(disch:=omega) only[go_sem,ξ,ζ]
    all_goals rfl
  rintro⟨i,vs,e⟩ h2 ⟨le2,hi,⟨v1,v2,v3,v4,v5,v6,v7,v8,v9,v10,v11,v12,v13,v14,v15,v16,hvs⟩,sm⟩
  dsimp only at hi hvs sm ⊢
  subst hvs
  by_cases hl':(i:Int) < (n:Int)
  · try simp(disch:=omega) only[go_sem,ξ,ζ,hl',decide_true]
    cases hr:rcF p o0 ks ds i with
    | error e'=>
      rw[hr] at sm
      obtain⟨rfl,hne⟩:=sm
      have he2:(e == 0)=false:=by simpa using hne
      try simp(disch:=omega) only[go_sem,ξ,ζ,he2]
      dsimp only[lpE];refine⟨(i+1,[.bool v1,.slice v2 v3 v4,.slice v5 v6 v7,.bool v8,.slice v9 v10 v11,.slice v12 v13 v14,.bool v15,.bool v16],e),?_,⟨inferInstance,by show i+1≤n;omega,⟨_,_,_,_,_,_,_,_,_,_,_,_,_,_,_,_,rfl⟩,by rw[rcF_err hr];exact⟨rfl,hne⟩⟩,by show n - (i+1) < n - i;omega⟩
      try simp(disch:=omega) only[go_sem,ξ,ζ]
      all_goals rfl
    | ok z=>
      rw[hr] at sm
      obtain⟨rfl,hzl,hcz⟩:=sm
      obtain⟨k,hki⟩:∃k,ks[i]?=some k:=⟨_,List.getElem?_eq_getElem (by omega)⟩
      obtain⟨d,hdi⟩:∃d,ds[i]?=some d:=⟨_,List.getElem?_eq_getElem (by omega)⟩
      obtain⟨ad,n1,n2,n3,n4,n5,n6,rfl,hat,hrw⟩:=hkk i k hki
      obtain⟨⟨d1,d2,d3,d4,d5,d6,d7,d8,d9,d10,d11,d12,d13,d14,d15,d16,hCs⟩,hdc,hdl,blk,off,rfl,hdat⟩:=hdk i d hdi
      rw[hCs] at hdc hdat
      try simp(disch:=omega) only[go_sem,ξ,ζ]
      refine Exists.intro [_,_,_] (And.intro rfl (And.intro (fun j u hj=>le2.sub.at (hat j u hj)) ?_))
      try simp(disch:=omega) only[go_sem,ξ,ζ]
      refine Exists.intro [_,_,_] (And.intro rfl (And.intro (fun j u hj=>le2.sub.at (hat j u hj)) ?_))
      try simp(disch:=omega) only[go_sem,ξ,ζ]
      refine Exists.intro [.bool d1,.slice d2 d3 d4,.slice d5 d6 d7,.bool d8,.slice d9 d10 d11,.slice d12 d13 d14,.bool d15,.bool d16] (And.intro rfl (And.intro (fun j u hj=>by rw[adrN];exact le2.sub.at (hdat j u hj)) ?_))
      try simp(disch:=omega) only[go_sem,ξ,ζ]
      have kP:=RefPlusS (h0:=h2) (h:=h2) (p:=p) (hcz.iv hzl) (Iv.mk (hrw.to (h':=h2)) (hrw.to (h':=h2)) false false) ((hdc.to (h':=h2)).iv hdl)
      have hnx:rcF p o0 ks ds (i+1)=plusE p z.ri (ptR k) d.ri:=by
        show(match rcF p o0 ks ds i with |.error e=>_ |.ok z=>_)=_
        rw[hr]
        dsimp only
        rw[hki,hdi]
      refine caN (by exact kP) ?_;rintro _ h3 s3 r3;obtain⟨g1,g2,g3,g4,g5,g6,g7,g8,g9,g10,g11,g12,g13,g14,g15,g16,e3,rfl,r3⟩:=r3.sa
      have sm3:=SmR_of r3 plusE_nz (fun z hz=>plusE_le hz)
      try simp(disch:=omega) only[go_sem,ξ,ζ]
      dsimp only[lpE];refine⟨(i+1,[.bool g1,.slice g2 g3 g4,.slice g5 g6 g7,.bool g8,.slice g9 g10 g11,.slice g12 g13 g14,.bool g15,.bool g16],e3),?_,⟨inferInstance,by show i+1≤n;omega,⟨_,_,_,_,_,_,_,_,_,_,_,_,_,_,_,_,rfl⟩,by rw[hnx];exact sm3⟩,by show n - (i+1) < n - i;omega⟩
      try simp(disch:=omega) only[go_sem,ξ,ζ]
      all_goals rfl
  · obtain rfl:i=n:=by omega
    cases hr:rcF p o0 ks ds i with
    | error e'=>
      rw[hr] at sm
      obtain⟨rfl,hne⟩:=sm
      have he2:(e != 0)=true:=by simpa using hne
      try simp(disch:=omega) only[go_sem,ξ,ζ,hl',decide_false,he2]
      all_goals rfl
    | ok z=>
      rw[hr] at sm
      obtain⟨rfl,hzl,hcz⟩:=sm
      try simp(disch:=omega) only[go_sem,ξ,ζ,hl',decide_false]
      exact⟨_,rfl,hcz⟩
def lgB (x:RI) (ks:List RQ) (i:Nat):Bool:=x.big || (ks.take i).any lgK
theorem lgB_next {x:RI} {ks:List RQ} {i:Nat} {k:RQ} (hk:ks[i]?=some k):lgB x ks (i+1)=(lgB x ks i || lgK k):=by
 unfold lgB
 rw[List.take_add_one,hk,List.any_append,Bool.or_assoc]
 simp
theorem RSpread_spec {h0 h:PH} [Le h0 h] {v:Value} {l:List Sd1} {p:Int} {x:RI} {ks:List RQ} {sa:Option Addr} {sc:Nat} {b1 b2 e1 e2:Bool} {a1 a2 a3 a4:Option Addr} {m1 k1 m2 k2 m3 k3 m4 k4:Nat}
  (hv:Boxv h0 v l) (hx:Iv h0 (.agg #[.bool b1,.slice a1 m1 k1,.slice a2 m2 k2,.bool b2,.slice a3 m3 k3,.slice a4 m4 k4,.bool e1,.bool e2]) x) (hk:Rats h0 (.slice sa ks.length sc) ks):Spec mach 15 #[.agg #[.bool b1,.slice a1 m1 k1,.slice a2 m2 k2,.bool b2,.slice a3 m3 k3,.slice a4 m4 k4,.bool e1,.bool e2,.slice sa ks.length sc],v,.int .i64 p] h (fun r h'=>Ir h' r (sprO p x ks l)) NP:=by
 have kV:=fun {h} [Le h0 h]=>RBValid_spec (h:=h) hv
 have kE:=fun {h} [Le h0 h]=>eZ (h:=h) hx
 have kO:=fun(g:x.big=false) {h} [Le h0 h]=>RefOf (h:=h) hx g
 have kB:=fun {h} [Le h0 h]=>BoundedR_spec (h:=h) hv
 have kL:=fun(hok:okB l=true) (gp:bad p=false) {h} [Le h0 h]=>Framed_spec (h:=h) hv hok gp
 obtain⟨_,hkk⟩:=hk.at_
 obtain⟨va,vc,rfl,hlv,_⟩:=hv.side
 unfold sprO
 cases g1:okB l with
 | false=>
  rw[g1] at kV
  rw[if_pos rfl]
  refine Spec.go [] Tryz.func15 rfl rfl (by kernel_rfl) fun C _=>?_
  try simp(disch:=omega) only[go_sem,ξ,ζ]
  refine caN (by exact kV) ?_;rintro _ h1 s1 rfl
  try simp(disch:=omega) only[go_sem,ξ,ζ]
  all_goals rfl
 | true=>
  rw[g1] at kV
  rw[if_neg (by decide)]
  by_cases c1:p < 0
  ·rw[if_pos (.inl (by unfold bad;simp[c1]))]
   refine Spec.go [] Tryz.func15 rfl rfl (by kernel_rfl) fun C _=>?_
   try simp(disch:=omega) only[go_sem,ξ,ζ]
   refine caN (by exact kV) ?_;rintro _ h1 s1 rfl
   try simp(disch:=omega) only[go_sem,ξ,ζ,c1,decide_true]
   all_goals rfl
  by_cases c2:128 < p
  ·rw[if_pos (.inl (by unfold bad;simp[c2]))]
   have c2':p > 128:=c2
   refine Spec.go [] Tryz.func15 rfl rfl (by kernel_rfl) fun C _=>?_
   try simp(disch:=omega) only[go_sem,ξ,ζ]
   refine caN (by exact kV) ?_;rintro _ h1 s1 rfl
   try simp(disch:=omega) only[go_sem,ξ,ζ,c1,c2,c2',decide_true,decide_false]
   all_goals rfl
  have c2':¬p > 128:=c2
  have gp:bad p=false:=by unfold bad;simp[c1,c2]
  by_cases c3:¬ks.length=l.length
  ·rw[if_pos (.inr (.inl c3))]
   have c3':((ks.length:Int) != (l.length:Int))=true:=by simp;omega
   refine Spec.go [] Tryz.func15 rfl rfl (by kernel_rfl) fun C _=>?_
   try simp(disch:=omega) only[go_sem,ξ,ζ]
   refine caN (by exact kV) ?_;rintro _ h1 s1 rfl
   try simp(disch:=omega) only[go_sem,ξ,ζ,c1,c2,c2',decide_true,decide_false]
   refine caN (by exact kE) ?_;rintro _ h2 s2 rfl
   try simp(disch:=omega) only[go_sem,ξ,ζ,c3']
   all_goals rfl
  have c3:ks.length=l.length:=by omega
  have c3':((ks.length:Int) != (l.length:Int))=false:=by rw[c3];simp
  by_cases c4:x.big=false∧x.set.void=true
  ·rw[if_pos (.inr (.inr c4))]
   have kO:=fun {h} [Le h0 h]=>kO c4.1 (h:=h)
   rw[c4.1] at kE
   refine Spec.go [] Tryz.func15 rfl rfl (by kernel_rfl) fun C _=>?_
   try simp(disch:=omega) only[go_sem,ξ,ζ]
   refine caN (by exact kV) ?_;rintro _ h1 s1 rfl
   try simp(disch:=omega) only[go_sem,ξ,ζ,c1,c2,c2',decide_false]
   refine caN (by exact kE) ?_;rintro _ h2 s2 rfl
   try simp(disch:=omega) only[go_sem,ξ,ζ,c3']
   refine caN (by exact kO) ?_;rintro _ h3 s3 q3;obtain⟨_,_,_,_,_,_,_,_,_,_,_,_,_,_,rfl,_⟩:=q3.sa
   try simp(disch:=omega) only[go_sem,ξ,ζ,c4.2]
   all_goals rfl
  have c5:¬(bad p=true∨ks.length≠l.length∨(x.big=false∧x.set.void=true)):=by
   rintro(k |k |k)
   ·rw[gp] at k;cases k
   ·exact k c3
   ·exact c4 k
  rw[if_neg c5]
  have h6:=okB_six g1
  have hlast:lgB x ks ks.length=(x.big || ks.any (fun k=>decide (lg k.1 k.2.1 k.2.2))):=by unfold lgB;rw[List.take_length];rfl
  have hz:lgB x ks 0=x.big:=by unfold lgB;simp
  have start:∀b,x.big=b→b=true∨b=false∧x.set.void=false:=fun b hb=>by
   cases b with
   |true=>exact .inl rfl
   | false=>
    refine .inr ⟨rfl,?_⟩
    cases hv:x.set.void with
    |false=>rfl
    |true=>exact absurd ⟨hb,hv⟩ c4
  rcases start _ rfl with gb |⟨gb,gv⟩
  case' inl=>
   rw[gb] at kE hz
   refine Spec.go [] Tryz.func15 rfl rfl (by kernel_rfl) fun C _=>?_
   try simp(disch:=omega) only[go_sem,ξ,ζ]
   refine caN (by exact kV) ?_;rintro _ h1 s1 rfl
   try simp(disch:=omega) only[go_sem,ξ,ζ,c1,c2,c2',decide_false]
   refine caN (by exact kE) ?_;rintro _ h2 s2 rfl
   try simp(disch:=omega) only[go_sem,ξ,ζ,c3']
  case' inr=>
   have kO:=fun {h} [Le h0 h]=>kO gb (h:=h)
   rw[gb] at kE hz
   refine Spec.go [] Tryz.func15 rfl rfl (by kernel_rfl) fun C _=>?_
   try simp(disch:=omega) only[go_sem,ξ,ζ]
   refine caN (by exact kV) ?_;rintro _ h1 s1 rfl
   try simp(disch:=omega) only[go_sem,ξ,ζ,c1,c2,c2',decide_false]
   refine caN (by exact kE) ?_;rintro _ h2' s2' rfl
   try simp(disch:=omega) only[go_sem,ξ,ζ,c3']
   refine caN (by exact kO) ?_;rintro _ h2 s2 q3;obtain⟨_,_,_,_,_,_,_,_,_,_,_,_,_,_,rfl,_⟩:=q3.sa
   try simp(disch:=omega) only[go_sem,ξ,ζ,gv]
  all_goals
   refine lp [] (fun i:Nat=>⟨[(1,.v (.slice va l.length vc)),(2,.v (.int .i64 p)),(3,.p 0 0),(6,.p 1 0),(7,.v (.int .i64 0)),(8,.v (.bool (lgB x ks i))),(46,.v (.slice sa ks.length sc)),(47,.v (.int .i64 ks.length)),(48,.v (.int .i64 i))],[[.bool b1,.slice a1 m1 k1,.slice a2 m2 k2,.bool b2,.slice a3 m3 k3,.slice a4 m4 k4,.bool e1,.bool e2,.slice sa ks.length sc],[.bool false,.slice none 0 0,.slice none 0 0,.bool false,.slice none 0 0,.slice none 0 0,.bool false,.bool false]]⟩) (fun i h'=>Le h0 h'∧i≤ks.length) (fun i=>ks.length - i) 0 ?_ ⟨inferInstance,qBh _⟩ (by kernel_rfl) ?_
   ·try simp(disch:=omega) only[go_sem,ξ,ζ,hz]
    all_goals rfl
   rintro i h4 ⟨le4,hi⟩
   by_cases hl:(i:Int) < (ks.length:Int)
   ·obtain⟨k,hki⟩:∃k,ks[i]?=some k:=⟨_,List.getElem?_eq_getElem (by omega)⟩
    obtain⟨ad,n1,n2,n3,n4,n5,n6,rfl,hat,hrw⟩:=hkk i k hki
    have hn:=lgB_next (x:=x) hki
    rcases Bool.eq_false_or_eq_true (lgB x ks i) with hg |hg
    ·rw[hg,Bool.true_or] at hn
     try simp(disch:=omega) only[go_sem,ξ,ζ,hl,decide_true,hg]
     refine Exists.intro [_,_,_] (And.intro rfl (And.intro (fun j u hj=>le4.sub.at (hat j u hj)) ?_))
     try simp(disch:=omega) only[go_sem,ξ,ζ,hg]
     dsimp only[lpE];refine⟨i+1,?_,⟨inferInstance,by omega⟩,by omega⟩
     try simp(disch:=omega) only[go_sem,ξ,ζ,hn]
     all_goals rfl
    ·rw[hg,Bool.false_or] at hn
     try simp(disch:=omega) only[go_sem,ξ,ζ,hl,decide_true,hg]
     refine Exists.intro [_,_,_] (And.intro rfl (And.intro (fun j u hj=>le4.sub.at (hat j u hj)) ?_))
     try simp(disch:=omega) only[go_sem,ξ,ζ,hg]
     refine caN (by exact jJ (h:=h4) hrw) ?_;rintro _ h5 s5 rfl
     try simp(disch:=omega) only[go_sem,ξ,ζ]
     dsimp only[lpE];refine⟨i+1,?_,⟨inferInstance,by omega⟩,by omega⟩
     try simp(disch:=omega) only[go_sem,ξ,ζ,hn]
     all_goals rfl
   ·obtain rfl:i=ks.length:=by omega
    cases g3:(x.big || ks.any fun k=>decide (lg k.1 k.2.1 k.2.2)) with
    | true=>
     rw[g3] at hlast
     rw[if_pos rfl]
     try simp(disch:=omega) only[go_sem,ξ,ζ,hl,decide_false,hlast]
     all_goals rfl
    | false =>
     rw[g3] at hlast
     rw[if_neg (by decide)]
     have hsm:∀(j:Nat) k,ks[j]?=some k→∃z,ptE k=.ok z:=fun j k hj=>ptE_small (by
      rw[Bool.or_eq_false_iff] at g3
      have:=List.any_eq_false.1 g3.2 k (List.mem_of_getElem? hj)
      exact Bool.eq_false_iff.2 this)
     try simp(disch:=omega) only[go_sem,ξ,ζ,hl,decide_false,hlast]
     refine caN (by exact kB) ?_;rintro _ h5 s5 rfl
     cases g4:bndB l with
     | false=>
      rw[if_pos rfl]
      try simp(disch:=omega) only[go_sem,ξ,ζ]
      all_goals rfl
     | true=>
      rw[if_neg (by decide)]
      try simp(disch:=omega) only[go_sem,ξ,ζ]
      have kN:=fun {h} [Le h0 h]=>kL g1 gp (h:=h)
      unfold FrR at kN
      refine caN (by exact kN) ?_;rintro r6 h6' s6 q6
      cases g5:cenOk l with
      | false=>
       rw[g5] at q6
       subst q6
       rw[if_pos rfl]
       try simp(disch:=omega) only[go_sem,ξ,ζ]
       all_goals rfl
      | true=>
       rw[g5] at q6
       rw[if_neg (by decide)]
       cases g6:kidsO (dcA p l) l.length with
       | error e=>
        rw[g6] at q6
        obtain⟨_,_,_,_,hf⟩:=kidsO_fst g6
        obtain rfl:=dcA_err gp hf
        subst q6
        try simp(disch:=omega) only[go_sem,ξ,ζ]
        all_goals rfl
       | ok ds=>
        rw[g6] at q6
        obtain⟨ca,cm,cc,dv,rfl,hD⟩:=q6
        have hD':=hD
        obtain⟨_,_,_,rfl,_⟩:=hD'
        have kS:=fun {h} [Le h6' h]=>Reach_spec (h:=h) (p:=p) (va:=va) (n:=l.length) (vc:=vc) (cva:=ca) (cvm:=cm) (cvc:=cc) (hx.to (h':=h6')) (Rats.to hk) hD c3.symm ((kidsO_len g6).trans c3.symm)
        have e7:rcF p (x.fin (Out.prec p (.ok (x.set.hull p.toNat)))) ks ds l.length=spF p x ks ds ks.length:=by rw[spF_rcF hsm,c3]
        rw[e7] at kS
        try simp(disch:=omega) only[go_sem,ξ,ζ]
        refine caN (by exact kS) ?_;rintro _ h7 s7 q7
        cases g7:spF p x ks ds ks.length with
        | error e'=>
         have hne:e'≠0:=by rw[spF_rcF hsm] at g7;exact rcF_nz Enz.fin1 _ _ g7
         rw[g7] at q7
         unfold Ir zIv at q7
         subst q7
         have he2:(e' != 0)=true:=by simpa using hne
         try simp(disch:=omega) only[go_sem,ξ,ζ,he2]
         refine caN (by exact RefDomain_spec) ?_;rintro _ h8 s8 rfl
         try simp(disch:=omega) only[go_sem,ξ,ζ]
         all_goals rfl
        | ok z=>
         rw[g7] at q7
         obtain⟨u8,rfl,hcz⟩:=q7
         obtain⟨_,_,_,_,_,_,_,_,_,_,_,_,_,_,_,_,rfl,hcz⟩:=hcz.sa
         try simp(disch:=omega) only[go_sem,ξ,ζ]
         exact⟨_,rfl,hcz⟩
def Lnv (h:PH) (v:Value) (x:RI) (ks:List (Bool×Nat×Nat)):Prop:=∃(b1:Bool) (a1:Option Addr) (m1 c1:Nat) (a2:Option Addr) (m2 c2:Nat) (b2:Bool) (a3:Option Addr) (m3 c3:Nat) (a4:Option Addr) (m4 c4:Nat) (e1 e2:Bool) (sa:Option Addr) (sc:Nat),
 v=.agg #[.bool b1,.slice a1 m1 c1,.slice a2 m2 c2,.bool b2,.slice a3 m3 c3,.slice a4 m4 c4,.bool e1,.bool e2,.slice sa ks.length sc]∧Iv h (.agg #[.bool b1,.slice a1 m1 c1,.slice a2 m2 c2,.bool b2,.slice a3 m3 c3,.slice a4 m4 c4,.bool e1,.bool e2]) x∧Rats h (.slice sa ks.length sc) ks
theorem addE_ok {p:Int} {x y:RI} {z:NS} (h:addE p x y=.ok z):z.ok:=by
 unfold addE RI.fin2 at h
 cases g:x.big || y.big with
 |true=>rw[g] at h;cases h
 | false=>
  rw[g,cond_false] at h
  unfold rnd Out.prec at h
  cases gp:bad p with
  |true=>rw[gp] at h;cases h
  | false=>
   rw[gp,cond_false] at h
   cases gv:x.set.void || y.set.void with
   | true=>
    rw[gv,cond_true] at h
    rcases AW .e with k |k<;>rw[k] at h<;>cases h
    exact trivial
   | false=>
    rw[gv,cond_false] at h
    dsimp only at h
    rcases AW ((x.set.sum y.set).hull p.toNat) with k |k<;>rw[k] at h<;>cases h
    exact NS.ok_hull (NS.ok_sum (RI.set_ok x) (RI.set_ok y))
theorem rcF_ok {p:Int} {o:Out} {ks:List (Bool×Nat×Nat)} {ds:List NS} (ho:∀z,o=.ok z→z.ok):∀{i:Nat} {z:NS},rcF p o ks ds i=.ok z→z.ok
 |0,z,h=>ho z h
 | i + 1,z,h=>by
  unfold rcF at h
  split at h
  ·cases h
  ·rename_i hm
   split at h
   ·unfold plusE at h
    split at h
    ·cases h
    ·exact addE_ok h
   ·cases h;exact rcF_ok ho hm
theorem rcF_le {p:Int} {o:Out} {ks:List (Bool×Nat×Nat)} {ds:List NS} (ho:∀z,o=.ok z→z.le 2048):∀{i:Nat} {z:NS},rcF p o ks ds i=.ok z→z.le 2048
 |0,z,h=>ho z h
 | i +1,z,h=>by
  unfold rcF at h
  split at h
  ·cases h
  ·rename_i hm
   split at h
   ·exact plusE_le h
   ·cases h;exact rcF_le ho hm
theorem fin1_ok {x:RI} {p:Int} {z:NS} (h:x.fin (Out.prec p (.ok (x.set.hull p.toNat)))=.ok z):z.ok:=by
 unfold RI.fin Out.prec at h
 cases g:x.big with
 |true=>rw[g] at h;cases h
 | false=>
  rw[g,cond_false] at h
  cases gp:bad p with
  |true=>rw[gp] at h;cases h
  | false=>
   rw[gp,cond_false] at h
   rcases AW (x.set.hull p.toNat) with k |k<;>rw[k] at h<;>cases h
   exact NS.ok_hull (RI.set_ok x)
theorem sprO_fit {p:Int} {x:RI} {ks:List (Bool×Nat×Nat)} {l:List Sd1}:(∀z,sprO p x ks l=.ok z→z.ok∧z.le 2048)∧∀e,sprO p x ks l=.error e→e≠0:=by
 unfold sprO
 by_cases c1:okB l=false
 ·rw[if_pos c1];exact⟨fun z h=>(by cases h),fun e h=>(by cases h;decide)⟩
 rw[if_neg c1]
 by_cases c2:bad p=true∨ks.length≠l.length∨(x.big=false∧x.set.void=true)
 ·rw[if_pos c2];exact⟨fun z h=>(by cases h),fun e h=>(by cases h;decide)⟩
 rw[if_neg c2]
 cases c3:(x.big || ks.any fun k=>decide (lg k.1 k.2.1 k.2.2)) with
 |true=>rw[if_pos rfl];exact⟨fun z h=>(by cases h),fun e h=>(by cases h;decide)⟩
 | false =>
  rw[if_neg (by decide)]
  by_cases c4:bndB l=false
  ·rw[if_pos c4];exact⟨fun z h=>(by cases h),fun e h=>(by cases h;decide)⟩
  rw[if_neg c4]
  by_cases c5:cenOk l=false
  ·rw[if_pos c5];exact⟨fun z h=>(by cases h),fun e h=>(by cases h;decide)⟩
  rw[if_neg c5]
  have gp:bad p=false:=by
   cases g:bad p with
   |false=>rfl
   |true=>exact absurd (.inl g) c2
  have hsm:∀(j:Nat) k,ks[j]?=some k→∃z,ptE k=.ok z:=fun j k hj=>ptE_small (by
   rw[Bool.or_eq_false_iff] at c3
   have:=List.any_eq_false.1 c3.2 k (List.mem_of_getElem? hj)
   exact Bool.eq_false_iff.2 this)
  cases hk:kidsO (dcA p l) l.length with
  | error e=>
   obtain⟨_,_,_,_,hf⟩:=kidsO_fst hk
   have:=dcA_err gp hf
   exact⟨fun z h=>(by cases h),fun e' h=>(by cases h;rw[this];decide)⟩
  | ok ds=>
   dsimp only
   rw[spF_rcF hsm]
   cases hr:rcF p (x.fin (Out.prec p (.ok (x.set.hull p.toNat)))) ks ds ks.length with
   | error e=>
    refine⟨fun z h=>(by cases h),fun e' h=>?_⟩
    cases h
    have:=rcF_nz Enz.fin1 _ _ hr
    unfold undE
    by_cases g:e=10
    ·rw[g];decide
    ·have:(e == 10)=false:=by simpa using g
     rw[this];exact ‹e≠0›
   | ok z=>
    refine⟨fun z' h=>?_,fun e' h=>(by cases h)⟩
    cases h
    exact⟨rcF_ok (fun z h=>fin1_ok h) hr,rcF_le (fun z h=>fin_le h) hr⟩
theorem Spreads_law {h0 h:PH} [Le h0 h] {v w:Value} {x:RI} {ks:List (Bool×Nat×Nat)} {l:List Sd1} {p:Int} (hx:Lnv h0 v x ks) (hv:Boxv h0 w l):Spec mach 5 #[v,w,.int .i64 p] h (fun r _=>r=.bool true) NP:=by
 obtain⟨b1,a1,m1,k1,a2,m2,k2,b2,a3,m3,k3,a4,m4,k4,e1,e2,sa,sc,rfl,hi,hk⟩:=hx
 have kA:=fun {h} [Le h0 h]=>Spread_spec (h:=h) (p:=p) hv hi hk
 have kB:=fun {h} [Le h0 h]=>RSpread_spec (h:=h) (p:=p) hv hi hk
 obtain⟨f1,f2⟩:=sprO_fit (p:=p) (x:=x) (ks:=ks) (l:=l)
 generalize sprO p x ks l=o at*
 obtain⟨_,_,_,rfl⟩:=hv.sa
 refine Spec.go [] Tryz.func5 rfl rfl (by kernel_rfl) fun C _=>?_
 try simp(maxSteps:=999999) (disch:=omega) only[go_sem,ξ,ζ]
 refine caN (by exact kA) ?_;rintro _ h1 s1 r1;obtain⟨_,_,_,_,_,_,_,_,_,_,_,_,_,_,_,_,_,rfl,r1⟩:=r1.sa
 try simp(maxSteps:=999999) (disch:=omega) only[go_sem,ξ,ζ]
 refine caN (by exact kB) ?_;rintro _ h2 s2 r2;obtain⟨_,_,_,_,_,_,_,_,_,_,_,_,_,_,_,_,_,rfl,r2⟩:=r2.sa
 try simp(maxSteps:=999999) (disch:=omega) only[go_sem,ξ,ζ]
 refine caN (by exact bJ (h0:=h2) (h:=h2) rfl rfl (r1.to (h':=h2)) r2 f1 f2) ?_;rintro _ h3 s3 rfl
 try simp(maxSteps:=999999) (disch:=omega) only[go_sem,ξ,ζ]
 refine caN (by exact awake05_spec) ?_;rintro _ h4 s4 rfl
 try simp(maxSteps:=999999) (disch:=omega) only[go_sem,ξ,ζ]
 all_goals rfl
section
open Go.Proofs.YtgmcchhklbeckaaGreatDoor Go.ChangeShapes Go.WideShapes Go.ChangeAt Go.RowKit
theorem flLi:flds Tryz.prog 47=some [(35,0),(45,8)]:=by kernel_rfl
theorem ceLi:Tryz.prog.cellsOf 47=9:=by kernel_rfl
variable {H:Type} {enc:TypeId×Value→H} {W:World} {sp:Nat→Bool} {held:Bool}
theorem open_lin {fuel:Nat} {cs:List Value} {x:DataW H×List MemPlace} (h:DataW.trod enc Tryz.prog W 0 sp held fuel 47 cs=some x) {B:Nat} (hB:B≤1048576) (hk:Rows.uptoBulk x.1≤B):
  ∃(y:RI) (ks:List (Bool×Nat×Nat)),Lnv (pub W) (.agg cs.toArray) y ks:=by
 obtain⟨fs,hu,hf⟩:=flds_some flLi
 obtain⟨xs,n,rfl,rfl,hl,hsz,hg⟩:=DataW.trod_struct hu h
 rw[ceLi] at hl
 have hfs:fs.size=2:=by
  have:=congrArg List.length hf
  simpa using this
 match cs,hl with
 |[c0,c1,c2,c3,c4,c5,c6,c7,c8],_=>
 have get:∀(i t o:Nat),(fs.toList.map fun f=>(f.type,f.offset))[i]?=some (t,o)→∃f:Field,fs[i]?=some f∧f.type=t∧f.offset=o:=by
  intro i t o hi
  rw[List.getElem?_map,Option.map_eq_some_iff] at hi
  obtain⟨f,h1,h2⟩:=hi
  cases h2
  exact⟨f,by simpa using h1,rfl,rfl⟩
 obtain⟨f0,k0,e0,o0⟩:=get 0 35 0 (by rw[hf];rfl)
 obtain⟨f1,k1,e1,o1⟩:=get 1 45 8 (by rw[hf];rfl)
 have g0:=hg 0 f0 k0
 have g1:=hg 1 f1 k1
 rw[e0,o0,ce26] at g0
 rw[e1,o1,ceRs] at g1
 rw[hfs] at hsz
 match xs,hsz with
 |[y0,y1],_=>
 simp only[List.drop_zero,List.take_succ_cons,List.take_zero,List.drop_succ_cons,List.getElem?_cons_zero,List.getElem?_cons_succ] at g0 g1
 simp only[Rows.uptoBulk,List.map_cons,List.map_nil,Rows.uptoBulkAll] at hk
 obtain⟨y,hy⟩:=open_iv g0 hB (by omega)
 obtain⟨ks,hks⟩:=open_rats g1 hB (by omega)
 obtain⟨a1,m1,c1',a2,m2,c2',a3,m3,c3',a4,m4,c4',e2,_,_⟩:=hy.sa
 simp only[Value.agg.injEq,Array.mk.injEq,List.cons.injEq,and_true] at e2
 obtain⟨rfl,rfl,rfl,rfl,rfl,rfl,rfl,rfl⟩:=e2
 have hks':=hks
 obtain⟨sa,sc,rfl,_⟩:=hks'
 exact⟨y,ks,_,_,_,_,_,_,_,_,_,_,_,_,_,_,_,_,_,_,rfl,hy,hks⟩
end
end Go.Q
