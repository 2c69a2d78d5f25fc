/-
  EncloseSettled: what is asked is answered, for every argument. Conditions: what is read is of bulk at most 1048576.
-/
import Derived.Test.YtgmcchhklbeckaaGreatDoorK9c8c8dPkU
import Derived.Test.YtgmcchhklbeckaaGreatDoorK61d659PkT
set_option linter.unusedVariables false
set_option linter.unusedSimpArgs false
open Bool renaming and_eq_true→φ
open List renaming all_eq_true→qBd
namespace Go.Proofs.YtgmcchhklbeckaaGreatDoor.encloseSettled
open Go.Q Go.Proofs.YtgmcchhklbeckaaGreatDoor
open Go.ChangeShapes Go.WideShapes Go.ChangeAt Go.RowKit
set_option maxRecDepth 100000
theorem own:ownKnob Tryz.prog.godebug=none:=by kernel_rfl
theorem par:Tryz.f4.params=#[27,28,41,3,5]:=by kernel_rfl
theorem laidOut:laidOutB Tryz.prog=true:=by kernel_rfl
theorem readable:∀t∈Tryz.f4.params.toList,Tryz.prog.readableRec t=true∧t < Tryz.prog.types.size:=by
 have h:(Tryz.f4.params.toList.all fun t=>Tryz.prog.readableRec t && decide (t < Tryz.prog.types.size))=true:=by kernel_rfl
 intro t ht
 simpa using qBd.1 h t ht
theorem unb:Tryz.prog.underlying 5=some (.int .u8):=by kernel_rfl
theorem byte_wf {n:Int} (h:(Lit.int .u8 n).wf=true):0≤n∧n≤255:=by
 simp only[Lit.wf,φ,decide_eq_true_eq] at h
 have h1:IntKind.u8.min=0:=by decide
 have h2:IntKind.u8.max=255:=by decide
 omega
theorem contract (H:Type) (enc:TypeId×Value→H) (W:World) (base:Nat) (args:Array Value) (ds gs:List (DataW H)) (before:List MemPlace)
  (hval:∀(j:Nat) t v,Tryz.f4.params[j]?=some t→args[j]?=some v→Value.okWide Tryz.prog W .any base t v)
  (hW:DataW.Whole enc Tryz.prog Tryz.f4.params.toList Rows.encloseSettledSpec.vars false W args.toList ds gs before) (hL:laidMetH Tryz.prog Rows.encloseSettledUptoRow.laid W) (hk:Rows.uptoSmall H (ds ++gs)=true):
  Calls Tryz.prog 4 args W fun e W'=>∃v,e=.returned v∧Rows.encloseSettledSpec.post enc Tryz.prog Tryz.f4 false true false false W args v W':=by
 have hW':=hW
 obtain⟨p,q,hA0,hV,rfl,hfz,hnd⟩:=hW
 have hA:DataW.TrodAll enc Tryz.prog W 0 (fun _=>true) true Tryz.f4.params.toList args.toList ds p:=hA0
 have hval:=hval
 rw[par] at hA hval
 have hk:Rows.uptoBulkAll (ds ++gs)≤1048576:=of_decide_eq_true hk
 obtain⟨v0,vs0,d0,ds0,p0,q0,hargs,rfl,rfl,h0,r0⟩:=trodAll_cons hA
 obtain⟨v1,vs1,d1,ds1,p1,q1,rfl,rfl,rfl,h1,r1⟩:=trodAll_cons r0
 obtain⟨v2,vs2,d2,ds2,p2,q2,rfl,rfl,rfl,h2,r2⟩:=trodAll_cons r1
 obtain⟨v3,vs3,d3,ds3,p3,q3,rfl,rfl,rfl,h3,r3⟩:=trodAll_cons r2
 obtain⟨v4,vs4,d4,ds4,p4,q4,rfl,rfl,rfl,h4,r4⟩:=trodAll_cons r3
 obtain⟨rfl,rfl,rfl⟩:=trodAll_nil r4
 obtain rfl:args=#[v0,v1,v2,v3,v4]:=by cases args;simp_all
 obtain⟨rfl,rfl⟩:=trodVars_none hV
 clear hA0
 generalize hB:(1048576:Nat)=B at hk
 have hB':B≤1048576:=by omega
 clear hB
 simp only[Rows.uptoBulkAll,List.append_nil] at hk
 obtain⟨w0,rfl,k0⟩:=(okWide_struct (flds_some flEx).choose_spec.1 (hval 0 27 v0 rfl rfl))
 obtain⟨n0,t0⟩:=h0
 obtain⟨x0,y0⟩:=open_expr _ t0 hB' (show Rows.uptoBulk d0≤B by omega)
 simp only[Value.cells,Array.toArray_toList] at y0
 obtain⟨wa1,wl1,wc1,rfl⟩:=okWide_slice unSi (hval 1 28 v1 rfl rfl)
 obtain⟨n1,t1⟩:=h1
 obtain⟨x1,y1⟩:=open_box t1 hB' (show Rows.uptoBulk d1≤B by omega)
 obtain⟨wa2,wl2,wc2,rfl⟩:=okWide_slice unVa (hval 2 41 v2 rfl rfl)
 obtain⟨n2,t2⟩:=h2
 obtain⟨x2,y2⟩:=open_point t2 hB' (show Rows.uptoBulk d2≤B by omega)
 obtain⟨z3,rfl,rfl,rfl,y3⟩:=open_int un3 (hval 3 3 v3 rfl rfl) h3
 obtain⟨z4,rfl,rfl,rfl,y4⟩:=open_int unb (hval 4 5 v4 rfl rfl) h4
 refine((Settled_law (h0:=pub W) (h:=pub W) y0 y1 y2 (byte_wf y4)).run W (pub_has W) (laid_gl hL)).mono fun e W' hp=>?_
 cases e with
 |outgrown=>exact(hp:False).elim
 |panicked ch=>obtain⟨_,_,_,_,_,hp⟩:=hp;exact(hp:False).elim
 | returned v=>
  obtain⟨_,hb,_,_,_,rfl⟩:=hp
  exact⟨_,rfl,post_true laidOut rfl (by kernel_rfl) rfl readable (by simpa using hW') hb⟩
noncomputable def laidWorld (os:Os):World:=
 {World.holding Tryz.prog os ⟨#[],#[],[]⟩ with heap:=(World.holding Tryz.prog os ⟨#[],#[],[]⟩).heap.modify 0 fun
   |.cells _ t frozen=>.cells tabCells t frozen
   |o=>o}
theorem laid_met (os:Os):laidMet Tryz.prog Rows.encloseSettledUptoRow.laid ((laidWorld os).forCall (fun _ _=>0) ⟨#[],#[.agg #[.int .i64 0,.int .i64 0,.bool false,.slice none 0 0,.slice none 0 0,.string ⟨#[]⟩,.slice none 0 0],.slice none 0 0,.slice none 0 0,.int .i64 0,.int .u8 0],[]⟩).memory:=
 laidMet_of_run' 8 (by kernel_rfl) (by kernel_rfl)
theorem reads (os:Os) {H:Type} (enc:TypeId×Value→H):∃places,DataW.whole enc Tryz.prog ((laidWorld os).forCall (fun _ _=>0) ⟨#[],#[.agg #[.int .i64 0,.int .i64 0,.bool false,.slice none 0 0,.slice none 0 0,.string ⟨#[]⟩,.slice none 0 0],.slice none 0 0,.slice none 0 0,.int .i64 0,.int .u8 0],[]⟩).memory Tryz.f4.params.toList Rows.encloseSettledSpec.vars false (#[.agg #[.int .i64 0,.int .i64 0,.bool false,.slice none 0 0,.slice none 0 0,.string ⟨#[]⟩,.slice none 0 0],.slice none 0 0,.slice none 0 0,.int .i64 0,.int .u8 0]:Array Value).toList 8=some ([.agg [.lit (.int .i64 0),.lit (.int .i64 0),.agg [.lit (.bool false),.nil,.nil],.lit (.string []),.nil],.nil,.nil,.lit (.int .i64 0),.lit (.int .u8 0)],[],places):=
 ⟨[],by kernel_rfl⟩
theorem liftedUpto (os:Os) (started:os.Started) (H:Type) (enc:TypeId×Value→H) (F:Stop.Interp):
  ReturnsInHanded {} Tryz.checked os 4 .any ((Rows.OpenSpec.upto Rows.encloseSettledSpec).preRow enc Tryz.prog Tryz.f4 Rows.encloseSettledUptoRow.domain false Rows.encloseSettledUptoRow.laid) (((Rows.OpenSpec.upto Rows.encloseSettledSpec).at F).post enc Tryz.prog Tryz.f4 false true false false):=by
 obtain⟨places,hx⟩:=reads os enc
 refine returnsInHanded_of_row (C:=Tryz.checked) (s:=Rows.OpenSpec.upto Rows.encloseSettledSpec) own started (by kernel_rfl) Tryz.func4
  (witness_row_at (enc:=enc) (C:=Tryz.checked) false (laidWorld os) #[.agg #[.int .i64 0,.int .i64 0,.bool false,.slice none 0 0,.slice none 0 0,.string ⟨#[]⟩,.slice none 0 0],.slice none 0 0,.slice none 0 0,.int .i64 0,.int .u8 0] rfl (by kernel_rfl) (by kernel_rfl) (by kernel_rfl)
   (OpenSpec.preRow_of_cond 8 hx (by kernel_rfl) (fun k hk=>by cases hk;kernel_rfl) (by kernel_rfl) (laid_met os))) ?_
 intro W base args ds gs before hval hW _ hcond _ hL _ _
 exact contract H enc W base args ds gs before hval hW hL (hcond _ rfl)
theorem inPl:Tryz.pinned.checked.prog.inPlace 4=[]:=by kernel_rfl
theorem unFo:Tryz.pinned.checked.prog.unfollowed 4=true:=by kernel_rfl
theorem reCu:Tryz.pinned.checked.prog.recurses 4=true:=by kernel_rfl
theorem vaNa:Tryz.pinned.checked.prog.varsNamed 4=["math/bits.deBruijn32tab"]:=by kernel_rfl
theorem closed:joinedFacts Tryz.pinned.checked.prog 4 Tryz.f4 (Rows.OpenSpec.upto Rows.encloseSettledSpec).bare Rows.encloseSettledUptoRow=true:=by
 unfold joinedFacts
 rw[inPl,unFo,reCu,vaNa]
 kernel_rfl
theorem saidUpto:Rows.EncloseSettledUptoSaid:=
 OpenClaim.holds_of_cond 4 Tryz.f4 rfl rfl rfl rfl rfl rfl rfl ⟨rfl,rfl,rfl,rfl,rfl⟩ rfl rfl rfl rfl rfl (by kernel_rfl) Tryz.func4 closed
  (of_decide_eq_true (by kernel_rfl)) (by unfold Func.isWrapper;first |(rw[if_pos (by decide+kernel)];kernel_rfl) |(rw[if_neg (by decide+kernel)];exact⟨rfl,rfl⟩))
  (fun os started H enc _ F=>by rw[OpenClaim.pre_eq_preRow];exact liftedUpto os started H enc F)
theorem plain (f:FuncId) (fn:Func) (hf:Tryz.pinned.checked.prog.funcNamed "inequality/inequalitylaw05.EncloseSettled"=some f) (hfn:Tryz.pinned.checked.prog.funcs[f]?=some fn):
  true=Tryz.pinned.checked.prog.looks []∧∀(j:Nat) t,fn.params[j]?=some t→Tryz.pinned.checked.prog.wantsStandIn t=false:=by
 obtain rfl:f=4:=Option.some.inj ((show Tryz.prog.funcNamed "inequality/inequalitylaw05.EncloseSettled"=some 4 by kernel_rfl).symm.trans hf) |>.symm
 obtain rfl:fn=Tryz.f4:=(Option.some.inj (Tryz.func4.symm.trans hfn)).symm
 refine⟨by kernel_rfl,fun j t ht=>?_⟩
 have hm:t∈Tryz.f4.params.toList:=by simpa using Array.mem_of_getElem? ht
 have hall:(Tryz.f4.params.toList.all fun u=>!Tryz.prog.wantsStandIn u)=true:=by kernel_rfl
 exact(show Tryz.prog.wantsStandIn t=false by simpa using qBd.1 hall t hm)
theorem caW:Rows.encloseSettledUptoRow.wfByText (Rows.OpenSpec.upto Rows.encloseSettledSpec)=true:=by kernel_rfl
theorem caM:Tryz.pinned.checked.prog.mainIs=some (Rows.encloseSettledUptoCard.stood.harness.1,Rows.encloseSettledUptoCard.stood.harness.2.toList):=by kernel_rfl
theorem caG:false=Rows.encloseSettledUptoRow.goesBy Tryz.pinned.checked.prog:=by kernel_rfl
theorem cardUpto:Rows.EncloseSettledUptoCardSaid:=
 Claim7.holds_tied_plain_at .later [] _ _ Rows.encloseSettledUptoCard.stood.harness _ saidUpto (fun _ h=>by cases h) caW (fun _ h=>by cases h) encloseSettledUpto_row_tie rfl ⟨rfl,rfl⟩ caM rfl plain caG
end Go.Proofs.YtgmcchhklbeckaaGreatDoor.encloseSettled
