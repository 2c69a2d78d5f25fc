/-
  The library's contracts on the sorted keys of a map, at this program's numbers, and what stands on it. Conditions: each theorem's own.
-/
import Derived.Shelf.SlIter.Nil
import Derived.Shelf.SortM.Plain
import Derived.Shelf.SortM.SortNone
import Derived.Ground.GgzProg
import Derived.Ground.SlgmProg
import Derived.Test.YtpipfclemmbmcaaGreatDoorProg
import Derived.RangeFuncNested
import Derived.RangeFuncBound
import Derived.RangeFuncCalls
import Derived.RangeFuncLeaves
import Derived.Shelf.Abstract
import Derived.WalkKit
import Derived.OwnWalkIn
import Derived.TacticsInMore
import Derived.LoopNIn
import Derived.LoopIn
import Derived.Maps.OwnIn
set_option linter.unusedVariables false
set_option linter.unusedSimpArgs false
open Nat renaming reduceAdd→ζ,le_trans→χ,le_refl→η,mul_comm→ρ
namespace Go.Q
open Go.Proofs Go.Shelf Go.RowKit Go.Maps Go.Sort
def keysRen:Go.Shelf.Ren:=⟨fun |7=>188 |10=>233 |n=>n,fun |23=>199 |26=>9 |3=>4 |28=>204 |0=>0 |27=>203 |33=>60 |4=>4 |n=>n,fun |n=>n⟩
theorem keysLay:Go.Proofs.SlLaysZ.n7 Tryz.prog keysRen:={
 mixed:=by kernel_rfl
 f7:=⟨Tryz.f188.name,by decide,Tryz.func188.trans (congrArg some (by kernel_rfl))⟩
 f10:=⟨Tryz.f233.name,by decide,Tryz.func233.trans (congrArg some (by kernel_rfl))⟩
 t0:=Tryz.underlying0
 a0:=Tryz.isAgg0
 z0:=Tryz.sizeOf0
 v0:=Tryz.zeroValue0
 t4:=Tryz.underlying4
 a4:=Tryz.isAgg4
 z4:=Tryz.sizeOf4
 v4:=Tryz.zeroValue4
 t23:=Tryz.underlying199
 a23:=Tryz.isAgg199
 z23:=Tryz.sizeOf199
 v23:=Tryz.zeroValue199
 t26:=Tryz.underlying9
 a26:=Tryz.isAgg9
 z26:=Tryz.sizeOf9
 v26:=Tryz.zeroValue9
 t27:=Tryz.underlying203
 a27:=Tryz.isAgg203
 z27:=Tryz.sizeOf203
 v27:=Tryz.zeroValue203
 t28:=Tryz.underlying204
 a28:=Tryz.isAgg204
 z28:=Tryz.sizeOf204
 v28:=Tryz.zeroValue204
 t33:=Tryz.underlying60
 a33:=Tryz.isAgg60
 z33:=Tryz.sizeOf60
 v33:=Tryz.zeroValue60}
def sortedRen:Go.Shelf.Ren:=⟨fun |6=>187 |8=>231 |9=>232 |11=>265 |13=>267 |12=>266 |23=>252 |24=>289 |14=>280 |15=>281 |16=>282 |17=>283 |18=>284 |19=>285 |20=>286 |21=>287 |22=>288 |25=>299 |26=>300 |27=>301 |28=>302 |29=>303 |30=>304 |31=>321 |n=>n,fun |26=>9 |28=>204 |24=>112 |0=>0 |3=>3 |37=>195 |48=>79 |50=>117 |4=>4 |40=>268 |39=>267 |45=>191 |5=>5 |9=>9 |51=>282 |55=>286 |57=>296 |58=>140 |33=>60 |n=>n,fun |n=>n⟩
theorem sortedLay:Go.Proofs.SlLaysZ.n6 Tryz.prog sortedRen:={
 mixed:=by kernel_rfl
 f6:=⟨Tryz.f187.name,by decide,Tryz.func187.trans (congrArg some (by kernel_rfl))⟩
 f8:=⟨Tryz.f231.name,by decide,Tryz.func231.trans (congrArg some (by kernel_rfl))⟩
 f11:=⟨Tryz.f265.name,by decide,Tryz.func265.trans (congrArg some (by kernel_rfl))⟩
 t0:=Tryz.underlying0
 a0:=Tryz.isAgg0
 z0:=Tryz.sizeOf0
 v0:=Tryz.zeroValue0
 t24:=Tryz.underlying112
 a24:=Tryz.isAgg112
 z24:=Tryz.sizeOf112
 v24:=Tryz.zeroValue112
 t26:=Tryz.underlying9
 a26:=Tryz.isAgg9
 z26:=Tryz.sizeOf9
 v26:=Tryz.zeroValue9
 t28:=Tryz.underlying204
 a28:=Tryz.isAgg204
 z28:=Tryz.sizeOf204
 v28:=Tryz.zeroValue204
 i26:=by kernel_rfl}
def sortRen:Go.Shelf.Ren:=⟨fun |6=>232 |8=>267 |9=>266 |19=>252 |20=>289 |21=>280 |22=>281 |23=>282 |24=>283 |25=>284 |26=>285 |27=>286 |28=>287 |29=>288 |36=>299 |31=>300 |32=>301 |37=>302 |38=>303 |39=>304 |41=>321 |n=>n,fun |27=>112 |29=>9 |3=>3 |32=>195 |26=>112 |0=>0 |44=>79 |46=>117 |4=>4 |36=>268 |35=>267 |41=>191 |5=>5 |9=>9 |53=>282 |57=>286 |63=>296 |64=>140 |n=>n,fun |n=>n⟩
theorem sortLay:Go.Proofs.SlLaysM.n6 Tryz.prog sortRen:={
 mixed:=by kernel_rfl
 f6:=⟨Tryz.f232.name,by decide,Tryz.func232.trans (congrArg some (by kernel_rfl))⟩
 f8:=Tryz.func267.trans (congrArg some (by kernel_rfl))
 f9:=⟨Tryz.f266.name,by decide,Tryz.func266.trans (congrArg some (by kernel_rfl))⟩
 f19:=Tryz.func252.trans (congrArg some (by kernel_rfl))
 f20:=Tryz.func289.trans (congrArg some (by kernel_rfl))
 f21:=⟨Tryz.f280.name,by decide,Tryz.func280.trans (congrArg some (by kernel_rfl))⟩
 f22:=⟨Tryz.f281.name,by decide,Tryz.func281.trans (congrArg some (by kernel_rfl))⟩
 f23:=⟨Tryz.f282.name,by decide,Tryz.func282.trans (congrArg some (by kernel_rfl))⟩
 f24:=⟨Tryz.f283.name,by decide,Tryz.func283.trans (congrArg some (by kernel_rfl))⟩
 f25:=⟨Tryz.f284.name,by decide,Tryz.func284.trans (congrArg some (by kernel_rfl))⟩
 f26:=⟨Tryz.f285.name,by decide,Tryz.func285.trans (congrArg some (by kernel_rfl))⟩
 f27:=⟨Tryz.f286.name,by decide,Tryz.func286.trans (congrArg some (by kernel_rfl))⟩
 f28:=⟨Tryz.f287.name,by decide,Tryz.func287.trans (congrArg some (by kernel_rfl))⟩
 f29:=⟨Tryz.f288.name,by decide,Tryz.func288.trans (congrArg some (by kernel_rfl))⟩
 f31:=Tryz.func300.trans (congrArg some (by kernel_rfl))
 f32:=Tryz.func301.trans (congrArg some (by kernel_rfl))
 f36:=⟨Tryz.f299.name,by decide,Tryz.func299.trans (congrArg some (by kernel_rfl))⟩
 f37:=⟨Tryz.f302.name,by decide,Tryz.func302.trans (congrArg some (by kernel_rfl))⟩
 f38:=⟨Tryz.f303.name,by decide,Tryz.func303.trans (congrArg some (by kernel_rfl))⟩
 f39:=⟨Tryz.f304.name,by decide,Tryz.func304.trans (congrArg some (by kernel_rfl))⟩
 f41:=⟨Tryz.f321.name,by decide,Tryz.func321.trans (congrArg some (by kernel_rfl))⟩
 t0:=Tryz.underlying0
 a0:=Tryz.isAgg0
 z0:=Tryz.sizeOf0
 v0:=Tryz.zeroValue0
 t3:=Tryz.underlying3
 a3:=Tryz.isAgg3
 z3:=Tryz.sizeOf3
 v3:=Tryz.zeroValue3
 t4:=Tryz.underlying4
 a4:=Tryz.isAgg4
 z4:=Tryz.sizeOf4
 v4:=Tryz.zeroValue4
 t5:=Tryz.underlying5
 a5:=Tryz.isAgg5
 z5:=Tryz.sizeOf5
 v5:=Tryz.zeroValue5
 t9:=Tryz.underlying9
 a9:=Tryz.isAgg9
 z9:=Tryz.sizeOf9
 v9:=Tryz.zeroValue9
 t26:=Tryz.underlying112
 a26:=Tryz.isAgg112
 z26:=Tryz.sizeOf112
 v26:=Tryz.zeroValue112
 t27:=Tryz.underlying112
 a27:=Tryz.isAgg112
 z27:=Tryz.sizeOf112
 v27:=Tryz.zeroValue112
 t29:=Tryz.underlying9
 a29:=Tryz.isAgg9
 z29:=Tryz.sizeOf9
 v29:=Tryz.zeroValue9
 t32:=Tryz.underlying195
 a32:=Tryz.isAgg195
 z32:=Tryz.sizeOf195
 v32:=Tryz.zeroValue195
 t35:=Tryz.underlying267
 a35:=Tryz.isAgg267
 z35:=Tryz.sizeOf267
 v35:=Tryz.zeroValue267
 t36:=Tryz.underlying268
 a36:=Tryz.isAgg268
 z36:=Tryz.sizeOf268
 v36:=Tryz.zeroValue268
 t41:=Tryz.underlying191
 a41:=Tryz.isAgg191
 z41:=Tryz.sizeOf191
 v41:=Tryz.zeroValue191
 t44:=Tryz.underlying79
 a44:=Tryz.isAgg79
 z44:=Tryz.sizeOf79
 v44:=Tryz.zeroValue79
 t46:=Tryz.underlying117
 a46:=Tryz.isAgg117
 z46:=Tryz.sizeOf117
 v46:=Tryz.zeroValue117
 t53:=Tryz.underlying282
 a53:=Tryz.isAgg282
 z53:=Tryz.sizeOf282
 v53:=Tryz.zeroValue282
 t57:=Tryz.underlying286
 a57:=Tryz.isAgg286
 z57:=Tryz.sizeOf286
 v57:=Tryz.zeroValue286
 t63:=Tryz.underlying296
 a63:=Tryz.isAgg296
 z63:=Tryz.sizeOf296
 v63:=Tryz.zeroValue296
 t64:=Tryz.underlying140
 a64:=Tryz.isAgg140
 z64:=Tryz.sizeOf140
 v64:=Tryz.zeroValue140}
theorem sortsIn (m:Nat):AnyZ.SortsIn Tryz.prog sortedRen Fence.wide m:=
  ⟨fun blk off cap ss W hH hblk hsz=>callsIn_wide.2 (AnyM.slices_Sort_string sortLay blk off cap ss W hH hblk hsz),
   fun p cap W=>callsIn_wide.2 (AnyM.slices_Sort_string_none sortLay p cap W)⟩
theorem keysIn (mb:Option Nat) (W:World):CallsIn Fence.wide 5 Tryz.prog 188 #[.map mb] W fun e w'=>e=.returned (.func (.func 233) #[] #[.pointer (some ⟨W.heap.size,0,none⟩)])∧w'=W.alloc (.cells #[.map mb] 199):=
 AnyZ.keys_in keysLay Fence.wide 5 trivial rfl mb W
set_option maxHeartbeats 1000000 in
theorem sortedIn {H:Type} (b nn:Nat) (D0:DataW H) (R:Value→Option (DataW H×List MemPlace)) (w:World) (hown:w.ownsMap Tryz.prog 9 R b nn D0) (hmax:Maps.size D0≤maxLen) (hbytes:Maps.size D0*16≤140737488355328):
  CallsIn Fence.wide 5 Tryz.prog 187 #[.func (.func 233) #[] #[.pointer (some ⟨w.heap.size,0,none⟩)]] (w.alloc (.cells #[.map (some b)] 199)) fun e w'=>∃(v:Value) (ss:List (List UInt8)),e=.returned v∧ss.Perm (strKeys D0)∧
   w'.ownsRow (w.alloc (.cells #[.map (some b)] 199)).heap.size 9 1 v ss.length ((ss.mergeSort (fun x y=>decide (x≤y))).map encStr)∧(v=.slice none 0 0↔ss=[])∧Below (w.alloc (.cells #[.map (some b)] 199)).heap.size (w.alloc (.cells #[.map (some b)] 199)) w':=by
 have hbl:=hown.lt
 have hseq:SeqGives Fence.wide 2 Tryz.prog 233 #[.pointer (some ⟨w.heap.size,0,none⟩)] encStr (fun ss=>ss.Perm (strKeys D0)) (Maps.size D0) (w.alloc (.cells #[.map (some b)] 199)):=
  AnyZ.keys_gives (ρ:=keysRen) {keysLay with} Fence.wide _ trivial rfl (by omega) w.heap.size b nn D0 _ (by simp) (by simp) (by
   obtain⟨es,clock,hb,Ft,hs,hD⟩:=hown
   exact⟨es,clock,(Below.heap_alloc _ _ b hbl).trans hb,Ft,hs,hD⟩)
 exact AnyZ.sorted_in sortedLay Fence.wide 5 trivial trivial trivial trivial rfl (by omega) (sortsIn _) (enters_of Tryz.func232 (by kernel_rfl) rfl) 233 #[.pointer (some ⟨w.heap.size,0,none⟩)] trivial (enters_of Tryz.func233 (by kernel_rfl) rfl) _ _ hmax hbytes _ hseq
end Go.Q
namespace Go.Q
open Go.Proofs Go.RowKit Go.Shelf Go.Maps
attribute [local go_sem] Oper.semAt_some
set_option maxRecDepth 100000
set_option maxHeartbeats 4000000
def xC7:List Value:=[.int .i64 2,.int .i64 0,.bool false,.slice none 0 0,.slice none 0 0,.string ⟨#[120]⟩,.slice none 0 0]
def exXv:Value:=.agg #[.int .i64 2,.int .i64 0,.bool false,.slice none 0 0,.slice none 0 0,.string ⟨#[120]⟩,.slice none 0 0]
def exAv (b:Nat):Value:=.agg #[.int .i64 5,.int .i64 0,.bool false,.slice none 0 0,.slice none 0 0,.string ⟨#[]⟩,.slice (some ⟨b,0,none⟩) 2 2]
def kC (b:Nat) (h:Nat→Option (Array Value)):Prop:=h b=some (xC7 ++xC7).toArray
def KidsIn (n0:Nat) (W:World) (b:Nat):Prop:=b < n0∧∃T f,W.heap[b]?=some (.cells (xC7 ++xC7).toArray T f)
theorem KidsIn.below {n0 b:Nat} {A B:World} (h:KidsIn n0 A b) (k:Below n0 A B):KidsIn n0 B b:=by
 obtain⟨hb,T,f,ha⟩:=h
 exact⟨hb,T,f,by rw[k.block b hb];exact ha⟩
def exV (b:Nat):Bool→Value
 |true=>exAv b
 |false=>exXv
def KpV (n0 n1:Nat) (A B:World):Prop:=Below n0 A B∧∀k cs T f,n1≤k→A.heap[k]?=some (.cells cs T f)→B.heap[k]?=some (.cells cs T f)
theorem KpV.trans {n0 n1:Nat} {A B C:World} (h:KpV n0 n1 A B) (k:KpV n0 n1 B C):KpV n0 n1 A C:=⟨h.1.trans k.1,fun i cs T f hi ha=>k.2 i cs T f hi (h.2 i cs T f hi ha)⟩
theorem room_none {F:Fence} (hd:F.depth=none) (k:Nat):F.room k:=fun d h=>by rw[hd] at h;cases h
theorem RoundIn.any {F:Fence} (hd:F.depth=none) {m m':Nat} {P:Program} {l:Nat} {f:FuncId} {tmps:Array Value} {assign body:Code} {w:World} {R:Ending→World→Prop}
  (h:RoundIn F m P l f tmps assign body w R):RoundIn F m' P l f tmps assign body w R:=⟨h.1,fun c cs _=>h.2 c cs (room_none hd _)⟩
theorem YieldAt.any {F:Fence} (hd:F.depth=none) {m:Nat} (m':Nat) {P:Program} {l:Nat} {args:Array Value} {W:World} {R:Ending→World→Prop} (h:YieldAt F m P l args W R):YieldAt F m' P l args W R:=by
 obtain⟨fn,tmps,assign,body,hy,hR⟩:=h
 exact⟨fn,tmps,assign,body,hy,RoundIn.any hd hR⟩
theorem box_cell {W:World} {B:Nat} {cs:Array Value} {t:TypeId} {f:Nat×Nat} (h:W.heap[B]?=some (.cells cs t f)) (i:Nat):W.cell? ⟨B,i,none⟩=cs[i]?:=by
 simp[World.cell?,h]
theorem each_x {F:Fence} (hd:F.depth=none) (hf:F.fn 230) (hro:F.round=none) {l n0 n1 N b:Nat} {J Jx:List Bool→World→Prop} (hJ:∀s A B,J s A→A.grownBy B none→J s B)
  (hY:∀m pre x W,J pre W→pre.length < N→YieldAt F m Tryz.prog l #[exV b x] W fun e W'=>
   (e=.returned (.bool true)∧J (pre ++[x]) W'∧KpV n0 n1 W W')∨(e=.returned (.bool false)∧Jx (pre ++[x]) W'))
  (n:Nat) {pre:List Bool} {W:World} (h0:J pre W) (hN:pre.length < N) (hn:n0≤n1) (hW:n1≤W.heap.size):
  CallsIn F n Tryz.prog 230 #[exXv,.func (.yield l) #[] #[]] W fun e W'=>
   (e=.returned (.bool true)∧J (pre ++[false]) W'∧KpV n0 n1 W W')∨(e=.returned (.bool false)∧Jx (pre ++[false]) W'):=by
 have hdd:∀k:Nat,(F.depth.isSome=true→1≤k):=fun k h=>by rw[hd] at h;cases h
 unfold exXv
 obtain⟨fn,tmps,assign,body,hy,hR⟩:=hY (n - 1) pre false (W.alloc (.cells #[.int .i64 2,.int .i64 0,.bool false,.slice none 0 0,.slice none 0 0,.string ⟨#[120]⟩,.slice none 0 0] 74)) (hJ _ _ _ h0 (World.grownBy_alloc W _ none)) hN
 refine callsIn_of_wp Tryz.func230 rfl hf ?_ hro
 simp only[Tryz.ntmps230,List.size_toArray,List.length_cons,List.length_nil,ζ,Nat.reduceSub,Array.replicate_succ,Array.replicate_zero,List.push_toArray,List.append_toArray,List.nil_append,List.cons_append]
 dsimp only[exV,exXv] at hy
 have hBx:∀W3,KpV n0 n1 (W.alloc (.cells #[.int .i64 2,.int .i64 0,.bool false,.slice none 0 0,.slice none 0 0,.string ⟨#[120]⟩,.slice none 0 0] 74)) W3→W3.cell? ⟨W.heap.size,6,none⟩=some (.slice none 0 0)∧KpV n0 n1 W W3:=fun W3 k=>by
  have ha:KpV n0 n1 W (W.alloc (.cells #[.int .i64 2,.int .i64 0,.bool false,.slice none 0 0,.slice none 0 0,.string ⟨#[120]⟩,.slice none 0 0] 74)):=⟨(Below.refl n0 W).alloc (by omega) _,fun k cs T f _ hk=>by rw[Below.heap_alloc _ _ _ (Array.getElem?_eq_some_iff.1 hk).1];exact hk⟩
  exact⟨box_cell (k.2 _ _ _ _ (by omega) (World.alloc_heap_new W _)) 6,ha.trans k⟩
 gi_wp2_with ((try refine⟨hdd _,?_⟩);refine hR.mono ?_;clear hR;rintro e W3 (⟨rfl,hJ3,hk3⟩ |⟨rfl,hx3⟩))
 ·obtain⟨hc3,hk4⟩:=hBx W3 hk3
  gi_wp2
  gi_loopw [14] (fun p wr=>p=.int .i64 0∧wr=W3) (fun _ _=>0)
  case atStart=>exact⟨rfl,rfl⟩
  case round=>
   obtain⟨rfl,rfl⟩:=hrel
   gi_wp2
   go_ret
   exact .inl ⟨rfl,hJ3,hk4⟩
 ·gi_wp2
  go_ret
  exact .inr ⟨rfl,hx3⟩
theorem each_a {F:Fence} (hd:F.depth=none) (hf:F.fn 230) (hro:F.round=none) {l n0 n1 b:Nat} {J Jx:List Bool→World→Prop} (hJ:∀s A B,J s A→A.grownBy B none→J s B)
  (hY:∀m pre x W,J pre W→pre.length < 3→YieldAt F m Tryz.prog l #[exV b x] W fun e W'=>
   (e=.returned (.bool true)∧J (pre ++[x]) W'∧KpV n0 n1 W W')∨(e=.returned (.bool false)∧Jx (pre ++[x]) W'))
  (n:Nat) {W:World} (h0:J [] W) (hn:n0≤n1) (hW:n1≤W.heap.size) (hk:KidsIn n0 W b):
  CallsIn F n Tryz.prog 230 #[exAv b,.func (.yield l) #[] #[]] W fun e W'=>
   (e=.returned (.bool true)∧J [true,false,false] W')∨(e=.returned (.bool false)∧∃q,q <+: [true,false,false]∧Jx q W'):=by
 have hdd:∀k:Nat,(F.depth.isSome=true→1≤k):=fun k h=>by rw[hd] at h;cases h
 have hY0:=hY
 unfold exAv
 obtain⟨fn,tmps,assign,body,hy,hR⟩:=hY (n - 1) [] true (W.alloc (.cells #[.int .i64 5,.int .i64 0,.bool false,.slice none 0 0,.slice none 0 0,.string ⟨#[]⟩,.slice (some ⟨b,0,none⟩) 2 2] 74)) (hJ _ _ _ h0 (World.grownBy_alloc W _ none)) (by simp)
 refine callsIn_of_wp Tryz.func230 rfl hf ?_ hro
 simp only[Tryz.ntmps230,List.size_toArray,List.length_cons,List.length_nil,ζ,Nat.reduceSub,Array.replicate_succ,Array.replicate_zero,List.push_toArray,List.append_toArray,List.nil_append,List.cons_append]
 dsimp only[exV,exAv] at hy
 have hBx:∀W3,KpV n0 n1 (W.alloc (.cells #[.int .i64 5,.int .i64 0,.bool false,.slice none 0 0,.slice none 0 0,.string ⟨#[]⟩,.slice (some ⟨b,0,none⟩) 2 2] 74)) W3→W3.cell? ⟨W.heap.size,6,none⟩=some (.slice (some ⟨b,0,none⟩) 2 2)∧KidsIn n0 W3 b∧n1≤W3.heap.size:=fun W3 k=>by
  have ha:Below n0 W (W.alloc (.cells #[.int .i64 5,.int .i64 0,.bool false,.slice none 0 0,.slice none 0 0,.string ⟨#[]⟩,.slice (some ⟨b,0,none⟩) 2 2] 74)):=(Below.refl n0 W).alloc (by omega) _
  have hb:=ha.trans k.1
  exact⟨box_cell (k.2 _ _ _ _ (by omega) (World.alloc_heap_new W _)) 6,hk.below hb,χ hW hb.size⟩
 gi_wp2_with ((try refine⟨hdd _,?_⟩);refine hR.mono ?_;clear hR;rintro e W3 (⟨rfl,hJ3,hk3⟩ |⟨rfl,hx3⟩))
 ·obtain⟨hc3,hd3,hs3⟩:=hBx W3 hk3
  clear hBx hk3
  gi_wp2
  gi_loopw [14] (fun p wr=>∃i:Nat,i≤2∧p=.int .i64 i∧J (true :: List.replicate i false) wr∧KidsIn n0 wr b∧n1≤wr.heap.size) (fun p _=>2 - (RowKit.intOf p).toNat)
  case atStart=>exact⟨0,by decide,rfl,hJ3,hd3,hs3⟩
  case round=>
   obtain⟨i,hi,rfl,hJi,hki,hsi⟩:=hrel
   by_cases h2:i < 2
   ·have hc:∀(j:Nat) v,xC7[j]?=some v→wr.cell? ⟨b,i*7+j,none⟩=some v:=fun j v hv=>by
     obtain⟨_,T,f,hb⟩:=hki
     have hj:j < 7:=(List.getElem?_eq_some_iff.1 hv).1
     rw[box_cell hb,List.getElem?_toArray]
     rcases(show i=0∨i=1 by omega) with rfl |rfl
     ·rw[List.getElem?_append_left (by show 0*7+j < 7;omega)];simpa using hv
     ·rw[List.getElem?_append_right (by show 7≤1*7+j;omega)]
      show xC7[1*7+j - 7]?=_
      rw[show 1*7+j - 7=j by omega];exact hv
    have c0:wr.cell? ⟨b,i*7,none⟩=some (.int .i64 2):=hc 0 _ rfl
    have c1:wr.cell? ⟨b,i*7+1,none⟩=some (.int .i64 0):=hc 1 _ rfl
    have c2:wr.cell? ⟨b,i*7+2,none⟩=some (.bool false):=hc 2 _ rfl
    have c3:wr.cell? ⟨b,i*7+3,none⟩=some (.slice none 0 0):=hc 3 _ rfl
    have c4:wr.cell? ⟨b,i*7+4,none⟩=some (.slice none 0 0):=hc 4 _ rfl
    have c5:wr.cell? ⟨b,i*7+5,none⟩=some (.string ⟨#[120]⟩):=hc 5 _ rfl
    have c6:wr.cell? ⟨b,i*7+6,none⟩=some (.slice none 0 0):=hc 6 _ rfl
    have hx:=each_x hd hf hro hJ hY0 (n - 1) (hJ _ _ _ hJi (World.grownBy_alloc wr (.cells #[.int .i64 2,.int .i64 0,.bool false,.slice none 0 0,.slice none 0 0,.string ⟨#[120]⟩,.slice none 0 0] 74) none)) (by simp;omega) hn (χ hsi (World.grownBy_alloc wr (.cells #[.int .i64 2,.int .i64 0,.bool false,.slice none 0 0,.slice none 0 0,.string ⟨#[120]⟩,.slice none 0 0] 74) none).size)
    have hb0:Below n0 wr (wr.alloc (.cells #[.int .i64 2,.int .i64 0,.bool false,.slice none 0 0,.slice none 0 0,.string ⟨#[120]⟩,.slice none 0 0] 74)):=(Below.refl n0 wr).alloc (by omega) _
    have hki':∀W4,KpV n0 n1 (wr.alloc (.cells #[.int .i64 2,.int .i64 0,.bool false,.slice none 0 0,.slice none 0 0,.string ⟨#[120]⟩,.slice none 0 0] 74)) W4→KidsIn n0 W4 b∧n1≤W4.heap.size:=fun W4 k=>⟨hki.below (hb0.trans k.1),χ hsi (hb0.trans k.1).size⟩
    unfold exXv at hx
    gi_wp2
    refine hx.mono ?_
    rintro e W4 (⟨rfl,hJ4,hk4⟩ |⟨rfl,hx4⟩)
    ·gi_wp2
     go_roundw
     case rel=>exact⟨i+1,by omega,by simp,by rw[List.replicate_succ'];exact hJ4,(hki' W4 hk4).1,(hki' W4 hk4).2⟩
     case measure=>
      simp[RowKit.intOf];omega
    ·gi_wp2
     refine bodyPost_ret (results_tmp rfl _ _ _) rfl ?_
     exact .inr ⟨rfl,_,by rcases(show i=0∨i=1 by omega) with rfl |rfl<;>decide,hx4⟩
   ·obtain rfl:i=2:=by omega
    gi_wp2
    go_ret
    exact .inl ⟨rfl,hJi⟩
 ·gi_wp2
  go_ret
  exact .inr ⟨rfl,[true],⟨[false,false],rfl⟩,hx3⟩
theorem nodes_in {F:Fence} {n:Nat} (hf:F.fn 186) (hro:F.round=none) {b:Nat} {w:World}:
  CallsIn F n Tryz.prog 186 #[exAv b] w fun e w'=>e=.returned (.func (.func 229) #[] #[.pointer (some ⟨w.heap.size,0,none⟩)])∧w'=w.alloc (.cells #[.int .i64 5,.int .i64 0,.bool false,.slice none 0 0,.slice none 0 0,.string ⟨#[]⟩,.slice (some ⟨b,0,none⟩) 2 2] 74):=by
 unfold exAv
 refine callsIn_of_wp Tryz.func186 rfl hf ?_ hro
 simp only[Tryz.ntmps186,List.size_toArray,List.length_cons,List.length_nil,ζ,Nat.reduceSub,Array.replicate_succ,Array.replicate_zero,List.push_toArray,List.append_toArray,List.nil_append,List.cons_append]
 gi_wp2
 go_ret
 exact⟨rfl,rfl⟩
theorem nodes_stops {F:Fence} (hd:F.depth=none) {n:Nat} (hf:F.fn 230) (hf2:F.fn 229) (hro:F.round=none) {Bt n0 b:Nat} {w:World} (hk:KidsIn n0 w b) (hn:n0≤w.heap.size)
  {f:Nat×Nat} (hB:w.heap[Bt]?=some (.cells #[.int .i64 5,.int .i64 0,.bool false,.slice none 0 0,.slice none 0 0,.string ⟨#[]⟩,.slice (some ⟨b,0,none⟩) 2 2] 74 f)):
  SeqStopsK F n Tryz.prog 229 #[.pointer (some ⟨Bt,0,none⟩)] (fun x:Bool=>#[exV b x]) (KpV n0 w.heap.size) (fun ys=>ys=[true,false,false]) (fun pre=>pre <+: [true,false,false]) 3 w:=by
 intro l J Jx W hW hJ hJx hY h0
 have hdd:∀k:Nat,(F.depth.isSome=true→1≤k):=fun k h=>by rw[hd] at h;cases h
 have hB':W.heap[Bt]?=_:=(hW.block Bt (Array.getElem?_eq_some_iff.1 hB).1).trans hB
 have hp:=each_a hd hf hro (l:=l) (n0:=n0) (n1:=w.heap.size) (b:=b) (J:=J) (Jx:=Jx) (fun s A B h g=>hJ s A B none h g (fun r e=>by cases e)) (fun m pre x W1 hj hl=>YieldAt.any hd m (hY pre x W1 hj hl)) (n - 1) h0 hn hW.size (hk.below (hW.mono hn))
 unfold exAv at hp
 have c0:=box_cell hB' 0
 have c1:=box_cell hB' 1
 have c2:=box_cell hB' 2
 have c3:=box_cell hB' 3
 have c4:=box_cell hB' 4
 have c5:=box_cell hB' 5
 have c6:=box_cell hB' 6
 simp only[List.getElem?_toArray,List.getElem?_cons_zero,List.getElem?_cons_succ] at c0 c1 c2 c3 c4 c5 c6
 refine callsIn_of_wp Tryz.func229 rfl hf2 ?_ hro
 simp only[Tryz.ntmps229,List.size_toArray,List.length_cons,List.length_nil,ζ,Nat.reduceSub,Array.replicate_succ,Array.replicate_zero,List.push_toArray,List.append_toArray,List.nil_append,List.cons_append]
 gi_wp2_with ((try refine⟨hdd _,?_⟩);gi_at_call 230;refine hp.mono ?_;clear hp;rintro e W1 (⟨rfl,hJ1⟩ |⟨rfl,q,hq,hx⟩))
 ·go_end0
  exact⟨⟨_,rfl⟩,.inl ⟨_,rfl,hJ1⟩⟩
 ·go_end0
  exact⟨⟨_,rfl⟩,.inr ⟨q,hq,hx⟩⟩
def exC (b:Nat):Bool→Array Value
 |true=>#[.int .i64 5,.int .i64 0,.bool false,.slice none 0 0,.slice none 0 0,.string ⟨#[]⟩,.slice (some ⟨b,0,none⟩) 2 2]
 |false=>#[.int .i64 2,.int .i64 0,.bool false,.slice none 0 0,.slice none 0 0,.string ⟨#[120]⟩,.slice none 0 0]
def nmD {H:Type} (xs:List Bool):DataW H:=xs.foldl (fun D x=>bif x then D else D.put (.string [120]) (.lit (.bool true))) (.map [])
theorem nmD_snoc {H:Type} (pre:List Bool) (x:Bool):nmD (H:=H) (pre ++[x])=bif x then nmD pre else (nmD pre).put (.string [120]) (.lit (.bool true)):=by simp[nmD]
theorem vars_in {b:Nat} {w:World} (hk:KidsIn w.heap.size w b)
  (kV:∀m W,Below w.heap.size w W→CallsIn Fence.wide m Tryz.prog 131 #[exAv b] W fun e W'=>e=.returned (.bool true)∧Below W.heap.size W W'):
  CallsIn Fence.wide 9 Tryz.prog 132 #[exAv b] w fun e w'=>∃v,e=.returned (.tuple #[v,.int .i64 0])∧w'.ownsRow w.heap.size 9 1 v 1 [.string ⟨#[120]⟩]∧Below w.heap.size w w':=by
 have hro:Fence.wide.round=none:=rfl
 have hmm:=@run_makeMap Tryz.prog
 unfold exAv at kV ⊢
 refine callsIn_of_wp_marks Tryz.func132 rfl trivial ?_ hro
 simp only[Tryz.ntmps132,List.size_toArray,List.length_cons,List.length_nil,ζ,Nat.reduceSub,Array.replicate_succ,Array.replicate_zero,List.push_toArray,List.append_toArray,List.nil_append,List.cons_append]
 have hk1:KidsIn w.heap.size (w.alloc (.cells #[.int .i64 5,.int .i64 0,.bool false,.slice none 0 0,.slice none 0 0,.string ⟨#[]⟩,.slice (some ⟨b,0,none⟩) 2 2] 74)) b:=hk.below ((Below.refl _ w).alloc (η _) _)
 have g1:Fence.wide.fn 131:=trivial
 have g2:Fence.wide.fn 186:=trivial
 have hcel:∀w',Below (w.heap.size+1) (w.alloc (.cells #[.int .i64 5,.int .i64 0,.bool false,.slice none 0 0,.slice none 0 0,.string ⟨#[]⟩,.slice (some ⟨b,0,none⟩) 2 2] 74)) w'→∀i,w'.cell? ⟨w.heap.size,i,none⟩=(#[.int .i64 5,.int .i64 0,.bool false,.slice none 0 0,.slice none 0 0,.string ⟨#[]⟩,.slice (some ⟨b,0,none⟩) 2 2]:Array Value)[i]?:=fun w' hb i=>
  box_cell ((hb.block _ (by omega)).trans (World.alloc_heap_new w _)) i
 gi_wp2
 refine(kV _ _ ((Below.refl _ w).alloc (η _) _)).mono ?_
 rintro e w' ⟨rfl,hbV⟩
 simp only[World.size_alloc] at hbV
 have hs':w.heap.size+1≤w'.heap.size:=by have:=hbV.size;simpa using this
 have hbA:=(hbV.alloc hs' (.map #[] 0)).alloc (by simp;omega) (.cells #[.map (some w'.heap.size)] 199)
 have hc:=hcel _ hbA
 have c0:=hc 0
 have c1:=hc 1
 have c2:=hc 2
 have c3:=hc 3
 have c4:=hc 4
 have c5:=hc 5
 have c6:=hc 6
 clear hc
 simp only[List.getElem?_toArray,List.getElem?_cons_zero,List.getElem?_cons_succ] at c0 c1 c2 c3 c4 c5 c6
 gi_wp2_with (gi_at_call 186;refine(nodes_in (n:=8) g2 hro (b:=b) (w:=(w'.alloc (.map #[] 0)).alloc (.cells #[.map (some w'.heap.size)] 199))).mono ?_;rintro e w2 ⟨rfl,rfl⟩)
 have hnb:KidsIn w.heap.size ((w'.alloc (.map #[] 0)).alloc (.cells #[.map (some w'.heap.size)] 199)) b:=hk1.below (hbA.mono (by omega))
 obtain⟨W0,hW0⟩:∃W0,((w'.alloc (.map #[] 0)).alloc (.cells #[.map (some w'.heap.size)] 199)).alloc (.cells #[.int .i64 5,.int .i64 0,.bool false,.slice none 0 0,.slice none 0 0,.string ⟨#[]⟩,.slice (some ⟨b,0,none⟩) 2 2] 74)=W0:=⟨_,rfl⟩
 have hsz:W0.heap.size=w'.heap.size+3:=by rw[←hW0];simp
 have hkW:KidsIn w.heap.size W0 b:=by rw[←hW0];exact hnb.below ((Below.refl _ _).alloc (by simp;omega) _)
 have hbx:W0.heap[w'.heap.size+1+1]?=some (.cells #[.int .i64 5,.int .i64 0,.bool false,.slice none 0 0,.slice none 0 0,.string ⟨#[]⟩,.slice (some ⟨b,0,none⟩) 2 2] 74 (0,0)):=by
  have h:=World.alloc_heap_new ((w'.alloc (.map #[] 0)).alloc (.cells #[.map (some w'.heap.size)] 199)) (.cells #[.int .i64 5,.int .i64 0,.bool false,.slice none 0 0,.slice none 0 0,.string ⟨#[]⟩,.slice (some ⟨b,0,none⟩) 2 2] 74)
  rw[hW0] at h
  simpa using h
 have bM:Boxed W0 (w'.heap.size+1) 199 (.map (some w'.heap.size)):=by
  rw[←hW0]
  exact(by simpa using Boxed.new (w'.alloc (.map #[] 0)) 199 (.map (some w'.heap.size)):Boxed _ (w'.heap.size+1) _ _).alloc _
 have hm0:W0.ownsMap Tryz.prog 9 (plainElem (H:=Unit) Tryz.prog 4) w'.heap.size 0 (.map []):=by
  rw[←hW0]
  exact((World.ownsMap_made w' Tryz.prog 9 (plainElem (H:=Unit) Tryz.prog 4)).alloc _).alloc _
 have hB0:Below w.heap.size w W0:=by
  rw[←hW0]
  exact(((Below.refl _ w).alloc (η _) _).trans (hbA.mono (by omega))).alloc (by simp;omega) _
 rw[hW0]
 clear hW0 c0 c1 c2 c3 c4 c5 c6 hbA hcel hnb hbV
 refine wpIn_rangeFunc_ownH hro (by decide) (gf:=229) (lb:=#[.pointer (some ⟨w'.heap.size+1+1,0,none⟩)]) rfl trivial (enters_of Tryz.func229 (by kernel_rfl) rfl)
  (nodes_stops (n0:=w.heap.size) rfl trivial trivial hro hkW hB0.size hbx) KpV.trans
  (fun W l o o' hl h h1 h2=>⟨belowK_b hB0.size W l o o' hl h h1 h2,fun k cs T f _ ha=>by
   have hne:k≠l:=fun e=>by rw[e,h] at ha;cases ha;cases h1
   exact((grownBy_putObj' W l o').block k (Array.getElem?_eq_some_iff.1 ha).1 (fun e=>hne (Option.some.inj e))).trans ha⟩)
  (Below.refl _ _) (fun _=>rfl)
  (fun pre W=>(Boxed W (w'.heap.size+1) 199 (.map (some w'.heap.size))∧W.ownsMap Tryz.prog 9 (plainElem (H:=Unit) Tryz.prog 4) w'.heap.size (pre.count false) (nmD pre))∧Below w.heap.size w W∧W0.heap.size≤W.heap.size)
  (fun _ _ _=>False)
  (OwnFrom.and (OwnFrom.and (Own.from (boxed_own _ _ _) _) (fun s A B row hs hg hr=>hs.kept hg (fun e=>by have:=(hr _ e.symm).1;omega))) (OwnFrom.and (ownFrom_below (η _) hB0.size) (fun s A B row hs hg hr=>χ hs hg.size)))
  (fun _ _ _ _ _ hs _ _=>hs)
  ⟨⟨bM,hm0⟩,hB0,η _⟩
  (fun x a' W=>∃Bx,W0.heap.size≤Bx∧W.heap[Bx]?=some (.cells (exC b x) 74 (0,0))∧a'={tmps:=#[.agg #[.int .i64 5,.int .i64 0,.bool false,.slice none 0 0,.slice none 0 0,.string ⟨#[]⟩,.slice (some ⟨b,0,none⟩) 2 2],.pointer (some ⟨w.heap.size,0,none⟩),.slice none 0 0,.int .i64 0,.pointer (some ⟨w'.heap.size+1,0,none⟩),.pointer (some ⟨Bx,0,none⟩),.agg #[.int .i64 5,.int .i64 0,.bool false,.slice none 0 0,.slice none 0 0,.string ⟨#[]⟩,.slice (some ⟨b,0,none⟩) 2 2],.bool true,.bool false,.map (some w'.heap.size),.agg #[.int .i64 5,.int .i64 0,.bool false,.slice none 0 0,.slice none 0 0,.string ⟨#[]⟩,.slice (some ⟨b,0,none⟩) 2 2],.func (.func 229) #[] #[.pointer (some ⟨w'.heap.size+1+1,0,none⟩)],exV b x,undef,undef,undef,undef,undef,undef,undef,undef,undef],defers:=[]})
  (fun x a' _ X Y row hs hg hr=>by
   obtain⟨Bx,h1,h2,h3⟩:=hs
   refine⟨Bx,h1,(hg.block Bx (Array.getElem?_eq_some_iff.1 h2).1 (fun e=>?_)).trans h2,h3⟩
   obtain⟨_,o,ho,hc⟩:=hr _ e.symm
   rw[h2] at ho;cases ho;cases hc)
  ?assign ?body ?done ?stop
 case assign=>
  rintro l pre x W K ⟨⟨bM1,hm1⟩,hB1,hS1⟩ hK
  have hW:w.heap.size≤W.heap.size:=hB1.size
  have hN:∀o,KpV w.heap.size W0.heap.size W (W.alloc o):=fun o=>⟨(Below.refl _ W).alloc hW o,fun k cs T f _ ha=>by rw[Below.heap_alloc _ _ _ (Array.getElem?_eq_some_iff.1 ha).1];exact ha⟩
  cases x
  all_goals
   dsimp only[exV,exXv,exAv]
   gi_wp2
   exact hK _ _ ((KeepsOthers.alloc _ _).from _) (hN _) ⟨⟨bM1.alloc _,hm1.alloc _⟩,hB1.alloc hW _,by simp;omega⟩ ⟨W.heap.size,hS1,World.alloc_heap_new W _,rfl⟩
 case body=>
  rintro l pre x a' W hl ⟨r,hr⟩ ⟨⟨bM1,hm1⟩,hB1,hS1⟩ ⟨Bx,hBx,hbC,rfl⟩ hlt
  have hW:w.heap.size≤W.heap.size:=hB1.size
  have cM:=bM1.cell
  have c0:=box_cell hbC 0
  have c5:=box_cell hbC 5
  have hkey:keyOf Tryz.prog 9 (.string ⟨#[120]⟩)=some (.string [120]):=WideMaps.keyOf_string_mk (P:=Tryz.prog) Tryz.underlying9 (by decide)
  have hcnt:pre.count false≤pre.length:=List.count_le_length
  cases x
  ·dsimp only[exC] at c0 c5
   simp only[List.getElem?_toArray,List.getElem?_cons_zero,List.getElem?_cons_succ] at c0 c5
   gi_wp2_with (gi_at_mapUpdate;refine wpListIn_mapUpdate_own _ rfl _ _ _ 199 rfl 9 4 (Maps.string_keyed Tryz.underlying9) Tryz.underlying199 _ w'.heap.size (pre.count false) _ rfl hm1 (by unfold maxLen;omega) _ _ _ rfl rfl hkey _ [] (plainElem_bool Tryz.underlying4 true) ?_;intro w1 hown1 hgrow1)
   obtain⟨es,ck,hh,_⟩:=hm1
   have hne:∀k,W0.heap.size≤k→some k≠some w'.heap.size:=fun k hk e=>by cases e;omega
   exact⟨KeepsFrom.of_grownBy hgrow1 (fun j e=>by cases e;omega),⟨(Below.refl _ W).grown hgrow1 hW (fun k e=>by cases e;omega),fun k cs T f hk ha=>(hgrow1.block k (Array.getElem?_eq_some_iff.1 ha).1 (hne k hk)).trans ha⟩,
    ⟨bM1.kept hgrow1 (fun e=>by have:=Option.some.inj e;omega),by rw[nmD_snoc,List.count_append];exact hown1⟩,hB1.grown hgrow1 hW (fun k e=>by cases e;omega),χ hS1 hgrow1.size⟩
  ·dsimp only[exC] at c0 c5
   simp only[List.getElem?_toArray,List.getElem?_cons_zero,List.getElem?_cons_succ] at c0 c5
   gi_wp2
   exact⟨KeepsFrom.refl _ _,⟨Below.refl _ _,fun _ _ _ _ _ h=>h⟩,⟨bM1,by rw[nmD_snoc,List.count_append];exact hm1⟩,hB1,hS1⟩
 case done=>
  rintro D ys W hD rfl ⟨⟨bM1,hm1⟩,hB1,hS1⟩ hK
  have cM:=bM1.cell
  have g3:Fence.wide.fn 188:=trivial
  have g4:Fence.wide.fn 187:=trivial
  have hown:W.ownsMap Tryz.prog 9 (plainElem (H:=Unit) Tryz.prog 4) w'.heap.size 2 (.map [(.string [120],.lit (.bool true))]):=hm1
  gi_wp2_with (first
   |(gi_at_call 188;refine(callsIn_wide.2 (callsIn_wide.1 (keysIn _ _))).mono ?_;rintro e w3 ⟨rfl,rfl⟩)
   |(gi_at_call 187;refine(callsIn_wide.2 (callsIn_wide.1 (sortedIn w'.heap.size 2 _ _ W hown (by decide) (by decide)))).mono ?_;rintro e w3 ⟨v,ss,rfl,hS,hrow,hnil,hb3⟩))
  have e1:ss=[[120]]:=List.perm_singleton.1 hS
  subst e1
  have hD3:D < W.heap.size:=(Array.getElem?_eq_some_iff.1 hK).1
  have hK3:w3.heap[D]?=some (.deferred (some [])):=(hb3.block D (by simp;omega)).trans ((Below.heap_alloc W _ D hD3).trans hK)
  have hB3:Below w.heap.size w w3:=hB1.trans (((Below.refl _ W).alloc hB1.size _).trans (hb3.mono (by have:=hB1.size;simp;omega)))
  refine⟨by simp,.inl ⟨_,_,rfl,run_takeDeferred hK3,?_⟩⟩
  refine⟨_,results_tmp2 rfl _ _ _,v,rfl,?_,hB3.trans (belowK_b (w:=w) (η _) w3 D _ _ (by have:=hB0.size;omega) hK3 rfl rfl)⟩
  rw[List.mergeSort_singleton] at hrow
  have hr:=ownsRow_putObj hrow (.deferred none) hK3 rfl
  exact ownsRow_base_a hr (by have:=hB1.size;simp;omega)
 case stop=>
  rintro D c pre W _ _ h _
  exact h.elim
end Go.Q
