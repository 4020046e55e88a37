/- Proved: a part of what the law is proved with (the reckoner, contracts of functions, plain laws). Conditions: as each says. -/
import Derived.Shelf.SlGeneric
import Derived.Shelf.SlSortCmp.NoneTotal
import Derived.Shelf.SlicesG.Cmp
import Derived.Test.YtaheflnnigocgaaGreatDoorProg
import Derived.Shelf.RegionOpenPlain
import Derived.WalkKit
import Derived.Deep.QuietTactic
import Derived.RegionTactic
import Derived.Shelf.SlSortCmp.QuietGrown
import Derived.Test.YtaheflnnigocgaaGreatDoorHET
import Derived.Test.YtaheflnnigocgaaGreatDoorHTjs
section
namespace Go.Proofs
open Go.Shelf
def Tryz.sortCells_ren:Go.Shelf.Ren:=⟨fun|6=>42|15=>57|14=>56|28=>73|29=>74|20=>65|21=>66|22=>67|23=>68|24=>69|25=>70|26=>71|27=>72|46=>103|47=>104|48=>105|49=>106|50=>107|57=>120|n=>n,fun|22=>39|24=>24|25=>98|3=>3|39=>118|0=>0|53=>132|55=>134|4=>4|46=>126|45=>125|50=>65|5=>5|9=>9|66=>156|70=>160|76=>174|77=>175|n=>n,fun|n=>n⟩
theorem Tryz.sortCells:Go.Proofs.SlLaysF0.n6 Tryz.prog Tryz.sortCells_ren:={
 mixed:=by kernel_rfl
 f6:=⟨Tryz.f42.name,by decide,Tryz.func42.trans (congrArg some (by kernel_rfl))⟩
 f14:=⟨Tryz.f56.name,by decide,Tryz.func56.trans (congrArg some (by kernel_rfl))⟩
 f15:=Tryz.func57.trans (congrArg some (by kernel_rfl))
 f20:=⟨Tryz.f65.name,by decide,Tryz.func65.trans (congrArg some (by kernel_rfl))⟩
 f21:=⟨Tryz.f66.name,by decide,Tryz.func66.trans (congrArg some (by kernel_rfl))⟩
 f22:=⟨Tryz.f67.name,by decide,Tryz.func67.trans (congrArg some (by kernel_rfl))⟩
 f23:=⟨Tryz.f68.name,by decide,Tryz.func68.trans (congrArg some (by kernel_rfl))⟩
 f24:=⟨Tryz.f69.name,by decide,Tryz.func69.trans (congrArg some (by kernel_rfl))⟩
 f25:=⟨Tryz.f70.name,by decide,Tryz.func70.trans (congrArg some (by kernel_rfl))⟩
 f26:=⟨Tryz.f71.name,by decide,Tryz.func71.trans (congrArg some (by kernel_rfl))⟩
 f27:=⟨Tryz.f72.name,by decide,Tryz.func72.trans (congrArg some (by kernel_rfl))⟩
 f28:=Tryz.func73.trans (congrArg some (by kernel_rfl))
 f29:=Tryz.func74.trans (congrArg some (by kernel_rfl))
 f46:=⟨Tryz.f103.name,by decide,Tryz.func103.trans (congrArg some (by kernel_rfl))⟩
 f47:=Tryz.func104.trans (congrArg some (by kernel_rfl))
 f48:=Tryz.func105.trans (congrArg some (by kernel_rfl))
 f49:=⟨Tryz.f106.name,by decide,Tryz.func106.trans (congrArg some (by kernel_rfl))⟩
 f50:=⟨Tryz.f107.name,by decide,Tryz.func107.trans (congrArg some (by kernel_rfl))⟩
 f57:=⟨Tryz.f120.name,by decide,Tryz.func120.trans (congrArg some (by kernel_rfl))⟩
 t0:=Tryz.underlying0
 a0:=Tryz.isAgg0
 z0:=Tryz.sizeOf0
 v0:=Tryz.zeroValue0
 t3:=Tryz.underlying3
 a3:=Tryz.isAgg3
 z3:=Tryz.sizeOf3
 v3:=Tryz.zeroValue3
 t4:=Tryz.underlying4
 a4:=Tryz.isAgg4
 z4:=Tryz.sizeOf4
 v4:=Tryz.zeroValue4
 t5:=Tryz.underlying5
 a5:=Tryz.isAgg5
 z5:=Tryz.sizeOf5
 v5:=Tryz.zeroValue5
 t9:=Tryz.underlying9
 a9:=Tryz.isAgg9
 z9:=Tryz.sizeOf9
 v9:=Tryz.zeroValue9
 t22:=Tryz.underlying39
 a22:=Tryz.isAgg39
 z22:=Tryz.sizeOf39
 v22:=Tryz.zeroValue39
 t25:=Tryz.underlying98
 a25:=Tryz.isAgg98
 z25:=Tryz.sizeOf98
 v25:=Tryz.zeroValue98
 t39:=Tryz.underlying118
 a39:=Tryz.isAgg118
 z39:=Tryz.sizeOf118
 v39:=Tryz.zeroValue118
 t45:=Tryz.underlying125
 a45:=Tryz.isAgg125
 z45:=Tryz.sizeOf125
 v45:=Tryz.zeroValue125
 t46:=Tryz.underlying126
 a46:=Tryz.isAgg126
 z46:=Tryz.sizeOf126
 v46:=Tryz.zeroValue126
 t50:=Tryz.underlying65
 a50:=Tryz.isAgg65
 z50:=Tryz.sizeOf65
 v50:=Tryz.zeroValue65
 t53:=Tryz.underlying132
 a53:=Tryz.isAgg132
 z53:=Tryz.sizeOf132
 v53:=Tryz.zeroValue132
 t55:=Tryz.underlying134
 a55:=Tryz.isAgg134
 z55:=Tryz.sizeOf134
 v55:=Tryz.zeroValue134
 t66:=Tryz.underlying156
 a66:=Tryz.isAgg156
 z66:=Tryz.sizeOf156
 v66:=Tryz.zeroValue156
 t70:=Tryz.underlying160
 a70:=Tryz.isAgg160
 z70:=Tryz.sizeOf160
 v70:=Tryz.zeroValue160
 t76:=Tryz.underlying174
 a76:=Tryz.isAgg174
 z76:=Tryz.sizeOf174
 v76:=Tryz.zeroValue174
 t77:=Tryz.underlying175
 a77:=Tryz.isAgg175
 z77:=Tryz.sizeOf175
 v77:=Tryz.zeroValue175 }
def Tryz.cmpInt_ren:Go.Shelf.Ren:=⟨fun|5=>59|7=>75|n=>n,fun|22=>3|3=>3|4=>4|n=>n,fun|n=>n⟩
theorem Tryz.cmpInt:Go.Proofs.SlLaysC2.n5 Tryz.prog Tryz.cmpInt_ren:={
 mixed:=by kernel_rfl
 f5:=⟨Tryz.f59.name,by decide,Tryz.func59.trans (congrArg some (by kernel_rfl))⟩
 f7:=⟨Tryz.f75.name,by decide,Tryz.func75.trans (congrArg some (by kernel_rfl))⟩
 t3:=Tryz.underlying3
 a3:=Tryz.isAgg3
 z3:=Tryz.sizeOf3
 v3:=Tryz.zeroValue3
 t4:=Tryz.underlying4
 a4:=Tryz.isAgg4
 z4:=Tryz.sizeOf4
 v4:=Tryz.zeroValue4
 t22:=Tryz.underlying3
 a22:=Tryz.isAgg3
 z22:=Tryz.sizeOf3
 v22:=Tryz.zeroValue3 }
def Tryz.sortParts_ren:Go.Shelf.Ren:=⟨fun|6=>48|15=>57|14=>60|28=>73|29=>74|20=>76|21=>77|22=>78|23=>79|24=>80|25=>81|26=>82|27=>83|46=>108|47=>104|48=>105|49=>109|50=>110|57=>121|n=>n,fun|22=>36|24=>39|25=>108|3=>3|39=>118|0=>0|53=>132|55=>134|4=>4|46=>126|45=>125|50=>65|5=>5|9=>9|66=>156|70=>160|76=>174|77=>175|n=>n,fun|n=>n⟩
theorem Tryz.sortParts:Go.Proofs.SlLaysF.n6 Tryz.prog Tryz.sortParts_ren:={
 mixed:=by kernel_rfl
 f6:=⟨Tryz.f48.name,by decide,Tryz.func48.trans (congrArg some (by kernel_rfl))⟩
 f14:=⟨Tryz.f60.name,by decide,Tryz.func60.trans (congrArg some (by kernel_rfl))⟩
 f15:=Tryz.func57.trans (congrArg some (by kernel_rfl))
 f20:=⟨Tryz.f76.name,by decide,Tryz.func76.trans (congrArg some (by kernel_rfl))⟩
 f21:=⟨Tryz.f77.name,by decide,Tryz.func77.trans (congrArg some (by kernel_rfl))⟩
 f22:=⟨Tryz.f78.name,by decide,Tryz.func78.trans (congrArg some (by kernel_rfl))⟩
 f23:=⟨Tryz.f79.name,by decide,Tryz.func79.trans (congrArg some (by kernel_rfl))⟩
 f24:=⟨Tryz.f80.name,by decide,Tryz.func80.trans (congrArg some (by kernel_rfl))⟩
 f25:=⟨Tryz.f81.name,by decide,Tryz.func81.trans (congrArg some (by kernel_rfl))⟩
 f26:=⟨Tryz.f82.name,by decide,Tryz.func82.trans (congrArg some (by kernel_rfl))⟩
 f27:=⟨Tryz.f83.name,by decide,Tryz.func83.trans (congrArg some (by kernel_rfl))⟩
 f28:=Tryz.func73.trans (congrArg some (by kernel_rfl))
 f29:=Tryz.func74.trans (congrArg some (by kernel_rfl))
 f46:=⟨Tryz.f108.name,by decide,Tryz.func108.trans (congrArg some (by kernel_rfl))⟩
 f47:=Tryz.func104.trans (congrArg some (by kernel_rfl))
 f48:=Tryz.func105.trans (congrArg some (by kernel_rfl))
 f49:=⟨Tryz.f109.name,by decide,Tryz.func109.trans (congrArg some (by kernel_rfl))⟩
 f50:=⟨Tryz.f110.name,by decide,Tryz.func110.trans (congrArg some (by kernel_rfl))⟩
 f57:=⟨Tryz.f121.name,by decide,Tryz.func121.trans (congrArg some (by kernel_rfl))⟩
 t0:=Tryz.underlying0
 a0:=Tryz.isAgg0
 z0:=Tryz.sizeOf0
 v0:=Tryz.zeroValue0
 t3:=Tryz.underlying3
 a3:=Tryz.isAgg3
 z3:=Tryz.sizeOf3
 v3:=Tryz.zeroValue3
 t4:=Tryz.underlying4
 a4:=Tryz.isAgg4
 z4:=Tryz.sizeOf4
 v4:=Tryz.zeroValue4
 t5:=Tryz.underlying5
 a5:=Tryz.isAgg5
 z5:=Tryz.sizeOf5
 v5:=Tryz.zeroValue5
 t9:=Tryz.underlying9
 a9:=Tryz.isAgg9
 z9:=Tryz.sizeOf9
 v9:=Tryz.zeroValue9
 t22:=Tryz.underlying36
 a22:=Tryz.isAgg36
 z22:=Tryz.sizeOf36
 v22:=Tryz.zeroValue36
 a24:=Tryz.isAgg39
 z24:=Tryz.sizeOf39
 t25:=Tryz.underlying108
 a25:=Tryz.isAgg108
 z25:=Tryz.sizeOf108
 v25:=Tryz.zeroValue108
 t39:=Tryz.underlying118
 a39:=Tryz.isAgg118
 z39:=Tryz.sizeOf118
 v39:=Tryz.zeroValue118
 t45:=Tryz.underlying125
 a45:=Tryz.isAgg125
 z45:=Tryz.sizeOf125
 v45:=Tryz.zeroValue125
 t46:=Tryz.underlying126
 a46:=Tryz.isAgg126
 z46:=Tryz.sizeOf126
 v46:=Tryz.zeroValue126
 t50:=Tryz.underlying65
 a50:=Tryz.isAgg65
 z50:=Tryz.sizeOf65
 v50:=Tryz.zeroValue65
 t53:=Tryz.underlying132
 a53:=Tryz.isAgg132
 z53:=Tryz.sizeOf132
 v53:=Tryz.zeroValue132
 t55:=Tryz.underlying134
 a55:=Tryz.isAgg134
 z55:=Tryz.sizeOf134
 v55:=Tryz.zeroValue134
 t66:=Tryz.underlying156
 a66:=Tryz.isAgg156
 z66:=Tryz.sizeOf156
 v66:=Tryz.zeroValue156
 t70:=Tryz.underlying160
 a70:=Tryz.isAgg160
 z70:=Tryz.sizeOf160
 v70:=Tryz.zeroValue160
 t76:=Tryz.underlying174
 a76:=Tryz.isAgg174
 z76:=Tryz.sizeOf174
 v76:=Tryz.zeroValue174
 t77:=Tryz.underlying175
 a77:=Tryz.isAgg175
 z77:=Tryz.sizeOf175
 v77:=Tryz.zeroValue175 }
end Go.Proofs
end
section
namespace Go.Proofs.YtaheflnnigocgaaGreatDoor
open Go Go.RowKit Go.Sort Go.EYtaheflnnigocgaaGreatDoor
set_option maxRecDepth 100000
set_option maxHeartbeats 4000000
theorem or_calls (b:Nat) (x y:Int) (c:Nat) (w:World) (h0:w.cell? ⟨b,0,none⟩=some (.int .i64 x)) (h1:w.cell? ⟨b,1,none⟩=some (.int .i64 y)) :
 Calls Tryz.prog 58 #[.slice (some ⟨b,0,none⟩) 2 c] w fun e w'=>e=.returned (.int .i64 (orZ x y))∧w'=w:=by
 by_cases hx:x=0
 ·subst hx
  have hr:orZ 0 y=y:=rfl
  rw[hr]
  clear hr
  by_cases hy:y=0
  ·subst hy
   go_enter Tryz.func58,Tryz.ntmps58
   go_wp2
   refine wp_loop_rounds 3 ?_
   rw[rounds_succ]
   go_wp2
   rw[rounds_succ]
   go_wp2
   rw[rounds_succ]
   go_wp2
   go_ret
   exact ⟨rfl,rfl⟩
  ·go_enter Tryz.func58,Tryz.ntmps58
   go_wp2
   refine wp_loop_rounds 3 ?_
   rw[rounds_succ]
   go_wp2
   rw[rounds_succ]
   go_wp2
   go_ret
   exact ⟨rfl,rfl⟩
 ·have hr:orZ x y=x:=if_neg hx
  rw[hr]
  clear hr
  go_enter Tryz.func58,Tryz.ntmps58
  go_wp2
  refine wp_loop_rounds 3 ?_
  rw[rounds_succ]
  go_wp2
  go_ret
  exact ⟨rfl,rfl⟩
end Go.Proofs.YtaheflnnigocgaaGreatDoor
end
section
namespace Go.Proofs.YtaheflnnigocgaaGreatDoor
open Go
set_option maxRecDepth 100000
def frontL (ops':Array Oper):Nat→List (List Bool)→List (List Bool)
 | 0,ms=>ms
 | k+1,ms=>ms++frontL ops' k ((ms.flatMap fun l=>(Region.ready .any ops' l.toArray).map fun i=>l.set i true).foldl (fun acc l=>if acc.contains l then acc else l::acc) [])
def frontM (ops':Array Oper) (m:Nat):List (List Bool):=frontL ops' m [List.replicate m false]
def frontB (ops ops':Array Oper) (m r:Nat) (ms:List (List Bool)):Bool :=
 ms.all fun l=>(l.all id || Region.ready .any ops (l++List.replicate r false).toArray==Region.ready .any ops' l.toArray) && (l.length==m) && ((Region.ready .any ops' l.toArray).isEmpty==l.all id) &&
  (Region.ready .any ops' l.toArray).all fun i=>decide (i<m) && ms.contains (l.set i true) && ((l.set i true).count false+1==l.count false)
theorem wpOp_front {P:Program} {ops ops':Array Oper} {Q:Exit→Act→World→Prop} {i:Nat} {K:Act→World→Prop} {a:Act} {w:World} (h1:ops'[i]?=ops[i]?) (hg:∀ o,ops'[i]?=some o→o.guard=none) (h:wpOp P ops' Q i K a w):wpOp P ops Q i K a w:=by
 unfold wpOp at *
 rw[← h1]
 cases ho:ops'[i]? with
 | none=>rw[ho] at h;exact h
 | some o =>
  rw[ho] at h
  have hw:∀ y,Region.wanted o y=true:=fun y=>by unfold Region.wanted;rw[hg o ho]
  simp only[hw,if_true] at h ⊢
  exact h
theorem wpAny_front {P:Program} {ops ops':Array Oper} {C:World→Prop} {Q:Exit→Act→World→Prop} {Qn:Act→Prop} {m r:Nat} {ms:List (List Bool)} (hB:frontB ops ops' m r ms=true) (hop:∀ i,i<m→ops'[i]?=ops[i]?) (hg:∀ (i:Nat) (o:Oper),ops'[i]?=some o→o.guard=none)
 (hend:∀ a w,C w→Qn a→wpAny P .any ops Q r (List.replicate m true++List.replicate r false).toArray a w) :
 ∀ (fuel:Nat) (l:List Bool) (a:Act) (w:World),l ∈ ms→l.count false=fuel→C w→wpAnyQ P .any ops' C Qn fuel l.toArray a→wpAny P .any ops Q (fuel+r) (l++List.replicate r false).toArray a w:=by
 intro fuel
 induction fuel with
 | zero =>
  intro l a w hl hc hw h
  have hb:=List.all_eq_true.1 hB l hl
  simp only[Bool.and_eq_true,beq_iff_eq] at hb
  have e:l=List.replicate m true:=by
   refine List.eq_replicate_iff.2 ⟨hb.1.1.2,fun b hb'=>?_⟩
   cases b with
   | true=>rfl
   | false=>exact absurd hb' (List.count_eq_zero.1 hc)
  rw[e,Nat.zero_add]
  exact hend a w hw h.2
 | succ fuel ih =>
  intro l a w hl hc hw h
  have hb:=List.all_eq_true.1 hB l hl
  simp only[Bool.and_eq_true,beq_iff_eq] at hb
  obtain ⟨⟨⟨hb1,hb2⟩,hb3⟩,hb4⟩:=hb
  rw[show fuel+1+r=(fuel+r)+1 by omega]
  have hna:l.all id=false:=by
   cases hx:l.all id with
   | false=>rfl
   | true =>
    have:l.count false=0:=List.count_eq_zero.2 fun hm=>by
     have:=List.all_eq_true.1 hx false hm
     simp at this
    omega
  rw[hna,Bool.false_or,beq_iff_eq] at hb1
  refine ⟨fun h0=>?_,fun i hi=>?_⟩
  ·rw[hb1] at h0
   rw[h0,hna] at hb3
   simp at hb3
  ·rw[hb1] at hi
   have h4:=List.all_eq_true.1 hb4 i hi
   simp only[Bool.and_eq_true,beq_iff_eq,decide_eq_true_eq] at h4
   obtain ⟨⟨hlt,hmem⟩,hcnt⟩:=h4
   have hmem':l.set i true ∈ ms:=by simpa using hmem
   have es:(l++List.replicate r false).toArray.setIfInBounds i true=(l.set i true++List.replicate r false).toArray:=by
    rw[List.setIfInBounds_toArray,List.set_append_left _ _ (by rw[hb2];exact hlt)]
   refine wpOp_front (hop i hlt) (hg i) (wpOp_of_qOp hw (fun a' w' hw' hk=>?_) (h.2 i hi))
   rw[es]
   rw[List.setIfInBounds_toArray] at hk
   exact ih (l.set i true) a' w' hmem' (by omega) hw' hk
theorem wp_region_front {P:Program} {C:World→Prop} {id:Nat} {Q:Exit→Act→World→Prop} {a:Act} {w:World} {l:List Oper} (m r:Nat) (hm:P.follows .mixedOrders=true) (hC:C { w with drawn:=w.drawn+1 })
 (hl:l.length=m+r) (hB:(frontB l.toArray (l.take m).toArray m r (frontM (l.take m).toArray m) && Region.noSelect (l.take m).toArray && Region.lexFrom .any (l.take m).toArray (l.take m).length 0 (Array.replicate m false) && (l.take m).all (fun o=>o.guard.isNone) && (frontM (l.take m).toArray m).contains (List.replicate m false))=true)
 (h:wpQuiet P (l.take m).toArray C (fun a'=>∀ w',C w'→wpAny P .any l.toArray Q r (List.replicate m true++List.replicate r false).toArray a' w') (l.take m) a):(Code.region id l.toArray true).wp P Q a w:=by
 simp only[Bool.and_eq_true] at hB
 obtain ⟨⟨⟨⟨h1,h2⟩,h3⟩,h4⟩,h5⟩:=hB
 have hlen:(l.take m).length=m:=by rw[List.length_take];omega
 have hq:=wpAnyQ_lex (C:=C) (md:=.any) (ops:=(l.take m).toArray) h2 (l.take m) 0 (Array.replicate m false) a (by simp) h3 h
 rw[hlen] at hq
 refine wp_region_any hm ?_
 have hf:=wpAny_front (P:=P) (C:=C) (Q:=Q) (Qn:=fun a'=>∀ w',C w'→wpAny P .any l.toArray Q r (List.replicate m true++List.replicate r false).toArray a' w') h1 (fun i hi=>by simp[hi]) (fun i o ho=>by
  have hmem:o ∈ l.take m:=List.mem_of_getElem? (by simpa using ho)
  simpa using List.all_eq_true.1 h4 o hmem) (fun a' w' hw' hQ=>hQ w' hw') m (List.replicate m false) a _ (by simpa using h5) (by simp) hC (by
   rw[List.toArray_replicate]
   exact hq)
 rw[List.replicate_append_replicate,List.toArray_replicate] at hf
 rw[show l.toArray.size=m+r by simpa using hl]
 exact hf
end Go.Proofs.YtaheflnnigocgaaGreatDoor
end
section
namespace Go.Proofs.YtaheflnnigocgaaGreatDoor
open Go Go.RowKit Go.Sort Go.EYtaheflnnigocgaaGreatDoor
set_option maxRecDepth 100000
set_option maxHeartbeats 4000000
theorem comp_calls (p q:Int×Int) (W:World):Calls Tryz.prog 43 #[.agg (encC p).toArray,.agg (encC q).toArray] W fun e w'=>e=.returned (.int .i64 (cfC p q))∧∃ k os',w'=grow (W.drewN k) os':=by
 have hc:∀ (x y:Int) W',Calls Tryz.prog 59 #[.int .i64 x,.int .i64 y] W' fun e w'=>e=.returned (.int .i64 (cmpZ x y))∧w'=W':=fun x y W'=>by
  have h:=AnyG.cmp_Compare_int Tryz.cmpInt x y W'
  have e:Lib.compareInt x y=cmpZ x y:=by unfold Lib.compareInt cmpZ;(repeat' split) <;> omega
  rw[e] at h
  exact h
 have hg:∀ (x y:Int) (w:World) (n:Nat) (os:Array Obj),Calls Tryz.prog 59 #[.int .i64 x,.int .i64 y] (grow (w.drewN n) os) fun e w''=>e=.returned (.int .i64 (cmpZ x y))∧∃ p:GrownBy,w''=grow (w.drewN p.n) p.os :=
  fun x y w n os=>(hc x y _).mono fun e w' ⟨h1,h2⟩=>⟨h1,⟨n,os⟩,h2⟩
 obtain ⟨p1,p2⟩:=p
 obtain ⟨q1,q2⟩:=q
 show Calls _ _ #[.agg #[.int .i64 p1,.int .i64 p2],.agg #[.int .i64 q1,.int .i64 q2]] W fun e w'=>e=.returned (.int .i64 (orZ (cmpZ p2 q2) (cmpZ p1 q1)))∧_
 have c1:=hg p2 q2
 have c2:=hg p1 q1
 generalize cmpZ p2 q2=x at c1 ⊢
 generalize cmpZ p1 q1=y at c2 ⊢
 clear hc hg
 go_enter Tryz.func43,Tryz.ntmps43
 go_wp2_with fail
 obtain ⟨W1,hW1⟩:∃ W1:World,W1=(W.alloc (.cells #[.int .i64 p1,.int .i64 p2] 24)).alloc (.cells #[.int .i64 q1,.int .i64 q2] 24):=⟨_,rfl⟩
 rw[← hW1]
 have z1:(W.heap.push (.cells #[.int .i64 p1,.int .i64 p2] 24)).size=W.heap.size+1:=Array.size_push _
 have g2:W1.heap[W.heap.size+1]?=some (.cells #[.int .i64 q1,.int .i64 q2] 24 (0,0)):=by
  rw[hW1,← z1]
  exact Array.getElem?_push_size
 have g1:W1.heap[W.heap.size]?=some (.cells #[.int .i64 p1,.int .i64 p2] 24 (0,0)):=by
  rw[hW1]
  show ((W.heap.push _).push _)[W.heap.size]?=_
  rw[Array.getElem?_push,if_neg (by rw[z1];omega)]
  exact Array.getElem?_push_size
 have l1:W.heap.size<W1.heap.size:=(Array.getElem?_eq_some_iff.1 g1).1
 have l2:W.heap.size+1<W1.heap.size:=(Array.getElem?_eq_some_iff.1 g2).1
 have f1:=fun n os=>cell_grown (w:=W1) (a:=⟨W.heap.size,0,none⟩) (v:=.int .i64 p1) l1 (by simp[World.cell?,g1]) n os
 have f2:=fun n os=>cell_grown (w:=W1) (a:=⟨W.heap.size,1,none⟩) (v:=.int .i64 p2) l1 (by simp[World.cell?,g1]) n os
 have f3:=fun n os=>cell_grown (w:=W1) (a:=⟨W.heap.size+1,0,none⟩) (v:=.int .i64 q1) l2 (by simp[World.cell?,g2]) n os
 have f4:=fun n os=>cell_grown (w:=W1) (a:=⟨W.heap.size+1,1,none⟩) (v:=.int .i64 q2) l2 (by simp[World.cell?,g2]) n os
 have hWW:∀ n os,∃ k os',grow (W1.drewN n) os=grow (W.drewN k) os':=fun n os=>by
  refine ⟨n,(#[Obj.cells #[.int .i64 p1,.int .i64 p2] 24]++#[Obj.cells #[.int .i64 q1,.int .i64 q2] 24])++os,?_⟩
  rw[hW1,alloc_eq_grow,alloc_eq_grow,grow_grow]
  exact grow_grow (W.drewN n) _ os
 have hX:Aside (∀ n os,∃ k os',grow (W1.drewN n) os=grow (W.drewN k) os'):=hWW
 clear hWW hW1 g1 g2 l1 l2 z1
 refine wp_region_front 10 3 (C:=fun w'=>∃ p:GrownBy,w'=grow (W1.drewN p.n) p.os) (by kernel_rfl) ⟨⟨1,#[]⟩,by rw[grow_empty];rfl⟩ rfl (by decide +kernel) ?_
 simp only[List.take_succ_cons,List.take_zero]
 quiet_step (fail)
 quiet_step (fail)
 quiet_step (fail)
 quiet_step (fail)
 refine wpQuiet_step (fun K hK=>?_)
 go_simp
 refine ⟨_,fun pp=>c1 W1 pp.n pp.os,hK _ ?_⟩
 clear hK K
 quiet_step (fail)
 quiet_step (fail)
 quiet_step (fail)
 quiet_step (fail)
 refine wpQuiet_step (fun K hK=>?_)
 go_simp
 refine ⟨_,fun pp=>c2 W1 pp.n pp.os,hK _ ?_⟩
 clear hK K
 refine wpQuiet_nil ?_
 rintro _ ⟨⟨nq,osq⟩,rfl⟩
 have hY:=hX.out nq osq
 clear f1 f2 f3 f4 c1 c2 hX
 generalize grow (W1.drewN nq) osq=w2 at hY ⊢
 have hZ:Aside (∃ k os',w2=grow (W.drewN k) os'):=hY
 clear hY
 refine wpAny_ready (rs:=[10]) (by kernel_rfl) (by simp) ?_
 refine AllReady.cons rfl (fun K hK=>?_) AllReady.nil
 go_simp
 refine hK _ _ ?_
 clear hK K
 refine wpAny_ready (rs:=[11]) (by kernel_rfl) (by simp) ?_
 refine AllReady.cons rfl (fun K hK=>?_) AllReady.nil
 go_simp
 have ha:∀ o:Obj,(w2.alloc o).heap[w2.heap.size]?=some o:=fun o=>Array.getElem?_push_size
 refine (or_calls w2.heap.size x y 2 _ (by unfold World.cell?;simp only[ha];rfl) (by unfold World.cell?;simp only[ha];rfl)).mono ?_
 rintro e w' ⟨rfl,rfl⟩
 refine hK _ _ ?_
 clear hK K
 refine wpAny_ready (rs:=[12]) (by kernel_rfl) (by simp) ?_
 refine AllReady.cons rfl (fun K hK=>?_) AllReady.nil
 go_simp
 refine hK _ _ ?_
 clear hK K
 refine wpAny_done (by kernel_rfl) ?_ _
 go_wp2
 go_ret
 obtain ⟨k,os',hw⟩:=hZ.out
 refine ⟨rfl,k,os'++#[Obj.cells #[.int .i64 x,.int .i64 y] 3],?_⟩
 rw[hw,alloc_eq_grow,grow_grow]
end Go.Proofs.YtaheflnnigocgaaGreatDoor
end
section
namespace Go.Proofs.YtaheflnnigocgaaGreatDoor
open Go Go.RowKit Go.Sort Go.EYtaheflnnigocgaaGreatDoor
set_option maxRecDepth 100000
set_option maxHeartbeats 4000000
theorem part2_calls {b1 o1 n1 c1 b2 o2 n2 c2:Nat} {p q:Int×Int} {W:World} (h1:0<n1) (h2:0<n2) (hb1:b1<W.heap.size) (hb2:b2<W.heap.size)
 (f1:W.cell? ⟨b1,o1,none⟩=some (.int .i64 p.1)) (f2:W.cell? ⟨b1,o1+1,none⟩=some (.int .i64 p.2)) (f3:W.cell? ⟨b2,o2,none⟩=some (.int .i64 q.1)) (f4:W.cell? ⟨b2,o2+1,none⟩=some (.int .i64 q.2)) :
 Calls Tryz.prog 49 (#[.slice (some ⟨b1,o1,none⟩) n1 c1,.slice (some ⟨b2,o2,none⟩) n2 c2]++#[]) W fun e w'=>e=.returned (.int .i64 (cfC p q))∧∃ k os',w'=grow (W.drewN k) os':=by
 have c0:=fun (n:Nat) (os:Array Obj)=>Calls.grown_of (comp_calls p q (grow (W.drewN n) os))
 obtain ⟨p1,p2⟩:=p
 obtain ⟨q1,q2⟩:=q
 simp only[encC] at c0
 have l1:=fun n os=>cell_grown hb1 f1 n os
 have l2:=fun n os=>cell_grown hb1 f2 n os
 have l3:=fun n os=>cell_grown hb2 f3 n os
 have l4:=fun n os=>cell_grown hb2 f4 n os
 have z1:(0:Int)<(n1:Int):=by omega
 have z2:(0:Int)<(n2:Int):=by omega
 have hmix:=mixed
 clear f1 f2 f3 f4
 go_enter Tryz.func49,Tryz.ntmps49
 go_wp2_with fail
 refine wp_region_quiet_grown (by assumption) (by kernel_rfl) ?_
 quiet_step (fail)
 quiet_step (fail)
 quiet_step (fail)
 quiet_step (fail)
 quiet_step (fail)
 quiet_step (fail)
 refine wpQuiet_step (fun K hK=>?_)
 go_simp
 refine ⟨_,fun pp=>c0 pp.n pp.os,hK _ ?_⟩
 clear hK K
 quiet_step (fail)
 refine wpQuiet_nil ?_
 rintro _ ⟨⟨nq,osq⟩,rfl⟩
 go_wp2
 go_ret
 exact ⟨rfl,nq,osq,rfl⟩
end Go.Proofs.YtaheflnnigocgaaGreatDoor
end
section
namespace Go.Proofs.YtaheflnnigocgaaGreatDoor
open Go Go.RowKit Go.EYtaheflnnigocgaaGreatDoor Go.Sort
set_option maxRecDepth 100000
set_option maxHeartbeats 4000000
variable {gl:List (Nat×List D)}
theorem rowC_2 {m:List (Int×Int)}:∀ r ∈ m.map rowC,r.length=2:=fun r hr=>by
 obtain ⟨p,_,rfl⟩:=List.mem_map.1 hr
 rfl
theorem encC_one (p:Int×Int):∀ v ∈ encC p,v.oneCell'=true:=fun v hv=>by
 simp[encC] at hv
 rcases hv with rfl|rfl <;> rfl
theorem Sort_x (m:List (Int×Int)) (hl:m.length≤1099511627776):Go.EYtaheflnnigocgaaGreatDoor.Fn Tryz.prog gl 42 [.c (.all 2 0),.c (.fn 43 [])] [(0,.rows 2 (m.map rowC) 24)] 1 (.ret (.tup [])) [(0,.rows 2 ((sortC m).map rowC) 24)] 1 []:=by
 refine ⟨Nat.le_refl _,fun k B h hk=>?_,fun k hk=>(by cases hk),fun w M0 adr xs hW hG hd=>?_⟩
 ·match k,h with
  | 0,_=>rfl
 match xs,hd with
 | [x,y],⟨hx,hy,_⟩ =>
  obtain ⟨cs,rfl,hcs⟩:=hy
  match cs,hcs with
  | [],_ =>
  have hloc:=hW.loc 0 _ rfl
  rcases hx with ⟨h5,rfl⟩|⟨b,q,cp,cur,ee,f,h5,h6,h7,h8,h9,rfl⟩
  ·rw[h5] at hloc
   obtain ⟨_,h6,_⟩:=hloc
   have hm:m=[]:=List.map_eq_nil_iff.1 h6
   subst hm
   have hs:sortC []=[]:=by unfold sortC;simp
   rw[hs]
   refine .inl ⟨by unfold HasBody;kernel_rfl,(AnyF.slices_SortFunc_none Tryz.sortCells none 0 (.func (.func 43) #[] #[]) w).mono ?_⟩
   rintro e w' ⟨rfl,rfl⟩
   exact ⟨adr,Evo.refl _ _,hW,fun _ _ _=>rfl,fun k B b' mm h he=>.inl ⟨k,B,mm,h,he⟩,_,rfl,[],rfl,trivial⟩
  ·rw[h5] at hloc
   obtain ⟨g1,g2,g3,cur',cp',g4,g5,g6,g7,g8⟩:=hloc
   rw[h6] at g4
   cases g4
   obtain rfl:cp=cp':=by omega
   have hlen:(m.map rowC).length=m.length:=List.length_map _
   have hq:q=m.length:=by rw[← g2,hlen]
   subst hq
   rw[hlen] at g8
   have hv:=rowsC_val g8
   have hF:(flatK encC 2 m.toArray).size=m.length * 2:=by simp[flatK]
   have hH:HoldsK encC 2 w b 0 m.toArray:=fun j hj=>by
    rw[hF] at hj
    have e1:(flatK encC 2 m.toArray)[j]! = (flatK encC 2 m.toArray)[j]'(by rw[hF];exact hj):=getElem!_pos _ _ _
    have e2:(flatK encC 2 m.toArray)[j]'(by rw[hF];exact hj)=cur[j]'(by omega):=by
     have h1:(flatK encC 2 m.toArray).toList[j]?=(cur.toList.take (m.length * 2))[j]?:=by rw[flatC,hv]
     rw[List.getElem?_take,if_pos hj,Array.getElem?_toList,Array.getElem?_toList,Array.getElem?_eq_getElem (by rw[hF];exact hj),Array.getElem?_eq_getElem (by omega)] at h1
     exact Option.some.inj h1
    rw[e1,e2]
    refine ⟨?_,by simp[World.frozen?,h6]⟩
    simp[World.cell?,h6]
   have eg:∀ args W,(callFunc 43 args).run Tryz.prog W=.ok (.enter 43 args) W:=enters_of Tryz.func43 (by kernel_rfl) rfl
   have hcmp:CmpLays Tryz.prog 43 #[] encC 2 cfC b 0 m.toArray.size w:=fun n os dk _ p p'=>comp_calls p p' _
   have hbl:b<w.heap.size:=(Array.getElem?_eq_some_iff.1 h6).1
   have c1:=AnyQ.slices_SortFunc_total Tryz.sortCells 2 Tryz.isAgg24 Tryz.sizeOf24 encC (fun _=>rfl) encC_one cfC swoC 43 #[] b 0 cp m.toArray w eg hcmp hH hbl (by simp;omega) totC
   refine .inl ⟨by unfold HasBody;kernel_rfl,c1.mono ?_⟩
   rintro e w' ⟨rfl,n,os,hw⟩
   have hse:(m.toArray.toList.mergeSort fun x y=>!(ltOf cfC) y x)=sortC m:=by unfold sortC;simp
   rw[hse] at hw
   obtain ⟨k1,k2⟩:=sort_world (w:=w) (n:=n) (sortC m).toArray os h6
   rw[← hw] at k1 k2
   have hF2:(flatK encC 2 (sortC m).toArray).size=m.length * 2:=by simp[flatK,sortC_len]
   have hpt:=put_take (F:=flatK encC 2 (sortC m).toArray) (cur:=cur) (by rw[hF2];omega)
   have hln:((sortC m).map rowC).length=m.length:=by rw[List.length_map,sortC_len]
   exact rows_keep hW h5 k2 k1 (by rw[hpt.2];exact h7) g1 rowC_2 hln h8 h9 (by
    rw[hln,← hF2,hpt.1,flatC]
    exact rowsC_den _) ⟨[],rfl,trivial⟩
end Go.Proofs.YtaheflnnigocgaaGreatDoor
end
