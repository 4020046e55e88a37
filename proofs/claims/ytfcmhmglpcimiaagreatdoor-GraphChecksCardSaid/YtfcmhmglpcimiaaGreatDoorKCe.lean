/- Proved: a part of what the law is proved with (the reckoner, contracts of functions, plain laws). Conditions: as each says. -/
import Derived.Deep.QuietTactic
import Derived.RegionTactic
import Derived.Shelf.SlSortCmp.QuietGrown
import Derived.Test.YtfcmhmglpcimiaaGreatDoorKAv
import Derived.Test.YtfcmhmglpcimiaaGreatDoorKET
import Derived.Test.YtfcmhmglpcimiaaGreatDoorKErrAs
import Derived.Test.YtfcmhmglpcimiaaGreatDoorKGb
import Derived.Test.YtfcmhmglpcimiaaGreatDoorKGe
import Derived.Test.YtfcmhmglpcimiaaGreatDoorKHa
import Derived.Test.YtfcmhmglpcimiaaGreatDoorKJk
import Derived.Test.YtfcmhmglpcimiaaGreatDoorKTja
import Derived.Test.YtfcmhmglpcimiaaGreatDoorKTje
import Derived.Test.YtfcmhmglpcimiaaGreatDoorKTjg
import Derived.Test.YtfcmhmglpcimiaaGreatDoorKWa
namespace Go.Proofs.YtfcmhmglpcimiaaGreatDoor
section
open Go
set_option maxRecDepth 100000
def frontL (ops':Array Oper):Nat→List (List Bool)→List (List Bool)
 | 0,ms=>ms
 | k+1,ms=>ms++frontL ops' k ((ms.flatMap fun l=>(Region.ready .any ops' l.toArray).map fun i=>l.set i true).foldl (fun acc l=>if acc.contains l then acc else l::acc) [])
def frontM (ops':Array Oper) (m:Nat):List (List Bool):=frontL ops' m [List.replicate m false]
def frontB (ops ops':Array Oper) (m r:Nat) (ms:List (List Bool)):Bool :=
 ms.all fun l=>(l.all id || Region.ready .any ops (l++List.replicate r false).toArray==Region.ready .any ops' l.toArray) && (l.length==m) && ((Region.ready .any ops' l.toArray).isEmpty==l.all id) &&
  (Region.ready .any ops' l.toArray).all fun i=>decide (i<m) && ms.contains (l.set i true) && ((l.set i true).count false+1==l.count false)
theorem wpOp_front {P:Program} {ops ops':Array Oper} {Q:Exit→Act→World→Prop} {i:Nat} {K:Act→World→Prop} {a:Act} {w:World} (h1:ops'[i]?=ops[i]?) (hg:∀ o,ops'[i]?=some o→o.guard=none) (h:wpOp P ops' Q i K a w):wpOp P ops Q i K a w:=by
 unfold wpOp at *
 rw[← h1]
 cases ho:ops'[i]? with
 | none=>rw[ho] at h;exact h
 | some o =>
  rw[ho] at h
  have hw:∀ y,Region.wanted o y=true:=fun y=>by unfold Region.wanted;rw[hg o ho]
  simp only[hw,if_true] at h ⊢
  exact h
theorem wpAny_front {P:Program} {ops ops':Array Oper} {C:World→Prop} {Q:Exit→Act→World→Prop} {Qn:Act→Prop} {m r:Nat} {ms:List (List Bool)} (hB:frontB ops ops' m r ms=true) (hop:∀ i,i<m→ops'[i]?=ops[i]?) (hg:∀ (i:Nat) (o:Oper),ops'[i]?=some o→o.guard=none)
 (hend:∀ a w,C w→Qn a→wpAny P .any ops Q r (List.replicate m true++List.replicate r false).toArray a w) :
 ∀ (fuel:Nat) (l:List Bool) (a:Act) (w:World),l ∈ ms→l.count false=fuel→C w→wpAnyQ P .any ops' C Qn fuel l.toArray a→wpAny P .any ops Q (fuel+r) (l++List.replicate r false).toArray a w:=by
 intro fuel
 induction fuel with
 | zero =>
  intro l a w hl hc hw h
  have hb:=List.all_eq_true.1 hB l hl
  simp only[Bool.and_eq_true,beq_iff_eq] at hb
  have e:l=List.replicate m true:=by
   refine List.eq_replicate_iff.2 ⟨hb.1.1.2,fun b hb'=>?_⟩
   cases b with
   | true=>rfl
   | false=>exact absurd hb' (List.count_eq_zero.1 hc)
  rw[e,Nat.zero_add]
  exact hend a w hw h.2
 | succ fuel ih =>
  intro l a w hl hc hw h
  have hb:=List.all_eq_true.1 hB l hl
  simp only[Bool.and_eq_true,beq_iff_eq] at hb
  obtain ⟨⟨⟨hb1,hb2⟩,hb3⟩,hb4⟩:=hb
  rw[show fuel+1+r=(fuel+r)+1 by omega]
  have hna:l.all id=false:=by
   cases hx:l.all id with
   | false=>rfl
   | true =>
    have:l.count false=0:=List.count_eq_zero.2 fun hm=>by
     have:=List.all_eq_true.1 hx false hm
     simp at this
    omega
  rw[hna,Bool.false_or,beq_iff_eq] at hb1
  refine ⟨fun h0=>?_,fun i hi=>?_⟩
  ·rw[hb1] at h0
   rw[h0,hna] at hb3
   simp at hb3
  ·rw[hb1] at hi
   have h4:=List.all_eq_true.1 hb4 i hi
   simp only[Bool.and_eq_true,beq_iff_eq,decide_eq_true_eq] at h4
   obtain ⟨⟨hlt,hmem⟩,hcnt⟩:=h4
   have hmem':l.set i true ∈ ms:=by simpa using hmem
   have es:(l++List.replicate r false).toArray.setIfInBounds i true=(l.set i true++List.replicate r false).toArray:=by
    rw[List.setIfInBounds_toArray,List.set_append_left _ _ (by rw[hb2];exact hlt)]
   refine wpOp_front (hop i hlt) (hg i) (wpOp_of_qOp hw (fun a' w' hw' hk=>?_) (h.2 i hi))
   rw[es]
   rw[List.setIfInBounds_toArray] at hk
   exact ih (l.set i true) a' w' hmem' (by omega) hw' hk
theorem wp_region_front {P:Program} {C:World→Prop} {id:Nat} {Q:Exit→Act→World→Prop} {a:Act} {w:World} {l:List Oper} (m r:Nat) (hm:P.follows .mixedOrders=true) (hC:C { w with drawn:=w.drawn+1 })
 (hl:l.length=m+r) (hB:(frontB l.toArray (l.take m).toArray m r (frontM (l.take m).toArray m) && Region.noSelect (l.take m).toArray && Region.lexFrom .any (l.take m).toArray (l.take m).length 0 (Array.replicate m false) && (l.take m).all (fun o=>o.guard.isNone) && (frontM (l.take m).toArray m).contains (List.replicate m false))=true)
 (h:wpQuiet P (l.take m).toArray C (fun a'=>∀ w',C w'→wpAny P .any l.toArray Q r (List.replicate m true++List.replicate r false).toArray a' w') (l.take m) a):(Code.region id l.toArray true).wp P Q a w:=by
 simp only[Bool.and_eq_true] at hB
 obtain ⟨⟨⟨⟨h1,h2⟩,h3⟩,h4⟩,h5⟩:=hB
 have hlen:(l.take m).length=m:=by rw[List.length_take];omega
 have hq:=wpAnyQ_lex (C:=C) (md:=.any) (ops:=(l.take m).toArray) h2 (l.take m) 0 (Array.replicate m false) a (by simp) h3 h
 rw[hlen] at hq
 refine wp_region_any hm ?_
 have hf:=wpAny_front (P:=P) (C:=C) (Q:=Q) (Qn:=fun a'=>∀ w',C w'→wpAny P .any l.toArray Q r (List.replicate m true++List.replicate r false).toArray a' w') h1 (fun i hi=>by simp[hi]) (fun i o ho=>by
  have hmem:o ∈ l.take m:=List.mem_of_getElem? (by simpa using ho)
  simpa using List.all_eq_true.1 h4 o hmem) (fun a' w' hw' hQ=>hQ w' hw') m (List.replicate m false) a _ (by simpa using h5) (by simp) hC (by
   rw[List.toArray_replicate]
   exact hq)
 rw[List.replicate_append_replicate,List.toArray_replicate] at hf
 rw[show l.toArray.size=m+r by simpa using hl]
 exact hf
end
section
open Go Go.RowKit Go.Sort Go.EYtfcmhmglpcimiaaGreatDoor
set_option maxRecDepth 100000
set_option maxHeartbeats 4000000
theorem comp_calls (p q:Int×Int) (W:World):Calls Tryz.prog 30 #[.agg (encC p).toArray,.agg (encC q).toArray] W fun e w'=>e=.returned (.int .i64 (cfC p q))∧∃ k os',w'=grow (W.drewN k) os':=by
 have hc:∀ (x y:Int) W',Calls Tryz.prog 42 #[.int .i64 x,.int .i64 y] W' fun e w'=>e=.returned (.int .i64 (cmpZ x y))∧w'=W':=fun x y W'=>by
  have h:=AnyG.cmp_Compare_int Tryz.cmpInt x y W'
  have e:Lib.compareInt x y=cmpZ x y:=by unfold Lib.compareInt cmpZ;(repeat' split) <;> omega
  rw[e] at h
  exact h
 have hg:∀ (x y:Int) (w:World) (n:Nat) (os:Array Obj),Calls Tryz.prog 42 #[.int .i64 x,.int .i64 y] (grow (w.drewN n) os) fun e w''=>e=.returned (.int .i64 (cmpZ x y))∧∃ p:GrownBy,w''=grow (w.drewN p.n) p.os :=
  fun x y w n os=>(hc x y _).mono fun e w' ⟨h1,h2⟩=>⟨h1,⟨n,os⟩,h2⟩
 obtain ⟨p1,p2⟩:=p
 obtain ⟨q1,q2⟩:=q
 show Calls _ _ #[.agg #[.int .i64 p1,.int .i64 p2],.agg #[.int .i64 q1,.int .i64 q2]] W fun e w'=>e=.returned (.int .i64 (orZ (cmpZ p2 q2) (cmpZ p1 q1)))∧_
 have c1:=hg p2 q2
 have c2:=hg p1 q1
 generalize cmpZ p2 q2=x at c1 ⊢
 generalize cmpZ p1 q1=y at c2 ⊢
 clear hc hg
 go_enter Tryz.func30,Tryz.ntmps30
 go_wp2_with fail
 obtain ⟨W1,hW1⟩:∃ W1:World,W1=(W.alloc (.cells #[.int .i64 p1,.int .i64 p2] 39)).alloc (.cells #[.int .i64 q1,.int .i64 q2] 39):=⟨_,rfl⟩
 rw[← hW1]
 have z1:(W.heap.push (.cells #[.int .i64 p1,.int .i64 p2] 39)).size=W.heap.size+1:=Array.size_push _
 have g2:W1.heap[W.heap.size+1]?=some (.cells #[.int .i64 q1,.int .i64 q2] 39 (0,0)):=by
  rw[hW1,← z1]
  exact Array.getElem?_push_size
 have g1:W1.heap[W.heap.size]?=some (.cells #[.int .i64 p1,.int .i64 p2] 39 (0,0)):=by
  rw[hW1]
  show ((W.heap.push _).push _)[W.heap.size]?=_
  rw[Array.getElem?_push,if_neg (by rw[z1];omega)]
  exact Array.getElem?_push_size
 have l1:W.heap.size<W1.heap.size:=(Array.getElem?_eq_some_iff.1 g1).1
 have l2:W.heap.size+1<W1.heap.size:=(Array.getElem?_eq_some_iff.1 g2).1
 have f1:=fun n os=>cell_grown (w:=W1) (a:=⟨W.heap.size,0,none⟩) (v:=.int .i64 p1) l1 (by simp[World.cell?,g1]) n os
 have f2:=fun n os=>cell_grown (w:=W1) (a:=⟨W.heap.size,1,none⟩) (v:=.int .i64 p2) l1 (by simp[World.cell?,g1]) n os
 have f3:=fun n os=>cell_grown (w:=W1) (a:=⟨W.heap.size+1,0,none⟩) (v:=.int .i64 q1) l2 (by simp[World.cell?,g2]) n os
 have f4:=fun n os=>cell_grown (w:=W1) (a:=⟨W.heap.size+1,1,none⟩) (v:=.int .i64 q2) l2 (by simp[World.cell?,g2]) n os
 have hWW:∀ n os,∃ k os',grow (W1.drewN n) os=grow (W.drewN k) os':=fun n os=>by
  refine ⟨n,(#[Obj.cells #[.int .i64 p1,.int .i64 p2] 39]++#[Obj.cells #[.int .i64 q1,.int .i64 q2] 39])++os,?_⟩
  rw[hW1,alloc_eq_grow,alloc_eq_grow,grow_grow]
  exact grow_grow (W.drewN n) _ os
 have hX:Aside (∀ n os,∃ k os',grow (W1.drewN n) os=grow (W.drewN k) os'):=hWW
 clear hWW hW1 g1 g2 l1 l2 z1
 refine wp_region_front 10 3 (C:=fun w'=>∃ p:GrownBy,w'=grow (W1.drewN p.n) p.os) (by kernel_rfl) ⟨⟨1,#[]⟩,by rw[grow_empty];rfl⟩ rfl (by decide +kernel) ?_
 simp only[List.take_succ_cons,List.take_zero]
 quiet_step (fail)
 quiet_step (fail)
 quiet_step (fail)
 quiet_step (fail)
 refine wpQuiet_step (fun K hK=>?_)
 go_simp
 refine ⟨_,fun pp=>c1 W1 pp.n pp.os,hK _ ?_⟩
 clear hK K
 quiet_step (fail)
 quiet_step (fail)
 quiet_step (fail)
 quiet_step (fail)
 refine wpQuiet_step (fun K hK=>?_)
 go_simp
 refine ⟨_,fun pp=>c2 W1 pp.n pp.os,hK _ ?_⟩
 clear hK K
 refine wpQuiet_nil ?_
 rintro _ ⟨⟨nq,osq⟩,rfl⟩
 have hY:=hX.out nq osq
 clear f1 f2 f3 f4 c1 c2 hX
 generalize grow (W1.drewN nq) osq=w2 at hY ⊢
 have hZ:Aside (∃ k os',w2=grow (W.drewN k) os'):=hY
 clear hY
 refine wpAny_ready (rs:=[10]) (by kernel_rfl) (by simp) ?_
 refine AllReady.cons rfl (fun K hK=>?_) AllReady.nil
 go_simp
 refine hK _ _ ?_
 clear hK K
 refine wpAny_ready (rs:=[11]) (by kernel_rfl) (by simp) ?_
 refine AllReady.cons rfl (fun K hK=>?_) AllReady.nil
 go_simp
 have ha:∀ o:Obj,(w2.alloc o).heap[w2.heap.size]?=some o:=fun o=>Array.getElem?_push_size
 refine (or_calls w2.heap.size x y 2 _ (by unfold World.cell?;simp only[ha];rfl) (by unfold World.cell?;simp only[ha];rfl)).mono ?_
 rintro e w' ⟨rfl,rfl⟩
 refine hK _ _ ?_
 clear hK K
 refine wpAny_ready (rs:=[12]) (by kernel_rfl) (by simp) ?_
 refine AllReady.cons rfl (fun K hK=>?_) AllReady.nil
 go_simp
 refine hK _ _ ?_
 clear hK K
 refine wpAny_done (by kernel_rfl) ?_ _
 go_wp2
 go_ret
 obtain ⟨k,os',hw⟩:=hZ.out
 refine ⟨rfl,k,os'++#[Obj.cells #[.int .i64 x,.int .i64 y] 3],?_⟩
 rw[hw,alloc_eq_grow,grow_grow]
end
section
open Go Go.RowKit Go.Sort Go.EYtfcmhmglpcimiaaGreatDoor
set_option maxRecDepth 100000
set_option maxHeartbeats 4000000
theorem part2_calls {b1 o1 n1 c1 b2 o2 n2 c2:Nat} {p q:Int×Int} {W:World} (h1:0<n1) (h2:0<n2) (hb1:b1<W.heap.size) (hb2:b2<W.heap.size)
 (f1:W.cell? ⟨b1,o1,none⟩=some (.int .i64 p.1)) (f2:W.cell? ⟨b1,o1+1,none⟩=some (.int .i64 p.2)) (f3:W.cell? ⟨b2,o2,none⟩=some (.int .i64 q.1)) (f4:W.cell? ⟨b2,o2+1,none⟩=some (.int .i64 q.2)) :
 Calls Tryz.prog 68 (#[.slice (some ⟨b1,o1,none⟩) n1 c1,.slice (some ⟨b2,o2,none⟩) n2 c2]++#[]) W fun e w'=>e=.returned (.int .i64 (cfC p q))∧∃ k os',w'=grow (W.drewN k) os':=by
 have c0:=fun (n:Nat) (os:Array Obj)=>Calls.grown_of (comp_calls p q (grow (W.drewN n) os))
 obtain ⟨p1,p2⟩:=p
 obtain ⟨q1,q2⟩:=q
 simp only[encC] at c0
 have l1:=fun n os=>cell_grown hb1 f1 n os
 have l2:=fun n os=>cell_grown hb1 f2 n os
 have l3:=fun n os=>cell_grown hb2 f3 n os
 have l4:=fun n os=>cell_grown hb2 f4 n os
 have z1:(0:Int)<(n1:Int):=by omega
 have z2:(0:Int)<(n2:Int):=by omega
 have hmix:=mixed
 clear f1 f2 f3 f4
 go_enter Tryz.func68,Tryz.ntmps68
 go_wp2_with fail
 refine wp_region_quiet_grown (by assumption) (by kernel_rfl) ?_
 quiet_step (fail)
 quiet_step (fail)
 quiet_step (fail)
 quiet_step (fail)
 quiet_step (fail)
 quiet_step (fail)
 refine wpQuiet_step (fun K hK=>?_)
 go_simp
 refine ⟨_,fun pp=>c0 pp.n pp.os,hK _ ?_⟩
 clear hK K
 quiet_step (fail)
 refine wpQuiet_nil ?_
 rintro _ ⟨⟨nq,osq⟩,rfl⟩
 go_wp2
 go_ret
 exact ⟨rfl,nq,osq,rfl⟩
end
section
open Go Go.RowKit Go.EYtfcmhmglpcimiaaGreatDoor Go.Sort
set_option maxRecDepth 100000
set_option maxHeartbeats 4000000
variable {gl:List (Nat×List D)}
theorem rowC_2 {m:List (Int×Int)}:∀ r ∈ m.map rowC,r.length=2:=fun r hr=>by
 obtain ⟨p,_,rfl⟩:=List.mem_map.1 hr
 rfl
theorem encC_one (p:Int×Int):∀ v ∈ encC p,v.oneCell'=true:=fun v hv=>by
 simp[encC] at hv
 rcases hv with rfl|rfl <;> rfl
theorem Sort_x (m:List (Int×Int)) (hl:m.length≤1099511627776):Go.EYtfcmhmglpcimiaaGreatDoor.Fn Tryz.prog gl 62 [.c (.all 2 0),.c (.fn 30 [])] [(0,.rows 2 (m.map rowC) 39)] 1 (.ret (.tup [])) [(0,.rows 2 ((sortC m).map rowC) 39)] 1 []:=by
 refine ⟨Nat.le_refl _,fun k B h hk=>?_,fun k hk=>(by cases hk),fun w M0 adr xs hW hG hd=>?_⟩
 ·match k,h with
  | 0,_=>rfl
 match xs,hd with
 | [x,y],⟨hx,hy,_⟩ =>
  obtain ⟨cs,rfl,hcs⟩:=hy
  match cs,hcs with
  | [],_ =>
  have hloc:=hW.loc 0 _ rfl
  rcases hx with ⟨h5,rfl⟩|⟨b,q,cp,cur,ee,f,h5,h6,h7,h8,h9,rfl⟩
  ·rw[h5] at hloc
   obtain ⟨_,h6,_⟩:=hloc
   have hm:m=[]:=List.map_eq_nil_iff.1 h6
   subst hm
   have hs:sortC []=[]:=by unfold sortC;simp
   rw[hs]
   refine .inl ⟨by unfold HasBody;kernel_rfl,(AnyF.slices_SortFunc_none Tryz.sortCells none 0 (.func (.func 30) #[] #[]) w).mono ?_⟩
   rintro e w' ⟨rfl,rfl⟩
   exact ⟨adr,Evo.refl _ _,hW,fun _ _ _=>rfl,fun k B b' mm h he=>.inl ⟨k,B,mm,h,he⟩,_,rfl,[],rfl,trivial⟩
  ·rw[h5] at hloc
   obtain ⟨g1,g2,g3,cur',cp',g4,g5,g6,g7,g8⟩:=hloc
   rw[h6] at g4
   cases g4
   obtain rfl:cp=cp':=by omega
   have hlen:(m.map rowC).length=m.length:=List.length_map _
   have hq:q=m.length:=by rw[← g2,hlen]
   subst hq
   rw[hlen] at g8
   have hv:=rowsC_val g8
   have hF:(flatK encC 2 m.toArray).size=m.length * 2:=by simp[flatK]
   have hH:HoldsK encC 2 w b 0 m.toArray:=fun j hj=>by
    rw[hF] at hj
    have e1:(flatK encC 2 m.toArray)[j]! = (flatK encC 2 m.toArray)[j]'(by rw[hF];exact hj):=getElem!_pos _ _ _
    have e2:(flatK encC 2 m.toArray)[j]'(by rw[hF];exact hj)=cur[j]'(by omega):=by
     have h1:(flatK encC 2 m.toArray).toList[j]?=(cur.toList.take (m.length * 2))[j]?:=by rw[flatC,hv]
     rw[List.getElem?_take,if_pos hj,Array.getElem?_toList,Array.getElem?_toList,Array.getElem?_eq_getElem (by rw[hF];exact hj),Array.getElem?_eq_getElem (by omega)] at h1
     exact Option.some.inj h1
    rw[e1,e2]
    refine ⟨?_,by simp[World.frozen?,h6]⟩
    simp[World.cell?,h6]
   have eg:∀ args W,(callFunc 30 args).run Tryz.prog W=.ok (.enter 30 args) W:=enters_of Tryz.func30 (by kernel_rfl) rfl
   have hcmp:CmpLays Tryz.prog 30 #[] encC 2 cfC b 0 m.toArray.size w:=fun n os dk _ p p'=>comp_calls p p' _
   have hbl:b<w.heap.size:=(Array.getElem?_eq_some_iff.1 h6).1
   have c1:=AnyQ.slices_SortFunc_total Tryz.sortCells 2 Tryz.isAgg39 Tryz.sizeOf39 encC (fun _=>rfl) encC_one cfC swoC 30 #[] b 0 cp m.toArray w eg hcmp hH hbl (by simp;omega) totC
   refine .inl ⟨by unfold HasBody;kernel_rfl,c1.mono ?_⟩
   rintro e w' ⟨rfl,n,os,hw⟩
   have hse:(m.toArray.toList.mergeSort fun x y=>!(ltOf cfC) y x)=sortC m:=by unfold sortC;simp
   rw[hse] at hw
   obtain ⟨k1,k2⟩:=sort_world (w:=w) (n:=n) (sortC m).toArray os h6
   rw[← hw] at k1 k2
   have hF2:(flatK encC 2 (sortC m).toArray).size=m.length * 2:=by simp[flatK,sortC_len]
   have hpt:=put_take (F:=flatK encC 2 (sortC m).toArray) (cur:=cur) (by rw[hF2];omega)
   have hln:((sortC m).map rowC).length=m.length:=by rw[List.length_map,sortC_len]
   exact rows_keep hW h5 k2 k1 (by rw[hpt.2];exact h7) g1 rowC_2 hln h8 h9 (by
    rw[hln,← hF2,hpt.1,flatC]
    exact rowsC_den _) ⟨[],rfl,trivial⟩
end
section
open Go Go.RowKit Go.EYtfcmhmglpcimiaaGreatDoor Go.Sort
set_option maxRecDepth 100000
set_option maxHeartbeats 4000000
variable {gl:List (Nat×List D)}
theorem lst_head {M:Nat→Prop} {w:World} {p:List Cl} (hp:p≠[]) {v:Value} (h:DenD M w (.lst 2 (cellsR p)) v):∃ b o n c,v=.slice (some ⟨b,o,none⟩) n c∧0<n∧b<w.heap.size∧¬ M b∧w.cell? ⟨b,o,none⟩=some (.int .i64 (hd1 p).1)∧w.cell? ⟨b,o+1,none⟩=some (.int .i64 (hd1 p).2):=by
 cases p with
 | nil=>exact absurd rfl hp
 | cons q r =>
  cases h with
  | lst _ _ b o c cs hb hM hl hc hz hcell hden =>
   have h1:=hcell 0 0 (iD q.1) rfl
   have h2:=hcell 0 1 (iD q.2) rfl
   have e1:=(hden 0 0 (iD q.1) rfl).v_inv
   have e2:=(hden 0 1 (iD q.2) rfl).v_inv
   rw[e1] at h1
   rw[e2] at h2
   exact ⟨b,o,_,c,rfl,by simp,hb,hM,by simpa[hd1] using h1,by simpa[hd1] using h2⟩
theorem sort_world1 {α:Type} [Inhabited α] (enc:α→Value) {w:World} {b n:Nat} {cur:Array Value} {e:TypeId} (d:Array α) (os:Array Obj) (h:w.heap[b]?=some (Obj.cells cur e (0,0))) :
 (sortWorld enc w b 0 n d os).heap[b]?=some (Obj.cells (putCells enc 0 d cur) e (0,0))∧Evo (fun x=>x=b) w (sortWorld enc w b 0 n d os):=by
 have hb:b<w.heap.size:=(Array.getElem?_eq_some_iff.1 h).1
 have hat:∀ x,x<w.heap.size→(sortWorld enc w b 0 n d os).heap[x]?=(w.heap[x]?).map (fun o=>if b=x then onCells (putCells enc 0 d) o else o):=fun x hx=>by
  show ((w.heap.modify b (onCells (putCells enc 0 d)))++os)[x]?=_
  rw[Array.getElem?_append_left (by simpa using hx),Array.getElem?_modify]
  by_cases hbx:b=x
  ·rw[if_pos hbx]
   simp[hbx]
  ·rw[if_neg hbx]
   simp[hbx]
 refine ⟨by rw[hat b hb,h];simp[onCells],rfl,rfl,rfl,?_,fun x hx hn=>?_,fun x c e' f' hc=>?_⟩
 ·show w.heap.size≤((w.heap.modify b _)++os).size
  simp
 ·rw[hat x hx]
  have:¬ b=x:=fun e=>hn e.symm
  simp[this]
 ·have hx:x<w.heap.size:=(Array.getElem?_eq_some_iff.1 hc).1
  rw[hat x hx,hc]
  by_cases hbx:b=x
  ·refine ⟨putCells enc 0 d c,by simp[hbx,onCells],by simp[putCells]⟩
  ·exact ⟨c,by simp[hbx],rfl⟩
theorem put_take1 {α:Type} [Inhabited α] {enc:α→Value} {F:Array α} {cur:Array Value} (h:F.size≤cur.size):(putCells enc 0 F cur).toList.take F.size=F.toList.map enc∧(putCells enc 0 F cur).size=cur.size:=by
 refine ⟨?_,by simp[putCells]⟩
 apply List.ext_getElem?
 intro k
 rw[List.getElem?_take]
 by_cases hk:k<F.size
 ·rw[if_pos hk]
  have hc:k<cur.size:=by omega
  simp[putCells,hk,hc]
 ·rw[if_neg hk,List.getElem?_eq_none (by simpa using Nat.le_of_not_lt hk)]
theorem partR_flat (P:List (List Cl)):(P.map partR).flatten=P.map fun p=>Go.EYtfcmhmglpcimiaaGreatDoor.D.lst 2 (cellsR p):=by
 induction P with
 | nil=>rfl
 | cons p P ih=>rw[List.map_cons,List.flatten_cons,ih];rfl
theorem den_map {M:Nat→Prop} {w:World} {α:Type} {f:α→Go.EYtfcmhmglpcimiaaGreatDoor.D} {g:α→Value}:∀ {l:List α},(∀ a ∈ l,DenD M w (f a) (g a))→DenL M w (l.map f) (l.map g)
 | [],_=>trivial
 | a::l,h=>⟨h a (by simp),den_map fun b hb=>h b (by simp[hb])⟩
theorem sr2_nil:sr2 []=[]:=by unfold sr2;simp
theorem partR_1 {P:List (List Cl)}:∀ r ∈ P.map partR,r.length=1:=fun r hr=>by
 obtain ⟨p,_,rfl⟩:=List.mem_map.1 hr
 rfl
theorem Sort2_x (P:List (List Cl)) (hne:∀ p ∈ P,p≠[]) (hdj:P.Pairwise fun p q=>∀ c ∈ p,c ∉ q) (hl:P.length≤65536):Go.EYtfcmhmglpcimiaaGreatDoor.Fn Tryz.prog gl 67 [.c (.all 1 0),.c (.fn 68 [])] [(0,.rows 1 (P.map partR) 31)] 1 (.ret (.tup [])) [(0,.rows 1 ((sr2 P).map partR) 31)] 1 []:=by
 refine ⟨Nat.le_refl _,fun k B h hk=>?_,fun k hk=>(by cases hk),fun w M0 adr xs hW hG hd=>?_⟩
 ·match k,h with
  | 0,_=>rfl
 match xs,hd with
 | [x,y],⟨hx,hy,_⟩ =>
  obtain ⟨cs,rfl,hcs⟩:=hy
  match cs,hcs with
  | [],_ =>
  have hP0:P=[]→∀ (p:Option Addr) (cap:Nat),x=.slice p 0 cap→Does Tryz.prog 67 #[x,.func (.func 68) #[] #[]] w fun e w' =>
   ∃ adr':Env,Evo (Trk adr [(0,.rows 1 (P.map partR) 31)]) w w'∧WOk M0 adr' [(0,.rows 1 ((sr2 P).map partR) 31)] 1 w'∧(∀ k,k<1→k ∉ []→adr' k=adr k)∧(∀ k B b' m,Go.EYtfcmhmglpcimiaaGreatDoor.look [(0,Blk.rows 1 ((sr2 P).map partR) 31)] k=some B→adr' k=some (some b',m)→Trk adr [(0,.rows 1 (P.map partR) 31)] b'∨w.heap.size≤b')∧
    RetOk adr' (Mut M0 adr' [(0,.rows 1 ((sr2 P).map partR) 31)]) w' (.ret (.tup [])) e:=fun hPe p cap hxe=>by
   subst hPe
   subst hxe
   rw[sr2_nil]
   refine .inl ⟨by unfold HasBody;kernel_rfl,(AnyF.slices_SortFunc_none { Tryz.sortParts with } p cap (.func (.func 68) #[] #[]) w).mono ?_⟩
   rintro e w' ⟨rfl,rfl⟩
   exact ⟨adr,Evo.refl _ _,hW,fun _ _ _=>rfl,fun k B b' mm h he=>.inl ⟨k,B,mm,h,he⟩,_,rfl,[],rfl,trivial⟩
  have hloc:=hW.loc 0 _ rfl
  rcases hx with ⟨h5,rfl⟩|⟨b,q,cp,cur,ee,f,h5,h6,h7,h8,h9,rfl⟩
  ·rw[h5] at hloc
   obtain ⟨_,h6,_⟩:=hloc
   exact hP0 (List.map_eq_nil_iff.1 h6) none 0 rfl
  ·rw[h5] at hloc
   obtain ⟨g1,g2,g3,cur',cp',g4,g5,g6,g7,g8⟩:=hloc
   rw[h6] at g4
   cases g4
   obtain rfl:cp=cp':=by omega
   have hlen:(P.map partR).length=P.length:=List.length_map _
   have hq:q=P.length:=by rw[← g2,hlen]
   subst hq
   by_cases hPe:P=[]
   ·subst hPe
    exact hP0 rfl (some ⟨b,0,none⟩) cp rfl
   have hn:0<P.length:=List.length_pos_iff.2 hPe
   clear hP0
   rw[hlen,partR_flat,Nat.mul_one] at g8
   rw[Nat.mul_one] at g5
   have hcl:P.length≤cur.size:=by omega
   have hbl:b<w.heap.size:=(Array.getElem?_eq_some_iff.1 h6).1
   have hbM:Mut M0 adr [(0,.rows 1 (P.map partR) 31)] b:=.inr ⟨0,_,_,rfl,h5⟩
   haveI:Inhabited (Fin P.length):=⟨⟨0,hn⟩⟩
   obtain ⟨enc,henc⟩:∃ enc:Fin P.length→Value,∀ i,enc i=cur[i.1]'(by omega):=⟨fun i=>cur[i.1]'(by omega),fun _=>rfl⟩
   have hden:∀ i:Fin P.length,DenD (Mut M0 adr [(0,.rows 1 (P.map partR) 31)]) w (.lst 2 (cellsR P[i.1])) (enc i):=fun i=>by
    refine All2.get2 g8 i.1 _ _ ?_ ?_
    ·rw[List.getElem?_map,List.getElem?_eq_getElem i.2]
     rfl
    ·rw[List.getElem?_take,if_pos i.2,Array.getElem?_toList,Array.getElem?_eq_getElem (by omega),henc]
   have hmem:∀ i:Fin P.length,P[i.1] ∈ P:=fun i=>List.getElem_mem _
   have h1:OneCell enc:=fun i=>(hden i).one rfl
   obtain ⟨cf,hcf⟩:∃ cf:Fin P.length→Fin P.length→Int,∀ i j,cf i j=cfC (hd1 P[i.1]) (hd1 P[j.1]):=⟨fun i j=>cfC (hd1 P[i.1]) (hd1 P[j.1]),fun _ _=>rfl⟩
   have hlt:∀ i j,ltOf cf i j=ltOf cfC (hd1 P[i.1]) (hd1 P[j.1]):=fun i j=>by
    unfold ltOf
    rw[hcf]
   have hO:SWO (ltOf cf):=⟨fun x=>by rw[hlt];exact swoC.irrefl _,fun x y z h1 h2=>by rw[hlt] at *;exact swoC.trans _ _ _ h1 h2,fun x y z h1 h2=>by rw[hlt] at *;exact swoC.ntrans _ _ _ h1 h2⟩
   have hhd:∀ i:Fin P.length,hd1 P[i.1] ∈ P[i.1]:=fun i=>by
    have:=hne _ (hmem i)
    cases hp:P[i.1] with
    | nil=>exact absurd hp this
    | cons a r=>simp[hd1]
   have hT:∀ x y,(ltOf cf) x y=false→(ltOf cf) y x=false→x=y:=fun x y h1 h2=>by
    rw[hlt] at h1 h2
    have e:=totC _ _ h1 h2
    have key:∀ {i j:Fin P.length},i.1<j.1→hd1 P[i.1]=hd1 P[j.1]→False:=fun {i j} hij he=>by
     refine (List.pairwise_iff_getElem.1 hdj) i.1 j.1 i.2 j.2 hij _ (hhd i) ?_
     rw[he]
     exact hhd j
    rcases Nat.lt_trichotomy x.1 y.1 with h|h|h
    ·exact (key h e).elim
    ·exact Fin.ext h
    ·exact (key h e.symm).elim
   have eg:∀ args W,(callFunc 68 args).run Tryz.prog W=.ok (.enter 68 args) W:=enters_of Tryz.func68 (by kernel_rfl) rfl
   have hds:(List.finRange P.length).toArray.size=P.length:=by simp
   have hdg:∀ j,(h:j<P.length)→(List.finRange P.length).toArray[j]! = ⟨j,h⟩:=fun j h=>by
    rw[getElem!_pos _ _ (by rw[hds];exact h)]
    simp
   have hH:Holds enc w b 0 (List.finRange P.length).toArray:=fun j hj=>by
    rw[hds] at hj
    rw[hdg j hj,henc]
    refine ⟨?_,by simp[World.frozen?,h6]⟩
    simp[World.cell?,h6]
   have hcmp:CmpLays1 Tryz.prog 68 #[] enc cf b 0 (List.finRange P.length).toArray.size w:=fun n os dk _ x y=>by
    obtain ⟨b1,o1,n1,c1,e1,k1,k2,k3,k4,k5⟩:=lst_head (hne _ (hmem x)) (hden x)
    obtain ⟨b2,o2,n2,c2,e2,m1,m2,m3,m4,m5⟩:=lst_head (hne _ (hmem y)) (hden y)
    rw[e1,e2,hcf]
    have hb1:b1≠b:=fun e=>k3 (e ▸ hbM)
    have hb2:b2≠b:=fun e=>m3 (e ▸ hbM)
    have hcell:∀ (ad:Addr) v,ad.block<w.heap.size→ad.block≠b→w.cell? ad=some v→(sortWorld enc w b 0 n dk os).cell? ad=some v:=fun ad v h1 h2 h3=>by
     unfold sortWorld
     rw[cell?_grow _ _ _ (by simpa using h1),cell?_putRow_other _ _ _ _ _ _ (.inl h2)]
     exact h3
    have hsz:w.heap.size≤(sortWorld enc w b 0 n dk os).heap.size:=by
     unfold sortWorld
     rw[size_grow,size_putRow]
     exact Nat.le_add_right _ _
    exact part2_calls k1 m1 (Nat.lt_of_lt_of_le k2 hsz) (Nat.lt_of_lt_of_le m2 hsz) (hcell _ _ k2 hb1 k4) (hcell _ _ k2 hb1 k5) (hcell _ _ m2 hb2 m4) (hcell _ _ m2 hb2 m5)
   have c1:=Any.slices_SortFunc_total Tryz.sortParts enc h1 cf hO 68 #[] b 0 cp (List.finRange P.length).toArray w eg hcmp hH hbl (by rw[hds];omega) hT
   rw[hds] at c1
   refine .inl ⟨by unfold HasBody;kernel_rfl,c1.mono ?_⟩
   rintro e w' ⟨rfl,n,os,hw⟩
   rw[List.toList_toArray] at hw
   obtain ⟨S,hS⟩:∃ S,S=(List.finRange P.length).mergeSort fun x y=>!(ltOf cf) y x:=⟨_,rfl⟩
   rw[← hS] at hw
   have hSl:S.length=P.length:=by rw[hS,List.length_mergeSort,List.length_finRange]
   have e0:(List.finRange P.length).map (fun i:Fin P.length=>P[i.1])=P:=by
    apply List.ext_getElem
    ·simp
    ·intro i h1 h2
     simp
   have hsr:sr2 P=S.map fun i:Fin P.length=>P[i.1]:=by
    have h:=List.map_mergeSort (s:=leP) (f:=fun i:Fin P.length=>P[i.1]) (l:=List.finRange P.length) (r:=fun x y=>!(ltOf cf) y x) fun a _ b _=>by
     rw[hlt,ltC_eq]
     rfl
    have h2:sr2 P=((List.finRange P.length).map fun i:Fin P.length=>P[i.1]).mergeSort leP:=congrArg (fun l=>List.mergeSort l leP) e0.symm
    rw[← hS] at h
    exact h2.trans h.symm
   obtain ⟨k1,k2⟩:=sort_world1 (w:=w) (n:=n) enc S.toArray os h6
   rw[← hw] at k1 k2
   have hpt:=put_take1 (enc:=enc) (F:=S.toArray) (cur:=cur) (by simp;omega)
   have hln:((sr2 P).map partR).length=P.length:=by rw[List.length_map,(sr2_perm P).length_eq]
   refine rows_keep hW h5 k2 k1 (by rw[hpt.2];exact h7) g1 partR_1 hln h8 h9 ?_ ⟨[],rfl,trivial⟩
   rw[hln,Nat.mul_one]
   have e1:=hpt.1
   rw[List.size_toArray,hSl] at e1
   rw[e1,partR_flat,hsr,List.map_map]
   exact den_map fun i _=>hden i
end
section
open Go Go.EYtfcmhmglpcimiaaGreatDoor
open Go
mutual
def cntN:Nd→Nat
 | .mk _ _ _ _ _ ks=>cntL ks+1
def cntL:List Nd→Nat
 | []=>0
 | x::r=>cntN x+cntL r
end
theorem cntL_take:∀ {ks:List Nd} {x:Nat} (h:x<ks.length),cntL (ks.take (x+1))=cntL (ks.take x)+cntN ks[x]
 | y::r,0,_=>by simp[cntL]
 | y::r,x+1,h=>by
  have:=cntL_take (ks:=r) (x:=x) (by simpa using h)
  simp only[List.take_succ_cons,cntL,List.getElem_cons_succ] at *
  omega
theorem cntL_le:∀ (ks:List Nd) (x:Nat),cntL (ks.take x)≤cntL ks
 | [],x=>by simp[cntL]
 | y::r,0=>by simp[cntL]
 | y::r,x+1=>by
  have:=cntL_le r x
  simp only[List.take_succ_cons,cntL] at *
  omega
abbrev noR (a:Rf):Prop:=(a.c=0∧a.r=0∧True)∧((a.fc=true↔False)∧(a.fr=true↔False)∧True)
open Go
mutual
def frmN:Nd→Prop→Prop
 | .mk k m t a b ks,box=>(k=1∧ks.length=0∧t=[]∧(noR a∧noR b)∧0≤m)∨(k=2∧ks.length=0∧(noR a∧noR b)∧m=0)∨(k=3∧ks.length=0∧t=[]∧(noR a∧noR b)∧(m=0∨m=1))∨
  (k=4∧ks.length=0∧t=[]∧(noR a∧noR b)∧1≤m∧m≤6)∨(k=5∧ks.length=0∧t=[]∧m=0∧noR b∧okP a.c a.r)∨(k=6∧box∧ks.length=0∧t=[]∧m=0∧okP a.c a.r∧okP b.c b.r)∨
  (k=7∧ks.length=1∧t=[]∧(noR a∧noR b)∧m=0∧frmL False ks)∨(k=8∧ks.length=2∧t=[]∧(noR a∧noR b)∧1≤m∧m≤11∧frmL False ks)∨(k=9∧clZ t=true∧(noR a∧noR b)∧m=0∧frmL True ks)
def frmL:Prop→List Nd→Prop
 | _,[]=>True
 | box,x::r=>frmN x box∧frmL box r
end
theorem frmL_iff {box:Prop}:∀ {ks:List Nd},frmL box ks↔∀ x (h:x<ks.length),frmN ks[x] box
 | []=>by simp[frmL]
 | y::r=>by
  simp only[frmL,frmL_iff (ks:=r)]
  constructor
  ·rintro ⟨h1,h2⟩ x hx
   cases x with
   | zero=>exact h1
   | succ x=>exact h2 x (by simpa using hx)
  ·intro h
   exact ⟨h 0 (by simp),fun x hx=>h (x+1) (by simpa using hx)⟩
section
variable {m:Int} {t:List UInt8} {a b:Rf} {ks:List Nd} {box:Prop}
theorem frm_1:frmN (.mk 1 m t a b ks) box↔ks.length=0∧t=[]∧(noR a∧noR b)∧0≤m:=by simp[frmN]
theorem frm_2:frmN (.mk 2 m t a b ks) box↔ks.length=0∧(noR a∧noR b)∧m=0:=by simp[frmN]
theorem frm_3:frmN (.mk 3 m t a b ks) box↔ks.length=0∧t=[]∧(noR a∧noR b)∧(m=0∨m=1):=by simp[frmN]
theorem frm_4:frmN (.mk 4 m t a b ks) box↔ks.length=0∧t=[]∧(noR a∧noR b)∧1≤m∧m≤6:=by simp[frmN]
theorem frm_5:frmN (.mk 5 m t a b ks) box↔ks.length=0∧t=[]∧m=0∧noR b∧okP a.c a.r:=by simp[frmN]
theorem frm_6:frmN (.mk 6 m t a b ks) box↔box∧ks.length=0∧t=[]∧m=0∧okP a.c a.r∧okP b.c b.r:=by simp[frmN]
theorem frm_7:frmN (.mk 7 m t a b ks) box↔ks.length=1∧t=[]∧(noR a∧noR b)∧m=0∧frmL False ks:=by simp[frmN]
theorem frm_8:frmN (.mk 8 m t a b ks) box↔ks.length=2∧t=[]∧(noR a∧noR b)∧1≤m∧m≤11∧frmL False ks:=by simp[frmN]
theorem frm_9:frmN (.mk 9 m t a b ks) box↔clZ t=true∧(noR a∧noR b)∧m=0∧frmL True ks:=by simp[frmN]
end
def tgtN:Nd→Int
 | .mk k m _ _ _ _=>if k=8 then (if m≤6 then 1 else if m=7 then 2 else if m≤9 then 3 else 4) else 5
def sgnN (m:Int):List UInt8:=([[],[61],[60,62],[60],[60,61],[62],[62,61],[38],[43],[45],[42],[47]]:List (List UInt8)).getD m.toNat []
def brN (s:List UInt8) (p:Prop) [Decidable p]:List UInt8:=if p then 40::(s++[41]) else s
def dqN:List UInt8→List UInt8
 | []=>[]
 | c::r=>if c=34 then 34::34::dqN r else c::dqN r
def comN:List (List UInt8)→List UInt8
 | []=>[]
 | s::r=>s++(r.map fun t=>44::t).flatten
def wr7:List Nd→List (List UInt8)→List UInt8
 | x::_,s::_=>45::brN s (tgtN x<5)
 | _,_=>[]
def wr8 (m tg:Int):List Nd→List (List UInt8)→List UInt8
 | x::y::_,s::t::_=>brN s (tgtN x<tg)++(sgnN m++brN t (tgtN y≤tg))
 | _,_=>[]
def nmR (a:Rf):List UInt8:=nameL a.c a.r a.fc a.fr
open Go
mutual
def wrN:Nd→List UInt8
 | .mk k m t a b ks=>if k=1 then Lib.itoa m else if k=2 then 34::(dqN t++[34]) else if k=3 then (if m=1 then tT else tF) else if k=4 then tx.getD m.toNat [] else if k=5 then nmR a else if k=6 then nmR a++58::nmR b
  else if k=7 then wr7 ks (wrL ks) else if k=8 then wr8 m (tgtN (.mk k m t a b ks)) ks (wrL ks) else if k=9 then t++40::(comN (wrL ks)++[41]) else []
def wrL:List Nd→List (List UInt8)
 | []=>[]
 | x::r=>wrN x::wrL r
end
open Go
mutual
def okN:Nd→Prop
 | .mk _ m t _ _ ks=>okI m∧t.length≤1048576∧okL ks
def okL:List Nd→Prop
 | []=>True
 | x::r=>okN x∧okL r
end
theorem okL_get:∀ {ks:List Nd} (_:okL ks) {x:Nat} (hx:x<ks.length),okN ks[x]
 | y::r,h,0,_=>h.1
 | y::r,h,x+1,hx=>okL_get (ks:=r) h.2 (by simpa using hx)
end
section
open Go Go.EYtfcmhmglpcimiaaGreatDoor
set_option maxRecDepth 100000
set_option maxHeartbeats 4000000
variable {gl:List (Nat×List D)}
theorem kid_get {ks:List Nd} {x:Nat} (h:x<ks.length):(Nd.csL ks)[((x:Nat):Int).toNat]?=some (ks[x]).cs:=by
 rw[Int.toNat_natCast]
 induction ks generalizing x with
 | nil=>simp at h
 | cons a r ih =>
  cases x with
  | zero=>rfl
  | succ x=>exact ih (by simpa using h)
theorem kid_len:∀ ks:List Nd,(Nd.csL ks).length=ks.length
 | []=>rfl
 | _::r=>congrArg (·+1) (kid_len r)
theorem cnt_pos (n:Nd):1≤cntN n:=by
 obtain ⟨k,m,t,a,b,ks⟩:=n
 unfold cntN
 omega
theorem len_cnt:∀ ks:List Nd,ks.length≤cntL ks
 | []=>Nat.le_refl _
 | x::r=>by
  have h1:=len_cnt r
  have h2:=cnt_pos x
  simp only[List.length_cons,cntL]
  omega
end
section
open Go Go.EYtfcmhmglpcimiaaGreatDoor
set_option maxRecDepth 100000
def boxC (a b:Rf):List (Int×Int):=pairsL (min a.c b.c) (min a.r b.r) (max a.c b.c - min a.c b.c+1).toNat (max a.r b.r - min a.r b.r+1).toNat
def ownC (k:Int) (a b:Rf):List (Int×Int):=if k=5 then [(a.c,a.r)] else if k=6 then boxC a b else []
mutual
def cellsN:Nd→List (Int×Int)
 | .mk k _ _ a b ks=>ownC k a b++cellsK ks
def cellsK:List Nd→List (Int×Int)
 | []=>[]
 | x::r=>cellsN x++cellsK r
end
theorem cellsK_take:∀ {ks:List Nd} {x:Nat} (h:x<ks.length),cellsK (ks.take (x+1))=cellsK (ks.take x)++cellsN ks[x]
 | y::r,0,_=>by simp[cellsK]
 | y::r,x+1,h=>by
  have:=cellsK_take (ks:=r) (x:=x) (by simpa using h)
  rw[List.take_succ_cons,List.take_succ_cons,cellsK,cellsK,this,List.append_assoc]
  rfl
theorem frm_kid {k m:Int} {t:List UInt8} {a b:Rf} {ks:List Nd} {box:Prop} (hf:frmN (.mk k m t a b ks) box):∀ x (h:x<ks.length),∃ bx:Prop,frmN ks[x] bx:=fun x h=>by
 by_cases h7:k=7
 ·subst h7;rw[frm_7] at hf;exact ⟨_,frmL_iff.1 hf.2.2.2.2 x h⟩
 by_cases h8:k=8
 ·subst h8;rw[frm_8] at hf;exact ⟨_,frmL_iff.1 hf.2.2.2.2.2 x h⟩
 by_cases h9:k=9
 ·subst h9;rw[frm_9] at hf;exact ⟨_,frmL_iff.1 hf.2.2.2 x h⟩
 exfalso
 unfold frmN at hf
 omega
theorem boxC_len {a b:Rf} (ha:okP a.c a.r) (hb:okP b.c b.r):(boxC a b).length≤2574:=by
 unfold boxC
 rw[pairsL_len]
 obtain ⟨h1,h2,h3,h4⟩:=ha
 obtain ⟨h5,h6,h7,h8⟩:=hb
 have:(max a.r b.r - min a.r b.r+1).toNat * (max a.c b.c - min a.c b.c+1).toNat≤99 * 26:=Nat.mul_le_mul (by omega) (by omega)
 omega
theorem boxC_ok {a b:Rf} (ha:okP a.c a.r) (hb:okP b.c b.r):∀ p ∈ boxC a b,okP p.1 p.2:=fun p hp=>by
 unfold boxC pairsL at hp
 simp only[List.mem_flatMap,List.mem_map,List.mem_range] at hp
 obtain ⟨i,hi,j,hj,rfl⟩:=hp
 simp only
 omega
theorem boxC_box {a b:Rf} (ha:okP a.c a.r) (hb:okP b.c b.r):boxP (min a.c b.c) (min a.r b.r) (max a.c b.c) (max a.r b.r):=by omega
theorem own_ok {k m:Int} {t:List UInt8} {a b:Rf} {ks:List Nd} {box:Prop} (hf:frmN (.mk k m t a b ks) box):(ownC k a b).length≤2574∧∀ p ∈ ownC k a b,okP p.1 p.2:=by
 unfold ownC
 by_cases h5:k=5
 ·subst h5
  rw[frm_5] at hf
  rw[if_pos rfl]
  exact ⟨by simp,fun p hp=>by rw[List.mem_singleton.1 hp];exact hf.2.2.2.2⟩
 ·rw[if_neg h5]
  by_cases h6:k=6
  ·subst h6
   rw[frm_6] at hf
   rw[if_pos rfl]
   exact ⟨boxC_len hf.2.2.2.2.1 hf.2.2.2.2.2,boxC_ok hf.2.2.2.2.1 hf.2.2.2.2.2⟩
  ·rw[if_neg h6]
   exact ⟨by simp,fun p hp=>by cases hp⟩
theorem cellsK_few {ks:List Nd} (h:∀ x (h:x<ks.length),(cellsN ks[x]).length≤2574 * cntN ks[x]∧∀ p ∈ cellsN ks[x],okP p.1 p.2):∀ x,x≤ks.length→(cellsK (ks.take x)).length≤2574 * cntL (ks.take x)∧∀ p ∈ cellsK (ks.take x),okP p.1 p.2
 | 0,_=>by simp[cellsK]
 | x+1,hx=>by
  obtain ⟨h1,h2⟩:=cellsK_few h x (by omega)
  obtain ⟨h3,h4⟩:=h x hx
  have h5:=cntL_take (show x<ks.length from hx)
  rw[cellsK_take hx]
  refine ⟨?_,fun p hp=>?_⟩
  ·rw[List.length_append,h5]
   omega
  ·rcases List.mem_append.1 hp with hp|hp
   ·exact h2 p hp
   ·exact h4 p hp
theorem cellsN_few (n:Nd):∀ {box:Prop},frmN n box→(cellsN n).length≤2574 * cntN n∧∀ p ∈ cellsN n,okP p.1 p.2:=by
 match n with
 | .mk k m t a b ks =>
  intro box hf
  have ih:∀ x (h:x<ks.length),(cellsN ks[x]).length≤2574 * cntN ks[x]∧∀ p ∈ cellsN ks[x],okP p.1 p.2:=fun x h=>cellsN_few ks[x] (frm_kid hf x h).choose_spec
  obtain ⟨h1,h2⟩:=cellsK_few ih ks.length (Nat.le_refl _)
  rw[List.take_length] at h1 h2
  obtain ⟨h3,h4⟩:=own_ok hf
  rw[cellsN]
  refine ⟨?_,fun p hp=>?_⟩
  ·rw[List.length_append]
   unfold cntN
   omega
  ·rcases List.mem_append.1 hp with hp|hp
   ·exact h4 p hp
   ·exact h2 p hp
termination_by SizeOf.sizeOf n
decreasing_by
 simp only[Nd.mk.sizeOf_spec]
 have:=List.sizeOf_lt_of_mem (List.getElem_mem h)
 omega
end
section
open Go Go.EYtfcmhmglpcimiaaGreatDoor
theorem fitG1:FitsOne Tryz.prog 131 ⟨false,1,8,[.v .nilFunc],[],false,none,none,0,[],false,[]⟩:=⟨by kernel_rfl,rfl,rfl,by kernel_rfl,(fun h=>by cases h),by kernel_rfl⟩
theorem fitsG:Fits Tryz.prog ((131,⟨false,1,8,[.v .nilFunc],[],false,none,none,0,[],false,[]⟩)::tt) :=
 fits_cons fitG1 fits
end
end Go.Proofs.YtfcmhmglpcimiaaGreatDoor
