/- Proved: a part of what the law is proved with (the reckoner, contracts of functions, plain laws). Conditions: as each says. -/
import Derived.Test.YtaheflnnigocgaaGreatDoorGEr
import Derived.Test.YtaheflnnigocgaaGreatDoorGTjg
import Derived.Test.YtaheflnnigocgaaGreatDoorGTjm
section
namespace Go.Proofs.YtaheflnnigocgaaGreatDoor
open Go Go.RowKit Go.EYtaheflnnigocgaaGreatDoor Go.Sort
set_option maxRecDepth 100000
set_option maxHeartbeats 4000000
variable {gl:List (Nat×List D)}
theorem rowC_2 {m:List (Int×Int)}:∀ r ∈ m.map rowC,r.length=2:=fun r hr=>by
 obtain ⟨p,_,rfl⟩:=List.mem_map.1 hr
 rfl
theorem encC_one (p:Int×Int):∀ v ∈ encC p,v.oneCell'=true:=fun v hv=>by
 simp[encC] at hv
 rcases hv with rfl|rfl <;> rfl
theorem Sort_x (m:List (Int×Int)) (hl:m.length≤1099511627776):Go.EYtaheflnnigocgaaGreatDoor.Fn Tryz.prog gl 42 [.c (.all 2 0),.c (.fn 43 [])] [(0,.rows 2 (m.map rowC) 24)] 1 (.ret (.tup [])) [(0,.rows 2 ((sortC m).map rowC) 24)] 1 []:=by
 refine ⟨Nat.le_refl _,fun k B h hk=>?_,fun k hk=>(by cases hk),fun w M0 adr xs hW hG hd=>?_⟩
 ·match k,h with
  | 0,_=>rfl
 match xs,hd with
 | [x,y],⟨hx,hy,_⟩ =>
  obtain ⟨cs,rfl,hcs⟩:=hy
  match cs,hcs with
  | [],_ =>
  have hloc:=hW.loc 0 _ rfl
  rcases hx with ⟨h5,rfl⟩|⟨b,q,cp,cur,ee,f,h5,h6,h7,h8,h9,rfl⟩
  ·rw[h5] at hloc
   obtain ⟨_,h6,_⟩:=hloc
   have hm:m=[]:=List.map_eq_nil_iff.1 h6
   subst hm
   have hs:sortC []=[]:=by unfold sortC;simp
   rw[hs]
   refine .inl ⟨by unfold HasBody;kernel_rfl,(AnyF.slices_SortFunc_none Tryz.sortCells none 0 (.func (.func 43) #[] #[]) w).mono ?_⟩
   rintro e w' ⟨rfl,rfl⟩
   exact ⟨adr,Evo.refl _ _,hW,fun _ _ _=>rfl,fun k B b' mm h he=>.inl ⟨k,B,mm,h,he⟩,_,rfl,[],rfl,trivial⟩
  ·rw[h5] at hloc
   obtain ⟨g1,g2,g3,cur',cp',g4,g5,g6,g7,g8⟩:=hloc
   rw[h6] at g4
   cases g4
   obtain rfl:cp=cp':=by omega
   have hlen:(m.map rowC).length=m.length:=List.length_map _
   have hq:q=m.length:=by rw[← g2,hlen]
   subst hq
   rw[hlen] at g8
   have hv:=rowsC_val g8
   have hF:(flatK encC 2 m.toArray).size=m.length * 2:=by simp[flatK]
   have hH:HoldsK encC 2 w b 0 m.toArray:=fun j hj=>by
    rw[hF] at hj
    have e1:(flatK encC 2 m.toArray)[j]! = (flatK encC 2 m.toArray)[j]'(by rw[hF];exact hj):=getElem!_pos _ _ _
    have e2:(flatK encC 2 m.toArray)[j]'(by rw[hF];exact hj)=cur[j]'(by omega):=by
     have h1:(flatK encC 2 m.toArray).toList[j]?=(cur.toList.take (m.length * 2))[j]?:=by rw[flatC,hv]
     rw[List.getElem?_take,if_pos hj,Array.getElem?_toList,Array.getElem?_toList,Array.getElem?_eq_getElem (by rw[hF];exact hj),Array.getElem?_eq_getElem (by omega)] at h1
     exact Option.some.inj h1
    rw[e1,e2]
    refine ⟨?_,by simp[World.frozen?,h6]⟩
    simp[World.cell?,h6]
   have eg:∀ args W,(callFunc 43 args).run Tryz.prog W=.ok (.enter 43 args) W:=enters_of Tryz.func43 (by kernel_rfl) rfl
   have hcmp:CmpLays Tryz.prog 43 #[] encC 2 cfC b 0 m.toArray.size w:=fun n os dk _ p p'=>comp_calls p p' _
   have hbl:b<w.heap.size:=(Array.getElem?_eq_some_iff.1 h6).1
   have c1:=AnyQ.slices_SortFunc_total Tryz.sortCells 2 Tryz.isAgg24 Tryz.sizeOf24 encC (fun _=>rfl) encC_one cfC swoC 43 #[] b 0 cp m.toArray w eg hcmp hH hbl (by simp;omega) totC
   refine .inl ⟨by unfold HasBody;kernel_rfl,c1.mono ?_⟩
   rintro e w' ⟨rfl,n,os,hw⟩
   have hse:(m.toArray.toList.mergeSort fun x y=>!(ltOf cfC) y x)=sortC m:=by unfold sortC;simp
   rw[hse] at hw
   obtain ⟨k1,k2⟩:=sort_world (w:=w) (n:=n) (sortC m).toArray os h6
   rw[← hw] at k1 k2
   have hF2:(flatK encC 2 (sortC m).toArray).size=m.length * 2:=by simp[flatK,sortC_len]
   have hpt:=put_take (F:=flatK encC 2 (sortC m).toArray) (cur:=cur) (by rw[hF2];omega)
   have hln:((sortC m).map rowC).length=m.length:=by rw[List.length_map,sortC_len]
   exact rows_keep hW h5 k2 k1 (by rw[hpt.2];exact h7) g1 rowC_2 hln h8 h9 (by
    rw[hln,← hF2,hpt.1,flatC]
    exact rowsC_den _) ⟨[],rfl,trivial⟩
end Go.Proofs.YtaheflnnigocgaaGreatDoor
end
section
namespace Go.Proofs.YtaheflnnigocgaaGreatDoor
open Go Go.RowKit Go.EYtaheflnnigocgaaGreatDoor Go.Sort
set_option maxRecDepth 100000
set_option maxHeartbeats 4000000
variable {gl:List (Nat×List D)}
theorem lst_head {M:Nat→Prop} {w:World} {p:List Cl} (hp:p≠[]) {v:Value} (h:DenD M w (.lst 2 (cellsR p)) v):∃ b o n c,v=.slice (some ⟨b,o,none⟩) n c∧0<n∧b<w.heap.size∧¬ M b∧w.cell? ⟨b,o,none⟩=some (.int .i64 (hd1 p).1)∧w.cell? ⟨b,o+1,none⟩=some (.int .i64 (hd1 p).2):=by
 cases p with
 | nil=>exact absurd rfl hp
 | cons q r =>
  cases h with
  | lst _ _ b o c cs hb hM hl hc hz hcell hden =>
   have h1:=hcell 0 0 (iD q.1) rfl
   have h2:=hcell 0 1 (iD q.2) rfl
   have e1:=(hden 0 0 (iD q.1) rfl).v_inv
   have e2:=(hden 0 1 (iD q.2) rfl).v_inv
   rw[e1] at h1
   rw[e2] at h2
   exact ⟨b,o,_,c,rfl,by simp,hb,hM,by simpa[hd1] using h1,by simpa[hd1] using h2⟩
theorem sort_world1 {α:Type} [Inhabited α] (enc:α→Value) {w:World} {b n:Nat} {cur:Array Value} {e:TypeId} (d:Array α) (os:Array Obj) (h:w.heap[b]?=some (Obj.cells cur e (0,0))) :
 (sortWorld enc w b 0 n d os).heap[b]?=some (Obj.cells (putCells enc 0 d cur) e (0,0))∧Evo (fun x=>x=b) w (sortWorld enc w b 0 n d os):=by
 have hb:b<w.heap.size:=(Array.getElem?_eq_some_iff.1 h).1
 have hat:∀ x,x<w.heap.size→(sortWorld enc w b 0 n d os).heap[x]?=(w.heap[x]?).map (fun o=>if b=x then onCells (putCells enc 0 d) o else o):=fun x hx=>by
  show ((w.heap.modify b (onCells (putCells enc 0 d)))++os)[x]?=_
  rw[Array.getElem?_append_left (by simpa using hx),Array.getElem?_modify]
  by_cases hbx:b=x
  ·rw[if_pos hbx]
   simp[hbx]
  ·rw[if_neg hbx]
   simp[hbx]
 refine ⟨by rw[hat b hb,h];simp[onCells],rfl,rfl,rfl,?_,fun x hx hn=>?_,fun x c e' f' hc=>?_⟩
 ·show w.heap.size≤((w.heap.modify b _)++os).size
  simp
 ·rw[hat x hx]
  have:¬ b=x:=fun e=>hn e.symm
  simp[this]
 ·have hx:x<w.heap.size:=(Array.getElem?_eq_some_iff.1 hc).1
  rw[hat x hx,hc]
  by_cases hbx:b=x
  ·refine ⟨putCells enc 0 d c,by simp[hbx,onCells],by simp[putCells]⟩
  ·exact ⟨c,by simp[hbx],rfl⟩
theorem put_take1 {α:Type} [Inhabited α] {enc:α→Value} {F:Array α} {cur:Array Value} (h:F.size≤cur.size):(putCells enc 0 F cur).toList.take F.size=F.toList.map enc∧(putCells enc 0 F cur).size=cur.size:=by
 refine ⟨?_,by simp[putCells]⟩
 apply List.ext_getElem?
 intro k
 rw[List.getElem?_take]
 by_cases hk:k<F.size
 ·rw[if_pos hk]
  have hc:k<cur.size:=by omega
  simp[putCells,hk,hc]
 ·rw[if_neg hk,List.getElem?_eq_none (by simpa using Nat.le_of_not_lt hk)]
theorem partR_flat (P:List (List Cl)):(P.map partR).flatten=P.map fun p=>Go.EYtaheflnnigocgaaGreatDoor.D.lst 2 (cellsR p):=by
 induction P with
 | nil=>rfl
 | cons p P ih=>rw[List.map_cons,List.flatten_cons,ih];rfl
theorem den_map {M:Nat→Prop} {w:World} {α:Type} {f:α→Go.EYtaheflnnigocgaaGreatDoor.D} {g:α→Value}:∀ {l:List α},(∀ a ∈ l,DenD M w (f a) (g a))→DenL M w (l.map f) (l.map g)
 | [],_=>trivial
 | a::l,h=>⟨h a (by simp),den_map fun b hb=>h b (by simp[hb])⟩
theorem sr2_nil:sr2 []=[]:=by unfold sr2;simp
theorem partR_1 {P:List (List Cl)}:∀ r ∈ P.map partR,r.length=1:=fun r hr=>by
 obtain ⟨p,_,rfl⟩:=List.mem_map.1 hr
 rfl
theorem Sort2_x (P:List (List Cl)) (hne:∀ p ∈ P,p≠[]) (hdj:P.Pairwise fun p q=>∀ c ∈ p,c ∉ q) (hl:P.length≤65536):Go.EYtaheflnnigocgaaGreatDoor.Fn Tryz.prog gl 48 [.c (.all 1 0),.c (.fn 49 [])] [(0,.rows 1 (P.map partR) 39)] 1 (.ret (.tup [])) [(0,.rows 1 ((sr2 P).map partR) 39)] 1 []:=by
 refine ⟨Nat.le_refl _,fun k B h hk=>?_,fun k hk=>(by cases hk),fun w M0 adr xs hW hG hd=>?_⟩
 ·match k,h with
  | 0,_=>rfl
 match xs,hd with
 | [x,y],⟨hx,hy,_⟩ =>
  obtain ⟨cs,rfl,hcs⟩:=hy
  match cs,hcs with
  | [],_ =>
  have hP0:P=[]→∀ (p:Option Addr) (cap:Nat),x=.slice p 0 cap→Does Tryz.prog 48 #[x,.func (.func 49) #[] #[]] w fun e w' =>
   ∃ adr':Env,Evo (Trk adr [(0,.rows 1 (P.map partR) 39)]) w w'∧WOk M0 adr' [(0,.rows 1 ((sr2 P).map partR) 39)] 1 w'∧(∀ k,k<1→k ∉ []→adr' k=adr k)∧(∀ k B b' m,Go.EYtaheflnnigocgaaGreatDoor.look [(0,Blk.rows 1 ((sr2 P).map partR) 39)] k=some B→adr' k=some (some b',m)→Trk adr [(0,.rows 1 (P.map partR) 39)] b'∨w.heap.size≤b')∧
    RetOk adr' (Mut M0 adr' [(0,.rows 1 ((sr2 P).map partR) 39)]) w' (.ret (.tup [])) e:=fun hPe p cap hxe=>by
   subst hPe
   subst hxe
   rw[sr2_nil]
   refine .inl ⟨by unfold HasBody;kernel_rfl,(AnyF.slices_SortFunc_none { Tryz.sortParts with } p cap (.func (.func 49) #[] #[]) w).mono ?_⟩
   rintro e w' ⟨rfl,rfl⟩
   exact ⟨adr,Evo.refl _ _,hW,fun _ _ _=>rfl,fun k B b' mm h he=>.inl ⟨k,B,mm,h,he⟩,_,rfl,[],rfl,trivial⟩
  have hloc:=hW.loc 0 _ rfl
  rcases hx with ⟨h5,rfl⟩|⟨b,q,cp,cur,ee,f,h5,h6,h7,h8,h9,rfl⟩
  ·rw[h5] at hloc
   obtain ⟨_,h6,_⟩:=hloc
   exact hP0 (List.map_eq_nil_iff.1 h6) none 0 rfl
  ·rw[h5] at hloc
   obtain ⟨g1,g2,g3,cur',cp',g4,g5,g6,g7,g8⟩:=hloc
   rw[h6] at g4
   cases g4
   obtain rfl:cp=cp':=by omega
   have hlen:(P.map partR).length=P.length:=List.length_map _
   have hq:q=P.length:=by rw[← g2,hlen]
   subst hq
   by_cases hPe:P=[]
   ·subst hPe
    exact hP0 rfl (some ⟨b,0,none⟩) cp rfl
   have hn:0<P.length:=List.length_pos_iff.2 hPe
   clear hP0
   rw[hlen,partR_flat,Nat.mul_one] at g8
   rw[Nat.mul_one] at g5
   have hcl:P.length≤cur.size:=by omega
   have hbl:b<w.heap.size:=(Array.getElem?_eq_some_iff.1 h6).1
   have hbM:Mut M0 adr [(0,.rows 1 (P.map partR) 39)] b:=.inr ⟨0,_,_,rfl,h5⟩
   haveI:Inhabited (Fin P.length):=⟨⟨0,hn⟩⟩
   obtain ⟨enc,henc⟩:∃ enc:Fin P.length→Value,∀ i,enc i=cur[i.1]'(by omega):=⟨fun i=>cur[i.1]'(by omega),fun _=>rfl⟩
   have hden:∀ i:Fin P.length,DenD (Mut M0 adr [(0,.rows 1 (P.map partR) 39)]) w (.lst 2 (cellsR P[i.1])) (enc i):=fun i=>by
    refine All2.get2 g8 i.1 _ _ ?_ ?_
    ·rw[List.getElem?_map,List.getElem?_eq_getElem i.2]
     rfl
    ·rw[List.getElem?_take,if_pos i.2,Array.getElem?_toList,Array.getElem?_eq_getElem (by omega),henc]
   have hmem:∀ i:Fin P.length,P[i.1] ∈ P:=fun i=>List.getElem_mem _
   have h1:OneCell enc:=fun i=>(hden i).one rfl
   obtain ⟨cf,hcf⟩:∃ cf:Fin P.length→Fin P.length→Int,∀ i j,cf i j=cfC (hd1 P[i.1]) (hd1 P[j.1]):=⟨fun i j=>cfC (hd1 P[i.1]) (hd1 P[j.1]),fun _ _=>rfl⟩
   have hlt:∀ i j,ltOf cf i j=ltOf cfC (hd1 P[i.1]) (hd1 P[j.1]):=fun i j=>by
    unfold ltOf
    rw[hcf]
   have hO:SWO (ltOf cf):=⟨fun x=>by rw[hlt];exact swoC.irrefl _,fun x y z h1 h2=>by rw[hlt] at *;exact swoC.trans _ _ _ h1 h2,fun x y z h1 h2=>by rw[hlt] at *;exact swoC.ntrans _ _ _ h1 h2⟩
   have hhd:∀ i:Fin P.length,hd1 P[i.1] ∈ P[i.1]:=fun i=>by
    have:=hne _ (hmem i)
    cases hp:P[i.1] with
    | nil=>exact absurd hp this
    | cons a r=>simp[hd1]
   have hT:∀ x y,(ltOf cf) x y=false→(ltOf cf) y x=false→x=y:=fun x y h1 h2=>by
    rw[hlt] at h1 h2
    have e:=totC _ _ h1 h2
    have key:∀ {i j:Fin P.length},i.1<j.1→hd1 P[i.1]=hd1 P[j.1]→False:=fun {i j} hij he=>by
     refine (List.pairwise_iff_getElem.1 hdj) i.1 j.1 i.2 j.2 hij _ (hhd i) ?_
     rw[he]
     exact hhd j
    rcases Nat.lt_trichotomy x.1 y.1 with h|h|h
    ·exact (key h e).elim
    ·exact Fin.ext h
    ·exact (key h e.symm).elim
   have eg:∀ args W,(callFunc 49 args).run Tryz.prog W=.ok (.enter 49 args) W:=enters_of Tryz.func49 (by kernel_rfl) rfl
   have hds:(List.finRange P.length).toArray.size=P.length:=by simp
   have hdg:∀ j,(h:j<P.length)→(List.finRange P.length).toArray[j]! = ⟨j,h⟩:=fun j h=>by
    rw[getElem!_pos _ _ (by rw[hds];exact h)]
    simp
   have hH:Holds enc w b 0 (List.finRange P.length).toArray:=fun j hj=>by
    rw[hds] at hj
    rw[hdg j hj,henc]
    refine ⟨?_,by simp[World.frozen?,h6]⟩
    simp[World.cell?,h6]
   have hcmp:CmpLays1 Tryz.prog 49 #[] enc cf b 0 (List.finRange P.length).toArray.size w:=fun n os dk _ x y=>by
    obtain ⟨b1,o1,n1,c1,e1,k1,k2,k3,k4,k5⟩:=lst_head (hne _ (hmem x)) (hden x)
    obtain ⟨b2,o2,n2,c2,e2,m1,m2,m3,m4,m5⟩:=lst_head (hne _ (hmem y)) (hden y)
    rw[e1,e2,hcf]
    have hb1:b1≠b:=fun e=>k3 (e ▸ hbM)
    have hb2:b2≠b:=fun e=>m3 (e ▸ hbM)
    have hcell:∀ (ad:Addr) v,ad.block<w.heap.size→ad.block≠b→w.cell? ad=some v→(sortWorld enc w b 0 n dk os).cell? ad=some v:=fun ad v h1 h2 h3=>by
     unfold sortWorld
     rw[cell?_grow _ _ _ (by simpa using h1),cell?_putRow_other _ _ _ _ _ _ (.inl h2)]
     exact h3
    have hsz:w.heap.size≤(sortWorld enc w b 0 n dk os).heap.size:=by
     unfold sortWorld
     rw[size_grow,size_putRow]
     exact Nat.le_add_right _ _
    exact part2_calls k1 m1 (Nat.lt_of_lt_of_le k2 hsz) (Nat.lt_of_lt_of_le m2 hsz) (hcell _ _ k2 hb1 k4) (hcell _ _ k2 hb1 k5) (hcell _ _ m2 hb2 m4) (hcell _ _ m2 hb2 m5)
   have c1:=Any.slices_SortFunc_total Tryz.sortParts enc h1 cf hO 49 #[] b 0 cp (List.finRange P.length).toArray w eg hcmp hH hbl (by rw[hds];omega) hT
   rw[hds] at c1
   refine .inl ⟨by unfold HasBody;kernel_rfl,c1.mono ?_⟩
   rintro e w' ⟨rfl,n,os,hw⟩
   rw[List.toList_toArray] at hw
   obtain ⟨S,hS⟩:∃ S,S=(List.finRange P.length).mergeSort fun x y=>!(ltOf cf) y x:=⟨_,rfl⟩
   rw[← hS] at hw
   have hSl:S.length=P.length:=by rw[hS,List.length_mergeSort,List.length_finRange]
   have e0:(List.finRange P.length).map (fun i:Fin P.length=>P[i.1])=P:=by
    apply List.ext_getElem
    ·simp
    ·intro i h1 h2
     simp
   have hsr:sr2 P=S.map fun i:Fin P.length=>P[i.1]:=by
    have h:=List.map_mergeSort (s:=leP) (f:=fun i:Fin P.length=>P[i.1]) (l:=List.finRange P.length) (r:=fun x y=>!(ltOf cf) y x) fun a _ b _=>by
     rw[hlt,ltC_eq]
     rfl
    have h2:sr2 P=((List.finRange P.length).map fun i:Fin P.length=>P[i.1]).mergeSort leP:=congrArg (fun l=>List.mergeSort l leP) e0.symm
    rw[← hS] at h
    exact h2.trans h.symm
   obtain ⟨k1,k2⟩:=sort_world1 (w:=w) (n:=n) enc S.toArray os h6
   rw[← hw] at k1 k2
   have hpt:=put_take1 (enc:=enc) (F:=S.toArray) (cur:=cur) (by simp;omega)
   have hln:((sr2 P).map partR).length=P.length:=by rw[List.length_map,(sr2_perm P).length_eq]
   refine rows_keep hW h5 k2 k1 (by rw[hpt.2];exact h7) g1 partR_1 hln h8 h9 ?_ ⟨[],rfl,trivial⟩
   rw[hln,Nat.mul_one]
   have e1:=hpt.1
   rw[List.size_toArray,hSl] at e1
   rw[e1,partR_flat,hsr,List.map_map]
   exact den_map fun i _=>hden i
end Go.Proofs.YtaheflnnigocgaaGreatDoor
end
section
namespace Go.Proofs.YtaheflnnigocgaaGreatDoor
set_option maxRecDepth 100000
theorem sortC_up (l:List Cl) (h:l.Nodup):(sortC l).Pairwise les:=by
 have hn:(sortC l).Pairwise (·≠·):=(sortC_perm l).nodup_iff.2 h
 exact (List.Pairwise.and (sortC_sorted l) hn).imp fun {a b} hab=>(les_tri a b).elim id fun h=>h.elim (fun e=>absurd e hab.2) fun h=>absurd h hab.1
end Go.Proofs.YtaheflnnigocgaaGreatDoor
end
section
namespace Go.Proofs.YtaheflnnigocgaaGreatDoor
set_option maxRecDepth 100000
structure FS where
 K:List Cl
 val:Cl→Nat
structure FInv (g:Gr) (p:List Cl) (c:Cl) (s:FS):Prop where
 nd:s.K.Nodup
 sub:∀ x ∈ s.K,x ∈ p
 c0:c ∈ s.K
 v0:s.val c=0
 st:∀ x ∈ s.K,x≠c→∃ y ∈ g.on x,y ∈ s.K∧s.val y+1≤s.val x
 lt:∀ x ∈ s.K,s.val x<s.K.length
def FS.put (s:FS) (x:Cl) (v:Nat):FS:=⟨if x ∈ s.K then s.K else s.K++[x],fun z=>if z=x then v else s.val z⟩
def fmeas (p:List Cl) (s:FS):Nat:=(p.map fun x=>if x ∈ s.K then s.val x else p.length+1).sum
theorem put_mem {s:FS} {x z:Cl} {v:Nat}:z ∈ (s.put x v).K↔z ∈ s.K∨z=x:=by
 unfold FS.put
 by_cases h:x ∈ s.K
 ·simp only[if_pos h]
  exact ⟨.inl,fun hh=>hh.elim id fun e=>e ▸ h⟩
 ·simp only[if_neg h,List.mem_append,List.mem_singleton]
theorem FInv.init {g:Gr} {p:List Cl} {c:Cl} (hc:c ∈ p) (f:Cl→Nat) (hf:f c=0):FInv g p c ⟨[c],f⟩ :=
 ⟨by simp,fun x hx=>by obtain rfl:=List.mem_singleton.1 hx;exact hc,by simp,hf,fun x hx hn=>absurd (List.mem_singleton.1 hx) hn,fun x hx=>by obtain rfl:=List.mem_singleton.1 hx;show f x<1;rw[hf];exact Nat.one_pos⟩
section
variable {g:Gr} {p:List Cl} {c:Cl} {s:FS}
theorem FInv.len (h:FInv g p c s):s.K.length≤p.length:=nodup_len h.nd h.sub
theorem FInv.set (h:FInv g p c s) {x y:Cl} (hx:x ∈ p) (hy:y ∈ g.on x) (hyK:y ∈ s.K) (hn:x ∉ s.K∨s.val y+1<s.val x):FInv g p c (s.put x (s.val y+1))∧fmeas p (s.put x (s.val y+1))<fmeas p s:=by
 have hxc:x≠c:=fun e=>by
  subst e
  rcases hn with hn|hn
  ·exact hn h.c0
  ·rw[h.v0] at hn;cases hn
 have hyx:y≠x:=fun e=>by
  subst e
  rcases hn with hn|hn
  ·exact hn hyK
  ·omega
 have hval:∀ z,z≠x→(s.put x (s.val y+1)).val z=s.val z:=fun z hz=>if_neg hz
 have hvx:(s.put x (s.val y+1)).val x=s.val y+1:=if_pos rfl
 have hle:∀ z ∈ s.K,(s.put x (s.val y+1)).val z≤s.val z:=fun z hz=>by
  by_cases e:z=x
  ·subst e
   rw[hvx]
   rcases hn with hn|hn
   ·exact absurd hz hn
   ·omega
  ·rw[hval z e];exact Nat.le_refl _
 have hlen:s.K.length≤(s.put x (s.val y+1)).K.length:=by
  unfold FS.put
  by_cases e:x ∈ s.K
  ·simp only[if_pos e];exact Nat.le_refl _
  ·simp only[if_neg e,List.length_append,List.length_singleton];omega
 have hy1:=h.lt y hyK
 refine ⟨⟨?_,?_,?_,?_,?_,?_⟩,?_⟩
 ·unfold FS.put
  by_cases e:x ∈ s.K
  ·simp only[if_pos e];exact h.nd
  ·simp only[if_neg e]
   exact List.nodup_append.2 ⟨h.nd,by simp,fun a ha b hb=>by obtain rfl:=List.mem_singleton.1 hb;exact fun e'=>e (e' ▸ ha)⟩
 ·intro z hz
  rcases put_mem.1 hz with hz|rfl
  ·exact h.sub z hz
  ·exact hx
 ·exact put_mem.2 (.inl h.c0)
 ·rw[hval c (Ne.symm hxc)];exact h.v0
 ·intro z hz hzc
  by_cases e:z=x
  ·subst e
   exact ⟨y,hy,put_mem.2 (.inl hyK),by rw[hvx,hval y hyx];exact Nat.le_refl _⟩
  ·have hzK:z ∈ s.K:=(put_mem.1 hz).resolve_right e
   obtain ⟨w,hw,hwK,h1⟩:=h.st z hzK hzc
   exact ⟨w,hw,put_mem.2 (.inl hwK),by rw[hval z e];have:=hle w hwK;omega⟩
 ·intro z hz
  by_cases e:z=x
  ·subst e
   rw[hvx]
   unfold FS.put
   by_cases e':z ∈ s.K
   ·rcases hn with hn|hn
    ·exact absurd e' hn
    ·simp only[if_pos e']
     have:=h.lt z e'
     omega
   ·simp only[if_neg e',List.length_append,List.length_singleton]
    omega
  ·have hzK:z ∈ s.K:=(put_mem.1 hz).resolve_right e
   rw[hval z e]
   exact Nat.lt_of_lt_of_le (h.lt z hzK) hlen
 ·refine sum_one (d:=1) hx ?_ fun z hz=>?_
  ·show (if x ∈ (s.put x (s.val y+1)).K then (s.put x (s.val y+1)).val x else p.length+1)+1≤(if x ∈ s.K then s.val x else p.length+1)
   rw[if_pos (put_mem.2 (.inr rfl)),hvx]
   have:=h.len
   rcases hn with hn|hn
   ·rw[if_neg hn];omega
   ·split
    ·omega
    ·omega
  ·show (if z ∈ (s.put x (s.val y+1)).K then (s.put x (s.val y+1)).val z else p.length+1)≤(if z ∈ s.K then s.val z else p.length+1)
   by_cases e:z ∈ s.K
   ·rw[if_pos e,if_pos (put_mem.2 (.inl e))];exact hle z e
   ·rw[if_neg e]
    by_cases e':z=x
    ·subst e'
     rw[if_pos (put_mem.2 (.inr rfl)),hvx]
     have:=h.len
     omega
    ·rw[if_neg fun hh=>(put_mem.1 hh).elim e e']
     exact Nat.le_refl _
def Fix (g:Gr) (p:List Cl) (s:FS):Prop:=∀ x ∈ p,∀ y ∈ g.on x,y ∈ s.K→x ∈ s.K∧s.val x≤s.val y+1
theorem FInv.all (h:FInv g p c s) (hf:Fix g p s) (hp:Part g p) (hc:c ∈ p):∀ x ∈ p,x ∈ s.K:=by
 have key:∀ {a b:Cl},Rch g a b→b=c→(a ∈ p→a ∈ s.K):=fun {a b} hr=>by
  induction hr with
  | refl a=>intro e ha;rw[e];exact h.c0
  | step h1 h2 h3 ih =>
   intro e ha
   subst e
   have hb:=(hp.scc _ hc _).2 ⟨((hp.scc _ hc _).1 ha).1.trans (Rch.one h1 h2),h3⟩
   exact (hf _ ha _ h1 (ih rfl hb)).1
 exact fun x hx=>key ((hp.scc c hc x).1 hx).2 rfl hx
theorem FInv.near (h:FInv g p c s) (hf:Fix g p s) {x:Cl} (hx:x ∈ s.K) (hxp:x ∈ p) (hxc:x≠c):∃ y ∈ g.on x,y ∈ s.K∧s.val y+1=s.val x:=by
 obtain ⟨y,hy,hyK,h1⟩:=h.st x hx hxc
 have:=(hf x hxp y hy hyK).2
 exact ⟨y,hy,hyK,by omega⟩
theorem FInv.pos (h:FInv g p c s) {x:Cl} (hx:x ∈ s.K) (hxc:x≠c):0<s.val x:=by
 obtain ⟨y,_,_,h1⟩:=h.st x hx hxc
 omega
end
def near (s:FS) (p:List Cl):List Cl→Option Cl→Option Cl
 | [],b=>b
 | y::l,b=>near s p l (if y ∈ s.K∧y ∈ p∧(∀ z,b=some z→s.val y<s.val z) then some y else b)
theorem near_in {s:FS} {p:List Cl}:∀ {l:List Cl} {b:Option Cl},near s p l b=b∨∃ y ∈ l,near s p l b=some y∧y ∈ s.K∧y ∈ p
 | [],_=>.inl rfl
 | y::l,b=>by
  unfold near
  by_cases h:y ∈ s.K∧y ∈ p∧(∀ z,b=some z→s.val y<s.val z)
  ·rw[if_pos h]
   rcases near_in (s:=s) (p:=p) (l:=l) (b:=some y) with h1|⟨z,h1,h2⟩
   ·exact .inr ⟨y,by simp,h1,h.1,h.2.1⟩
   ·exact .inr ⟨z,by simp[h1],h2⟩
  ·rw[if_neg h]
   rcases near_in (s:=s) (p:=p) (l:=l) (b:=b) with h1|⟨z,h1,h2⟩
   ·exact .inl h1
   ·exact .inr ⟨z,by simp[h1],h2⟩
theorem near_le {s:FS} {p:List Cl}:∀ {l:List Cl} {b:Option Cl},(∀ z,b=some z→∃ w,near s p l b=some w∧s.val w≤s.val z)∧∀ y ∈ l,y ∈ s.K→y ∈ p→∃ w,near s p l b=some w∧s.val w≤s.val y
 | [],b=>⟨fun z hz=>⟨z,hz,Nat.le_refl _⟩,fun y hy=>by cases hy⟩
 | a::l,b=>by
  unfold near
  by_cases h:a ∈ s.K∧a ∈ p∧(∀ z,b=some z→s.val a<s.val z)
  ·rw[if_pos h]
   obtain ⟨h1,h2⟩:=near_le (s:=s) (p:=p) (l:=l) (b:=some a)
   obtain ⟨w,h3,h4⟩:=h1 a rfl
   refine ⟨fun z hz=>⟨w,h3,?_⟩,fun y hy hyK hyp=>?_⟩
   ·have:=h.2.2 z hz;omega
   ·rcases List.mem_cons.1 hy with rfl|hy
    ·exact ⟨w,h3,h4⟩
    ·exact h2 y hy hyK hyp
  ·rw[if_neg h]
   obtain ⟨h1,h2⟩:=near_le (s:=s) (p:=p) (l:=l) (b:=b)
   refine ⟨h1,fun y hy hyK hyp=>?_⟩
   rcases List.mem_cons.1 hy with rfl|hy
   ·cases b with
    | none=>exact absurd ⟨hyK,hyp,fun z hz=>by cases hz⟩ h
    | some z =>
     obtain ⟨w,h3,h4⟩:=h1 z rfl
     refine ⟨w,h3,?_⟩
     by_cases hlt:s.val y<s.val z
     ·exact absurd ⟨hyK,hyp,fun z' hz'=>by cases hz';exact hlt⟩ h
     ·omega
   ·exact h2 y hy hyK hyp
end Go.Proofs.YtaheflnnigocgaaGreatDoor
end
section
namespace Go.Proofs.YtaheflnnigocgaaGreatDoor
set_option maxRecDepth 100000
inductive Hng (g:Gr) (c:Cl):Cl→Prop
 | one {x:Cl}:c ∈ g.on x→Hng g c x
 | more {x y:Cl}:y ∈ g.on x→g.has y=true→Hng g c y→Hng g c x
structure HInv (g:Gr) (V:List Cl) (c:Cl) (K:List Cl):Prop where
 nd:K.Nodup
 sub:∀ x ∈ K,x ∈ V
 ok:∀ x ∈ K,Hng g c x
section
variable {g:Gr} {V:List Cl} {c:Cl} {K:List Cl}
theorem HInv.init:HInv g V c []:=⟨List.nodup_nil,(fun _ h=>nomatch h),(fun _ h=>nomatch h)⟩
theorem HInv.len (h:HInv g V c K):K.length≤V.length:=nodup_len h.nd h.sub
theorem HInv.put (h:HInv g V c K) (hV:∀ x ∈ V,g.has x=true) {x y:Cl} (hx:x ∈ V) (hn:x ∉ K) (hy:y ∈ g.on x) (hc:y=c∨y ∈ K):HInv g V c (K++[x]):=by
 refine ⟨List.nodup_append.2 ⟨h.nd,by simp,fun a ha b hb=>by obtain rfl:=List.mem_singleton.1 hb;exact fun e=>hn (e ▸ ha)⟩,fun z hz=>?_,fun z hz=>?_⟩
 ·rcases List.mem_append.1 hz with hz|hz
  ·exact h.sub z hz
  ·obtain rfl:=List.mem_singleton.1 hz;exact hx
 ·rcases List.mem_append.1 hz with hz|hz
  ·exact h.ok z hz
  ·obtain rfl:=List.mem_singleton.1 hz
   rcases hc with rfl|hc
   ·exact .one hy
   ·exact .more hy (hV _ (h.sub y hc)) (h.ok y hc)
theorem HInv.all (_h:HInv g V c K) (hV:∀ x,g.has x=true→x ∈ V) (hf:∀ x ∈ V,∀ y ∈ g.on x,(y=c∨y ∈ K)→x ∈ K):∀ x,Hng g c x→x ∈ V→x ∈ K:=fun x hx=>by
 induction hx with
 | one h1=>exact fun hx=>hf _ hx _ h1 (.inl rfl)
 | more h1 h2 _ ih=>exact fun hx=>hf _ hx _ h1 (.inr (ih (hV _ h2)))
end
end Go.Proofs.YtaheflnnigocgaaGreatDoor
end
