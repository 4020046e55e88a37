/- Proved: a part of what the law is proved with (the reckoner, contracts of functions, plain laws). Conditions: as each says. -/
import Derived.Test.YtaheflnnigocgaaGreatDoorHAu
import Derived.Test.YtaheflnnigocgaaGreatDoorHBj
import Derived.Test.YtaheflnnigocgaaGreatDoorHET
import Derived.Test.YtaheflnnigocgaaGreatDoorHEr
import Derived.Test.YtaheflnnigocgaaGreatDoorHFp
import Derived.Test.YtaheflnnigocgaaGreatDoorHGd
import Derived.Test.YtaheflnnigocgaaGreatDoorHGi
import Derived.Test.YtaheflnnigocgaaGreatDoorHPe
import Derived.Test.YtaheflnnigocgaaGreatDoorHTjg
import Derived.Test.YtaheflnnigocgaaGreatDoorHTjs
section
namespace Go.Proofs.YtaheflnnigocgaaGreatDoor
open Go Go.RowKit Go.EYtaheflnnigocgaaGreatDoor Go.Sort
set_option maxRecDepth 100000
set_option maxHeartbeats 4000000
variable {gl:List (Nat×List D)}
theorem lst_head {M:Nat→Prop} {w:World} {p:List Cl} (hp:p≠[]) {v:Value} (h:DenD M w (.lst 2 (cellsR p)) v):∃ b o n c,v=.slice (some ⟨b,o,none⟩) n c∧0<n∧b<w.heap.size∧¬ M b∧w.cell? ⟨b,o,none⟩=some (.int .i64 (hd1 p).1)∧w.cell? ⟨b,o+1,none⟩=some (.int .i64 (hd1 p).2):=by
 cases p with
 | nil=>exact absurd rfl hp
 | cons q r =>
  cases h with
  | lst _ _ b o c cs hb hM hl hc hz hcell hden =>
   have h1:=hcell 0 0 (iD q.1) rfl
   have h2:=hcell 0 1 (iD q.2) rfl
   have e1:=(hden 0 0 (iD q.1) rfl).v_inv
   have e2:=(hden 0 1 (iD q.2) rfl).v_inv
   rw[e1] at h1
   rw[e2] at h2
   exact ⟨b,o,_,c,rfl,by simp,hb,hM,by simpa[hd1] using h1,by simpa[hd1] using h2⟩
theorem sort_world1 {α:Type} [Inhabited α] (enc:α→Value) {w:World} {b n:Nat} {cur:Array Value} {e:TypeId} (d:Array α) (os:Array Obj) (h:w.heap[b]?=some (Obj.cells cur e (0,0))) :
 (sortWorld enc w b 0 n d os).heap[b]?=some (Obj.cells (putCells enc 0 d cur) e (0,0))∧Evo (fun x=>x=b) w (sortWorld enc w b 0 n d os):=by
 have hb:b<w.heap.size:=(Array.getElem?_eq_some_iff.1 h).1
 have hat:∀ x,x<w.heap.size→(sortWorld enc w b 0 n d os).heap[x]?=(w.heap[x]?).map (fun o=>if b=x then onCells (putCells enc 0 d) o else o):=fun x hx=>by
  show ((w.heap.modify b (onCells (putCells enc 0 d)))++os)[x]?=_
  rw[Array.getElem?_append_left (by simpa using hx),Array.getElem?_modify]
  by_cases hbx:b=x
  ·rw[if_pos hbx]
   simp[hbx]
  ·rw[if_neg hbx]
   simp[hbx]
 refine ⟨by rw[hat b hb,h];simp[onCells],rfl,rfl,rfl,?_,fun x hx hn=>?_,fun x c e' f' hc=>?_⟩
 ·show w.heap.size≤((w.heap.modify b _)++os).size
  simp
 ·rw[hat x hx]
  have:¬ b=x:=fun e=>hn e.symm
  simp[this]
 ·have hx:x<w.heap.size:=(Array.getElem?_eq_some_iff.1 hc).1
  rw[hat x hx,hc]
  by_cases hbx:b=x
  ·refine ⟨putCells enc 0 d c,by simp[hbx,onCells],by simp[putCells]⟩
  ·exact ⟨c,by simp[hbx],rfl⟩
theorem put_take1 {α:Type} [Inhabited α] {enc:α→Value} {F:Array α} {cur:Array Value} (h:F.size≤cur.size):(putCells enc 0 F cur).toList.take F.size=F.toList.map enc∧(putCells enc 0 F cur).size=cur.size:=by
 refine ⟨?_,by simp[putCells]⟩
 apply List.ext_getElem?
 intro k
 rw[List.getElem?_take]
 by_cases hk:k<F.size
 ·rw[if_pos hk]
  have hc:k<cur.size:=by omega
  simp[putCells,hk,hc]
 ·rw[if_neg hk,List.getElem?_eq_none (by simpa using Nat.le_of_not_lt hk)]
theorem partR_flat (P:List (List Cl)):(P.map partR).flatten=P.map fun p=>Go.EYtaheflnnigocgaaGreatDoor.D.lst 2 (cellsR p):=by
 induction P with
 | nil=>rfl
 | cons p P ih=>rw[List.map_cons,List.flatten_cons,ih];rfl
theorem den_map {M:Nat→Prop} {w:World} {α:Type} {f:α→Go.EYtaheflnnigocgaaGreatDoor.D} {g:α→Value}:∀ {l:List α},(∀ a ∈ l,DenD M w (f a) (g a))→DenL M w (l.map f) (l.map g)
 | [],_=>trivial
 | a::l,h=>⟨h a (by simp),den_map fun b hb=>h b (by simp[hb])⟩
theorem sr2_nil:sr2 []=[]:=by unfold sr2;simp
theorem partR_1 {P:List (List Cl)}:∀ r ∈ P.map partR,r.length=1:=fun r hr=>by
 obtain ⟨p,_,rfl⟩:=List.mem_map.1 hr
 rfl
theorem Sort2_x (P:List (List Cl)) (hne:∀ p ∈ P,p≠[]) (hdj:P.Pairwise fun p q=>∀ c ∈ p,c ∉ q) (hl:P.length≤65536):Go.EYtaheflnnigocgaaGreatDoor.Fn Tryz.prog gl 48 [.c (.all 1 0),.c (.fn 49 [])] [(0,.rows 1 (P.map partR) 39)] 1 (.ret (.tup [])) [(0,.rows 1 ((sr2 P).map partR) 39)] 1 []:=by
 refine ⟨Nat.le_refl _,fun k B h hk=>?_,fun k hk=>(by cases hk),fun w M0 adr xs hW hG hd=>?_⟩
 ·match k,h with
  | 0,_=>rfl
 match xs,hd with
 | [x,y],⟨hx,hy,_⟩ =>
  obtain ⟨cs,rfl,hcs⟩:=hy
  match cs,hcs with
  | [],_ =>
  have hP0:P=[]→∀ (p:Option Addr) (cap:Nat),x=.slice p 0 cap→Does Tryz.prog 48 #[x,.func (.func 49) #[] #[]] w fun e w' =>
   ∃ adr':Env,Evo (Trk adr [(0,.rows 1 (P.map partR) 39)]) w w'∧WOk M0 adr' [(0,.rows 1 ((sr2 P).map partR) 39)] 1 w'∧(∀ k,k<1→k ∉ []→adr' k=adr k)∧(∀ k B b' m,Go.EYtaheflnnigocgaaGreatDoor.look [(0,Blk.rows 1 ((sr2 P).map partR) 39)] k=some B→adr' k=some (some b',m)→Trk adr [(0,.rows 1 (P.map partR) 39)] b'∨w.heap.size≤b')∧
    RetOk adr' (Mut M0 adr' [(0,.rows 1 ((sr2 P).map partR) 39)]) w' (.ret (.tup [])) e:=fun hPe p cap hxe=>by
   subst hPe
   subst hxe
   rw[sr2_nil]
   refine .inl ⟨by unfold HasBody;kernel_rfl,(AnyF.slices_SortFunc_none { Tryz.sortParts with } p cap (.func (.func 49) #[] #[]) w).mono ?_⟩
   rintro e w' ⟨rfl,rfl⟩
   exact ⟨adr,Evo.refl _ _,hW,fun _ _ _=>rfl,fun k B b' mm h he=>.inl ⟨k,B,mm,h,he⟩,_,rfl,[],rfl,trivial⟩
  have hloc:=hW.loc 0 _ rfl
  rcases hx with ⟨h5,rfl⟩|⟨b,q,cp,cur,ee,f,h5,h6,h7,h8,h9,rfl⟩
  ·rw[h5] at hloc
   obtain ⟨_,h6,_⟩:=hloc
   exact hP0 (List.map_eq_nil_iff.1 h6) none 0 rfl
  ·rw[h5] at hloc
   obtain ⟨g1,g2,g3,cur',cp',g4,g5,g6,g7,g8⟩:=hloc
   rw[h6] at g4
   cases g4
   obtain rfl:cp=cp':=by omega
   have hlen:(P.map partR).length=P.length:=List.length_map _
   have hq:q=P.length:=by rw[← g2,hlen]
   subst hq
   by_cases hPe:P=[]
   ·subst hPe
    exact hP0 rfl (some ⟨b,0,none⟩) cp rfl
   have hn:0<P.length:=List.length_pos_iff.2 hPe
   clear hP0
   rw[hlen,partR_flat,Nat.mul_one] at g8
   rw[Nat.mul_one] at g5
   have hcl:P.length≤cur.size:=by omega
   have hbl:b<w.heap.size:=(Array.getElem?_eq_some_iff.1 h6).1
   have hbM:Mut M0 adr [(0,.rows 1 (P.map partR) 39)] b:=.inr ⟨0,_,_,rfl,h5⟩
   haveI:Inhabited (Fin P.length):=⟨⟨0,hn⟩⟩
   obtain ⟨enc,henc⟩:∃ enc:Fin P.length→Value,∀ i,enc i=cur[i.1]'(by omega):=⟨fun i=>cur[i.1]'(by omega),fun _=>rfl⟩
   have hden:∀ i:Fin P.length,DenD (Mut M0 adr [(0,.rows 1 (P.map partR) 39)]) w (.lst 2 (cellsR P[i.1])) (enc i):=fun i=>by
    refine All2.get2 g8 i.1 _ _ ?_ ?_
    ·rw[List.getElem?_map,List.getElem?_eq_getElem i.2]
     rfl
    ·rw[List.getElem?_take,if_pos i.2,Array.getElem?_toList,Array.getElem?_eq_getElem (by omega),henc]
   have hmem:∀ i:Fin P.length,P[i.1] ∈ P:=fun i=>List.getElem_mem _
   have h1:OneCell enc:=fun i=>(hden i).one rfl
   obtain ⟨cf,hcf⟩:∃ cf:Fin P.length→Fin P.length→Int,∀ i j,cf i j=cfC (hd1 P[i.1]) (hd1 P[j.1]):=⟨fun i j=>cfC (hd1 P[i.1]) (hd1 P[j.1]),fun _ _=>rfl⟩
   have hlt:∀ i j,ltOf cf i j=ltOf cfC (hd1 P[i.1]) (hd1 P[j.1]):=fun i j=>by
    unfold ltOf
    rw[hcf]
   have hO:SWO (ltOf cf):=⟨fun x=>by rw[hlt];exact swoC.irrefl _,fun x y z h1 h2=>by rw[hlt] at *;exact swoC.trans _ _ _ h1 h2,fun x y z h1 h2=>by rw[hlt] at *;exact swoC.ntrans _ _ _ h1 h2⟩
   have hhd:∀ i:Fin P.length,hd1 P[i.1] ∈ P[i.1]:=fun i=>by
    have:=hne _ (hmem i)
    cases hp:P[i.1] with
    | nil=>exact absurd hp this
    | cons a r=>simp[hd1]
   have hT:∀ x y,(ltOf cf) x y=false→(ltOf cf) y x=false→x=y:=fun x y h1 h2=>by
    rw[hlt] at h1 h2
    have e:=totC _ _ h1 h2
    have key:∀ {i j:Fin P.length},i.1<j.1→hd1 P[i.1]=hd1 P[j.1]→False:=fun {i j} hij he=>by
     refine (List.pairwise_iff_getElem.1 hdj) i.1 j.1 i.2 j.2 hij _ (hhd i) ?_
     rw[he]
     exact hhd j
    rcases Nat.lt_trichotomy x.1 y.1 with h|h|h
    ·exact (key h e).elim
    ·exact Fin.ext h
    ·exact (key h e.symm).elim
   have eg:∀ args W,(callFunc 49 args).run Tryz.prog W=.ok (.enter 49 args) W:=enters_of Tryz.func49 (by kernel_rfl) rfl
   have hds:(List.finRange P.length).toArray.size=P.length:=by simp
   have hdg:∀ j,(h:j<P.length)→(List.finRange P.length).toArray[j]! = ⟨j,h⟩:=fun j h=>by
    rw[getElem!_pos _ _ (by rw[hds];exact h)]
    simp
   have hH:Holds enc w b 0 (List.finRange P.length).toArray:=fun j hj=>by
    rw[hds] at hj
    rw[hdg j hj,henc]
    refine ⟨?_,by simp[World.frozen?,h6]⟩
    simp[World.cell?,h6]
   have hcmp:CmpLays1 Tryz.prog 49 #[] enc cf b 0 (List.finRange P.length).toArray.size w:=fun n os dk _ x y=>by
    obtain ⟨b1,o1,n1,c1,e1,k1,k2,k3,k4,k5⟩:=lst_head (hne _ (hmem x)) (hden x)
    obtain ⟨b2,o2,n2,c2,e2,m1,m2,m3,m4,m5⟩:=lst_head (hne _ (hmem y)) (hden y)
    rw[e1,e2,hcf]
    have hb1:b1≠b:=fun e=>k3 (e ▸ hbM)
    have hb2:b2≠b:=fun e=>m3 (e ▸ hbM)
    have hcell:∀ (ad:Addr) v,ad.block<w.heap.size→ad.block≠b→w.cell? ad=some v→(sortWorld enc w b 0 n dk os).cell? ad=some v:=fun ad v h1 h2 h3=>by
     unfold sortWorld
     rw[cell?_grow _ _ _ (by simpa using h1),cell?_putRow_other _ _ _ _ _ _ (.inl h2)]
     exact h3
    have hsz:w.heap.size≤(sortWorld enc w b 0 n dk os).heap.size:=by
     unfold sortWorld
     rw[size_grow,size_putRow]
     exact Nat.le_add_right _ _
    exact part2_calls k1 m1 (Nat.lt_of_lt_of_le k2 hsz) (Nat.lt_of_lt_of_le m2 hsz) (hcell _ _ k2 hb1 k4) (hcell _ _ k2 hb1 k5) (hcell _ _ m2 hb2 m4) (hcell _ _ m2 hb2 m5)
   have c1:=Any.slices_SortFunc_total Tryz.sortParts enc h1 cf hO 49 #[] b 0 cp (List.finRange P.length).toArray w eg hcmp hH hbl (by rw[hds];omega) hT
   rw[hds] at c1
   refine .inl ⟨by unfold HasBody;kernel_rfl,c1.mono ?_⟩
   rintro e w' ⟨rfl,n,os,hw⟩
   rw[List.toList_toArray] at hw
   obtain ⟨S,hS⟩:∃ S,S=(List.finRange P.length).mergeSort fun x y=>!(ltOf cf) y x:=⟨_,rfl⟩
   rw[← hS] at hw
   have hSl:S.length=P.length:=by rw[hS,List.length_mergeSort,List.length_finRange]
   have e0:(List.finRange P.length).map (fun i:Fin P.length=>P[i.1])=P:=by
    apply List.ext_getElem
    ·simp
    ·intro i h1 h2
     simp
   have hsr:sr2 P=S.map fun i:Fin P.length=>P[i.1]:=by
    have h:=List.map_mergeSort (s:=leP) (f:=fun i:Fin P.length=>P[i.1]) (l:=List.finRange P.length) (r:=fun x y=>!(ltOf cf) y x) fun a _ b _=>by
     rw[hlt,ltC_eq]
     rfl
    have h2:sr2 P=((List.finRange P.length).map fun i:Fin P.length=>P[i.1]).mergeSort leP:=congrArg (fun l=>List.mergeSort l leP) e0.symm
    rw[← hS] at h
    exact h2.trans h.symm
   obtain ⟨k1,k2⟩:=sort_world1 (w:=w) (n:=n) enc S.toArray os h6
   rw[← hw] at k1 k2
   have hpt:=put_take1 (enc:=enc) (F:=S.toArray) (cur:=cur) (by simp;omega)
   have hln:((sr2 P).map partR).length=P.length:=by rw[List.length_map,(sr2_perm P).length_eq]
   refine rows_keep hW h5 k2 k1 (by rw[hpt.2];exact h7) g1 partR_1 hln h8 h9 ?_ ⟨[],rfl,trivial⟩
   rw[hln,Nat.mul_one]
   have e1:=hpt.1
   rw[List.size_toArray,hSl] at e1
   rw[e1,partR_flat,hsr,List.map_map]
   exact den_map fun i _=>hden i
end Go.Proofs.YtaheflnnigocgaaGreatDoor
end
section
namespace Go.Proofs.YtaheflnnigocgaaGreatDoor
open Go Go.EYtaheflnnigocgaaGreatDoor
open Go
mutual
def cntN:Nd→Nat
 | .mk _ _ _ _ _ ks=>cntL ks+1
def cntL:List Nd→Nat
 | []=>0
 | x::r=>cntN x+cntL r
end
theorem cntL_take:∀ {ks:List Nd} {x:Nat} (h:x<ks.length),cntL (ks.take (x+1))=cntL (ks.take x)+cntN ks[x]
 | y::r,0,_=>by simp[cntL]
 | y::r,x+1,h=>by
  have:=cntL_take (ks:=r) (x:=x) (by simpa using h)
  simp only[List.take_succ_cons,cntL,List.getElem_cons_succ] at *
  omega
theorem cntL_le:∀ (ks:List Nd) (x:Nat),cntL (ks.take x)≤cntL ks
 | [],x=>by simp[cntL]
 | y::r,0=>by simp[cntL]
 | y::r,x+1=>by
  have:=cntL_le r x
  simp only[List.take_succ_cons,cntL] at *
  omega
abbrev noR (a:Rf):Prop:=(a.c=0∧a.r=0∧True)∧((a.fc=true↔False)∧(a.fr=true↔False)∧True)
open Go
mutual
def frmN:Nd→Prop→Prop
 | .mk k m t a b ks,box=>(k=1∧ks.length=0∧t=[]∧(noR a∧noR b)∧0≤m)∨(k=2∧ks.length=0∧(noR a∧noR b)∧m=0)∨(k=3∧ks.length=0∧t=[]∧(noR a∧noR b)∧(m=0∨m=1))∨
  (k=4∧ks.length=0∧t=[]∧(noR a∧noR b)∧1≤m∧m≤6)∨(k=5∧ks.length=0∧t=[]∧m=0∧noR b∧okP a.c a.r)∨(k=6∧box∧ks.length=0∧t=[]∧m=0∧okP a.c a.r∧okP b.c b.r)∨
  (k=7∧ks.length=1∧t=[]∧(noR a∧noR b)∧m=0∧frmL False ks)∨(k=8∧ks.length=2∧t=[]∧(noR a∧noR b)∧1≤m∧m≤11∧frmL False ks)∨(k=9∧clZ t=true∧(noR a∧noR b)∧m=0∧frmL True ks)
def frmL:Prop→List Nd→Prop
 | _,[]=>True
 | box,x::r=>frmN x box∧frmL box r
end
theorem frmL_iff {box:Prop}:∀ {ks:List Nd},frmL box ks↔∀ x (h:x<ks.length),frmN ks[x] box
 | []=>by simp[frmL]
 | y::r=>by
  simp only[frmL,frmL_iff (ks:=r)]
  constructor
  ·rintro ⟨h1,h2⟩ x hx
   cases x with
   | zero=>exact h1
   | succ x=>exact h2 x (by simpa using hx)
  ·intro h
   exact ⟨h 0 (by simp),fun x hx=>h (x+1) (by simpa using hx)⟩
section
variable {m:Int} {t:List UInt8} {a b:Rf} {ks:List Nd} {box:Prop}
theorem frm_1:frmN (.mk 1 m t a b ks) box↔ks.length=0∧t=[]∧(noR a∧noR b)∧0≤m:=by simp[frmN]
theorem frm_2:frmN (.mk 2 m t a b ks) box↔ks.length=0∧(noR a∧noR b)∧m=0:=by simp[frmN]
theorem frm_3:frmN (.mk 3 m t a b ks) box↔ks.length=0∧t=[]∧(noR a∧noR b)∧(m=0∨m=1):=by simp[frmN]
theorem frm_4:frmN (.mk 4 m t a b ks) box↔ks.length=0∧t=[]∧(noR a∧noR b)∧1≤m∧m≤6:=by simp[frmN]
theorem frm_5:frmN (.mk 5 m t a b ks) box↔ks.length=0∧t=[]∧m=0∧noR b∧okP a.c a.r:=by simp[frmN]
theorem frm_6:frmN (.mk 6 m t a b ks) box↔box∧ks.length=0∧t=[]∧m=0∧okP a.c a.r∧okP b.c b.r:=by simp[frmN]
theorem frm_7:frmN (.mk 7 m t a b ks) box↔ks.length=1∧t=[]∧(noR a∧noR b)∧m=0∧frmL False ks:=by simp[frmN]
theorem frm_8:frmN (.mk 8 m t a b ks) box↔ks.length=2∧t=[]∧(noR a∧noR b)∧1≤m∧m≤11∧frmL False ks:=by simp[frmN]
theorem frm_9:frmN (.mk 9 m t a b ks) box↔clZ t=true∧(noR a∧noR b)∧m=0∧frmL True ks:=by simp[frmN]
end
def tgtN:Nd→Int
 | .mk k m _ _ _ _=>if k=8 then (if m≤6 then 1 else if m=7 then 2 else if m≤9 then 3 else 4) else 5
def sgnN (m:Int):List UInt8:=([[],[61],[60,62],[60],[60,61],[62],[62,61],[38],[43],[45],[42],[47]]:List (List UInt8)).getD m.toNat []
def brN (s:List UInt8) (p:Prop) [Decidable p]:List UInt8:=if p then 40::(s++[41]) else s
def dqN:List UInt8→List UInt8
 | []=>[]
 | c::r=>if c=34 then 34::34::dqN r else c::dqN r
def comN:List (List UInt8)→List UInt8
 | []=>[]
 | s::r=>s++(r.map fun t=>44::t).flatten
def wr7:List Nd→List (List UInt8)→List UInt8
 | x::_,s::_=>45::brN s (tgtN x<5)
 | _,_=>[]
def wr8 (m tg:Int):List Nd→List (List UInt8)→List UInt8
 | x::y::_,s::t::_=>brN s (tgtN x<tg)++(sgnN m++brN t (tgtN y≤tg))
 | _,_=>[]
def nmR (a:Rf):List UInt8:=nameL a.c a.r a.fc a.fr
open Go
mutual
def wrN:Nd→List UInt8
 | .mk k m t a b ks=>if k=1 then Lib.itoa m else if k=2 then 34::(dqN t++[34]) else if k=3 then (if m=1 then tT else tF) else if k=4 then tx.getD m.toNat [] else if k=5 then nmR a else if k=6 then nmR a++58::nmR b
  else if k=7 then wr7 ks (wrL ks) else if k=8 then wr8 m (tgtN (.mk k m t a b ks)) ks (wrL ks) else if k=9 then t++40::(comN (wrL ks)++[41]) else []
def wrL:List Nd→List (List UInt8)
 | []=>[]
 | x::r=>wrN x::wrL r
end
open Go
mutual
def okN:Nd→Prop
 | .mk _ m t _ _ ks=>okI m∧t.length≤1048576∧okL ks
def okL:List Nd→Prop
 | []=>True
 | x::r=>okN x∧okL r
end
theorem okL_get:∀ {ks:List Nd} (_:okL ks) {x:Nat} (hx:x<ks.length),okN ks[x]
 | y::r,h,0,_=>h.1
 | y::r,h,x+1,hx=>okL_get (ks:=r) h.2 (by simpa using hx)
end Go.Proofs.YtaheflnnigocgaaGreatDoor
end
section
namespace Go.Proofs.YtaheflnnigocgaaGreatDoor
open Go Go.EYtaheflnnigocgaaGreatDoor
set_option maxRecDepth 100000
set_option maxHeartbeats 4000000
variable {gl:List (Nat×List D)}
theorem kid_get {ks:List Nd} {x:Nat} (h:x<ks.length):(Nd.csL ks)[((x:Nat):Int).toNat]?=some (ks[x]).cs:=by
 rw[Int.toNat_natCast]
 induction ks generalizing x with
 | nil=>simp at h
 | cons a r ih =>
  cases x with
  | zero=>rfl
  | succ x=>exact ih (by simpa using h)
theorem kid_len:∀ ks:List Nd,(Nd.csL ks).length=ks.length
 | []=>rfl
 | _::r=>congrArg (·+1) (kid_len r)
theorem cnt_pos (n:Nd):1≤cntN n:=by
 obtain ⟨k,m,t,a,b,ks⟩:=n
 unfold cntN
 omega
theorem len_cnt:∀ ks:List Nd,ks.length≤cntL ks
 | []=>Nat.le_refl _
 | x::r=>by
  have h1:=len_cnt r
  have h2:=cnt_pos x
  simp only[List.length_cons,cntL]
  omega
end Go.Proofs.YtaheflnnigocgaaGreatDoor
end
section
namespace Go.Proofs.YtaheflnnigocgaaGreatDoor
open Go Go.EYtaheflnnigocgaaGreatDoor
set_option maxRecDepth 100000
def boxC (a b:Rf):List (Int×Int):=pairsL (min a.c b.c) (min a.r b.r) (max a.c b.c - min a.c b.c+1).toNat (max a.r b.r - min a.r b.r+1).toNat
def ownC (k:Int) (a b:Rf):List (Int×Int):=if k=5 then [(a.c,a.r)] else if k=6 then boxC a b else []
mutual
def cellsN:Nd→List (Int×Int)
 | .mk k _ _ a b ks=>ownC k a b++cellsK ks
def cellsK:List Nd→List (Int×Int)
 | []=>[]
 | x::r=>cellsN x++cellsK r
end
theorem cellsK_take:∀ {ks:List Nd} {x:Nat} (h:x<ks.length),cellsK (ks.take (x+1))=cellsK (ks.take x)++cellsN ks[x]
 | y::r,0,_=>by simp[cellsK]
 | y::r,x+1,h=>by
  have:=cellsK_take (ks:=r) (x:=x) (by simpa using h)
  rw[List.take_succ_cons,List.take_succ_cons,cellsK,cellsK,this,List.append_assoc]
  rfl
theorem frm_kid {k m:Int} {t:List UInt8} {a b:Rf} {ks:List Nd} {box:Prop} (hf:frmN (.mk k m t a b ks) box):∀ x (h:x<ks.length),∃ bx:Prop,frmN ks[x] bx:=fun x h=>by
 by_cases h7:k=7
 ·subst h7;rw[frm_7] at hf;exact ⟨_,frmL_iff.1 hf.2.2.2.2 x h⟩
 by_cases h8:k=8
 ·subst h8;rw[frm_8] at hf;exact ⟨_,frmL_iff.1 hf.2.2.2.2.2 x h⟩
 by_cases h9:k=9
 ·subst h9;rw[frm_9] at hf;exact ⟨_,frmL_iff.1 hf.2.2.2 x h⟩
 exfalso
 unfold frmN at hf
 omega
theorem boxC_len {a b:Rf} (ha:okP a.c a.r) (hb:okP b.c b.r):(boxC a b).length≤2574:=by
 unfold boxC
 rw[pairsL_len]
 obtain ⟨h1,h2,h3,h4⟩:=ha
 obtain ⟨h5,h6,h7,h8⟩:=hb
 have:(max a.r b.r - min a.r b.r+1).toNat * (max a.c b.c - min a.c b.c+1).toNat≤99 * 26:=Nat.mul_le_mul (by omega) (by omega)
 omega
theorem boxC_ok {a b:Rf} (ha:okP a.c a.r) (hb:okP b.c b.r):∀ p ∈ boxC a b,okP p.1 p.2:=fun p hp=>by
 unfold boxC pairsL at hp
 simp only[List.mem_flatMap,List.mem_map,List.mem_range] at hp
 obtain ⟨i,hi,j,hj,rfl⟩:=hp
 simp only
 omega
theorem boxC_box {a b:Rf} (ha:okP a.c a.r) (hb:okP b.c b.r):boxP (min a.c b.c) (min a.r b.r) (max a.c b.c) (max a.r b.r):=by omega
theorem own_ok {k m:Int} {t:List UInt8} {a b:Rf} {ks:List Nd} {box:Prop} (hf:frmN (.mk k m t a b ks) box):(ownC k a b).length≤2574∧∀ p ∈ ownC k a b,okP p.1 p.2:=by
 unfold ownC
 by_cases h5:k=5
 ·subst h5
  rw[frm_5] at hf
  rw[if_pos rfl]
  exact ⟨by simp,fun p hp=>by rw[List.mem_singleton.1 hp];exact hf.2.2.2.2⟩
 ·rw[if_neg h5]
  by_cases h6:k=6
  ·subst h6
   rw[frm_6] at hf
   rw[if_pos rfl]
   exact ⟨boxC_len hf.2.2.2.2.1 hf.2.2.2.2.2,boxC_ok hf.2.2.2.2.1 hf.2.2.2.2.2⟩
  ·rw[if_neg h6]
   exact ⟨by simp,fun p hp=>by cases hp⟩
theorem cellsK_few {ks:List Nd} (h:∀ x (h:x<ks.length),(cellsN ks[x]).length≤2574 * cntN ks[x]∧∀ p ∈ cellsN ks[x],okP p.1 p.2):∀ x,x≤ks.length→(cellsK (ks.take x)).length≤2574 * cntL (ks.take x)∧∀ p ∈ cellsK (ks.take x),okP p.1 p.2
 | 0,_=>by simp[cellsK]
 | x+1,hx=>by
  obtain ⟨h1,h2⟩:=cellsK_few h x (by omega)
  obtain ⟨h3,h4⟩:=h x hx
  have h5:=cntL_take (show x<ks.length from hx)
  rw[cellsK_take hx]
  refine ⟨?_,fun p hp=>?_⟩
  ·rw[List.length_append,h5]
   omega
  ·rcases List.mem_append.1 hp with hp|hp
   ·exact h2 p hp
   ·exact h4 p hp
theorem cellsN_few (n:Nd):∀ {box:Prop},frmN n box→(cellsN n).length≤2574 * cntN n∧∀ p ∈ cellsN n,okP p.1 p.2:=by
 match n with
 | .mk k m t a b ks =>
  intro box hf
  have ih:∀ x (h:x<ks.length),(cellsN ks[x]).length≤2574 * cntN ks[x]∧∀ p ∈ cellsN ks[x],okP p.1 p.2:=fun x h=>cellsN_few ks[x] (frm_kid hf x h).choose_spec
  obtain ⟨h1,h2⟩:=cellsK_few ih ks.length (Nat.le_refl _)
  rw[List.take_length] at h1 h2
  obtain ⟨h3,h4⟩:=own_ok hf
  rw[cellsN]
  refine ⟨?_,fun p hp=>?_⟩
  ·rw[List.length_append]
   unfold cntN
   omega
  ·rcases List.mem_append.1 hp with hp|hp
   ·exact h4 p hp
   ·exact h2 p hp
termination_by SizeOf.sizeOf n
decreasing_by
 simp only[Nd.mk.sizeOf_spec]
 have:=List.sizeOf_lt_of_mem (List.getElem_mem h)
 omega
end Go.Proofs.YtaheflnnigocgaaGreatDoor
end
section
namespace Go.Proofs.YtaheflnnigocgaaGreatDoor
open Go Go.EYtaheflnnigocgaaGreatDoor
theorem fitG1:FitsOne Tryz.prog 91 ⟨false,1,8,[.v .nilFunc],[],false,none,none,0,[],false,[]⟩:=⟨by kernel_rfl,rfl,rfl,by kernel_rfl,(fun h=>by cases h),by kernel_rfl⟩
theorem fitsG:Fits Tryz.prog ((91,⟨false,1,8,[.v .nilFunc],[],false,none,none,0,[],false,[]⟩)::tt) :=
 fits_cons fitG1 fits
end Go.Proofs.YtaheflnnigocgaaGreatDoor
end
section
namespace Go.Proofs.YtaheflnnigocgaaGreatDoor
open Go Go.EYtaheflnnigocgaaGreatDoor
set_option maxRecDepth 100000
set_option maxHeartbeats 4000000
variable {gl:List (Nat×List D)}
abbrev lkH (l:List (Int×Int)):List (Nat×Blk):=[(0,.var [.all 2 1] 39),(1,.rows 2 (l.map rowC) 24),(2,.var [.fn 39 [(0,0),(2,0)]] 91)]
theorem rowC_one:∀ l:List (Int×Int),allOne (l.map rowC)=true
 | []=>rfl
 | _::l=>rowC_one l
def LkOk (gl:List (Nat×List D)) (n:Nd):Prop:=∀ l:List (Int×Int),l.length+2574 * cntN n≤1048576→Go.EYtaheflnnigocgaaGreatDoor.Fn Tryz.prog gl 39 [.agg (ndC n),.c (.ptr 0 0),.c (.ptr 2 0)] (lkH l) 3 (.ret (.tup [])) (lkH (l++cellsN n)) 3 [1]
theorem look_5 (a b:Rf) (m:Int) (t:List UInt8):LkOk gl (.mk 5 m t a b []):=fun l hl=>by
 have hc:cellsN (.mk 5 m t a b [])=[(a.c,a.r)]:=by simp[cellsN,ownC,cellsK]
 have hn:cntN (.mk 5 m t a b [])=1:=by simp[cntN,cntL]
 rw[hn] at hl
 rw[hc]
 have hrl:(l.map rowC).length=l.length:=List.length_map _
 have b1:((l.map rowC).length+1) * 16≤140737488355328:=by omega
 have b2:(l.map rowC).length+1≤maxLen:=by unfold maxLen;omega
 refine fn_of_vc (nv:=9999) (cu:=[]) fitsG mixed Tryz.func39 rfl hoB rfl rfl rfl rfl ?_
 ((repeat' ((conv=>whnf);first|exact .intro|refine .ya ?_|refine .na ?_|refine .ys ?_|refine .ns ?_|refine .neg (fun _=>?_) (fun _=>?_)|refine .mk (fun _=>?_) (fun _=>?_)|(refine ⟨⟨rfl,b1,b2⟩,?_⟩)|refine .mk ?_ ?_|refine AK ?_|refine AT ?_|fail));all_goals conv=>whnf)
 refine ⟨{ σ:=Nat,fr:=fun x=>[(43,.c (.d (iD (x:Int))))],ks:=[],L:=fun x=>[],ex:=0,I:=fun x=>x=0,μ:=fun x=>0 },⟨0,rfl,?_⟩,fun (x:Nat) hx=>?_⟩
 ·((repeat' first|exact rfl|((conv=>whnf);first|done|exact suL|refine And.intro ?_ ?_|fail));all_goals conv=>whnf)
 ·obtain rfl:x=0:=hx
  have h0:¬ ((0:Nat):Int)<((Nd.csL []).length:Nat):=by decide
  ((repeat' ((conv=>whnf);first|exact .intro|refine .ya ?_|refine .na ?_|refine .ys ?_|refine .ns ?_|refine .neg (fun _=>?_) (fun _=>?_)|refine .mk (fun _=>?_) (fun _=>?_)|refine .mk ?_ ?_|refine AK ?_|refine AT ?_|fail));all_goals conv=>whnf)
  all_goals ((repeat' first|exact rfl|((conv=>whnf);first|done|exact suL|refine And.intro ?_ ?_|fail));all_goals conv=>whnf)
  all_goals first|(rw[List.map_append];rfl)|skip
theorem look_6 (a b:Rf) (m:Int) (t:List UInt8) (ha:okP a.c a.r) (hb:okP b.c b.r):LkOk gl (.mk 6 m t a b []):=fun l hl=>by
 have hc:cellsN (.mk 6 m t a b [])=boxC a b:=by simp[cellsN,ownC,cellsK]
 have hn:cntN (.mk 6 m t a b [])=1:=by simp[cntN,cntL]
 rw[hn] at hl
 rw[hc]
 have hrl:(l.map rowC).length=l.length:=List.length_map _
 have hbl:=boxC_len ha hb
 have hrb:((boxC a b).map rowC).length=(boxC a b).length:=List.length_map _
 have b1:((l.map rowC).length+((boxC a b).map rowC).length) * 16≤140737488355328:=by omega
 have b2:(l.map rowC).length+((boxC a b).map rowC).length≤maxLen:=by unfold maxLen;omega
 have b3:allOne ((boxC a b).map rowC)=true:=rowC_one _
 have c1:FnP Tryz.prog gl 40 [cellD a.c a.r,cellD b.c b.r] (.tup [boxD (min a.c b.c) (min a.r b.r) (max a.c b.c) (max a.r b.r),.v .nilIface]):=Box_s ha hb
 have c2:FnP Tryz.prog gl 41 [boxD (min a.c b.c) (min a.r b.r) (max a.c b.c) (max a.r b.r)] (.tup [.lst 2 ((boxC a b).map rowC),.v .nilIface]):=Cells_s (boxC_box ha hb)
 generalize boxC a b=cs at *
 refine fn_of_vc (nv:=9999) (cu:=[]) fitsG mixed Tryz.func39 rfl hoB rfl rfl rfl rfl ?_
 ((repeat' ((conv=>whnf);first|exact .intro|refine .ya ?_|refine .na ?_|refine .ys ?_|refine .ns ?_|refine .neg (fun _=>?_) (fun _=>?_)|refine .mk (fun _=>?_) (fun _=>?_)|refine .inl (.inl (X1 (by first|exact c1|exact c2) ?_))|refine .inl (X1 (by first|exact c1|exact c2) ?_)|refine X1 (by first|exact c1|exact c2) ?_|(refine ⟨⟨b3,b1,b2⟩,?_⟩)|refine .mk ?_ ?_|refine AK ?_|refine AT ?_|fail));all_goals conv=>whnf)
 refine ⟨{ σ:=Nat,fr:=fun x=>[(43,.c (.d (iD (x:Int))))],ks:=[],L:=fun x=>[],ex:=0,I:=fun x=>x=0,μ:=fun x=>0 },⟨0,rfl,?_⟩,fun (x:Nat) hx=>?_⟩
 ·((repeat' first|exact rfl|((conv=>whnf);first|done|exact suL|refine And.intro ?_ ?_|fail));all_goals conv=>whnf)
 ·obtain rfl:x=0:=hx
  have h0:¬ ((0:Nat):Int)<((Nd.csL []).length:Nat):=by decide
  ((repeat' ((conv=>whnf);first|exact .intro|refine .ya ?_|refine .na ?_|refine .ys ?_|refine .ns ?_|refine .neg (fun _=>?_) (fun _=>?_)|refine .mk (fun _=>?_) (fun _=>?_)|refine .mk ?_ ?_|refine AK ?_|refine AT ?_|fail));all_goals conv=>whnf)
  all_goals ((repeat' first|exact rfl|((conv=>whnf);first|done|exact suL|refine And.intro ?_ ?_|fail));all_goals conv=>whnf)
  all_goals first|(rw[List.map_append];rfl)|(rw[List.map_append];done)|skip
theorem look_k (k m:Int) (t:List UInt8) (a b:Rf) (ks:List Nd) (h5:¬ k=5) (h6:¬ k=6) (_hc:cntN (.mk k m t a b ks)≤200) (hfew:∀ x,x≤ks.length→(cellsK (ks.take x)).length≤2574 * cntL (ks.take x)) (ih:∀ x (h:x<ks.length),LkOk gl ks[x]):LkOk gl (.mk k m t a b ks):=fun l hl=>by
 have hcN:cellsN (.mk k m t a b ks)=cellsK ks:=by simp[cellsN,ownC,h5,h6]
 rw[hcN]
 have hlen:=kid_len ks
 have hlk:=len_cnt ks
 unfold cntN at hl _hc
 refine fn_of_vc (nv:=9999) (cu:=[]) fitsG mixed Tryz.func39 rfl hoB rfl rfl rfl rfl ?_
 ((repeat' ((conv=>whnf);first|exact .intro|refine .ya ?_|refine .na ?_|refine .ys ?_|refine .ns ?_|refine .neg (fun _=>?_) (fun _=>?_)|refine .mk (fun _=>?_) (fun _=>?_)|refine .mk ?_ ?_|refine AK ?_|refine AT ?_|fail));all_goals conv=>whnf)
 refine ⟨{ σ:=Nat,fr:=fun x=>[(43,.c (.d (iD (x:Int))))],ks:=[1],L:=fun x=>[(1,.rows 2 ((l++cellsK (ks.take x)).map rowC) 24)],ex:=0,I:=fun x=>x≤ks.length,μ:=fun x=>ks.length - x },⟨0,Nat.zero_le _,?_⟩,fun (x:Nat) hx=>?_⟩
 ·((repeat' first|exact rfl|((conv=>whnf);first|done|exact suL|refine And.intro ?_ ?_|fail));all_goals conv=>whnf)
  all_goals first|(simp[cellsK];done)|skip
 ·replace hx:x≤ks.length:=hx
  by_cases hlt:x<ks.length
  ·have h2:(x:Int)<((Nd.csL ks).length:Nat):=by omega
   have g1:=kid_get hlt
   have h7:=hfew x hx
   have h8:=cntL_take hlt
   have h9:=cntL_le ks (x+1)
   have c1:=ih x hlt (l++cellsK (ks.take x)) (by rw[List.length_append];omega)
   have hct:=cellsK_take hlt
   have e0:IntKind.i64.wrap ((x:Int)+1)=((x+1:Nat):Int):=by rw[wrapI (by omega)];rfl
   generalize ks[x]=q at *
   obtain ⟨k1,m1,t1,a1,b1,ks1⟩:=q
   change (Nd.csL ks)[((x:Nat):Int).toNat]?=some [iD k1,iD m1,.str t1,iD a1.c,iD a1.r,tD a1.fc,tD a1.fr,iD b1.c,iD b1.r,tD b1.fc,tD b1.fr,.lst 12 (Nd.csL ks1)] at g1
   ((repeat' ((conv=>whnf);first|exact .intro|refine .ya ?_|refine .na ?_|refine .ys ?_|refine .ns ?_|refine .neg (fun _=>?_) (fun _=>?_)|refine .mk (fun _=>?_) (fun _=>?_)|refine .inr (X5 (c1.r [0,1,2] _) ?_)|refine .inl (.inr (X5 (c1.r [0,1,2] _) ?_))|refine .inl (X5 (c1.r [0,1,2] _) ?_)|(refine ⟨Int.natCast_nonneg _,_,g1,?_⟩)|refine .mk ?_ ?_|refine AK ?_|refine AT ?_|fail));all_goals conv=>whnf)
   all_goals refine ⟨x+1,⟨hlt,by show ks.length - (x+1)<ks.length - x;omega⟩,?_⟩
   all_goals ((repeat' first|exact rfl|((conv=>whnf);first|done|exact suL|refine And.intro ?_ ?_|fail));all_goals conv=>whnf)
   all_goals first|exact ceq e0|(rw[hct,← List.append_assoc];done)|skip
  ·have h2:¬ (x:Int)<((Nd.csL ks).length:Nat):=by omega
   obtain rfl:x=ks.length:=by omega
   ((repeat' ((conv=>whnf);first|exact .intro|refine .ya ?_|refine .na ?_|refine .ys ?_|refine .ns ?_|refine .neg (fun _=>?_) (fun _=>?_)|refine .mk (fun _=>?_) (fun _=>?_)|refine .mk ?_ ?_|refine AK ?_|refine AT ?_|fail));all_goals conv=>whnf)
   all_goals ((repeat' first|exact rfl|((conv=>whnf);first|done|exact suL|refine And.intro ?_ ?_|fail));all_goals conv=>whnf)
   all_goals first|(rw[List.take_length];done)|skip
theorem look_h (n:Nd):∀ {box:Prop},frmN n box→cntN n≤200→LkOk gl n:=by
 match n with
 | .mk k m t a b ks =>
  intro box hf hc
  have hcx:∀ x (h:x<ks.length),cntN ks[x]≤200:=fun x h=>by
   have h1:=cntL_take h
   have h2:=cntL_le ks (x+1)
   unfold cntN at hc
   omega
  have hfx:=frm_kid hf
  have ih:∀ x (h:x<ks.length),LkOk gl ks[x]:=fun x h=>look_h ks[x] (hfx x h).choose_spec (hcx x h)
  have hfew:=cellsK_few (ks:=ks) fun x h=>cellsN_few ks[x] (hfx x h).choose_spec
  by_cases h5:k=5
  ·subst h5
   rw[frm_5] at hf
   obtain rfl:=List.eq_nil_of_length_eq_zero hf.1
   exact look_5 a b m t
  by_cases h6:k=6
  ·subst h6
   rw[frm_6] at hf
   obtain rfl:=List.eq_nil_of_length_eq_zero hf.2.1
   exact look_6 a b m t hf.2.2.2.2.1 hf.2.2.2.2.2
  exact look_k k m t a b ks h5 h6 hc (fun x hx=>(hfew x hx).1) ih
termination_by SizeOf.sizeOf n
decreasing_by
 simp only[Nd.mk.sizeOf_spec]
 have:=List.sizeOf_lt_of_mem (List.getElem_mem h)
 omega
end Go.Proofs.YtaheflnnigocgaaGreatDoor
end
