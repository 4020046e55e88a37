/- Proved: a part of what the law is proved with (the reckoner, contracts of functions, plain laws). Conditions: as each says. -/
import Derived.Laws.IdiomCopy
import Derived.Shelf.RegionOpenPlain
import Derived.WalkKit
import Derived.Deep.RegionLaw
import Derived.Lib.Walk
import Derived.Lib.SliceRun
import Derived.Test.YtdpigpahfiachaaGreatDoorZIg
import Derived.Test.YtdpigpahfiachaaGreatDoorZZc
section
namespace Go.Proofs.YtdpigpahfiachaaGreatDoor
open Go Go.RowKit Go.EYtdpigpahfiachaaGreatDoor
set_option maxRecDepth 100000
set_option maxHeartbeats 4000000
variable {gl:List (Nat×List D)}
theorem fnP_rows {P:Program} {f z e:Nat} {ds:List D} {l:List (List D)} (h:Go.EYtdpigpahfiachaaGreatDoor.Fn P gl f (ds.map vD) [] 0 (.ret (.c (.all z 0))) [(0,.rows z l e)] 1 []):FnP P gl f ds (.lst z l):=by
 intro w M xs hM hg hd
 have hW:WOk M (fun _=>none) [] 0 w:=⟨fun k B h=>(by cases h),fun _ _=>rfl,fun k B h=>(by cases h),fun k k' B B' b m m' h=>(by cases h),fun k B b m h=>(by cases h),hM⟩
 have hm:Mut M (fun _=>none) ([]:List (Nat×Blk))=M:=funext fun b=>propext ⟨fun h=>h.elim id fun ⟨k,B,n,h,_⟩=>(by cases h),.inl⟩
 have:=h.2.2.2 w M (fun _=>none) xs hW (by rw[hm];exact hg) (by rw[hm];exact fnP_of_fn.all2_vD hd)
 refine this.mono ?_
 rintro e' w' ⟨adr',hE,hW',_,hnew,x,rfl,hx⟩
 refine ⟨hE.mono fun k _ ⟨j,B,m,h,_⟩=>(by cases h),x,rfl,?_⟩
 refine rows_lst hW' (k:=0) (l:=l) (e:=e) rfl (fun b _ hb=>.inl hb) (fun b m ha hb=>?_) hx
 rcases hnew 0 _ b m rfl ha with ⟨k,B,m',h,_⟩|h
 ·cases h
 ·have:=hM b hb;omega
theorem FClone_d (l:List Fl) (hn:l.length≤65536):FnP Tryz.prog gl 58 [.lst 3 (l.map flD)] (.lst 3 (l.map flD)):=by
 by_cases h0:l=[]
 ·subst h0;exact FClone_0
 ·exact fnP_rows (FClone_x l h0 hn)
end Go.Proofs.YtdpigpahfiachaaGreatDoor
end
section
namespace Go.Proofs.YtdpigpahfiachaaGreatDoor
open Go Go.RowKit Go.EYtdpigpahfiachaaGreatDoor
set_option maxRecDepth 100000
def ovr (cur:Array Value):Nat→List Value→Array Value
 | _,[]=>cur
 | o,v::r=>ovr (cur.setIfInBounds o v) (o+1) r
theorem ovr_size:∀ (vs:List Value) (o:Nat) (cur:Array Value),(ovr cur o vs).size=cur.size
 | [],_,_=>rfl
 | v::r,o,cur=>by
  unfold ovr
  rw[ovr_size r]
  simp
theorem ovr_in:∀ (vs:List Value) (o:Nat) (cur:Array Value) (j:Nat) (v:Value),o+vs.length≤cur.size→vs[j]?=some v→(ovr cur o vs)[o+j]?=some v
 | x::r,o,cur,0,v,h,hv=>by
  unfold ovr
  have:∀ (r:List Value) (o:Nat) (cur:Array Value) (k:Nat),k<o→(ovr cur o r)[k]?=cur[k]?:=by
   intro r
   induction r with
   | nil=>intro o cur k _;rfl
   | cons y r ih =>
    intro o cur k hk
    unfold ovr
    rw[ih (o+1) _ k (by omega),Array.getElem?_setIfInBounds_ne (by omega)]
  show (ovr (cur.setIfInBounds o x) (o+1) r)[o]?=some v
  rw[this r (o+1) _ o (by omega),Array.getElem?_setIfInBounds_self]
  simp at h hv ⊢
  exact ⟨by omega,hv⟩
 | x::r,o,cur,j+1,v,h,hv=>by
  unfold ovr
  rw[show o+(j+1)=o+1+j by omega]
  exact ovr_in r (o+1) _ j v (by simp at h ⊢;omega) (by simpa using hv)
theorem ovr_out:∀ (vs:List Value) (o:Nat) (cur:Array Value) (k:Nat),k<o∨o+vs.length≤k→(ovr cur o vs)[k]?=cur[k]?
 | [],_,_,_,_=>rfl
 | x::r,o,cur,k,h=>by
  unfold ovr
  rw[ovr_out r (o+1) _ k (by simp at h;omega),Array.getElem?_setIfInBounds_ne (by simp at h;omega)]
theorem setRow_twice (w:World) (b:Nat) (x y:Array Value):(w.setRow b x).setRow b y=w.setRow b y:=by
 unfold World.setRow
 simp only[World.mk.injEq,and_true]
 apply Array.ext
 ·simp
 ·intro i h1 h2
  simp only[Array.getElem_modify]
  split
  ·have hi:i<w.heap.size:=by simpa using h2
   cases h:w.heap[i]'hi <;> simp
  ·rfl
theorem setCell_row {w:World} {b o:Nat} {cur:Array Value} {t:TypeId} {f:Nat×Nat} (h:w.heap[b]?=some (Obj.cells cur t f)) (v:Value):w.setCell ⟨b,o,none⟩ v=w.setRow b (cur.setIfInBounds o v):=by
 obtain ⟨hb,he⟩:=Array.getElem?_eq_some_iff.1 h
 unfold World.setCell World.setRow
 simp only[World.mk.injEq,and_true]
 apply Array.ext
 ·simp
 ·intro i h1 h2
  simp only[Array.getElem_modify]
  split
  ·rename_i hi
   subst hi
   simp[he]
  ·rfl
theorem heap_setRow {w:World} {b:Nat} {cur:Array Value} {t:TypeId} {f:Nat×Nat} (h:w.heap[b]?=some (Obj.cells cur t f)) (x:Array Value):(w.setRow b x).heap[b]?=some (Obj.cells x t f):=by
 obtain ⟨hb,he⟩:=Array.getElem?_eq_some_iff.1 h
 unfold World.setRow
 simp[Array.getElem?_modify,h]
theorem setCells_row {b:Nat} {t:TypeId} {f:Nat×Nat}:∀ (vs:List Value) (o:Nat) {w:World} {cur:Array Value},w.heap[b]?=some (Obj.cells cur t f)→w.setCells b o vs=w.setRow b (ovr cur o vs)
 | [],o,w,cur,h=>(setRow_self w b cur t f h).symm
 | v::r,o,w,cur,h=>by
  show (w.setCell ⟨b,o,none⟩ v).setCells b (o+1) r=w.setRow b (ovr (cur.setIfInBounds o v) (o+1) r)
  rw[setCell_row h v,setCells_row r (o+1) (heap_setRow h _),setRow_twice]
end Go.Proofs.YtdpigpahfiachaaGreatDoor
end
section
namespace Go.Proofs.YtdpigpahfiachaaGreatDoor
open Go Go.RowKit Go.Lib Go.EYtdpigpahfiachaaGreatDoor
set_option maxRecDepth 100000
set_option maxHeartbeats 4000000
abbrev z3:List Value:=[.int .i64 0,.int .i64 0,.string ⟨#[]⟩]
theorem run_clear3 (w:World) (ty:TypeId) (b o c:Nat) (hc:∀ j,j<3→(w.cell? ⟨b,o+j,none⟩).isSome=true) (hf:∀ j,j<3→w.frozen? ⟨b,o+j,none⟩=false) :
 (Builtin.clear_ #[38] ty #[.slice (some ⟨b,o,none⟩) 1 c]).run Tryz.prog w=.ok (.tuple #[]) (w.setCells b o z3):=by
 have hv:∀ w,(zeroValue 44).run Tryz.prog w=.ok (.agg #[.int .i64 0,.int .i64 0,.string ⟨#[]⟩]) w:=fun w=>by kernel_rfl
 have hst:=run_storeCells_cells (P:=Tryz.prog) b o z3 0 w (by simpa using hc) (by simpa using hf) (by decide)
 simp only[Nat.add_zero] at hst
 have hz:(Builtin.zeroCells (Value.agg #[.int .i64 0,.int .i64 0,.string ⟨#[]⟩]).cells 1).toList=z3:=by simp[Builtin.zeroCells,Value.cells];rfl
 simp[Builtin.clear_,run_underlying Tryz.underlying38,hv,hz,hst]
theorem del_calls (b n c i j:Nat) (cur:Array Value) (news:List Value) (w:World) (hh:w.heap[b]?=some (Obj.cells cur 44 (0,0))) (hs:cur.size=c * 3) (hn:n≤c) (_hc:c≤maxLen) (hj:j=i+1) (hi:i<n)
 (hl:news.length=(n - j) * 3) (hnews:∀ k u,news[k]?=some u→cur[j * 3+k]?=some u) (h1:∀ u ∈ news,u.oneCell'=true) :
 Calls Tryz.prog 105 #[.slice (some ⟨b,0,none⟩) n c,.int .i64 i,.int .i64 (j:Nat)] w fun e w'=>e=.returned (.slice (some ⟨b,0,none⟩) (n - 1) c)∧w'=w.drew.setRow b (ovr (ovr cur (i * 3) news) ((n - 1) * 3) z3):=by
 obtain ⟨i0,hi0,hz0,hz1,hz2⟩:=info_parts (show (Tryz.prog.info? 44).map (fun i=>(i.zero,i.size,i.bytes))=some (some (.agg #[.int .i64 0,.int .i64 0,.string ⟨#[]⟩]),3,32) by kernel_rfl)
 have hcell:∀ (w':World) (cur':Array Value),w'.heap[b]?=some (Obj.cells cur' 44 (0,0))→∀ k,w'.cell? ⟨b,k,none⟩=cur'[k]?:=fun w' cur' h k=>by simp[World.cell?,h]
 have hfroz:∀ (w':World) (cur':Array Value),w'.heap[b]?=some (Obj.cells cur' 44 (0,0))→∀ k,w'.frozen? ⟨b,k,none⟩=false:=fun w' cur' h k=>by simp[World.frozen?,h]
 have hhd:w.drew.heap[b]?=some (Obj.cells cur 44 (0,0)):=hh
 obtain ⟨A,hA,hsrc⟩:∃ A:Addr,(if c=j then some (⟨b,0,none⟩:Addr) else some ⟨b,j * 3,none⟩)=some A∧Hid (∀ t u,news[t]?=some u→w.drew.cell? (A.add t)=some u):=by
  by_cases h:c=j
  ·refine ⟨⟨b,0,none⟩,by simp[h],fun t u hu=>?_⟩
   have h0:news.length=0:=by rw[hl];omega
   rw[List.length_eq_zero_iff.1 h0] at hu
   simp at hu
  ·refine ⟨⟨b,j * 3,none⟩,by simp[h],fun t u hu=>?_⟩
   rw[Addr.add_lit,hcell _ _ hhd]
   exact hnews t u hu
 have s1:Hid (news.length=(n - j) * 3):=hl
 have s2:Hid (∀ u ∈ news,u.oneCell'=true):=h1
 have s3:Hid (∀ t,t<news.length→(w.drew.cell? ⟨b,0+i * 3+t,none⟩).isSome=true∧w.drew.frozen? ⟨b,0+i * 3+t,none⟩=false):=by
  intro t ht
  rw[hl] at ht
  refine ⟨?_,hfroz _ _ hhd _⟩
  rw[hcell _ _ hhd,Array.getElem?_eq_getElem (by omega)]
  rfl
 obtain ⟨W1,hW1⟩:∃ W1,W1=w.drew.setCells b (0+i * 3) news:=⟨_,rfl⟩
 have hW1':W1=w.drew.setRow b (ovr cur (i * 3) news):=by rw[hW1,Nat.zero_add];exact setCells_row _ _ hhd
 have hh1:W1.heap[b]?=some (Obj.cells (ovr cur (i * 3) news) 44 (0,0)):=by rw[hW1'];exact heap_setRow hhd _
 have hcl:∀ ty,(Builtin.clear_ #[38] ty #[.slice (some ⟨b,(i+(n - j)) * 3,none⟩) (n - (i+(n - j))) (c - (i+(n - j)))]).run Tryz.prog W1=.ok (.tuple #[]) (W1.setCells b ((n - 1) * 3) z3):=fun ty=>by
  rw[show i+(n - j)=n - 1 by omega,show n - (n - 1)=1 by omega]
  refine run_clear3 W1 ty b _ _ (fun k hk=>?_) (fun k hk=>hfroz _ _ hh1 _)
  rw[hcell _ _ hh1,Array.getElem?_eq_getElem (by rw[ovr_size];omega)]
  rfl
 have X:Aside (W1.setCells b ((n - 1) * 3) z3=w.drew.setRow b (ovr (ovr cur (i * 3) news) ((n - 1) * 3) z3)):=by
  rw[setCells_row _ _ hh1,hW1',setRow_twice]
  exact rfl
 have hW:Hid (W1=w.drew.setCells b (0+i * 3) news):=hW1
 have hne:¬ c=i+(n - j):=by omega
 have hic:i≤c:=by omega
 have hjc:j≤c:=by omega
 have hij:¬ i=j:=by omega
 have hjn:j≤n:=by omega
 have hil:i≤j:=by omega
 have hlo:i+(n - j)≤n:=by omega
 have hlc:i+(n - j)≤c:=by omega
 clear hW1 hW1' hh1 hh hhd hnews hl h1 hcell hfroz
 have mixed':=mixed
 have HJ:Aside (j=i+1):=hj
 clear hj hi
 go_enter Tryz.func105,Tryz.ntmps105
 go_wp2
 go_region_law_o (refine step_append_room rfl (.tmp 22) (.tmp 25) 38 rfl 44 i0 3 Tryz.underlying38 hi0 hz1 b 0 i c (by simp[Act.eval,Act.put]) A (n - j) (c - j) news (by simp[Act.eval,Act.put]) s1.out hsrc.out s2.out (by omega) s3.out ?_;rw[← hW.out])
 go_wp2
 go_ret
 have hjj:=HJ.out
 refine ⟨by rw[show n - 1=i+(n - j) by omega];rfl,X.out⟩
end Go.Proofs.YtdpigpahfiachaaGreatDoor
end
section
namespace Go.Proofs.YtdpigpahfiachaaGreatDoor
open Go Go.RowKit Go.EYtdpigpahfiachaaGreatDoor
set_option maxRecDepth 100000
set_option maxHeartbeats 4000000
variable {gl:List (Nat×List D)}
theorem in_place {M0:Nat→Prop} {adr:Env} {w:World} {b n c z e:Nat} {cur cur2:Array Value} {l l':List (List D)} (hW:WOk M0 adr [(0,.rows z l e)] 1 w) (ha:adr 0=some (some b,n)) (hh:w.heap[b]?=some (Obj.cells cur e (0,0))) (hs2:cur2.size=cur.size)
 (hs:cur.size=c * z) (hz:0<z) (hr:∀ r ∈ l',r.length=z) (hl:l'.length≤c) (hc:c≤maxLen) (hden:DenL (Mut M0 adr [(0,.rows z l e)]) w l'.flatten (cur2.toList.take (l'.length * z))) :
 ∃ adr':Env,Evo (Trk adr [(0,.rows z l e)]) w (w.drew.setRow b cur2)∧WOk M0 adr' [(0,.rows z l' e)] 1 (w.drew.setRow b cur2)∧(∀ k,k<1→k ∉ [0]→adr' k=adr k)∧(∀ k B b' m,Go.EYtdpigpahfiachaaGreatDoor.look [(0,Blk.rows z l' e)] k=some B→adr' k=some (some b',m)→Trk adr [(0,.rows z l e)] b'∨w.heap.size≤b')∧
  RetOk adr' (Mut M0 adr' [(0,.rows z l' e)]) (w.drew.setRow b cur2) (.ret (.c (.all z 0))) (.returned (.slice (some ⟨b,0,none⟩) l'.length c)):=by
 have hT:Trk adr [(0,.rows z l e)] b:=⟨0,_,n,rfl,ha⟩
 have hE:Evo (Trk adr [(0,.rows z l e)]) w (w.drew.setRow b cur2):=(Evo.drew _ w).trans (Evo.setRow (w:=w.drew) (cur:=cur) hh hs2 hT)
 have hh2:(w.drew.setRow b cur2).heap[b]?=some (Obj.cells cur2 e (0,0)):=heap_setRow (w:=w.drew) hh cur2
 have hb:b<w.heap.size:=(Array.getElem?_eq_some_iff.1 hh).1
 have hsz:(w.drew.setRow b cur2).heap.size=w.heap.size:=by show (Array.modify _ _ _).size=_;rw[Array.size_modify];rfl
 have hM:∀ x,Mut M0 (fun k=>if k=0 then some (some b,l'.length) else adr k) [(0,.rows z l' e)] x→Mut M0 adr [(0,.rows z l e)] x:=by
  rintro x (h|⟨k,B,m,h1,h2⟩)
  ·exact .inl h
  ·match k,h1 with
   | 0,_ =>
    cases h2
    exact .inr ⟨0,_,n,rfl,ha⟩
 refine ⟨fun k=>if k=0 then some (some b,l'.length) else adr k,hE,⟨?_,?_,?_,?_,?_,?_⟩,fun k hk hn=>absurd (by simp;omega) hn,?_,_,rfl,.inr ⟨b,l'.length,c,cur2,e,(0,0),rfl,hh2,by rw[hs2];exact hs,hl,hc,rfl⟩⟩
 ·intro k B h
  match k,h with
  | 0,_=>decide
 ·intro k hk
  show (if k=0 then _ else adr k)=none
  rw[if_neg (by omega)]
  exact hW.fresh k hk
 ·intro k B h
  match k,h with
  | 0,h =>
   cases h
   refine ⟨hz,rfl,hr,cur2,c,hh2,by rw[hs2];exact hs,hl,hc,?_⟩
   exact DenL.evo hE (fun x _ ⟨k,B,m,h1,h2⟩=>.inr ⟨k,B,m,h1,h2⟩) (fun x _ h=>hM x h) hden
 ·intro k k' B B' b' m m' h h' _ _
  match k,k',h,h' with
  | 0,0,_,_=>rfl
 ·intro k B b' m h he hm
  match k,h with
  | 0,_ =>
   cases he
   exact hW.prot 0 _ b n rfl ha hm
 ·intro b' hm
  rw[hsz]
  exact hW.bound b' hm
 ·intro k B b' m h he
  match k,h with
  | 0,_ =>
   cases he
   exact .inl hT
theorem flat_erase {z:Nat}:∀ {l:List (List D)} {i:Nat} (_:∀ r ∈ l,r.length=z) (_:i<l.length),(l.eraseIdx i).flatten=l.flatten.take (i * z)++l.flatten.drop ((i+1) * z)
 | r::l,0,hz,_=>by
  have hr:=hz r (by simp)
  simp[← hr]
 | r::l,i+1,hz,h=>by
  have hr:=hz r (by simp)
  have ih:=flat_erase (l:=l) (i:=i) (fun r hr=>hz r (by simp[hr])) (by simpa using h)
  show r++(l.eraseIdx i).flatten=(r++l.flatten).take ((i+1) * z)++(r++l.flatten).drop ((i+1+1) * z)
  have e1:(i+1) * z - z=i * z:=by rw[Nat.succ_mul];omega
  have e2:(i+1+1) * z - z=(i+1) * z:=by rw[Nat.succ_mul (i+1)];omega
  have h1:r.length≤(i+1) * z:=by rw[hr,Nat.succ_mul];omega
  have h2:r.length≤(i+1+1) * z:=by rw[hr,Nat.succ_mul (i+1)];omega
  rw[ih,List.take_append,List.drop_append,List.take_of_length_le h1,List.drop_of_length_le h2,hr,e1,e2]
  simp
end Go.Proofs.YtdpigpahfiachaaGreatDoor
end
