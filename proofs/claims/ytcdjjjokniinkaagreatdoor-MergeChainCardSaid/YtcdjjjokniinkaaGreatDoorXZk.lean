/- Proved: a part of what the law is proved with (the reckoner, contracts of functions, plain laws). Conditions: as each says. -/
import Derived.Laws.IdiomCopy
import Derived.Shelf.RegionOpenPlain
import Derived.WalkKit
import Derived.Deep.RegionLaw
import Derived.Lib.Walk
import Derived.Lib.SliceRun
import Derived.Lib.JoinLaws
import Derived.Lib.AppendZeros
import Derived.Lib.Overlaps
import Derived.Laws.Externs
import Derived.Test.YtcdjjjokniinkaaGreatDoorXAd
import Derived.Test.YtcdjjjokniinkaaGreatDoorXGi
import Derived.Test.YtcdjjjokniinkaaGreatDoorXIe
section
namespace Go.Proofs.YtcdjjjokniinkaaGreatDoor
open Go Go.EYtcdjjjokniinkaaGreatDoor
set_option maxRecDepth 100000
set_option maxHeartbeats 2000000
variable {gl:List (Nat×List D)}
abbrev ndB (n:Nd):Blk:=.var (ndC n) 38
abbrev inB (i:Int):Blk:=.var [.d (iD i)] 3
abbrev erB (d:D):Blk:=.var [.d d] 24
abbrev n00:Nd:=.mk 0 0 [] z0 z0 []
theorem parse1_none (n:Nd) (i:Int) (d:D):FnD Tryz.prog gl 65 [.c (.ptr 0 0),.c (.ptr 1 0),.c (.ptr 2 0)] [(0,ndB n),(1,inB i),(2,erB d)] 4 none [(0,ndB n),(1,inB i),(2,erB d)] 4:=by
 obtain ⟨k,m,t,a,b,ks⟩:=n
 refine fnD_of_vc (nv:=9999) (cu:=[]) fits mixed Tryz.func65 rfl rfl rfl rfl rfl rfl rfl rfl rfl rfl rfl rfl rfl ?_
 ((repeat' ((conv=>whnf);first|exact .intro|refine .ya ?_|refine .na ?_|refine .ys ?_|refine .ns ?_|refine .neg (fun _=>?_) (fun _=>?_)|refine .mk (fun _=>?_) (fun _=>?_)|refine .mk ?_ ?_|refine AK ?_|refine AT ?_|fail));all_goals conv=>whnf)
 ((repeat' first|exact rfl|((conv=>whnf);first|done|exact suL|refine And.intro ?_ ?_|fail));all_goals conv=>whnf)
theorem parse1_some (n:Nd) (i:Int) (d:D) (q:Nat) (e:Int):FnD Tryz.prog gl 65 [.c (.ptr 0 0),.c (.ptr 1 0),.c (.ptr 2 0)] [(0,ndB n),(1,inB i),(2,erB d)] 4 (some (.d (fltD q e))) [(0,ndB n00),(1,inB q),(2,erB (erD e))] 4:=by
 obtain ⟨k,m,t,a,b,ks⟩:=n
 refine fnD_of_vc (nv:=9999) (cu:=[]) fits mixed Tryz.func65 rfl rfl rfl rfl rfl rfl rfl rfl rfl rfl rfl rfl rfl ?_
 ((repeat' ((conv=>whnf);first|exact .intro|refine .ya ?_|refine .na ?_|refine .ys ?_|refine .ns ?_|refine .neg (fun _=>?_) (fun _=>?_)|refine .mk (fun _=>?_) (fun _=>?_)|refine .mk ?_ ?_|refine AK ?_|refine AT ?_|fail));all_goals conv=>whnf)
 ((repeat' first|exact rfl|((conv=>whnf);first|done|exact suL|refine And.intro ?_ ?_|fail));all_goals conv=>whnf)
 all_goals first|exact lf0|exact ln0
abbrev zNB:Blk:=.var [.d (iD 0),.d (iD 0),.d (.str []),.d (iD 0),.d (iD 0),.d (.v (.bool false)),.d (.v (.bool false)),.d (iD 0),.d (iD 0),.d (.v (.bool false)),.d (.v (.bool false)),.d (.v (.slice none 0 0))] 38
theorem parse1_zero (i:Int) (d:D) (q:Nat) (e:Int):FnD Tryz.prog gl 65 [.c (.ptr 0 0),.c (.ptr 1 0),.c (.ptr 2 0)] [(0,zNB),(1,inB i),(2,erB d)] 4 (some (.d (fltD q e))) [(0,ndB n00),(1,inB q),(2,erB (erD e))] 4:=by
 refine fnD_of_vc (nv:=9999) (cu:=[]) fits mixed Tryz.func65 rfl rfl rfl rfl rfl rfl rfl rfl rfl rfl rfl rfl rfl ?_
 ((repeat' ((conv=>whnf);first|exact .intro|refine .ya ?_|refine .na ?_|refine .ys ?_|refine .ns ?_|refine .neg (fun _=>?_) (fun _=>?_)|refine .mk (fun _=>?_) (fun _=>?_)|refine .mk ?_ ?_|refine AK ?_|refine AT ?_|fail));all_goals conv=>whnf)
 ((repeat' first|exact rfl|((conv=>whnf);first|done|exact suL|refine And.intro ?_ ?_|fail));all_goals conv=>whnf)
 all_goals first|exact lf0|exact ln0
def partD:Bool×List C→Option D
 | (true,l)=>(dsOf l).map .agg
 | (false,[.d x])=>some x
 | _=>none
def partsD:List (Bool×List C)→Option (List D)
 | []=>some []
 | p::r=>match partD p,partsD r with
  | some d,some l=>some (d::l)
  | _,_=>none
def dOfV:V→Option D
 | .c (.d x)=>some x
 | .agg l=>(dsOf l).map .agg
 | .tup l=>(partsD l).map .tup
 | _=>none
theorem dsOf_den {adr:Env} {M:Nat→Prop} {w:World} {l:List C} {ds:List D} {xs:List Value} (h:dsOf l=some ds) (hd:DenCs adr M w l xs):DenL M w ds xs:=by
 rw[dsOf_ok h] at hd
 exact (All2.map_left (f:=C.d)).1 hd
theorem partD_den {adr:Env} {M:Nat→Prop} {w:World} {p:Bool×List C} {d:D} {x:Value} (h:partD p=some d) (hd:DenT adr M w p x):DenD M w d x:=by
 obtain ⟨b,l⟩:=p
 cases b with
 | true =>
  obtain ⟨ds,h1,rfl⟩:=Option.map_eq_some_iff.1 (show (dsOf l).map .agg=some d from h)
  obtain ⟨xs,rfl,hx⟩:=hd
  exact DenD.agg_mk (dsOf_den h1 hx)
 | false =>
  unfold partD at h
  split at h
  ·rename_i e;cases e
  ·rename_i y e
   cases e
   cases h
   obtain ⟨c,h1,h2⟩:=hd
   cases h1
   exact h2
  ·cases h
theorem partsD_den {adr:Env} {M:Nat→Prop} {w:World}:∀ {l:List (Bool×List C)} {ds:List D} {xs:List Value},partsD l=some ds→All2 (DenT adr M w) l xs→DenL M w ds xs
 | [],ds,[],h,_=>by cases h;trivial
 | p::r,ds,x::xs,h,hd=>by
  unfold partsD at h
  split at h
  ·rename_i d l h1 h2
   cases h
   exact ⟨partD_den h1 hd.1,partsD_den h2 hd.2⟩
  ·cases h
 | [],_,_::_,_,h=>h.elim
 | _::_,_,[],_,h=>h.elim
theorem dOfV_den {adr:Env} {M:Nat→Prop} {w:World} {v:V} {d:D} {x:Value} (h:dOfV v=some d) (hd:DenV adr M w v x):DenD M w d x:=by
 unfold dOfV at h
 split at h
 ·cases h;exact hd
 ·obtain ⟨ds,h1,rfl⟩:=Option.map_eq_some_iff.1 h
  obtain ⟨xs,rfl,hx⟩:=hd
  exact DenD.agg_mk (dsOf_den h1 hx)
 ·obtain ⟨ds,h1,rfl⟩:=Option.map_eq_some_iff.1 h
  obtain ⟨xs,rfl,hx⟩:=hd
  exact DenD.tup_mk (partsD_den h1 hx)
 ·cases h
theorem fnP_of_fn {P:Program} {f:Nat} {ds:List D} {v:V} {r:D} (h:Go.EYtcdjjjokniinkaaGreatDoor.Fn P gl f (ds.map vD) [] 0 (.ret v) [] 0 []) (hv:dOfV v=some r):FnP P gl f ds r:=by
 intro w M xs hM hg hd
 have hW:WOk M (fun _=>none) [] 0 w:=⟨fun k B h=>(by cases h),fun _ _=>rfl,fun k B h=>(by cases h),fun k k' B B' b m m' h=>(by cases h),fun k B b m h=>(by cases h),hM⟩
 have hm:Mut M (fun _=>none) ([]:List (Nat×Blk))=M:=funext fun b=>propext ⟨fun h=>h.elim id fun ⟨k,B,n,h,_⟩=>(by cases h),.inl⟩
 have:=h.2.2.2 w M (fun _=>none) xs hW (by rw[hm];exact hg) (by rw[hm];exact all2_vD hd)
 refine this.mono ?_
 rintro e w' ⟨adr',hE,hW',_,_,x,rfl,hx⟩
 have hm':Mut M adr' ([]:List (Nat×Blk))=M:=funext fun b=>propext ⟨fun h=>h.elim id fun ⟨k,B,n,h,_⟩=>(by cases h),.inl⟩
 rw[hm'] at hx
 exact ⟨hE.mono fun k _ ⟨j,B,m,h,_⟩=>(by cases h),x,rfl,dOfV_den hv hx⟩
where
 all2_vD:∀ {ds:List D} {xs:List Value} {M:Nat→Prop} {w:World} {adr:Env},DenL M w ds xs→All2 (DenV adr M w) (ds.map vD) xs
  | [],[],_,_,_,_=>trivial
  | d::ds,x::xs,_,_,_,h=>⟨vD_den h.1,all2_vD h.2⟩
  | [],_::_,_,_,_,h=>h.elim
  | _::_,[],_,_,_,h=>h.elim
theorem FnP.le {P:Program} {f:Nat} {ds:List D} {r r':D} (h:FnP P gl f ds r) (hr:LeD r r'):FnP P gl f ds r':=fun w M xs hM hg hd=>(h w M xs hM hg hd).mono fun _e _w' ⟨hE,x,he,hx⟩=>⟨hE,x,he,hr.1 _ _ _ hx⟩
theorem Constant_d (s:List UInt8) {b:Bool} (hb:b=!decide (s.head?=some 61)):FnP Tryz.prog gl 33 [.str s] (.v (.bool b)):=by
 have c1:=HasPrefix_d (gl:=gl) s [61] (b:=decide (s.head?=some 61)) (by
  cases s with
  | nil=>rfl
  | cons c r=>by_cases h:c=61 <;> simp[h])
 subst hb
 cases hc:decide (s.head?=some 61) with
 | true =>
  rw[hc] at c1
  refine fnP_of_vc (nv:=9999) (cu:=[]) fits mixed Tryz.func33 rfl hoB rfl ?_
  ((repeat' ((conv=>whnf);first|exact .intro|refine .ya ?_|refine .na ?_|refine .ys ?_|refine .ns ?_|refine .neg (fun _=>?_) (fun _=>?_)|refine .mk (fun _=>?_) (fun _=>?_)|refine .inl (.inl (X1 (c1) ?_))|refine .inl (X1 (c1) ?_)|refine X1 (c1) ?_|refine .mk ?_ ?_|refine AK ?_|refine AT ?_|fail));all_goals conv=>whnf)
  exact LeD.rfl
 | false =>
  rw[hc] at c1
  refine fnP_of_vc (nv:=9999) (cu:=[]) fits mixed Tryz.func33 rfl hoB rfl ?_
  ((repeat' ((conv=>whnf);first|exact .intro|refine .ya ?_|refine .na ?_|refine .ys ?_|refine .ns ?_|refine .neg (fun _=>?_) (fun _=>?_)|refine .mk (fun _=>?_) (fun _=>?_)|refine .inl (.inl (X1 (c1) ?_))|refine .inl (X1 (c1) ?_)|refine X1 (c1) ?_|refine .mk ?_ ?_|refine AK ?_|refine AT ?_|fail));all_goals conv=>whnf)
  exact LeD.rfl
end Go.Proofs.YtcdjjjokniinkaaGreatDoor
end
section
namespace Go.Proofs.YtcdjjjokniinkaaGreatDoor
open Go Go.RowKit Go.EYtcdjjjokniinkaaGreatDoor
set_option maxRecDepth 100000
set_option maxHeartbeats 4000000
variable {gl:List (Nat×List D)}
theorem fnP_rows {P:Program} {f z e:Nat} {ds:List D} {l:List (List D)} (h:Go.EYtcdjjjokniinkaaGreatDoor.Fn P gl f (ds.map vD) [] 0 (.ret (.c (.all z 0))) [(0,.rows z l e)] 1 []):FnP P gl f ds (.lst z l):=by
 intro w M xs hM hg hd
 have hW:WOk M (fun _=>none) [] 0 w:=⟨fun k B h=>(by cases h),fun _ _=>rfl,fun k B h=>(by cases h),fun k k' B B' b m m' h=>(by cases h),fun k B b m h=>(by cases h),hM⟩
 have hm:Mut M (fun _=>none) ([]:List (Nat×Blk))=M:=funext fun b=>propext ⟨fun h=>h.elim id fun ⟨k,B,n,h,_⟩=>(by cases h),.inl⟩
 have:=h.2.2.2 w M (fun _=>none) xs hW (by rw[hm];exact hg) (by rw[hm];exact fnP_of_fn.all2_vD hd)
 refine this.mono ?_
 rintro e' w' ⟨adr',hE,hW',_,hnew,x,rfl,hx⟩
 refine ⟨hE.mono fun k _ ⟨j,B,m,h,_⟩=>(by cases h),x,rfl,?_⟩
 refine rows_lst hW' (k:=0) (l:=l) (e:=e) rfl (fun b _ hb=>.inl hb) (fun b m ha hb=>?_) hx
 rcases hnew 0 _ b m rfl ha with ⟨k,B,m',h,_⟩|h
 ·cases h
 ·have:=hM b hb;omega
theorem FClone_d (l:List Fl) (hn:l.length≤65536):FnP Tryz.prog gl 19 [.lst 3 (l.map flD)] (.lst 3 (l.map flD)):=by
 by_cases h0:l=[]
 ·subst h0;exact FClone_0
 ·exact fnP_rows (FClone_x l h0 hn)
end Go.Proofs.YtcdjjjokniinkaaGreatDoor
end
section
namespace Go.Proofs.YtcdjjjokniinkaaGreatDoor
open Go Go.RowKit Go.EYtcdjjjokniinkaaGreatDoor
set_option maxRecDepth 100000
def ovr (cur:Array Value):Nat→List Value→Array Value
 | _,[]=>cur
 | o,v::r=>ovr (cur.setIfInBounds o v) (o+1) r
theorem ovr_size:∀ (vs:List Value) (o:Nat) (cur:Array Value),(ovr cur o vs).size=cur.size
 | [],_,_=>rfl
 | v::r,o,cur=>by
  unfold ovr
  rw[ovr_size r]
  simp
theorem ovr_in:∀ (vs:List Value) (o:Nat) (cur:Array Value) (j:Nat) (v:Value),o+vs.length≤cur.size→vs[j]?=some v→(ovr cur o vs)[o+j]?=some v
 | x::r,o,cur,0,v,h,hv=>by
  unfold ovr
  have:∀ (r:List Value) (o:Nat) (cur:Array Value) (k:Nat),k<o→(ovr cur o r)[k]?=cur[k]?:=by
   intro r
   induction r with
   | nil=>intro o cur k _;rfl
   | cons y r ih =>
    intro o cur k hk
    unfold ovr
    rw[ih (o+1) _ k (by omega),Array.getElem?_setIfInBounds_ne (by omega)]
  show (ovr (cur.setIfInBounds o x) (o+1) r)[o]?=some v
  rw[this r (o+1) _ o (by omega),Array.getElem?_setIfInBounds_self]
  simp at h hv ⊢
  exact ⟨by omega,hv⟩
 | x::r,o,cur,j+1,v,h,hv=>by
  unfold ovr
  rw[show o+(j+1)=o+1+j by omega]
  exact ovr_in r (o+1) _ j v (by simp at h ⊢;omega) (by simpa using hv)
theorem ovr_out:∀ (vs:List Value) (o:Nat) (cur:Array Value) (k:Nat),k<o∨o+vs.length≤k→(ovr cur o vs)[k]?=cur[k]?
 | [],_,_,_,_=>rfl
 | x::r,o,cur,k,h=>by
  unfold ovr
  rw[ovr_out r (o+1) _ k (by simp at h;omega),Array.getElem?_setIfInBounds_ne (by simp at h;omega)]
theorem setRow_twice (w:World) (b:Nat) (x y:Array Value):(w.setRow b x).setRow b y=w.setRow b y:=by
 unfold World.setRow
 simp only[World.mk.injEq,and_true]
 apply Array.ext
 ·simp
 ·intro i h1 h2
  simp only[Array.getElem_modify]
  split
  ·have hi:i<w.heap.size:=by simpa using h2
   cases h:w.heap[i]'hi <;> simp
  ·rfl
theorem setCell_row {w:World} {b o:Nat} {cur:Array Value} {t:TypeId} {f:Nat×Nat} (h:w.heap[b]?=some (Obj.cells cur t f)) (v:Value):w.setCell ⟨b,o,none⟩ v=w.setRow b (cur.setIfInBounds o v):=by
 obtain ⟨hb,he⟩:=Array.getElem?_eq_some_iff.1 h
 unfold World.setCell World.setRow
 simp only[World.mk.injEq,and_true]
 apply Array.ext
 ·simp
 ·intro i h1 h2
  simp only[Array.getElem_modify]
  split
  ·rename_i hi
   subst hi
   simp[he]
  ·rfl
theorem heap_setRow {w:World} {b:Nat} {cur:Array Value} {t:TypeId} {f:Nat×Nat} (h:w.heap[b]?=some (Obj.cells cur t f)) (x:Array Value):(w.setRow b x).heap[b]?=some (Obj.cells x t f):=by
 obtain ⟨hb,he⟩:=Array.getElem?_eq_some_iff.1 h
 unfold World.setRow
 simp[Array.getElem?_modify,h]
theorem setCells_row {b:Nat} {t:TypeId} {f:Nat×Nat}:∀ (vs:List Value) (o:Nat) {w:World} {cur:Array Value},w.heap[b]?=some (Obj.cells cur t f)→w.setCells b o vs=w.setRow b (ovr cur o vs)
 | [],o,w,cur,h=>(setRow_self w b cur t f h).symm
 | v::r,o,w,cur,h=>by
  show (w.setCell ⟨b,o,none⟩ v).setCells b (o+1) r=w.setRow b (ovr (cur.setIfInBounds o v) (o+1) r)
  rw[setCell_row h v,setCells_row r (o+1) (heap_setRow h _),setRow_twice]
end Go.Proofs.YtcdjjjokniinkaaGreatDoor
end
section
namespace Go.Proofs.YtcdjjjokniinkaaGreatDoor
open Go Go.RowKit Go.Lib Go.EYtcdjjjokniinkaaGreatDoor
set_option maxRecDepth 100000
set_option maxHeartbeats 4000000
abbrev z3:List Value:=[.int .i64 0,.int .i64 0,.string ⟨#[]⟩]
theorem run_clear3 (w:World) (ty:TypeId) (b o c:Nat) (hc:∀ j,j<3→(w.cell? ⟨b,o+j,none⟩).isSome=true) (hf:∀ j,j<3→w.frozen? ⟨b,o+j,none⟩=false) :
 (Builtin.clear_ #[22] ty #[.slice (some ⟨b,o,none⟩) 1 c]).run Tryz.prog w=.ok (.tuple #[]) (w.setCells b o z3):=by
 have hv:∀ w,(zeroValue 31).run Tryz.prog w=.ok (.agg #[.int .i64 0,.int .i64 0,.string ⟨#[]⟩]) w:=fun w=>by kernel_rfl
 have hst:=run_storeCells_cells (P:=Tryz.prog) b o z3 0 w (by simpa using hc) (by simpa using hf) (by decide)
 simp only[Nat.add_zero] at hst
 have hz:(Builtin.zeroCells (Value.agg #[.int .i64 0,.int .i64 0,.string ⟨#[]⟩]).cells 1).toList=z3:=by simp[Builtin.zeroCells,Value.cells];rfl
 simp[Builtin.clear_,run_underlying Tryz.underlying22,hv,hz,hst]
theorem del_calls (b n c i j:Nat) (cur:Array Value) (news:List Value) (w:World) (hh:w.heap[b]?=some (Obj.cells cur 31 (0,0))) (hs:cur.size=c * 3) (hn:n≤c) (_hc:c≤maxLen) (hj:j=i+1) (hi:i<n)
 (hl:news.length=(n - j) * 3) (hnews:∀ k u,news[k]?=some u→cur[j * 3+k]?=some u) (h1:∀ u ∈ news,u.oneCell'=true) :
 Calls Tryz.prog 37 #[.slice (some ⟨b,0,none⟩) n c,.int .i64 i,.int .i64 (j:Nat)] w fun e w'=>e=.returned (.slice (some ⟨b,0,none⟩) (n - 1) c)∧w'=w.drew.setRow b (ovr (ovr cur (i * 3) news) ((n - 1) * 3) z3):=by
 obtain ⟨i0,hi0,hz0,hz1,hz2⟩:=info_parts (show (Tryz.prog.info? 31).map (fun i=>(i.zero,i.size,i.bytes))=some (some (.agg #[.int .i64 0,.int .i64 0,.string ⟨#[]⟩]),3,32) by kernel_rfl)
 have hcell:∀ (w':World) (cur':Array Value),w'.heap[b]?=some (Obj.cells cur' 31 (0,0))→∀ k,w'.cell? ⟨b,k,none⟩=cur'[k]?:=fun w' cur' h k=>by simp[World.cell?,h]
 have hfroz:∀ (w':World) (cur':Array Value),w'.heap[b]?=some (Obj.cells cur' 31 (0,0))→∀ k,w'.frozen? ⟨b,k,none⟩=false:=fun w' cur' h k=>by simp[World.frozen?,h]
 have hhd:w.drew.heap[b]?=some (Obj.cells cur 31 (0,0)):=hh
 obtain ⟨A,hA,hsrc⟩:∃ A:Addr,(if c=j then some (⟨b,0,none⟩:Addr) else some ⟨b,j * 3,none⟩)=some A∧Hid (∀ t u,news[t]?=some u→w.drew.cell? (A.add t)=some u):=by
  by_cases h:c=j
  ·refine ⟨⟨b,0,none⟩,by simp[h],fun t u hu=>?_⟩
   have h0:news.length=0:=by rw[hl];omega
   rw[List.length_eq_zero_iff.1 h0] at hu
   simp at hu
  ·refine ⟨⟨b,j * 3,none⟩,by simp[h],fun t u hu=>?_⟩
   rw[Addr.add_lit,hcell _ _ hhd]
   exact hnews t u hu
 have s1:Hid (news.length=(n - j) * 3):=hl
 have s2:Hid (∀ u ∈ news,u.oneCell'=true):=h1
 have s3:Hid (∀ t,t<news.length→(w.drew.cell? ⟨b,0+i * 3+t,none⟩).isSome=true∧w.drew.frozen? ⟨b,0+i * 3+t,none⟩=false):=by
  intro t ht
  rw[hl] at ht
  refine ⟨?_,hfroz _ _ hhd _⟩
  rw[hcell _ _ hhd,Array.getElem?_eq_getElem (by omega)]
  rfl
 obtain ⟨W1,hW1⟩:∃ W1,W1=w.drew.setCells b (0+i * 3) news:=⟨_,rfl⟩
 have hW1':W1=w.drew.setRow b (ovr cur (i * 3) news):=by rw[hW1,Nat.zero_add];exact setCells_row _ _ hhd
 have hh1:W1.heap[b]?=some (Obj.cells (ovr cur (i * 3) news) 31 (0,0)):=by rw[hW1'];exact heap_setRow hhd _
 have hcl:∀ ty,(Builtin.clear_ #[22] ty #[.slice (some ⟨b,(i+(n - j)) * 3,none⟩) (n - (i+(n - j))) (c - (i+(n - j)))]).run Tryz.prog W1=.ok (.tuple #[]) (W1.setCells b ((n - 1) * 3) z3):=fun ty=>by
  rw[show i+(n - j)=n - 1 by omega,show n - (n - 1)=1 by omega]
  refine run_clear3 W1 ty b _ _ (fun k hk=>?_) (fun k hk=>hfroz _ _ hh1 _)
  rw[hcell _ _ hh1,Array.getElem?_eq_getElem (by rw[ovr_size];omega)]
  rfl
 have X:Aside (W1.setCells b ((n - 1) * 3) z3=w.drew.setRow b (ovr (ovr cur (i * 3) news) ((n - 1) * 3) z3)):=by
  rw[setCells_row _ _ hh1,hW1',setRow_twice]
  exact rfl
 have hW:Hid (W1=w.drew.setCells b (0+i * 3) news):=hW1
 have hne:¬ c=i+(n - j):=by omega
 have hic:i≤c:=by omega
 have hjc:j≤c:=by omega
 have hij:¬ i=j:=by omega
 have hjn:j≤n:=by omega
 have hil:i≤j:=by omega
 have hlo:i+(n - j)≤n:=by omega
 have hlc:i+(n - j)≤c:=by omega
 clear hW1 hW1' hh1 hh hhd hnews hl h1 hcell hfroz
 have mixed':=mixed
 have HJ:Aside (j=i+1):=hj
 clear hj hi
 go_enter Tryz.func37,Tryz.ntmps37
 go_wp2
 go_region_law_o (refine step_append_room rfl (.tmp 22) (.tmp 25) 22 rfl 31 i0 3 Tryz.underlying22 hi0 hz1 b 0 i c (by simp[Act.eval,Act.put]) A (n - j) (c - j) news (by simp[Act.eval,Act.put]) s1.out hsrc.out s2.out (by omega) s3.out ?_;rw[← hW.out])
 go_wp2
 go_ret
 have hjj:=HJ.out
 refine ⟨by rw[show n - 1=i+(n - j) by omega];rfl,X.out⟩
end Go.Proofs.YtcdjjjokniinkaaGreatDoor
end
section
namespace Go.Proofs.YtcdjjjokniinkaaGreatDoor
open Go Go.RowKit Go.EYtcdjjjokniinkaaGreatDoor
set_option maxRecDepth 100000
set_option maxHeartbeats 4000000
variable {gl:List (Nat×List D)}
theorem in_place {M0:Nat→Prop} {adr:Env} {w:World} {b n c z e:Nat} {cur cur2:Array Value} {l l':List (List D)} (hW:WOk M0 adr [(0,.rows z l e)] 1 w) (ha:adr 0=some (some b,n)) (hh:w.heap[b]?=some (Obj.cells cur e (0,0))) (hs2:cur2.size=cur.size)
 (hs:cur.size=c * z) (hz:0<z) (hr:∀ r ∈ l',r.length=z) (hl:l'.length≤c) (hc:c≤maxLen) (hden:DenL (Mut M0 adr [(0,.rows z l e)]) w l'.flatten (cur2.toList.take (l'.length * z))) :
 ∃ adr':Env,Evo (Trk adr [(0,.rows z l e)]) w (w.drew.setRow b cur2)∧WOk M0 adr' [(0,.rows z l' e)] 1 (w.drew.setRow b cur2)∧(∀ k,k<1→k ∉ [0]→adr' k=adr k)∧(∀ k B b' m,Go.EYtcdjjjokniinkaaGreatDoor.look [(0,Blk.rows z l' e)] k=some B→adr' k=some (some b',m)→Trk adr [(0,.rows z l e)] b'∨w.heap.size≤b')∧
  RetOk adr' (Mut M0 adr' [(0,.rows z l' e)]) (w.drew.setRow b cur2) (.ret (.c (.all z 0))) (.returned (.slice (some ⟨b,0,none⟩) l'.length c)):=by
 have hT:Trk adr [(0,.rows z l e)] b:=⟨0,_,n,rfl,ha⟩
 have hE:Evo (Trk adr [(0,.rows z l e)]) w (w.drew.setRow b cur2):=(Evo.drew _ w).trans (Evo.setRow (w:=w.drew) (cur:=cur) hh hs2 hT)
 have hh2:(w.drew.setRow b cur2).heap[b]?=some (Obj.cells cur2 e (0,0)):=heap_setRow (w:=w.drew) hh cur2
 have hb:b<w.heap.size:=(Array.getElem?_eq_some_iff.1 hh).1
 have hsz:(w.drew.setRow b cur2).heap.size=w.heap.size:=by show (Array.modify _ _ _).size=_;rw[Array.size_modify];rfl
 have hM:∀ x,Mut M0 (fun k=>if k=0 then some (some b,l'.length) else adr k) [(0,.rows z l' e)] x→Mut M0 adr [(0,.rows z l e)] x:=by
  rintro x (h|⟨k,B,m,h1,h2⟩)
  ·exact .inl h
  ·match k,h1 with
   | 0,_ =>
    cases h2
    exact .inr ⟨0,_,n,rfl,ha⟩
 refine ⟨fun k=>if k=0 then some (some b,l'.length) else adr k,hE,⟨?_,?_,?_,?_,?_,?_⟩,fun k hk hn=>absurd (by simp;omega) hn,?_,_,rfl,.inr ⟨b,l'.length,c,cur2,e,(0,0),rfl,hh2,by rw[hs2];exact hs,hl,hc,rfl⟩⟩
 ·intro k B h
  match k,h with
  | 0,_=>decide
 ·intro k hk
  show (if k=0 then _ else adr k)=none
  rw[if_neg (by omega)]
  exact hW.fresh k hk
 ·intro k B h
  match k,h with
  | 0,h =>
   cases h
   refine ⟨hz,rfl,hr,cur2,c,hh2,by rw[hs2];exact hs,hl,hc,?_⟩
   exact DenL.evo hE (fun x _ ⟨k,B,m,h1,h2⟩=>.inr ⟨k,B,m,h1,h2⟩) (fun x _ h=>hM x h) hden
 ·intro k k' B B' b' m m' h h' _ _
  match k,k',h,h' with
  | 0,0,_,_=>rfl
 ·intro k B b' m h he hm
  match k,h with
  | 0,_ =>
   cases he
   exact hW.prot 0 _ b n rfl ha hm
 ·intro b' hm
  rw[hsz]
  exact hW.bound b' hm
 ·intro k B b' m h he
  match k,h with
  | 0,_ =>
   cases he
   exact .inl hT
theorem flat_erase {z:Nat}:∀ {l:List (List D)} {i:Nat} (_:∀ r ∈ l,r.length=z) (_:i<l.length),(l.eraseIdx i).flatten=l.flatten.take (i * z)++l.flatten.drop ((i+1) * z)
 | r::l,0,hz,_=>by
  have hr:=hz r (by simp)
  simp[← hr]
 | r::l,i+1,hz,h=>by
  have hr:=hz r (by simp)
  have ih:=flat_erase (l:=l) (i:=i) (fun r hr=>hz r (by simp[hr])) (by simpa using h)
  show r++(l.eraseIdx i).flatten=(r++l.flatten).take ((i+1) * z)++(r++l.flatten).drop ((i+1+1) * z)
  have e1:(i+1) * z - z=i * z:=by rw[Nat.succ_mul];omega
  have e2:(i+1+1) * z - z=(i+1) * z:=by rw[Nat.succ_mul (i+1)];omega
  have h1:r.length≤(i+1) * z:=by rw[hr,Nat.succ_mul];omega
  have h2:r.length≤(i+1+1) * z:=by rw[hr,Nat.succ_mul (i+1)];omega
  rw[ih,List.take_append,List.drop_append,List.take_of_length_le h1,List.drop_of_length_le h2,hr,e1,e2]
  simp
end Go.Proofs.YtcdjjjokniinkaaGreatDoor
end
section
namespace Go.Proofs.YtcdjjjokniinkaaGreatDoor
open Go Go.RowKit Go.EYtcdjjjokniinkaaGreatDoor
set_option maxRecDepth 100000
set_option maxHeartbeats 4000000
variable {gl:List (Nat×List D)}
theorem flD_3 {l:List Fl}:∀ r ∈ l.map flD,r.length=3:=fun r hr=>by
 obtain ⟨f,_,rfl⟩:=List.mem_map.1 hr
 rfl
theorem map_erase:∀ (l:List Fl) (i:Nat),(l.eraseIdx i).map flD=(l.map flD).eraseIdx i
 | [],_=>rfl
 | _f::_l,0=>rfl
 | f::l,i+1=>congrArg (List.cons (flD f)) (map_erase l i)
theorem ovr_take {cur:Array Value} {a e:Nat} {news zs:List Value} (he:e=a+news.length) (hs:e≤cur.size):(ovr (ovr cur a news) e zs).toList.take e=cur.toList.take a++news:=by
 apply List.ext_getElem?
 intro k
 rw[List.getElem?_take]
 by_cases hk:k<e
 ·rw[if_pos hk,Array.getElem?_toList,ovr_out _ _ _ _ (.inl hk)]
  by_cases ha:k<a
  ·rw[ovr_out _ _ _ _ (.inl ha),List.getElem?_append_left (by simp;omega),List.getElem?_take,if_pos ha,Array.getElem?_toList]
  ·have hlt:k - a<news.length:=by omega
   have h:=ovr_in news a cur (k - a) news[k - a] (by omega) (List.getElem?_eq_getElem hlt)
   rw[show a+(k - a)=k by omega] at h
   have hl:(cur.toList.take a).length=a:=by simp;omega
   rw[h,List.getElem?_append_right (by omega),hl,List.getElem?_eq_getElem hlt]
 ·rw[if_neg hk,List.getElem?_eq_none]
  simp
  omega
theorem Del_x (l:List Fl) (i j:Nat) (hj:j=i+1) (hi:i<l.length) (_hl:l.length≤65536):Go.EYtcdjjjokniinkaaGreatDoor.Fn Tryz.prog gl 37 [.c (.all 3 0),.c (.d (iD (i:Nat))),.c (.d (iD (j:Nat)))] [(0,.rows 3 (l.map flD) 31)] 1 (.ret (.c (.all 3 0))) [(0,.rows 3 ((l.eraseIdx i).map flD) 31)] 1 [0]:=by
 refine ⟨Nat.le_refl _,fun k B h hk=>?_,fun k hk=>?_,fun w M0 adr xs hW hG hd=>?_⟩
 ·match k,h with
  | 0,_=>rfl
 ·cases List.mem_singleton.1 hk
  rfl
 match xs,hd with
 | [x,y,z],⟨hx,hy,hz,_⟩ =>
  obtain rfl:y=.int .i64 (i:Nat):=DenD.v_inv hy
  obtain rfl:z=.int .i64 (j:Nat):=DenD.v_inv hz
  have hloc:=hW.loc 0 _ rfl
  rcases hx with ⟨h5,rfl⟩|⟨b,q,cp,cur,ee,f,h5,h6,h7,h8,h9,rfl⟩
  ·rw[h5] at hloc
   obtain ⟨_,h6,_⟩:=hloc
   rw[List.map_eq_nil_iff.1 h6] at hi
   simp at hi
  ·rw[h5] at hloc
   obtain ⟨g1,g2,g3,cur',cp',g4,g5,g6,g7,g8⟩:=hloc
   rw[h6] at g4
   cases g4
   obtain rfl:cp=cp':=by omega
   have hlen:(l.map flD).length=l.length:=List.length_map _
   have hq:q=l.length:=by rw[← g2,hlen]
   subst hq
   rw[hlen] at g8
   have hsz:cur.toList.length=cp * 3:=by rw[Array.length_toList];exact h7
   let news:=(cur.toList.drop (j * 3)).take ((l.length - j) * 3)
   have hnl:news.length=(l.length - j) * 3:=by
    show (List.take _ _).length=_
    rw[List.length_take,List.length_drop,hsz]
    omega
   have hone:=allOne_ok (flD_ones l) g8
   have hcells:(cur.toList.take (l.length * 3))=cur.toList.take (j * 3)++news:=by
    show _=cur.toList.take (j * 3)++(cur.toList.drop (j * 3)).take ((l.length - j) * 3)
    rw[← List.take_add]
    congr 1
    omega
   refine .inl ⟨by unfold HasBody;kernel_rfl,(del_calls b l.length cp i j cur news w h6 h7 h8 h9 hj hi hnl (fun k u hu=>?_) (fun u hu=>hone u (by rw[hcells];simp[hu]))).mono ?_⟩
   ·have hu':((cur.toList.drop (j * 3)).take ((l.length - j) * 3))[k]?=some u:=hu
    rw[List.getElem?_take] at hu'
    split at hu'
    ·rw[List.getElem?_drop,Array.getElem?_toList] at hu'
     exact hu'
    ·cases hu'
   ·rintro e w' ⟨rfl,rfl⟩
    have hle:((l.eraseIdx i).map flD).length=l.length - 1:=by rw[List.length_map,List.length_eraseIdx,if_pos hi]
    have:=in_place (l':=(l.eraseIdx i).map flD) hW h5 h6 (cur2:=ovr (ovr cur (i * 3) news) ((l.length - 1) * 3) z3) (by rw[ovr_size,ovr_size]) h7 g1 flD_3 (by rw[hle];omega) h9 (by
     rw[hle,ovr_take (by rw[hnl];omega) (by omega),map_erase l i,flat_erase flD_3 (by omega),← hj]
     have e1:(cur.toList.take (l.length * 3)).take (i * 3)=cur.toList.take (i * 3):=by rw[List.take_take,Nat.min_eq_left (by omega)]
     have e2:(cur.toList.take (l.length * 3)).drop (j * 3)=news:=by
      rw[List.drop_take]
      show _=(cur.toList.drop (j * 3)).take ((l.length - j) * 3)
      congr 1
      omega
     refine All2.app ?_ ?_
     ·rw[← e1];exact All2.take _ g8
     ·rw[← e2];exact All2.drop _ g8)
    rw[hle] at this
    obtain ⟨adr',a1,a2,a3,a4,a5⟩:=this
    exact ⟨adr',a1,a2,a3,a4,a5⟩
end Go.Proofs.YtcdjjjokniinkaaGreatDoor
end
section
namespace Go.Proofs.YtcdjjjokniinkaaGreatDoor
open Go Go.RowKit Go.Lib Go.EYtcdjjjokniinkaaGreatDoor
set_option maxRecDepth 100000
set_option maxHeartbeats 4000000
theorem run_copy3 (w:World) (ty:TypeId) (b o dLen dCap:Nat) (a:Addr) (sLen sCap:Nat) (cs:List Value) (hn:cs.length=Nat.min sLen dLen * 3)
 (hsrc:∀ j v,cs[j]?=some v→w.cell? (a.add j)=some v) (hc:∀ j,j<cs.length→(w.cell? ⟨b,o+j,none⟩).isSome=true) (hf:∀ j,j<cs.length→w.frozen? ⟨b,o+j,none⟩=false) (h1:∀ v ∈ cs,v.oneCell'=true) :
 (Builtin.copy_ #[22,22] ty #[.slice (some ⟨b,o,none⟩) dLen dCap,.slice (some a) sLen sCap]).run Tryz.prog w=.ok (goInt (Nat.min sLen dLen)) (w.setCells b o cs):=by
 obtain ⟨i0,hi0,hz0,hz1,hz2⟩:=info_parts (show (Tryz.prog.info? 31).map (fun i=>(i.zero,i.size,i.bytes))=some (some (.agg #[.int .i64 0,.int .i64 0,.string ⟨#[]⟩]),3,32) by kernel_rfl)
 have hl:=run_loadCells_list (P:=Tryz.prog) w a cs hsrc
 have hst:=run_storeCells_cells (P:=Tryz.prog) b o cs 0 w (by simpa using hc) (by simpa using hf) h1
 simp[Builtin.copy_,run_underlying Tryz.underlying22,Builtin.lenOf,Builtin.firstCells,sizeOf,typeInfo,hi0,hz1,← hn,hl,hst]
theorem step_copy3 {ops:Array Oper} {o:Oper} {a:Act} {w:World} {K:Act→World→Prop} {Q:Exit→Act→World→Prop} {E:Prop} (hg:o.guard=none) (d x:Operand) (hop:o.op=Op.call { callee:=Callee.builtin Builtin.copy,args:=#[d,x],argTypes:=#[22,22] })
 (v u:Value) (hd:a.eval d=v) (hx:a.eval x=u) {v':Value} {w':World} (hr:(Builtin.copy_ #[22,22] o.type #[v,u]).run Tryz.prog w=.ok v' w') (hK:K (a.put o.dst v') w') :
 if Region.wanted o (yielded ops a.tmps)=true then Oper.wp Tryz.prog o a w K Q else E:=by
 rw[if_pos (show Region.wanted o (yielded ops a.tmps)=true by simp[Region.wanted,hg])]
 unfold Oper.wp
 simp[execOp,hop,resolve,invoke,builtin,hd,hx,hr,Result.andThen]
 exact hK
theorem list_copy3 (w:World) {ops:Array Oper} {rest:List Oper} {o:Oper} {a:Act} {Q:Exit→Act→World→Prop} (hg:o.guard=none) (d x:Operand) (hop:o.op=Op.call { callee:=Callee.builtin Builtin.copy,args:=#[d,x],argTypes:=#[22,22] })
 (v u:Value) (hd:a.eval d=v) (hx:a.eval x=u) {v':Value} {w':World} (hr:(Builtin.copy_ #[22,22] o.type #[v,u]).run Tryz.prog w=.ok v' w') (h:wpList Tryz.prog ops Q rest (a.put o.dst v') w'):wpList Tryz.prog ops Q (o::rest) a w :=
 wpList_plain hg fun _ hK=>by
  unfold Oper.wp
  simp[execOp,hop,resolve,invoke,builtin,hd,hx,hr,Result.andThen]
  exact hK _ _ h
theorem ins_shift (b n c i vb vc:Nat) (cur vcur:Array Value) (cs vs:List Value) (w:World) (hh:w.heap[b]?=some (Obj.cells cur 31 (0,0))) (hs:cur.size=c * 3) (hv:w.heap[vb]?=some (Obj.cells vcur 31 (0,0))) (hvb:vb≠b)
 (hi:i<n) (hroom:n+1≤c) (hc:c≤maxLen) (hvl:vs.length=3) (hvs:∀ (k:Nat) (u:Value),vs[k]?=some u→vcur[k]?=some u) (hcl:cs.length=(n - i) * 3) (hcs:∀ (k:Nat) (u:Value),cs[k]?=some u→cur[i * 3+k]?=some u)
 (h1:∀ u ∈ cs,u.oneCell'=true) (h2:∀ u ∈ vs,u.oneCell'=true) :
 Calls Tryz.prog 38 #[.slice (some ⟨b,0,none⟩) n c,.int .i64 i,.slice (some ⟨vb,0,none⟩) 1 vc] w fun e w'=>e=.returned (.slice (some ⟨b,0,none⟩) (n+1) c)∧w'=w.drew.setRow b (ovr (ovr cur ((i+1) * 3) cs) (i * 3) vs):=by
 unfold maxLen at hc
 have hov:∀ lb cb,(callFunc 69 #[.slice (some ⟨vb,0,none⟩) 1 vc,.slice (some ⟨b,(i+1) * 3,none⟩) lb cb]).run Tryz.prog w=.ok (.value (.bool false)) w:=fun lb cb=>by
  rw[run_callFunc_extern Tryz.func69 (by kernel_rfl) (by kernel_rfl) (by kernel_rfl) (e:=Extern.SlicesOverlaps.overlaps #[22,22] #[4]) (by kernel_rfl),
   Lib.run_overlaps_apart w 22 4 31 Tryz.underlying22 3 (fun w=>by kernel_rfl) ⟨vb,0,none⟩ ⟨b,(i+1) * 3,none⟩ 1 vc lb cb hvb 31 31 vcur.size cur.size (by simp[World.shape?,hv]) (by simp[World.shape?,hh]) (by omega) (by simp[World.frozen?,hv]) (by simp[World.frozen?,hv])]
  rfl
 have hcell:∀ (x:Nat) (w':World) (cur':Array Value),w'.heap[x]?=some (Obj.cells cur' 31 (0,0))→∀ k,w'.cell? ⟨x,k,none⟩=cur'[k]?:=fun x w' cur' h k=>by simp[World.cell?,h]
 have hfroz:∀ (x:Nat) (w':World) (cur':Array Value),w'.heap[x]?=some (Obj.cells cur' 31 (0,0))→∀ k,w'.frozen? ⟨x,k,none⟩=false:=fun x w' cur' h k=>by simp[World.frozen?,h]
 have hhd:w.drew.heap[b]?=some (Obj.cells cur 31 (0,0)):=hh
 have hvd:w.drew.heap[vb]?=some (Obj.cells vcur 31 (0,0)):=hv
 have hcp1:∀ ty dc sc,(Builtin.copy_ #[22,22] ty #[.slice (some ⟨b,(i+1) * 3,none⟩) (n - i) dc,.slice (some ⟨b,i * 3,none⟩) (n+1 - i) sc]).run Tryz.prog w.drew=.ok (goInt ((n - i:Nat):Int)) (w.drew.setCells b ((i+1) * 3) cs):=fun ty dc sc=>by
  have e:Nat.min (n+1 - i) (n - i)=n - i:=by simp only[Nat.min_def];split <;> omega
  have:=run_copy3 w.drew ty b ((i+1) * 3) (n - i) dc ⟨b,i * 3,none⟩ (n+1 - i) sc cs (by rw[e,hcl]) (fun k u hk=>by rw[Addr.add_lit,hcell _ _ _ hhd];exact hcs k u hk)
   (fun k hk=>by rw[hcell _ _ _ hhd,Array.getElem?_eq_getElem (by omega)];rfl) (fun k hk=>hfroz _ _ _ hhd _) h1
  rw[e] at this
  exact this
 obtain ⟨W1,hW1⟩:∃ W1,W1=w.drew.setCells b ((i+1) * 3) cs:=⟨_,rfl⟩
 have hW1':W1=w.drew.setRow b (ovr cur ((i+1) * 3) cs):=by rw[hW1];exact setCells_row _ _ hhd
 have hh1:W1.heap[b]?=some (Obj.cells (ovr cur ((i+1) * 3) cs) 31 (0,0)):=by rw[hW1'];exact heap_setRow hhd _
 have hv1:W1.heap[vb]?=some (Obj.cells vcur 31 (0,0)):=by
  rw[hW1']
  unfold World.setRow
  simp only[Array.getElem?_modify]
  rw[if_neg (fun e=>hvb e.symm)]
  exact hvd
 have hcp2:∀ ty dc,(Builtin.copy_ #[22,22] ty #[.slice (some ⟨b,i * 3,none⟩) (n+1 - i) dc,.slice (some ⟨vb,0,none⟩) 1 vc]).run Tryz.prog W1=.ok (goInt 1) (W1.setCells b (i * 3) vs):=fun ty dc=>by
  have e:Nat.min 1 (n+1 - i)=1:=by simp only[Nat.min_def];split <;> omega
  have:=run_copy3 W1 ty b (i * 3) (n+1 - i) dc ⟨vb,0,none⟩ 1 vc vs (by rw[e,hvl]) (fun k u hk=>by rw[Addr.add_lit,hcell _ _ _ hv1,Nat.zero_add];exact hvs k u hk)
   (fun k hk=>by rw[hcell _ _ _ hh1,Array.getElem?_eq_getElem (by rw[ovr_size];omega)];rfl) (fun k hk=>hfroz _ _ _ hh1 _) h2
  rw[e] at this
  exact this
 have X:Aside (W1.setCells b (i * 3) vs=w.drew.setRow b (ovr (ovr cur ((i+1) * 3) cs) (i * 3) vs)):=by
  rw[setCells_row _ _ hh1,hW1',setRow_twice]
  exact rfl
 have hin:i≤n:=by omega
 have hb2:¬ c=i+1:=by omega
 have hb3:(i:Int)≤(n:Int)+1:=by omega
 have hb4:¬ c=i:=by omega
 have hw1:IntKind.i64.wrap ((i:Int)+1)=(i:Int)+1:=wrapI (by omega)
 have hb1:(0:Int)≤(i:Int)+1:=by omega
 have hb5:(i:Int)+1≤(n:Int)+1:=by omega
 have htn:((i:Int)+1).toNat=i+1:=by omega
 rw[← hW1] at hcp1
 clear hW1 hW1' hh1 hv1 hhd hvd hcell hfroz
 have mixed':=mixed
 go_enter Tryz.func38,Tryz.ntmps38
 go_wp2_with (simp only[hov])
 go_region_law_o (refine step_copy3 rfl _ _ rfl _ _ (by simp[Act.eval,Act.put]) (by simp[Act.eval,Act.put]) (hcp1 _ _ _) ?_)
 go_wp2_with (at_builtin;refine list_copy3 _ rfl _ _ rfl _ _ rfl rfl (hcp2 _ _) ?_)
 go_ret
 exact ⟨rfl,X.out⟩
end Go.Proofs.YtcdjjjokniinkaaGreatDoor
end
