/- Proved: a part of what the law is proved with (the reckoner, contracts of functions, plain laws). Conditions: as each says. -/
import Derived.Shelf.RegionOpenPlain
import Derived.WalkKit
import Derived.Deep.RegionLaw
import Derived.Lib.Walk
import Derived.Lib.SliceRun
import Derived.Lib.JoinLaws
import Derived.Lib.AppendZeros
import Derived.Lib.Overlaps
import Derived.Laws.Externs
import Derived.Laws.IdiomCopy
import Derived.Lib.AppendZerosOnto
import Derived.Test.YtdpigpahfiachaaGreatDoorZZi
section
namespace Go.Proofs.YtdpigpahfiachaaGreatDoor
open Go Go.RowKit Go.EYtdpigpahfiachaaGreatDoor
set_option maxRecDepth 100000
set_option maxHeartbeats 4000000
variable {gl:List (Nat×List D)}
theorem flD_3 {l:List Fl}:∀ r ∈ l.map flD,r.length=3:=fun r hr=>by
 obtain ⟨f,_,rfl⟩:=List.mem_map.1 hr
 rfl
theorem map_erase:∀ (l:List Fl) (i:Nat),(l.eraseIdx i).map flD=(l.map flD).eraseIdx i
 | [],_=>rfl
 | _f::_l,0=>rfl
 | f::l,i+1=>congrArg (List.cons (flD f)) (map_erase l i)
theorem ovr_take {cur:Array Value} {a e:Nat} {news zs:List Value} (he:e=a+news.length) (hs:e≤cur.size):(ovr (ovr cur a news) e zs).toList.take e=cur.toList.take a++news:=by
 apply List.ext_getElem?
 intro k
 rw[List.getElem?_take]
 by_cases hk:k<e
 ·rw[if_pos hk,Array.getElem?_toList,ovr_out _ _ _ _ (.inl hk)]
  by_cases ha:k<a
  ·rw[ovr_out _ _ _ _ (.inl ha),List.getElem?_append_left (by simp;omega),List.getElem?_take,if_pos ha,Array.getElem?_toList]
  ·have hlt:k - a<news.length:=by omega
   have h:=ovr_in news a cur (k - a) news[k - a] (by omega) (List.getElem?_eq_getElem hlt)
   rw[show a+(k - a)=k by omega] at h
   have hl:(cur.toList.take a).length=a:=by simp;omega
   rw[h,List.getElem?_append_right (by omega),hl,List.getElem?_eq_getElem hlt]
 ·rw[if_neg hk,List.getElem?_eq_none]
  simp
  omega
theorem Del_x (l:List Fl) (i j:Nat) (hj:j=i+1) (hi:i<l.length) (_hl:l.length≤65536):Go.EYtdpigpahfiachaaGreatDoor.Fn Tryz.prog gl 105 [.c (.all 3 0),.c (.d (iD (i:Nat))),.c (.d (iD (j:Nat)))] [(0,.rows 3 (l.map flD) 44)] 1 (.ret (.c (.all 3 0))) [(0,.rows 3 ((l.eraseIdx i).map flD) 44)] 1 [0]:=by
 refine ⟨Nat.le_refl _,fun k B h hk=>?_,fun k hk=>?_,fun w M0 adr xs hW hG hd=>?_⟩
 ·match k,h with
  | 0,_=>rfl
 ·cases List.mem_singleton.1 hk
  rfl
 match xs,hd with
 | [x,y,z],⟨hx,hy,hz,_⟩ =>
  obtain rfl:y=.int .i64 (i:Nat):=DenD.v_inv hy
  obtain rfl:z=.int .i64 (j:Nat):=DenD.v_inv hz
  have hloc:=hW.loc 0 _ rfl
  rcases hx with ⟨h5,rfl⟩|⟨b,q,cp,cur,ee,f,h5,h6,h7,h8,h9,rfl⟩
  ·rw[h5] at hloc
   obtain ⟨_,h6,_⟩:=hloc
   rw[List.map_eq_nil_iff.1 h6] at hi
   simp at hi
  ·rw[h5] at hloc
   obtain ⟨g1,g2,g3,cur',cp',g4,g5,g6,g7,g8⟩:=hloc
   rw[h6] at g4
   cases g4
   obtain rfl:cp=cp':=by omega
   have hlen:(l.map flD).length=l.length:=List.length_map _
   have hq:q=l.length:=by rw[← g2,hlen]
   subst hq
   rw[hlen] at g8
   have hsz:cur.toList.length=cp * 3:=by rw[Array.length_toList];exact h7
   let news:=(cur.toList.drop (j * 3)).take ((l.length - j) * 3)
   have hnl:news.length=(l.length - j) * 3:=by
    show (List.take _ _).length=_
    rw[List.length_take,List.length_drop,hsz]
    omega
   have hone:=allOne_ok (flD_ones l) g8
   have hcells:(cur.toList.take (l.length * 3))=cur.toList.take (j * 3)++news:=by
    show _=cur.toList.take (j * 3)++(cur.toList.drop (j * 3)).take ((l.length - j) * 3)
    rw[← List.take_add]
    congr 1
    omega
   refine .inl ⟨by unfold HasBody;kernel_rfl,(del_calls b l.length cp i j cur news w h6 h7 h8 h9 hj hi hnl (fun k u hu=>?_) (fun u hu=>hone u (by rw[hcells];simp[hu]))).mono ?_⟩
   ·have hu':((cur.toList.drop (j * 3)).take ((l.length - j) * 3))[k]?=some u:=hu
    rw[List.getElem?_take] at hu'
    split at hu'
    ·rw[List.getElem?_drop,Array.getElem?_toList] at hu'
     exact hu'
    ·cases hu'
   ·rintro e w' ⟨rfl,rfl⟩
    have hle:((l.eraseIdx i).map flD).length=l.length - 1:=by rw[List.length_map,List.length_eraseIdx,if_pos hi]
    have:=in_place (l':=(l.eraseIdx i).map flD) hW h5 h6 (cur2:=ovr (ovr cur (i * 3) news) ((l.length - 1) * 3) z3) (by rw[ovr_size,ovr_size]) h7 g1 flD_3 (by rw[hle];omega) h9 (by
     rw[hle,ovr_take (by rw[hnl];omega) (by omega),map_erase l i,flat_erase flD_3 (by omega),← hj]
     have e1:(cur.toList.take (l.length * 3)).take (i * 3)=cur.toList.take (i * 3):=by rw[List.take_take,Nat.min_eq_left (by omega)]
     have e2:(cur.toList.take (l.length * 3)).drop (j * 3)=news:=by
      rw[List.drop_take]
      show _=(cur.toList.drop (j * 3)).take ((l.length - j) * 3)
      congr 1
      omega
     refine All2.app ?_ ?_
     ·rw[← e1];exact All2.take _ g8
     ·rw[← e2];exact All2.drop _ g8)
    rw[hle] at this
    obtain ⟨adr',a1,a2,a3,a4,a5⟩:=this
    exact ⟨adr',a1,a2,a3,a4,a5⟩
end Go.Proofs.YtdpigpahfiachaaGreatDoor
end
section
namespace Go.Proofs.YtdpigpahfiachaaGreatDoor
open Go Go.RowKit Go.Lib Go.EYtdpigpahfiachaaGreatDoor
set_option maxRecDepth 100000
set_option maxHeartbeats 4000000
theorem run_copy3 (w:World) (ty:TypeId) (b o dLen dCap:Nat) (a:Addr) (sLen sCap:Nat) (cs:List Value) (hn:cs.length=Nat.min sLen dLen * 3)
 (hsrc:∀ j v,cs[j]?=some v→w.cell? (a.add j)=some v) (hc:∀ j,j<cs.length→(w.cell? ⟨b,o+j,none⟩).isSome=true) (hf:∀ j,j<cs.length→w.frozen? ⟨b,o+j,none⟩=false) (h1:∀ v ∈ cs,v.oneCell'=true) :
 (Builtin.copy_ #[38,38] ty #[.slice (some ⟨b,o,none⟩) dLen dCap,.slice (some a) sLen sCap]).run Tryz.prog w=.ok (goInt (Nat.min sLen dLen)) (w.setCells b o cs):=by
 obtain ⟨i0,hi0,hz0,hz1,hz2⟩:=info_parts (show (Tryz.prog.info? 44).map (fun i=>(i.zero,i.size,i.bytes))=some (some (.agg #[.int .i64 0,.int .i64 0,.string ⟨#[]⟩]),3,32) by kernel_rfl)
 have hl:=run_loadCells_list (P:=Tryz.prog) w a cs hsrc
 have hst:=run_storeCells_cells (P:=Tryz.prog) b o cs 0 w (by simpa using hc) (by simpa using hf) h1
 simp[Builtin.copy_,run_underlying Tryz.underlying38,Builtin.lenOf,Builtin.firstCells,sizeOf,typeInfo,hi0,hz1,← hn,hl,hst]
theorem step_copy3 {ops:Array Oper} {o:Oper} {a:Act} {w:World} {K:Act→World→Prop} {Q:Exit→Act→World→Prop} {E:Prop} (hg:o.guard=none) (d x:Operand) (hop:o.op=Op.call { callee:=Callee.builtin Builtin.copy,args:=#[d,x],argTypes:=#[38,38] })
 (v u:Value) (hd:a.eval d=v) (hx:a.eval x=u) {v':Value} {w':World} (hr:(Builtin.copy_ #[38,38] o.type #[v,u]).run Tryz.prog w=.ok v' w') (hK:K (a.put o.dst v') w') :
 if Region.wanted o (yielded ops a.tmps)=true then Oper.wp Tryz.prog o a w K Q else E:=by
 rw[if_pos (show Region.wanted o (yielded ops a.tmps)=true by simp[Region.wanted,hg])]
 unfold Oper.wp
 simp[execOp,hop,resolve,invoke,builtin,hd,hx,hr,Result.andThen]
 exact hK
theorem list_copy3 (w:World) {ops:Array Oper} {rest:List Oper} {o:Oper} {a:Act} {Q:Exit→Act→World→Prop} (hg:o.guard=none) (d x:Operand) (hop:o.op=Op.call { callee:=Callee.builtin Builtin.copy,args:=#[d,x],argTypes:=#[38,38] })
 (v u:Value) (hd:a.eval d=v) (hx:a.eval x=u) {v':Value} {w':World} (hr:(Builtin.copy_ #[38,38] o.type #[v,u]).run Tryz.prog w=.ok v' w') (h:wpList Tryz.prog ops Q rest (a.put o.dst v') w'):wpList Tryz.prog ops Q (o::rest) a w :=
 wpList_plain hg fun _ hK=>by
  unfold Oper.wp
  simp[execOp,hop,resolve,invoke,builtin,hd,hx,hr,Result.andThen]
  exact hK _ _ h
theorem ins_shift (b n c i vb vc:Nat) (cur vcur:Array Value) (cs vs:List Value) (w:World) (hh:w.heap[b]?=some (Obj.cells cur 44 (0,0))) (hs:cur.size=c * 3) (hv:w.heap[vb]?=some (Obj.cells vcur 44 (0,0))) (hvb:vb≠b)
 (hi:i<n) (hroom:n+1≤c) (hc:c≤maxLen) (hvl:vs.length=3) (hvs:∀ (k:Nat) (u:Value),vs[k]?=some u→vcur[k]?=some u) (hcl:cs.length=(n - i) * 3) (hcs:∀ (k:Nat) (u:Value),cs[k]?=some u→cur[i * 3+k]?=some u)
 (h1:∀ u ∈ cs,u.oneCell'=true) (h2:∀ u ∈ vs,u.oneCell'=true) :
 Calls Tryz.prog 106 #[.slice (some ⟨b,0,none⟩) n c,.int .i64 i,.slice (some ⟨vb,0,none⟩) 1 vc] w fun e w'=>e=.returned (.slice (some ⟨b,0,none⟩) (n+1) c)∧w'=w.drew.setRow b (ovr (ovr cur ((i+1) * 3) cs) (i * 3) vs):=by
 unfold maxLen at hc
 have hov:∀ lb cb,(callFunc 153 #[.slice (some ⟨vb,0,none⟩) 1 vc,.slice (some ⟨b,(i+1) * 3,none⟩) lb cb]).run Tryz.prog w=.ok (.value (.bool false)) w:=fun lb cb=>by
  rw[run_callFunc_extern Tryz.func153 (by kernel_rfl) (by kernel_rfl) (by kernel_rfl) (e:=Extern.SlicesOverlaps.overlaps #[38,38] #[4]) (by kernel_rfl),
   Lib.run_overlaps_apart w 38 4 44 Tryz.underlying38 3 (fun w=>by kernel_rfl) ⟨vb,0,none⟩ ⟨b,(i+1) * 3,none⟩ 1 vc lb cb hvb 44 44 vcur.size cur.size (by simp[World.shape?,hv]) (by simp[World.shape?,hh]) (by omega) (by simp[World.frozen?,hv]) (by simp[World.frozen?,hv])]
  rfl
 have hcell:∀ (x:Nat) (w':World) (cur':Array Value),w'.heap[x]?=some (Obj.cells cur' 44 (0,0))→∀ k,w'.cell? ⟨x,k,none⟩=cur'[k]?:=fun x w' cur' h k=>by simp[World.cell?,h]
 have hfroz:∀ (x:Nat) (w':World) (cur':Array Value),w'.heap[x]?=some (Obj.cells cur' 44 (0,0))→∀ k,w'.frozen? ⟨x,k,none⟩=false:=fun x w' cur' h k=>by simp[World.frozen?,h]
 have hhd:w.drew.heap[b]?=some (Obj.cells cur 44 (0,0)):=hh
 have hvd:w.drew.heap[vb]?=some (Obj.cells vcur 44 (0,0)):=hv
 have hcp1:∀ ty dc sc,(Builtin.copy_ #[38,38] ty #[.slice (some ⟨b,(i+1) * 3,none⟩) (n - i) dc,.slice (some ⟨b,i * 3,none⟩) (n+1 - i) sc]).run Tryz.prog w.drew=.ok (goInt ((n - i:Nat):Int)) (w.drew.setCells b ((i+1) * 3) cs):=fun ty dc sc=>by
  have e:Nat.min (n+1 - i) (n - i)=n - i:=by simp only[Nat.min_def];split <;> omega
  have:=run_copy3 w.drew ty b ((i+1) * 3) (n - i) dc ⟨b,i * 3,none⟩ (n+1 - i) sc cs (by rw[e,hcl]) (fun k u hk=>by rw[Addr.add_lit,hcell _ _ _ hhd];exact hcs k u hk)
   (fun k hk=>by rw[hcell _ _ _ hhd,Array.getElem?_eq_getElem (by omega)];rfl) (fun k hk=>hfroz _ _ _ hhd _) h1
  rw[e] at this
  exact this
 obtain ⟨W1,hW1⟩:∃ W1,W1=w.drew.setCells b ((i+1) * 3) cs:=⟨_,rfl⟩
 have hW1':W1=w.drew.setRow b (ovr cur ((i+1) * 3) cs):=by rw[hW1];exact setCells_row _ _ hhd
 have hh1:W1.heap[b]?=some (Obj.cells (ovr cur ((i+1) * 3) cs) 44 (0,0)):=by rw[hW1'];exact heap_setRow hhd _
 have hv1:W1.heap[vb]?=some (Obj.cells vcur 44 (0,0)):=by
  rw[hW1']
  unfold World.setRow
  simp only[Array.getElem?_modify]
  rw[if_neg (fun e=>hvb e.symm)]
  exact hvd
 have hcp2:∀ ty dc,(Builtin.copy_ #[38,38] ty #[.slice (some ⟨b,i * 3,none⟩) (n+1 - i) dc,.slice (some ⟨vb,0,none⟩) 1 vc]).run Tryz.prog W1=.ok (goInt 1) (W1.setCells b (i * 3) vs):=fun ty dc=>by
  have e:Nat.min 1 (n+1 - i)=1:=by simp only[Nat.min_def];split <;> omega
  have:=run_copy3 W1 ty b (i * 3) (n+1 - i) dc ⟨vb,0,none⟩ 1 vc vs (by rw[e,hvl]) (fun k u hk=>by rw[Addr.add_lit,hcell _ _ _ hv1,Nat.zero_add];exact hvs k u hk)
   (fun k hk=>by rw[hcell _ _ _ hh1,Array.getElem?_eq_getElem (by rw[ovr_size];omega)];rfl) (fun k hk=>hfroz _ _ _ hh1 _) h2
  rw[e] at this
  exact this
 have X:Aside (W1.setCells b (i * 3) vs=w.drew.setRow b (ovr (ovr cur ((i+1) * 3) cs) (i * 3) vs)):=by
  rw[setCells_row _ _ hh1,hW1',setRow_twice]
  exact rfl
 have hin:i≤n:=by omega
 have hb2:¬ c=i+1:=by omega
 have hb3:(i:Int)≤(n:Int)+1:=by omega
 have hb4:¬ c=i:=by omega
 have hw1:IntKind.i64.wrap ((i:Int)+1)=(i:Int)+1:=wrapI (by omega)
 have hb1:(0:Int)≤(i:Int)+1:=by omega
 have hb5:(i:Int)+1≤(n:Int)+1:=by omega
 have htn:((i:Int)+1).toNat=i+1:=by omega
 rw[← hW1] at hcp1
 clear hW1 hW1' hh1 hv1 hhd hvd hcell hfroz
 have mixed':=mixed
 go_enter Tryz.func106,Tryz.ntmps106
 go_wp2_with (simp only[hov])
 go_region_law_o (refine step_copy3 rfl _ _ rfl _ _ (by simp[Act.eval,Act.put]) (by simp[Act.eval,Act.put]) (hcp1 _ _ _) ?_)
 go_wp2_with (at_builtin;refine list_copy3 _ rfl _ _ rfl _ _ rfl rfl (hcp2 _ _) ?_)
 go_ret
 exact ⟨rfl,X.out⟩
end Go.Proofs.YtdpigpahfiachaaGreatDoor
end
section
namespace Go.Proofs.YtdpigpahfiachaaGreatDoor
open Go Go.RowKit Go.Lib Go.EYtdpigpahfiachaaGreatDoor
set_option maxRecDepth 100000
set_option maxHeartbeats 4000000
def rowI (cur:Array Value) (n i G:Nat):Array Value:=(cur.toList.take (i * 3)).toArray++Builtin.zeroCells (Value.agg #[.int .i64 0,.int .i64 0,.string ⟨#[]⟩]).cells (n+1 - i)++Builtin.zeroCells (Value.agg #[.int .i64 0,.int .i64 0,.string ⟨#[]⟩]).cells (G - (n+1))
theorem rowI_size {cur:Array Value} {n i G:Nat} (hi:i<n) (hs:n * 3≤cur.size) (hG:n+1≤G):(rowI cur n i G).size=G * 3:=by
 have hz:(Value.agg #[.int .i64 0,.int .i64 0,.string ⟨#[]⟩]).cells.size=3:=rfl
 unfold rowI
 simp only[Array.size_append,List.size_toArray,List.length_take,Array.length_toList,size_zeroCells,hz]
 omega
theorem ins_grow (b n c i vb vc:Nat) (cur vcur:Array Value) (cs vs:List Value) (w:World) (hh:w.heap[b]?=some (Obj.cells cur 44 (0,0))) (hs:cur.size=c * 3) (hv:w.heap[vb]?=some (Obj.cells vcur 44 (0,0)))
 (hi:i<n) (hn:n≤c) (hroom:c<n+1) (hbig:n≤65536) (hvl:vs.length=3) (hvs:∀ (k:Nat) (u:Value),vs[k]?=some u→vcur[k]?=some u) (hcl:cs.length=(n - i) * 3) (hcs:∀ (k:Nat) (u:Value),cs[k]?=some u→cur[i * 3+k]?=some u)
 (h1:∀ u ∈ cs,u.oneCell'=true) (h2:∀ u ∈ vs,u.oneCell'=true) :
 Calls Tryz.prog 106 #[.slice (some ⟨b,0,none⟩) n c,.int .i64 i,.slice (some ⟨vb,0,none⟩) 1 vc] w fun e w'=>∃ G,n+1≤G∧G≤maxLen∧e=.returned (.slice (some ⟨w.heap.size,0,none⟩) (n+1) G)∧
  w'=(((w.alloc (.cells (rowI cur n i G) 44)).drew.setCells w.heap.size (i * 3) vs).drew).setCells w.heap.size ((i+1) * 3) cs:=by
 obtain ⟨i0,hi0,hz0,hz1,hz2⟩:=info_parts (show (Tryz.prog.info? 44).map (fun i=>(i.zero,i.size,i.bytes))=some (some (.agg #[.int .i64 0,.int .i64 0,.string ⟨#[]⟩]),3,32) by kernel_rfl)
 have hcell:∀ (x:Nat) (w':World) (cur':Array Value),w'.heap[x]?=some (Obj.cells cur' 44 (0,0))→∀ k,w'.cell? ⟨x,k,none⟩=cur'[k]?:=fun x w' cur' h k=>by simp[World.cell?,h]
 have hfroz:∀ (x:Nat) (w':World) (cur':Array Value),w'.heap[x]?=some (Obj.cells cur' 44 (0,0))→∀ k,w'.frozen? ⟨x,k,none⟩=false:=fun x w' cur' h k=>by simp[World.frozen?,h]
 have hkk:(n:Int)+1 - (i:Int)=((n+1 - i:Nat):Int):=by omega
 have hik:i+(n+1 - i)=n+1:=by omega
 have hold:(Builtin.firstCells i0.size i (.slice (some ⟨b,0,none⟩) i c)).run Tryz.prog w.drew=.ok (cur.toList.take (i * 3)).toArray w.drew:=by
  rw[hz1]
  exact run_firstCells_some w.drew 3 i ⟨b,0,none⟩ i c (cur.toList.take (i * 3)) (by rw[List.length_take,Array.length_toList];omega) (fun j v hj=>by
   rw[Addr.add_lit,hcell b w.drew cur hh,Nat.zero_add]
   rw[List.getElem?_take] at hj
   split at hj
   ·simpa using hj
   ·cases hj)
 obtain ⟨G,hG⟩:∃ G,G=grownCap w (n+1) c 44:=⟨_,rfl⟩
 have hGn:n+1≤G:=by rw[hG];exact grownCap_ge w _ _ _
 have hGm:G≤maxLen:=by rw[hG];exact grownCap_le_maxLen w (n+1) c 44 (by unfold maxLen;omega)
 have hrz:∀ ty,(Builtin.append_ #[38,3] ty #[.slice (some ⟨b,0,none⟩) i c,.int .i64 ((n:Int)+1 - (i:Int))]).run Tryz.prog w =
  .ok (.slice (some ⟨w.heap.size,0,none⟩) (n+1) G) (w.drew.alloc (.cells (rowI cur n i G) 44)):=fun ty=>by
  have h:=Lib.run_append_grow_zeros w 38 3 ty 44 i0 _ .i64 .i64 Tryz.underlying38 Tryz.underlying3 hi0 hz0 (some ⟨b,0,none⟩) i c (cur.toList.take (i * 3)) hold (n+1 - i) (by omega) (by omega) (by omega) (by omega) (by rw[hz2];omega) (by rw[hz2,hik];exact growslice_fits hroom (by omega))
  rw[hik] at h
  rw[hkk,h,hG]
  rfl
 have hRl:=rowI_size (cur:=cur) (n:=n) (i:=i) (G:=G) hi (by omega) hGn
 have hbl:b<w.heap.size:=(Array.getElem?_eq_some_iff.1 hh).1
 have hvl':vb<w.heap.size:=(Array.getElem?_eq_some_iff.1 hv).1
 have hROW:∀ x:World,x.heap=w.heap→(x.alloc (.cells (rowI cur n i G) 44)).heap[w.heap.size]?=some (Obj.cells (rowI cur n i G) 44 (0,0)):=fun x hx=>by
  show (x.heap.push _)[w.heap.size]?=_
  rw[hx]
  simp
 have hOLD:∀ (y:Nat) (o:Obj),w.heap[y]?=some o→(w.alloc (.cells (rowI cur n i G) 44)).heap[y]?=some o:=fun y o hy=>by
  have hy':y<w.heap.size:=(Array.getElem?_eq_some_iff.1 hy).1
  show (w.heap.push _)[y]?=_
  rw[Array.getElem?_push,if_neg (by omega)]
  exact hy
 obtain ⟨W1,hW1⟩:∃ W1:World,W1=(w.alloc (.cells (rowI cur n i G) 44)).drew:=⟨_,rfl⟩
 have g1:W1.heap[w.heap.size]?=some (Obj.cells (rowI cur n i G) 44 (0,0)):=by rw[hW1];exact hROW w rfl
 have g2:W1.heap[b]?=some (Obj.cells cur 44 (0,0)):=by rw[hW1];exact hOLD b _ hh
 have g3:W1.heap[vb]?=some (Obj.cells vcur 44 (0,0)):=by rw[hW1];exact hOLD vb _ hv
 have hcpA:∀ ty dc,(Builtin.copy_ #[38,38] ty #[.slice (some ⟨w.heap.size,i * 3,none⟩) (n+1 - i) dc,.slice (some ⟨vb,0,none⟩) 1 vc]).run Tryz.prog W1=.ok (goInt 1) (W1.setCells w.heap.size (i * 3) vs):=fun ty dc=>by
  have e:Nat.min 1 (n+1 - i)=1:=by simp only[Nat.min_def];split <;> omega
  have:=run_copy3 W1 ty w.heap.size (i * 3) (n+1 - i) dc ⟨vb,0,none⟩ 1 vc vs (by rw[e,hvl]) (fun k u hk=>by rw[Addr.add_lit,hcell _ _ _ g3,Nat.zero_add];exact hvs k u hk)
   (fun k hk=>by rw[hcell _ _ _ g1,Array.getElem?_eq_getElem (by rw[hRl];omega)];rfl) (fun k hk=>hfroz _ _ _ g1 _) h2
  rw[e] at this
  exact this
 obtain ⟨W2,hW2⟩:∃ W2:World,W2=W1.setCells w.heap.size (i * 3) vs:=⟨_,rfl⟩
 have hW2':W2=W1.setRow w.heap.size (ovr (rowI cur n i G) (i * 3) vs):=by rw[hW2];exact setCells_row _ _ g1
 have k1:W2.drew.heap[w.heap.size]?=some (Obj.cells (ovr (rowI cur n i G) (i * 3) vs) 44 (0,0)):=by rw[hW2'];exact heap_setRow g1 _
 have k2:W2.drew.heap[b]?=some (Obj.cells cur 44 (0,0)):=by
  rw[hW2']
  show (World.setRow W1 w.heap.size _).heap[b]?=_
  unfold World.setRow
  simp only[Array.getElem?_modify]
  rw[if_neg (by omega)]
  exact g2
 have hcpB:∀ ty dc sc,(Builtin.copy_ #[38,38] ty #[.slice (some ⟨w.heap.size,(i+1) * 3,none⟩) (n - i) dc,.slice (some ⟨b,i * 3,none⟩) (n - i) sc]).run Tryz.prog W2.drew=.ok (goInt ((n - i:Nat):Int)) (W2.drew.setCells w.heap.size ((i+1) * 3) cs):=fun ty dc sc=>by
  have e:Nat.min (n - i) (n - i)=n - i:=by simp only[Nat.min_def];split <;> omega
  have:=run_copy3 W2.drew ty w.heap.size ((i+1) * 3) (n - i) dc ⟨b,i * 3,none⟩ (n - i) sc cs (by rw[e,hcl]) (fun k u hk=>by rw[Addr.add_lit,hcell _ _ _ k2];exact hcs k u hk)
   (fun k hk=>by rw[hcell _ _ _ k1,Array.getElem?_eq_getElem (by rw[ovr_size,hRl];omega)];rfl) (fun k hk=>hfroz _ _ _ k1 _) h1
  rw[e] at this
  exact this
 have X:Aside (W2.drew.setCells w.heap.size ((i+1) * 3) cs=(((w.alloc (.cells (rowI cur n i G) 44)).drew.setCells w.heap.size (i * 3) vs).drew).setCells w.heap.size ((i+1) * 3) cs):=by
  rw[hW2,hW1]
  exact rfl
 have Y:Aside (n+1≤G∧G≤maxLen):=⟨hGn,hGm⟩
 have hE:w.drew.alloc (.cells (rowI cur n i G) 44)=W1:=by rw[hW1];rfl
 rw[hE] at hrz
 rw[← hW2] at hcpA
 have hin:i≤n:=by omega
 have hz3:(c:Int)<(n:Int)+1:=by omega
 have hc1:¬ c=i:=by omega
 have hG1:¬ G=i:=by omega
 have hG2:¬ G=i+1:=by omega
 have hG63:G≤9223372036854775807:=by unfold maxLen at hGm;omega
 have hc63:c≤9223372036854775807:=by omega
 have hic:i≤c:=by omega
 have hw1:IntKind.i64.wrap ((i:Int)+1)=(i:Int)+1:=wrapI (by omega)
 have hw2:IntKind.i64.wrap ((n:Int)+1)=(n:Int)+1:=wrapI (by omega)
 have hb1:(0:Int)≤(i:Int)+1:=by omega
 have hb3:(i:Int)≤(n:Int)+1:=by omega
 have hb5:(i:Int)+1≤(n:Int)+1:=by omega
 have htn:((i:Int)+1).toNat=i+1:=by omega
 have hw3:IntKind.i64.wrap ((n:Int)+1 - (i:Int))=(n:Int)+1 - (i:Int):=wrapI (by omega)
 clear hW1 hW2 hW2' g1 g2 g3 k1 k2 hE hROW hOLD hcell hfroz hold hkk hik hG hRl hh hv
 have mixed':=mixed
 go_enter Tryz.func106,Tryz.ntmps106
 go_wp2_with (first
  | (at_builtin;refine Lib.wpList_append_run _ rfl _ _ _ _ rfl _ _ rfl rfl _ _ (hrz _) ?_)
  | (at_builtin;refine list_copy3 _ rfl _ _ rfl _ _ rfl rfl (hcpA _ _) ?_))
 go_region_law_o (refine step_copy3 rfl _ _ rfl _ _ (by simp[Act.eval,Act.put]) (by simp[Act.eval,Act.put]) (hcpB _ _ _) ?_)
 go_wp2
 go_ret
 exact ⟨G,Y.out.1,Y.out.2,rfl,X.out⟩
end Go.Proofs.YtdpigpahfiachaaGreatDoor
end
