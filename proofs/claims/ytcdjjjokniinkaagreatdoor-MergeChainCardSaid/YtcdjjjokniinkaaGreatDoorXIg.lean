/- Proved: a part of what the law is proved with (the reckoner, contracts of functions, plain laws). Conditions: as each says. -/
import Derived.Lib.AppendZerosOnto
import Derived.Test.YtcdjjjokniinkaaGreatDoorXZk
section
namespace Go.Proofs.YtcdjjjokniinkaaGreatDoor
open Go Go.RowKit Go.Lib Go.EYtcdjjjokniinkaaGreatDoor
set_option maxRecDepth 100000
set_option maxHeartbeats 4000000
def rowI (cur:Array Value) (n i G:Nat):Array Value:=(cur.toList.take (i * 3)).toArray++Builtin.zeroCells (Value.agg #[.int .i64 0,.int .i64 0,.string ⟨#[]⟩]).cells (n+1 - i)++Builtin.zeroCells (Value.agg #[.int .i64 0,.int .i64 0,.string ⟨#[]⟩]).cells (G - (n+1))
theorem rowI_size {cur:Array Value} {n i G:Nat} (hi:i<n) (hs:n * 3≤cur.size) (hG:n+1≤G):(rowI cur n i G).size=G * 3:=by
 have hz:(Value.agg #[.int .i64 0,.int .i64 0,.string ⟨#[]⟩]).cells.size=3:=rfl
 unfold rowI
 simp only[Array.size_append,List.size_toArray,List.length_take,Array.length_toList,size_zeroCells,hz]
 omega
theorem ins_grow (b n c i vb vc:Nat) (cur vcur:Array Value) (cs vs:List Value) (w:World) (hh:w.heap[b]?=some (Obj.cells cur 31 (0,0))) (hs:cur.size=c * 3) (hv:w.heap[vb]?=some (Obj.cells vcur 31 (0,0)))
 (hi:i<n) (hn:n≤c) (hroom:c<n+1) (hbig:n≤65536) (hvl:vs.length=3) (hvs:∀ (k:Nat) (u:Value),vs[k]?=some u→vcur[k]?=some u) (hcl:cs.length=(n - i) * 3) (hcs:∀ (k:Nat) (u:Value),cs[k]?=some u→cur[i * 3+k]?=some u)
 (h1:∀ u ∈ cs,u.oneCell'=true) (h2:∀ u ∈ vs,u.oneCell'=true) :
 Calls Tryz.prog 38 #[.slice (some ⟨b,0,none⟩) n c,.int .i64 i,.slice (some ⟨vb,0,none⟩) 1 vc] w fun e w'=>∃ G,n+1≤G∧G≤maxLen∧e=.returned (.slice (some ⟨w.heap.size,0,none⟩) (n+1) G)∧
  w'=(((w.alloc (.cells (rowI cur n i G) 31)).drew.setCells w.heap.size (i * 3) vs).drew).setCells w.heap.size ((i+1) * 3) cs:=by
 obtain ⟨i0,hi0,hz0,hz1,hz2⟩:=info_parts (show (Tryz.prog.info? 31).map (fun i=>(i.zero,i.size,i.bytes))=some (some (.agg #[.int .i64 0,.int .i64 0,.string ⟨#[]⟩]),3,32) by kernel_rfl)
 have hcell:∀ (x:Nat) (w':World) (cur':Array Value),w'.heap[x]?=some (Obj.cells cur' 31 (0,0))→∀ k,w'.cell? ⟨x,k,none⟩=cur'[k]?:=fun x w' cur' h k=>by simp[World.cell?,h]
 have hfroz:∀ (x:Nat) (w':World) (cur':Array Value),w'.heap[x]?=some (Obj.cells cur' 31 (0,0))→∀ k,w'.frozen? ⟨x,k,none⟩=false:=fun x w' cur' h k=>by simp[World.frozen?,h]
 have hkk:(n:Int)+1 - (i:Int)=((n+1 - i:Nat):Int):=by omega
 have hik:i+(n+1 - i)=n+1:=by omega
 have hold:(Builtin.firstCells i0.size i (.slice (some ⟨b,0,none⟩) i c)).run Tryz.prog w.drew=.ok (cur.toList.take (i * 3)).toArray w.drew:=by
  rw[hz1]
  exact run_firstCells_some w.drew 3 i ⟨b,0,none⟩ i c (cur.toList.take (i * 3)) (by rw[List.length_take,Array.length_toList];omega) (fun j v hj=>by
   rw[Addr.add_lit,hcell b w.drew cur hh,Nat.zero_add]
   rw[List.getElem?_take] at hj
   split at hj
   ·simpa using hj
   ·cases hj)
 obtain ⟨G,hG⟩:∃ G,G=grownCap w (n+1) c 31:=⟨_,rfl⟩
 have hGn:n+1≤G:=by rw[hG];exact grownCap_ge w _ _ _
 have hGm:G≤maxLen:=by rw[hG];exact grownCap_le_maxLen w (n+1) c 31 (by unfold maxLen;omega)
 have hrz:∀ ty,(Builtin.append_ #[22,3] ty #[.slice (some ⟨b,0,none⟩) i c,.int .i64 ((n:Int)+1 - (i:Int))]).run Tryz.prog w =
  .ok (.slice (some ⟨w.heap.size,0,none⟩) (n+1) G) (w.drew.alloc (.cells (rowI cur n i G) 31)):=fun ty=>by
  have h:=Lib.run_append_grow_zeros w 22 3 ty 31 i0 _ .i64 .i64 Tryz.underlying22 Tryz.underlying3 hi0 hz0 (some ⟨b,0,none⟩) i c (cur.toList.take (i * 3)) hold (n+1 - i) (by omega) (by omega) (by omega) (by omega) (by rw[hz2];omega) (by rw[hz2,hik];exact growslice_fits hroom (by omega))
  rw[hik] at h
  rw[hkk,h,hG]
  rfl
 have hRl:=rowI_size (cur:=cur) (n:=n) (i:=i) (G:=G) hi (by omega) hGn
 have hbl:b<w.heap.size:=(Array.getElem?_eq_some_iff.1 hh).1
 have hvl':vb<w.heap.size:=(Array.getElem?_eq_some_iff.1 hv).1
 have hROW:∀ x:World,x.heap=w.heap→(x.alloc (.cells (rowI cur n i G) 31)).heap[w.heap.size]?=some (Obj.cells (rowI cur n i G) 31 (0,0)):=fun x hx=>by
  show (x.heap.push _)[w.heap.size]?=_
  rw[hx]
  simp
 have hOLD:∀ (y:Nat) (o:Obj),w.heap[y]?=some o→(w.alloc (.cells (rowI cur n i G) 31)).heap[y]?=some o:=fun y o hy=>by
  have hy':y<w.heap.size:=(Array.getElem?_eq_some_iff.1 hy).1
  show (w.heap.push _)[y]?=_
  rw[Array.getElem?_push,if_neg (by omega)]
  exact hy
 obtain ⟨W1,hW1⟩:∃ W1:World,W1=(w.alloc (.cells (rowI cur n i G) 31)).drew:=⟨_,rfl⟩
 have g1:W1.heap[w.heap.size]?=some (Obj.cells (rowI cur n i G) 31 (0,0)):=by rw[hW1];exact hROW w rfl
 have g2:W1.heap[b]?=some (Obj.cells cur 31 (0,0)):=by rw[hW1];exact hOLD b _ hh
 have g3:W1.heap[vb]?=some (Obj.cells vcur 31 (0,0)):=by rw[hW1];exact hOLD vb _ hv
 have hcpA:∀ ty dc,(Builtin.copy_ #[22,22] ty #[.slice (some ⟨w.heap.size,i * 3,none⟩) (n+1 - i) dc,.slice (some ⟨vb,0,none⟩) 1 vc]).run Tryz.prog W1=.ok (goInt 1) (W1.setCells w.heap.size (i * 3) vs):=fun ty dc=>by
  have e:Nat.min 1 (n+1 - i)=1:=by simp only[Nat.min_def];split <;> omega
  have:=run_copy3 W1 ty w.heap.size (i * 3) (n+1 - i) dc ⟨vb,0,none⟩ 1 vc vs (by rw[e,hvl]) (fun k u hk=>by rw[Addr.add_lit,hcell _ _ _ g3,Nat.zero_add];exact hvs k u hk)
   (fun k hk=>by rw[hcell _ _ _ g1,Array.getElem?_eq_getElem (by rw[hRl];omega)];rfl) (fun k hk=>hfroz _ _ _ g1 _) h2
  rw[e] at this
  exact this
 obtain ⟨W2,hW2⟩:∃ W2:World,W2=W1.setCells w.heap.size (i * 3) vs:=⟨_,rfl⟩
 have hW2':W2=W1.setRow w.heap.size (ovr (rowI cur n i G) (i * 3) vs):=by rw[hW2];exact setCells_row _ _ g1
 have k1:W2.drew.heap[w.heap.size]?=some (Obj.cells (ovr (rowI cur n i G) (i * 3) vs) 31 (0,0)):=by rw[hW2'];exact heap_setRow g1 _
 have k2:W2.drew.heap[b]?=some (Obj.cells cur 31 (0,0)):=by
  rw[hW2']
  show (World.setRow W1 w.heap.size _).heap[b]?=_
  unfold World.setRow
  simp only[Array.getElem?_modify]
  rw[if_neg (by omega)]
  exact g2
 have hcpB:∀ ty dc sc,(Builtin.copy_ #[22,22] ty #[.slice (some ⟨w.heap.size,(i+1) * 3,none⟩) (n - i) dc,.slice (some ⟨b,i * 3,none⟩) (n - i) sc]).run Tryz.prog W2.drew=.ok (goInt ((n - i:Nat):Int)) (W2.drew.setCells w.heap.size ((i+1) * 3) cs):=fun ty dc sc=>by
  have e:Nat.min (n - i) (n - i)=n - i:=by simp only[Nat.min_def];split <;> omega
  have:=run_copy3 W2.drew ty w.heap.size ((i+1) * 3) (n - i) dc ⟨b,i * 3,none⟩ (n - i) sc cs (by rw[e,hcl]) (fun k u hk=>by rw[Addr.add_lit,hcell _ _ _ k2];exact hcs k u hk)
   (fun k hk=>by rw[hcell _ _ _ k1,Array.getElem?_eq_getElem (by rw[ovr_size,hRl];omega)];rfl) (fun k hk=>hfroz _ _ _ k1 _) h1
  rw[e] at this
  exact this
 have X:Aside (W2.drew.setCells w.heap.size ((i+1) * 3) cs=(((w.alloc (.cells (rowI cur n i G) 31)).drew.setCells w.heap.size (i * 3) vs).drew).setCells w.heap.size ((i+1) * 3) cs):=by
  rw[hW2,hW1]
  exact rfl
 have Y:Aside (n+1≤G∧G≤maxLen):=⟨hGn,hGm⟩
 have hE:w.drew.alloc (.cells (rowI cur n i G) 31)=W1:=by rw[hW1];rfl
 rw[hE] at hrz
 rw[← hW2] at hcpA
 have hin:i≤n:=by omega
 have hz3:(c:Int)<(n:Int)+1:=by omega
 have hc1:¬ c=i:=by omega
 have hG1:¬ G=i:=by omega
 have hG2:¬ G=i+1:=by omega
 have hG63:G≤9223372036854775807:=by unfold maxLen at hGm;omega
 have hc63:c≤9223372036854775807:=by omega
 have hic:i≤c:=by omega
 have hw1:IntKind.i64.wrap ((i:Int)+1)=(i:Int)+1:=wrapI (by omega)
 have hw2:IntKind.i64.wrap ((n:Int)+1)=(n:Int)+1:=wrapI (by omega)
 have hb1:(0:Int)≤(i:Int)+1:=by omega
 have hb3:(i:Int)≤(n:Int)+1:=by omega
 have hb5:(i:Int)+1≤(n:Int)+1:=by omega
 have htn:((i:Int)+1).toNat=i+1:=by omega
 have hw3:IntKind.i64.wrap ((n:Int)+1 - (i:Int))=(n:Int)+1 - (i:Int):=wrapI (by omega)
 clear hW1 hW2 hW2' g1 g2 g3 k1 k2 hE hROW hOLD hcell hfroz hold hkk hik hG hRl hh hv
 have mixed':=mixed
 go_enter Tryz.func38,Tryz.ntmps38
 go_wp2_with (first
  | (at_builtin;refine Lib.wpList_append_run _ rfl _ _ _ _ rfl _ _ rfl rfl _ _ (hrz _) ?_)
  | (at_builtin;refine list_copy3 _ rfl _ _ rfl _ _ rfl rfl (hcpA _ _) ?_))
 go_region_law_o (refine step_copy3 rfl _ _ rfl _ _ (by simp[Act.eval,Act.put]) (by simp[Act.eval,Act.put]) (hcpB _ _ _) ?_)
 go_wp2
 go_ret
 exact ⟨G,Y.out.1,Y.out.2,rfl,X.out⟩
end Go.Proofs.YtcdjjjokniinkaaGreatDoor
end
section
namespace Go.Proofs.YtcdjjjokniinkaaGreatDoor
open Go Go.RowKit Go.EYtcdjjjokniinkaaGreatDoor
set_option maxRecDepth 100000
set_option maxHeartbeats 4000000
variable {gl:List (Nat×List D)}
theorem FClone_e:Go.EYtcdjjjokniinkaaGreatDoor.Fn Tryz.prog gl 19 [.c (.d (.lst 3 []))] [] 0 (.ret (.c (.all 3 0))) [(0,.rows 3 (([]:List Fl).map flD) 31)] 1 []:=by
 refine ⟨by omega,fun k B h hk=>(by omega),fun k hk=>(by cases hk),fun w M0 adr xs hW hG hd=>?_⟩
 obtain ⟨x,rfl,hx⟩:=All2.one_iff.1 hd
 have nil:∀ (w':World) (v':Value),Evo (Trk adr []) w w'→v'=.slice none 0 0→∃ adr':Env,Evo (Trk adr []) w w'∧WOk M0 adr' [(0,.rows 3 (([]:List Fl).map flD) 31)] 1 w'∧(∀ k,k<0→k ∉ []→adr' k=adr k)∧
  (∀ k B b m,Go.EYtcdjjjokniinkaaGreatDoor.look [(0,Blk.rows 3 (([]:List Fl).map flD) 31)] k=some B→adr' k=some (some b,m)→Trk adr [] b∨w.heap.size≤b)∧RetOk adr' (Mut M0 adr' [(0,.rows 3 (([]:List Fl).map flD) 31)]) w' (.ret (.c (.all 3 0))) (.returned v'):=by
  rintro w' v' hE rfl
  refine ⟨fun k=>if k=0 then some (none,0) else none,hE,⟨?_,?_,?_,?_,?_,?_⟩,fun k hk=>(by omega),?_,_,rfl,.inl ⟨rfl,rfl⟩⟩
  ·intro k B h
   match k,h with
   | 0,_=>decide
  ·intro k hk
   exact if_neg (by omega)
  ·intro k B h
   match k,h with
   | 0,h =>
    cases h
    exact ⟨by decide,rfl,rfl⟩
  ·intro k k' B B' b m m' h h' _ _
   match k,k',h,h' with
   | 0,0,_,_=>rfl
  ·intro k B b m h he hM
   match k,h with
   | 0,_=>cases he
  ·intro b hM
   exact Nat.lt_of_lt_of_le (hW.bound b hM) hE.size
  ·intro k B b m h he
   match k,h with
   | 0,_=>cases he
 obtain ⟨a,c,rfl⟩:∃ a c,x=.slice a 0 c:=by
  have hx':DenD _ w (.lst 3 []) x:=hx
  cases hx' with
  | lst0 z a c hc=>exact ⟨a,c,rfl⟩
  | lst z l b o c cs hb hM hl hc hz h1 h2=>exact ⟨_,_,rfl⟩
 refine .inl ⟨by unfold HasBody;kernel_rfl,?_⟩
 cases a with
 | none =>
  refine (fclone_nil 0 c w).mono ?_
  rintro e w' ⟨rfl,rfl⟩
  exact nil w' _ (Evo.refl _ _) rfl
 | some ad =>
  refine (fclone_calls ad 0 c [] w (by decide) rfl (fun j u h=>by cases h) (fun u h=>by cases h)).mono ?_
  rintro e w' ⟨v',rfl,hown,-,hb⟩
  have hE:Evo (Trk adr []) w w':=Evo.of_below hb _
  obtain ⟨-,⟨rfl,hz⟩|⟨g,cap,cur,rfl,hg,hh,hc1,hc2,hc3,hc4⟩⟩:=hown
  ·exact nil w' _ hE rfl
  ·refine ⟨fun k=>if k=0 then some (some g,0) else none,hE,⟨?_,?_,?_,?_,?_,?_⟩,fun k hk=>(by omega),?_,_,rfl,.inr ⟨g,_,cap,cur,_,_,rfl,hh,hc3,hc1,hc2,rfl⟩⟩
   ·intro k B h
    match k,h with
    | 0,_=>decide
   ·intro k hk
    exact if_neg (by omega)
   ·intro k B h
    match k,h with
    | 0,h =>
     cases h
     refine ⟨by decide,rfl,fun r hr=>by simp at hr,cur,cap,hh,hc3,hc1,hc2,?_⟩
     show All2 _ [] (cur.toList.take (0 * 3))
     simp[All2]
   ·intro k k' B B' b m m' h h' _ _
    match k,k',h,h' with
    | 0,0,_,_=>rfl
   ·intro k B b m h he hM
    match k,h with
    | 0,_ =>
     cases he
     have:=hW.bound _ hM
     omega
   ·intro b hM
    exact Nat.lt_of_lt_of_le (hW.bound b hM) hb.size
   ·intro k B b m h he
    match k,h with
    | 0,_ =>
     cases he
     exact .inr hg
end Go.Proofs.YtcdjjjokniinkaaGreatDoor
end
section
namespace Go.Proofs.YtcdjjjokniinkaaGreatDoor
open Go Go.RowKit Go.EYtcdjjjokniinkaaGreatDoor
set_option maxRecDepth 100000
set_option maxHeartbeats 4000000
variable {gl:List (Nat×List D)}
theorem rows_out2 {M0:Nat→Prop} {adr:Env} {w w':World} {g c z e z1 e1:Nat} {cur2:Array Value} {l l' l1:List (List D)} (hW:WOk M0 adr [(0,.rows z l e),(1,.rows z1 l1 e1)] 2 w) (hE:Evo (Trk adr [(0,.rows z l e),(1,.rows z1 l1 e1)]) w w')
 (hg:w'.heap[g]?=some (Obj.cells cur2 e (0,0))) (hwh:(∃ n,adr 0=some (some g,n))∨w.heap.size≤g) (hkeep:∀ b m,adr 1=some (some b,m)→w'.heap[b]?=w.heap[b]?) (hs:cur2.size=c * z) (hz:0<z) (hr:∀ r ∈ l',r.length=z) (hl:l'.length≤c) (hc:c≤maxLen)
 (hden:DenL (Mut M0 adr [(0,.rows z l e),(1,.rows z1 l1 e1)]) w l'.flatten (cur2.toList.take (l'.length * z))) :
 ∃ adr':Env,Evo (Trk adr [(0,.rows z l e),(1,.rows z1 l1 e1)]) w w'∧WOk M0 adr' [(0,.rows z l' e),(1,.rows z1 l1 e1)] 2 w'∧(∀ k,k<2→k ∉ [0]→adr' k=adr k)∧
  (∀ k B b m,Go.EYtcdjjjokniinkaaGreatDoor.look [(0,Blk.rows z l' e),(1,Blk.rows z1 l1 e1)] k=some B→adr' k=some (some b,m)→Trk adr [(0,.rows z l e),(1,.rows z1 l1 e1)] b∨w.heap.size≤b)∧
  RetOk adr' (Mut M0 adr' [(0,.rows z l' e),(1,.rows z1 l1 e1)]) w' (.ret (.c (.all z 0))) (.returned (.slice (some ⟨g,0,none⟩) l'.length c)):=by
 have hM:∀ x,x<w.heap.size→Mut M0 (fun k=>if k=0 then some (some g,l'.length) else adr k) [(0,.rows z l' e),(1,.rows z1 l1 e1)] x→Mut M0 adr [(0,.rows z l e),(1,.rows z1 l1 e1)] x:=by
  rintro x hx (h|⟨k,B,m,h1,h2⟩)
  ·exact .inl h
  ·match k,h1 with
   | 0,_ =>
    cases h2
    rcases hwh with ⟨n,ha⟩|hge
    ·exact .inr ⟨0,_,n,rfl,ha⟩
    ·omega
   | 1,_=>exact .inr ⟨1,_,m,rfl,h2⟩
 have hS:∀ x,x<w.heap.size→Trk adr [(0,.rows z l e),(1,.rows z1 l1 e1)] x→Mut M0 adr [(0,.rows z l e),(1,.rows z1 l1 e1)] x:=fun x _ ⟨k,B,m,h1,h2⟩=>.inr ⟨k,B,m,h1,h2⟩
 have hapart:∀ b m,adr 1=some (some b,m)→b≠g:=by
  rintro b m h1 rfl
  rcases hwh with ⟨n,ha⟩|hge
  ·have:=hW.inj 0 1 _ _ b n m rfl rfl ha h1
   omega
  ·have:=hW.lt (k:=1) rfl h1
   omega
 refine ⟨fun k=>if k=0 then some (some g,l'.length) else adr k,hE,⟨?_,?_,?_,?_,?_,?_⟩,fun k hk hn=>?_,?_,_,rfl,.inr ⟨g,l'.length,c,cur2,e,(0,0),rfl,hg,hs,hl,hc,rfl⟩⟩
 ·intro k B h
  match k,h with
  | 0,_=>decide
  | 1,_=>decide
 ·intro k hk
  show (if k=0 then _ else adr k)=none
  rw[if_neg (by omega)]
  exact hW.fresh k hk
 ·intro k B h
  match k,h with
  | 0,h =>
   cases h
   exact ⟨hz,rfl,hr,cur2,c,hg,hs,hl,hc,DenL.evo hE hS hM hden⟩
  | 1,h =>
   cases h
   exact LocB.evo hE hS hM (fun b m h1 _=>hkeep b m h1) (fun l t hh=>by cases hh) (hW.loc 1 _ rfl)
 ·intro k k' B B' b m m' h h' h1 h2
  match k,k',h,h' with
  | 0,0,_,_=>rfl
  | 1,1,_,_=>rfl
  | 0,1,_,_ =>
   cases h1
   exact absurd rfl (hapart _ _ h2)
  | 1,0,_,_ =>
   cases h2
   exact absurd rfl (hapart _ _ h1)
 ·intro k B b m h he hm
  match k,h with
  | 0,_ =>
   cases he
   rcases hwh with ⟨n,ha⟩|hge
   ·exact hW.prot 0 _ _ n rfl ha hm
   ·have:=hW.bound _ hm
    omega
  | 1,_=>exact hW.prot 1 _ b m rfl he hm
 ·intro b hm
  exact Nat.lt_of_lt_of_le (hW.bound b hm) hE.size
 ·show (if k=0 then _ else adr k)=adr k
  rw[if_neg (fun h=>hn (by simp[h]))]
 ·intro k B b m h he
  match k,h with
  | 0,_ =>
   cases he
   rcases hwh with ⟨n,ha⟩|hge
   ·exact .inl ⟨0,_,n,rfl,ha⟩
   ·exact .inr hge
  | 1,_=>exact .inl ⟨1,_,m,rfl,he⟩
end Go.Proofs.YtcdjjjokniinkaaGreatDoor
end
section
namespace Go.Proofs.YtcdjjjokniinkaaGreatDoor
open Go Go.RowKit Go.Lib Go.EYtcdjjjokniinkaaGreatDoor
set_option maxRecDepth 100000
set_option maxHeartbeats 4000000
theorem ins_end (a:Option Addr) (n c vb vc:Nat) (w w1:World) (v':Value) (hn:n≤c) (hc:c≤maxLen) (ha:a=none→c=0)
 (hr:(Builtin.append_ #[22,22] 22 #[.slice a n c,.slice (some ⟨vb,0,none⟩) 1 vc]).run Tryz.prog w=.ok v' w1) :
 Calls Tryz.prog 38 #[.slice a n c,.int .i64 n,.slice (some ⟨vb,0,none⟩) 1 vc] w fun e w'=>e=.returned v'∧w'=w1:=by
 unfold maxLen at hc
 have mixed':=mixed
 cases a with
 | none =>
  obtain rfl:=ha rfl
  obtain rfl:n=0:=by omega
  go_enter Tryz.func38,Tryz.ntmps38
  go_wp2_with (at_builtin;refine Lib.wpList_append_run _ rfl _ _ _ _ rfl _ _ rfl rfl _ _ hr ?_)
  go_ret
  exact ⟨rfl,rfl⟩
 | some ad =>
  clear ha
  go_enter Tryz.func38,Tryz.ntmps38
  go_wp2_with (at_builtin;refine Lib.wpList_append_run _ rfl _ _ _ _ rfl _ _ rfl rfl _ _ hr ?_)
  all_goals (go_ret;exact ⟨rfl,rfl⟩)
theorem ovr_put {cur:Array Value} {a k e:Nat} {vs cs:List Value} (h1:vs.length=k) (he:e=a+k+cs.length) (hs:e≤cur.size) :
 (ovr (ovr cur (a+k) cs) a vs).toList.take e=cur.toList.take a++(vs++cs)∧(ovr (ovr cur a vs) (a+k) cs).toList.take e=cur.toList.take a++(vs++cs):=by
 have hl:(cur.toList.take a).length=a:=by simp;omega
 have key:∀ (x:Array Value),(∀ j,j<a→x[j]?=cur[j]?)→(∀ j v,vs[j]?=some v→x[a+j]?=some v)→(∀ j v,cs[j]?=some v→x[a+k+j]?=some v)→x.toList.take e=cur.toList.take a++(vs++cs):=by
  intro x g1 g2 g3
  apply List.ext_getElem?
  intro j
  rw[List.getElem?_take]
  by_cases hj:j<e
  ·rw[if_pos hj,Array.getElem?_toList]
   by_cases h2:j<a
   ·rw[g1 j h2,List.getElem?_append_left (by omega),List.getElem?_take,if_pos h2,Array.getElem?_toList]
   ·rw[List.getElem?_append_right (by omega),hl]
    by_cases h3:j - a<vs.length
    ·rw[List.getElem?_append_left h3,List.getElem?_eq_getElem h3]
     have:=g2 (j - a) vs[j - a] (List.getElem?_eq_getElem h3)
     rwa [show a+(j - a)=j by omega] at this
    ·have h4:j - a - vs.length<cs.length:=by omega
     rw[List.getElem?_append_right (by omega),List.getElem?_eq_getElem h4]
     have:=g3 (j - a - vs.length) cs[j - a - vs.length] (List.getElem?_eq_getElem h4)
     rwa [show a+k+(j - a - vs.length)=j by omega] at this
  ·rw[if_neg hj,List.getElem?_eq_none]
   simp
   omega
 have lt:∀ {l:List Value} {j:Nat} {v:Value},l[j]?=some v→j<l.length:=fun h=>(List.getElem?_eq_some_iff.1 h).1
 constructor
 ·refine key _ (fun j hj=>?_) (fun j v hv=>?_) (fun j v hv=>?_)
  ·rw[ovr_out _ _ _ _ (.inl hj),ovr_out _ _ _ _ (.inl (by omega))]
  ·exact ovr_in vs a _ j v (by rw[ovr_size];omega) hv
  ·have:=lt hv
   rw[ovr_out _ _ _ _ (.inr (by omega))]
   exact ovr_in cs (a+k) cur j v (by omega) hv
 ·refine key _ (fun j hj=>?_) (fun j v hv=>?_) (fun j v hv=>?_)
  ·rw[ovr_out _ _ _ _ (.inl (by omega)),ovr_out _ _ _ _ (.inl hj)]
  ·have:=lt hv
   rw[ovr_out _ _ _ _ (.inl (by omega))]
   exact ovr_in vs a cur j v (by omega) hv
  ·exact ovr_in cs (a+k) _ j v (by rw[ovr_size];omega) hv
end Go.Proofs.YtcdjjjokniinkaaGreatDoor
end
section
namespace Go.Proofs.YtcdjjjokniinkaaGreatDoor
open Go Go.RowKit Go.EYtcdjjjokniinkaaGreatDoor
set_option maxRecDepth 100000
set_option maxHeartbeats 4000000
variable {gl:List (Nat×List D)}
theorem fitFl:FitsOne Tryz.prog 31 ⟨true,3,32,[iD 0,iD 0,.str []],[(0,2),(2,1)],false,none,none,6,[],false,[]⟩:=⟨by kernel_rfl,rfl,rfl,by kernel_rfl,(fun h=>by cases h),by kernel_rfl⟩
theorem flat_ins {z:Nat}:∀ {l:List (List D)} {i:Nat} {r:List D} (_:∀ r ∈ l,r.length=z) (_:i≤l.length),(l.insertIdx i r).flatten=l.flatten.take (i * z)++(r++l.flatten.drop (i * z))
 | l,0,r,_,_=>by simp
 | x::l,i+1,r,hz,hi=>by
  have hx:=hz x (by simp)
  have hi':i≤l.length:=by simpa using hi
  have e:(i+1) * z=x.length+i * z:=by rw[hx,Nat.add_mul,Nat.one_mul,Nat.add_comm]
  rw[List.insertIdx_succ_cons,List.flatten_cons,List.flatten_cons,flat_ins (fun r h=>hz r (by simp[h])) hi',e,List.take_append,List.drop_append,List.take_of_length_le (Nat.le_add_right _ _),List.drop_eq_nil_of_le (Nat.le_add_right _ _)]
  simp
theorem map_ins:∀ (l:List Fl) (i:Nat) (f:Fl),(l.insertIdx i f).map flD=(l.map flD).insertIdx i (flD f)
 | [],0,_=>rfl
 | [],_+1,_=>rfl
 | _::_,0,_=>rfl
 | x::l,i+1,f=>by
  rw[List.insertIdx_succ_cons,List.map_cons,List.map_cons,List.insertIdx_succ_cons,map_ins l i f]
theorem len_ins (l:List Fl) (i:Nat) (f:Fl) (hi:i≤l.length):((l.insertIdx i f).map flD).length=l.length+1:=by
 rw[List.length_map,List.length_insertIdx,if_pos hi]
theorem den_ins {M:Nat→Prop} {w:World} {l:List Fl} {i:Nat} {f:Fl} {xs vs:List Value} (hi:i≤l.length) (h:DenL M w (l.map flD).flatten xs) (hv:DenL M w (flD f) vs) :
 DenL M w ((l.insertIdx i f).map flD).flatten (xs.take (i * 3)++(vs++xs.drop (i * 3))):=by
 rw[map_ins,flat_ins flD_3 (by simpa using hi)]
 exact All2.app (All2.take _ h) (All2.app hv (All2.drop _ h))
end Go.Proofs.YtcdjjjokniinkaaGreatDoor
end
section
namespace Go.Proofs.YtcdjjjokniinkaaGreatDoor
open Go Go.RowKit Go.EYtcdjjjokniinkaaGreatDoor
set_option maxRecDepth 100000
set_option maxHeartbeats 4000000
variable {gl:List (Nat×List D)}
theorem alloc_setRow (w:World) (x y:Array Value) (t:TypeId) (f:Nat×Nat):(w.alloc (.cells x t f)).setRow w.heap.size y=w.alloc (.cells y t f):=by
 unfold World.setRow World.alloc
 simp only[World.mk.injEq,and_true]
 apply Array.ext_getElem?
 intro k
 simp only[Array.getElem?_modify,Array.getElem?_push]
 by_cases h:w.heap.size=k
 ·subst h
  simp
 ·rw[if_neg h]
  simp[Ne.symm h]
theorem Ins_x (l:List Fl) (f:Fl) (i:Nat) (hi:i≤l.length) (hbig:l.length≤65536):Go.EYtcdjjjokniinkaaGreatDoor.Fn Tryz.prog gl 38 [.c (.all 3 0),.c (.d (iD (i:Nat))),.c (.all 3 1)] [(0,.rows 3 (l.map flD) 31),(1,.rows 3 [flD f] 31)] 2 (.ret (.c (.all 3 0))) [(0,.rows 3 ((l.insertIdx i f).map flD) 31),(1,.rows 3 [flD f] 31)] 2 [0]:=by
 refine ⟨Nat.le_refl _,fun k B h hk=>?_,fun k hk=>?_,fun w M0 adr xs hW hG hd=>?_⟩
 ·match k,h with
  | 0,_=>rfl
  | 1,_=>rfl
 ·cases List.mem_singleton.1 hk
  rfl
 match xs,hd with
 | [x,y,z],⟨hx,hy,hz,_⟩ =>
  obtain rfl:y=.int .i64 (i:Nat):=DenD.v_inv hy
  have hloc:=hW.loc 0 _ rfl
  have hloc1:=hW.loc 1 _ rfl
  obtain ⟨vb,vc,vcur,rfl,hva,hv,hvsz,hv1,hvd⟩:∃ (vb vc:Nat) (vcur:Array Value),z=.slice (some ⟨vb,0,none⟩) 1 vc∧adr 1=some (some vb,1)∧w.heap[vb]?=some (Obj.cells vcur 31 (0,0))∧vcur.size=vc * 3∧1≤vc∧DenL (Mut M0 adr [(0,.rows 3 (l.map flD) 31),(1,.rows 3 [flD f] 31)]) w (flD f) (vcur.toList.take 3):=by
   rcases hz with ⟨h5,rfl⟩|⟨b,q,cp,cur,ee,ff,h5,h6,h7,h8,h9,rfl⟩
   ·rw[h5] at hloc1
    obtain ⟨_,h6,_⟩:=hloc1
    cases h6
   ·rw[h5] at hloc1
    obtain ⟨g1,g2,g3,cur',cp',g4,g5,g6,g7,g8⟩:=hloc1
    rw[h6] at g4
    cases g4
    obtain rfl:q=1:=g2.symm
    exact ⟨b,cp,cur,rfl,h5,h6,h7,h8,by simpa using g8⟩
  have hvl:(vcur.toList.take 3).length=3:=by rw[List.length_take,Array.length_toList];omega
  have hvs:∀ (k:Nat) (u:Value),(vcur.toList.take 3)[k]?=some u→vcur[k]?=some u:=fun k u hu=>by
   rw[List.getElem?_take] at hu
   split at hu
   ·simpa using hu
   ·cases hu
  have h2:∀ u ∈ vcur.toList.take 3,u.oneCell'=true:=allOne_ok (rs:=[flD f]) rfl (by simpa using hvd)
  obtain ⟨vs,hvs0⟩:∃ vs,vs=vcur.toList.take 3:=⟨_,rfl⟩
  rw[← hvs0] at hvd hvl hvs h2
  have hxs:∀ k u,vs[k]?=some u→w.cell? ((⟨vb,0,none⟩:Addr).add k)=some u:=fun k u hu=>by
   rw[Addr.add_lit,Nat.zero_add]
   simpa[World.cell?,hv] using hvs k u hu
  have hle:=len_ins l i f hi
  have hlen:(l.map flD).length=l.length:=List.length_map _
  have hkeep1:∀ (w':World) (g:Nat),w'.heap[vb]?=w.heap[vb]?→∀ b m,adr 1=some (some b,m)→w'.heap[b]?=w.heap[b]?:=fun w' g hw b m h1=>by
   rw[hva] at h1
   cases h1
   exact hw
  have hapart:∀ b m,adr 0=some (some b,m)→vb≠b:=by
   rintro b m h1 rfl
   have:=hW.inj 0 1 _ _ vb m 1 rfl rfl h1 hva
   omega
  have hvbl:vb<w.heap.size:=(Array.getElem?_eq_some_iff.1 hv).1
  have hnewkeep:∀ o:Obj,(w.alloc o).heap[vb]?=w.heap[vb]?:=fun o=>by
   show (w.heap.push o)[vb]?=_
   rw[Array.getElem?_push,if_neg (by omega)]
  have hnewat:∀ o:Obj,(w.alloc o).heap[w.heap.size]?=some o:=fun o=>by
   show (w.heap.push o)[w.heap.size]?=_
   simp
  have hrowkeep:∀ b m cur2,adr 0=some (some b,m)→(w.setRow b cur2).heap[vb]?=w.heap[vb]?:=fun b m cur2 h1=>by
   unfold World.setRow
   simp only[Array.getElem?_modify]
   rw[if_neg (fun e=>hapart b m h1 e.symm)]
  refine .inl ⟨by unfold HasBody;kernel_rfl,?_⟩
  rcases hx with ⟨h5,rfl⟩|⟨b,q,cp,cur,ee,ff,h5,h6,h7,h8,h9,rfl⟩
  ·rw[h5] at hloc
   obtain ⟨_,h6,_⟩:=hloc
   obtain rfl:=List.map_eq_nil_iff.1 h6
   obtain rfl:i=0:=by simpa using hi
   obtain ⟨v',w',hr,hc⟩:=run_append (P:=Tryz.prog) w (t:=22) (ty:=22) (e:=31) Tryz.underlying22 fitFl (by decide) (v:=.slice none 0 0) (x:=.slice (some ⟨vb,0,none⟩) 1 vc) (m:=0) (q:=1) (xs:=[]) (news:=vs) (.inl ⟨rfl,rfl,rfl⟩) (.inr ⟨_,_,rfl,hvl,hxs⟩) h2 (by decide) (by decide)
   refine (ins_end none 0 0 vb vc w w' v' (Nat.le_refl _) (by decide) (fun _=>rfl) hr).mono ?_
   rintro e w'' ⟨rfl,rfl⟩
   rcases hc with ⟨-,-,-,h⟩|⟨g,cap,cur,cur',h,-⟩|⟨cap,cur',rfl,rfl,k1,k2,k3,k4⟩
   ·cases h
   ·cases h
   ·have:=rows_out2 (l':=([f]:List Fl).map flD) hW (((Evo.drew _ w).trans (Evo.alloc _ _ (Obj.cells cur' 31 (0,0))))) (hnewat _) (.inr (Nat.le_refl _)) (hkeep1 _ 0 (hnewkeep _)) k3 (by decide) flD_3 k1 k2 (by
     have e1:([f]:List Fl).map flD=[flD f]:=rfl
     rw[show (([f]:List Fl).map flD).length * 3=(0+1) * 3 from rfl]
     have k5:cur'.toList.take ((0+1) * 3)=[]++vs:=k4
     rw[k5]
     simpa using hvd)
    exact this
  ·rw[h5] at hloc
   obtain ⟨g1,g2,g3,cur',cp',g4,g5,g6,g7,g8⟩:=hloc
   rw[h6] at g4
   cases g4
   obtain rfl:cp=cp':=by omega
   have hq:q=l.length:=by rw[← g2,hlen]
   subst hq
   rw[hlen] at g8
   have hsz:cur.toList.length=cp * 3:=by rw[Array.length_toList];exact h7
   have hone:=allOne_ok (flD_ones l) g8
   have hden:=den_ins hi g8 hvd
   have hbl:b<w.heap.size:=(Array.getElem?_eq_some_iff.1 h6).1
   by_cases hin:i=l.length
   ·subst hin
    obtain ⟨v',w',hr,hc⟩:=run_append (P:=Tryz.prog) w (t:=22) (ty:=22) (e:=31) Tryz.underlying22 fitFl (by decide) (v:=.slice (some ⟨b,0,none⟩) l.length cp) (x:=.slice (some ⟨vb,0,none⟩) 1 vc) (m:=l.length) (q:=1) (xs:=cur.toList.take (l.length * 3)) (news:=vs) (.inr ⟨b,cp,cur,rfl,h6,h8,h9,h7,rfl⟩) (.inr ⟨_,_,rfl,hvl,hxs⟩) h2 (by show (l.length+1) * 32≤_;omega) (by unfold maxLen;omega)
    refine (ins_end (some ⟨b,0,none⟩) l.length cp vb vc w w' v' h8 h9 (fun h=>by cases h) hr).mono ?_
    rintro e w'' ⟨rfl,rfl⟩
    have hd2:cur.toList.take (l.length * 3)++vs=(cur.toList.take (l.length * 3)).take (l.length * 3)++(vs++(cur.toList.take (l.length * 3)).drop (l.length * 3)):=by
     rw[List.take_take,Nat.min_self,List.drop_take,Nat.sub_self,List.take_zero,List.append_nil]
    rcases hc with ⟨h,-⟩|⟨g,cap,cur1,cur',h,k1,k2,k3,rfl,k4,rfl,k5,k6⟩|⟨cap,cur',rfl,rfl,k1,k2,k3,k4⟩
    ·cases h
    ·cases h
     rw[h6] at k1
     cases k1
     have:=rows_out2 (l':=(l.insertIdx l.length f).map flD) hW (Evo.setRow (w:=w) (cs:=cur') h6 k5 ⟨0,_,_,rfl,h5⟩) (heap_setRow h6 cur') (.inl ⟨_,h5⟩) (hkeep1 _ 0 (hrowkeep b _ _ h5)) (k5.trans h7) (by decide) flD_3 (by rw[hle];exact k4) h9 (by
      rw[hle,k6,hd2]
      exact hden)
     rw[hle] at this
     exact this
    ·have:=rows_out2 (l':=(l.insertIdx l.length f).map flD) hW (((Evo.drew _ w).trans (Evo.alloc _ _ (Obj.cells cur' 31 (0,0))))) (hnewat _) (.inr (Nat.le_refl _)) (hkeep1 _ 0 (hnewkeep _)) k3 (by decide) flD_3 (by rw[hle];exact k1) k2 (by
      rw[hle,k4,hd2]
      exact hden)
     rw[hle] at this
     exact this
   ·have hi':i<l.length:=by omega
    obtain ⟨cs,hcs0⟩:∃ cs,cs=(cur.toList.take (l.length * 3)).drop (i * 3):=⟨_,rfl⟩
    have hcl:cs.length=(l.length - i) * 3:=by
     rw[hcs0,List.length_drop,List.length_take,hsz]
     omega
    have hcs:∀ (k:Nat) (u:Value),cs[k]?=some u→cur[i * 3+k]?=some u:=fun k u hu=>by
     rw[hcs0,List.getElem?_drop,List.getElem?_take] at hu
     split at hu
     ·simpa using hu
     ·cases hu
    have h1:∀ u ∈ cs,u.oneCell'=true:=fun u hu=>hone u (List.mem_of_mem_drop (by rw[← hcs0];exact hu))
    rw[← hcs0] at hden
    have e1:(cur.toList.take (l.length * 3)).take (i * 3)=cur.toList.take (i * 3):=by rw[List.take_take,Nat.min_eq_left (by omega)]
    rw[e1] at hden
    have e3:(i+1) * 3=i * 3+3:=by omega
    by_cases hroom:l.length+1≤cp
    ·refine (ins_shift b l.length cp i vb vc cur vcur cs vs w h6 h7 hv (hapart b _ h5) hi' hroom h9 hvl hvs hcl hcs h1 h2).mono ?_
     rintro e w'' ⟨rfl,rfl⟩
     have:=rows_out2 (l':=(l.insertIdx i f).map flD) hW ((Evo.drew _ w).trans (Evo.setRow (w:=w.drew) (cs:=ovr (ovr cur ((i+1) * 3) cs) (i * 3) vs) h6 (by rw[ovr_size,ovr_size]) ⟨0,_,_,rfl,h5⟩)) (heap_setRow (w:=w.drew) h6 _) (.inl ⟨_,h5⟩) (hkeep1 _ 0 (hrowkeep b _ _ h5)) (by rw[ovr_size,ovr_size];exact h7) (by decide) flD_3 (by rw[hle];exact hroom) h9 (by
      rw[hle,e3,(ovr_put hvl (by rw[hcl];omega) (by omega)).1]
      exact hden)
     rw[hle] at this
     exact this
    ·refine (ins_grow b l.length cp i vb vc cur vcur cs vs w h6 h7 hv hi' h8 (by omega) hbig hvl hvs hcl hcs h1 h2).mono ?_
     rintro e w'' ⟨G,hG1,hG2,rfl,rfl⟩
     have hRl:=rowI_size (cur:=cur) (n:=l.length) (i:=i) (G:=G) hi' (by omega) hG1
     have hw:(((w.alloc (.cells (rowI cur l.length i G) 31)).drew.setCells w.heap.size (i * 3) vs).drew).setCells w.heap.size ((i+1) * 3) cs=(w.alloc (.cells (ovr (ovr (rowI cur l.length i G) (i * 3) vs) ((i+1) * 3) cs) 31)).drew.drew:=by
      rw[setCells_row (w:=(w.alloc (.cells (rowI cur l.length i G) 31)).drew) _ _ (hnewat _)]
      rw[show (w.alloc (.cells (rowI cur l.length i G) 31)).drew.setRow w.heap.size (ovr (rowI cur l.length i G) (i * 3) vs)=((w.alloc (.cells (rowI cur l.length i G) 31)).setRow w.heap.size (ovr (rowI cur l.length i G) (i * 3) vs)).drew from rfl,alloc_setRow]
      rw[setCells_row (w:=(w.alloc (.cells (ovr (rowI cur l.length i G) (i * 3) vs) 31)).drew.drew) _ _ (hnewat _)]
      rw[show (w.alloc (.cells (ovr (rowI cur l.length i G) (i * 3) vs) 31)).drew.drew.setRow w.heap.size (ovr (ovr (rowI cur l.length i G) (i * 3) vs) ((i+1) * 3) cs)=((w.alloc (.cells (ovr (rowI cur l.length i G) (i * 3) vs) 31)).setRow w.heap.size (ovr (ovr (rowI cur l.length i G) (i * 3) vs) ((i+1) * 3) cs)).drew.drew from rfl,alloc_setRow]
     rw[hw]
     have:=rows_out2 (l':=(l.insertIdx i f).map flD) hW (((Evo.alloc _ w (Obj.cells (ovr (ovr (rowI cur l.length i G) (i * 3) vs) ((i+1) * 3) cs) 31 (0,0))).trans (Evo.drew _ _)).trans (Evo.drew _ _)) (hnewat _) (.inr (Nat.le_refl _)) (hkeep1 _ 0 (hnewkeep _)) (by rw[ovr_size,ovr_size];exact hRl) (by decide) flD_3 (by rw[hle];exact hG1) hG2 (by
      rw[hle,e3,(ovr_put hvl (by rw[hcl];omega) (by omega)).2]
      have e4:(rowI cur l.length i G).toList.take (i * 3)=cur.toList.take (i * 3):=by
       unfold rowI
       rw[Array.toList_append,Array.toList_append,List.append_assoc]
       exact List.take_left' (by rw[List.length_take,hsz];omega)
      rw[e4]
      exact hden)
     rw[hle] at this
     exact this
end Go.Proofs.YtcdjjjokniinkaaGreatDoor
end
section
namespace Go.Proofs.YtcdjjjokniinkaaGreatDoor
open Go Go.EYtcdjjjokniinkaaGreatDoor
set_option maxRecDepth 100000
set_option maxHeartbeats 4000000
variable {gl:List (Nat×List D)}
def parseZ (rf:List UInt8→Option Rf) (s:List UInt8):Rs Nd :=
 if 200<s.length then .no 0 4 else if s.head?=some 61 then allF (s:=s) (Tw s (oneA (parZ rf) s 30) 4) else .no 0 2
def parseD:Rs Nd→D
 | .ok n _=>.tup [.agg n.cs,iD 0,.v .nilIface]
 | .no a e=>.tup [.agg n00.cs,iD (a:Int),erD e]
theorem dsOf_map:∀ l:List D,dsOf (l.map C.d)=some l
 | []=>rfl
 | x::l=>by
  simp only[List.map_cons,dsOf,dsOf_map l,dOfC]
theorem parts_cs (n:Nd) (x y:D):dOfV (.tup [(true,ndC n),(false,[.d x]),(false,[.d y])])=some (.tup [.agg n.cs,x,y]):=by
 show (match partD (true,ndC n),(some [x,y]:Option (List D)) with|some d,some l=>some (d::l)|_,_=>none).map D.tup=_
 show (match (dsOf (n.cs.map C.d)).map D.agg,(some [x,y]:Option (List D)) with|some d,some l=>some (d::l)|_,_=>none).map D.tup=_
 rw[dsOf_map]
 rfl
theorem n00_le:LeD (.agg [iD 0,iD 0,.str [],iD 0,iD 0,.v (.bool false),.v (.bool false),iD 0,iD 0,.v (.bool false),.v (.bool false),.v (.slice none 0 0)]) (.agg n00.cs):=by
 refine LeD.agg ?_
 repeat' first|exact LeD.rfl|exact LeD.bf (by simp[z0])|exact LeD.nil0|refine LeD.cons ?_ ?_|exact LeD.nil
theorem Parse_d (te:TypeId) (pe:Value) (hV:Has gl (glV te pe)) (hl:Go.EYtcdjjjokniinkaaGreatDoor.look gl 1=some lvAll) {rf:List UInt8→Option Rf} (hR:RefsOk rf) (s:List UInt8) :
 FnP Tryz.prog gl 34 [.str s] (parseD (parseZ rf s)):=by
 unfold parseZ
 by_cases h200:200<s.length
 ·rw[if_pos h200]
  have h1:((s.length:Nat):Int)>200:=by omega
  refine FnP.le (r:=.tup [.agg [iD 0,iD 0,.str [],iD 0,iD 0,.v (.bool false),.v (.bool false),iD 0,iD 0,.v (.bool false),.v (.bool false),.v (.slice none 0 0)],iD 0,erD 4]) ?_ (LeD.tup (LeD.cons n00_le (LeD.cons LeD.rfl (LeD.cons LeD.rfl LeD.nil))))
  refine fnP_of_fn (v:=.tup [(true,[.d (iD 0),.d (iD 0),.d (.str []),.d (iD 0),.d (iD 0),.d (.v (.bool false)),.d (.v (.bool false)),.d (iD 0),.d (iD 0),.d (.v (.bool false)),.d (.v (.bool false)),.d (.v (.slice none 0 0))]),(false,[.d (iD 0)]),(false,[.d (erD 4)])]) ?_ rfl
  refine fn_of_vcD (nv:=9999) (cu:=[]) (g:=65) (d0:=11) (caps:=[.tmp 2,.tmp 3,.tmp 4]) fits mixed Tryz.func34 rfl rfl rfl rfl rfl rfl rfl rfl rfl rfl hoB hoB rfl rfl rfl rfl ⟨rfl,rfl,rfl⟩ ?_
  ((repeat' ((conv=>whnf);first|exact .intro|refine .ya ?_|refine .na ?_|refine .ys ?_|refine .ns ?_|refine .neg (fun _=>?_) (fun _=>?_)|refine .mk (fun _=>?_) (fun _=>?_)|refine .mk ?_ ?_|refine AK ?_|refine AT ?_|fail));all_goals conv=>whnf)
  ((repeat' first|exact rfl|((conv=>whnf);first|done|exact suL|refine And.intro ?_ ?_|fail));all_goals conv=>whnf)
 ·rw[if_neg h200]
  have h1:¬ ((s.length:Nat):Int)>200:=by omega
  have hs:s.length≤200:=by omega
  by_cases h61:s.head?=some 61
  ·rw[if_pos h61]
   have c0:=Constant_d (gl:=gl) s (b:=false) (by simp[h61])
   have hl1:1≤s.length:=by
    cases s with
    | nil=>cases h61
    | cons c r=>simp
   have hf:=Tw_fwd (oneA_fwd (p:=parZ rf) (s:=s) 30) 4
   have c1:=two_0 te pe hV hl hR hs hl1
   have e1:IntKind.i64.wrap ((0:Int)+1)=((1:Nat):Int):=by rw[wrapI (by omega)];rfl
   unfold allF
   cases hx:Tw s (oneA (parZ rf) s 30) 4 1 with
   | no a e =>
    rw[hx] at c1
    unfold Gives1 at c1
    refine fnP_of_fn (v:=(.tup [(true,ndC n00),(false,[.d (iD (a:Int))]),(false,[.d (erD e)])])) ?_ (parts_cs _ _ _)
    refine fn_of_vcD (nv:=9999) (cu:=[]) (g:=65) (d0:=11) (caps:=[.tmp 2,.tmp 3,.tmp 4]) fits mixed Tryz.func34 rfl rfl rfl rfl rfl rfl rfl rfl rfl rfl hoB hoB rfl rfl rfl rfl ⟨rfl,rfl,rfl⟩ ?_
    ((repeat' ((conv=>whnf);first|exact .intro|refine .ya ?_|refine .na ?_|refine .ys ?_|refine .ns ?_|refine .neg (fun _=>?_) (fun _=>?_)|refine .mk (fun _=>?_) (fun _=>?_)|refine .inr (X5 (c1.r [3] _) ?_)|refine .inl (.inr (X5 (c1.r [3] _) ?_))|refine .inl (X5 (c1.r [3] _) ?_)|refine .inl (.inl (X1 (c0) ?_))|refine .inl (X1 (c0) ?_)|refine X1 (c0) ?_|(first|rw[e1]|refine ⟨_,_,_,parse1_zero 0 (.v .nilIface) _ _,?_,?_⟩)|refine .mk ?_ ?_|refine AK ?_|refine AT ?_|fail));all_goals conv=>whnf)
    ((repeat' first|exact rfl|((conv=>whnf);first|done|exact suL|refine And.intro ?_ ?_|fail));all_goals conv=>whnf)
   | ok n k =>
    rw[hx] at c1
    unfold Gives1 at c1
    obtain ⟨hk1,hk2⟩:=hf _ _ _ hl1 hx
    have b1:=blanks_d (gl:=gl) s k 0 hk2 hs
    have hj:=skp_le hk2
    simp only[Rs.bind_ok]
    obtain ⟨j,hjj⟩:∃ j,skp s k=j:=⟨_,rfl⟩
    rw[hjj] at b1 hj ⊢
    obtain ⟨k0,m0,t0,a0,b0,ks0⟩:=n
    by_cases hjl:j=s.length
    ·rw[if_pos hjl]
     have h2:¬ ((j:Nat):Int)<((s.length:Nat):Int):=by omega
     refine fnP_of_fn (v:=(.tup [(true,ndC (.mk k0 m0 t0 a0 b0 ks0)),(false,[.d (iD 0)]),(false,[.d (.v .nilIface)])])) ?_ (parts_cs _ _ _)
     refine fn_of_vcD (nv:=9999) (cu:=[]) (g:=65) (d0:=11) (caps:=[.tmp 2,.tmp 3,.tmp 4]) fits mixed Tryz.func34 rfl rfl rfl rfl rfl rfl rfl rfl rfl rfl hoB hoB rfl rfl rfl rfl ⟨rfl,rfl,rfl⟩ ?_
     ((repeat' ((conv=>whnf);first|exact .intro|refine .ya ?_|refine .na ?_|refine .ys ?_|refine .ns ?_|refine .neg (fun _=>?_) (fun _=>?_)|refine .mk (fun _=>?_) (fun _=>?_)|refine .inr (X5 (c1.r [3] _) ?_)|refine .inl (.inr (X5 (c1.r [3] _) ?_))|refine .inl (X5 (c1.r [3] _) ?_)|refine .inr (X5 (b1.r [3] _) ?_)|refine .inl (.inr (X5 (b1.r [3] _) ?_))|refine .inl (X5 (b1.r [3] _) ?_)|refine .inl (.inl (X1 (c0) ?_))|refine .inl (X1 (c0) ?_)|refine X1 (c0) ?_|(first|rw[e1]|refine ⟨_,_,_,parse1_none (.mk k0 m0 t0 a0 b0 ks0) 0 (.v .nilIface),?_,?_⟩)|refine .mk ?_ ?_|refine AK ?_|refine AT ?_|fail));all_goals conv=>whnf)
     ((repeat' first|exact rfl|((conv=>whnf);first|done|exact suL|refine And.intro ?_ ?_|fail));all_goals conv=>whnf)
    ·rw[if_neg hjl]
     have h2:((j:Nat):Int)<((s.length:Nat):Int):=by omega
     have c4:=fail_d (gl:=gl) s j 0 j 2
     refine fnP_of_fn (v:=(.tup [(true,ndC n00),(false,[.d (iD (j:Int))]),(false,[.d (erD 2)])])) ?_ (parts_cs _ _ _)
     refine fn_of_vcD (nv:=9999) (cu:=[]) (g:=65) (d0:=11) (caps:=[.tmp 2,.tmp 3,.tmp 4]) fits mixed Tryz.func34 rfl rfl rfl rfl rfl rfl rfl rfl rfl rfl hoB hoB rfl rfl rfl rfl ⟨rfl,rfl,rfl⟩ ?_
     ((repeat' ((conv=>whnf);first|exact .intro|refine .ya ?_|refine .na ?_|refine .ys ?_|refine .ns ?_|refine .neg (fun _=>?_) (fun _=>?_)|refine .mk (fun _=>?_) (fun _=>?_)|refine .inr (X5 (c1.r [3] _) ?_)|refine .inl (.inr (X5 (c1.r [3] _) ?_))|refine .inl (X5 (c1.r [3] _) ?_)|refine .inr (X5 (b1.r [3] _) ?_)|refine .inl (.inr (X5 (b1.r [3] _) ?_))|refine .inl (X5 (b1.r [3] _) ?_)|refine .inr (X5 (c4.r [3] _) ?_)|refine .inl (.inr (X5 (c4.r [3] _) ?_))|refine .inl (X5 (c4.r [3] _) ?_)|refine .inl (.inl (X1 (c0) ?_))|refine .inl (X1 (c0) ?_)|refine X1 (c0) ?_|(first|rw[e1]|refine ⟨_,_,_,parse1_some (.mk k0 m0 t0 a0 b0 ks0) 0 (.v .nilIface) _ _,?_,?_⟩)|refine .mk ?_ ?_|refine AK ?_|refine AT ?_|fail));all_goals conv=>whnf)
     ((repeat' first|exact rfl|((conv=>whnf);first|done|exact suL|refine And.intro ?_ ?_|fail));all_goals conv=>whnf)
  ·rw[if_neg h61]
   have c0:=Constant_d (gl:=gl) s (b:=true) (by simp[h61])
   have c1:=fail_d (gl:=gl) s 0 0 0 2
   refine fnP_of_fn (v:=(.tup [(true,ndC n00),(false,[.d (iD ((0:Nat):Int))]),(false,[.d (erD 2)])])) ?_ (parts_cs _ _ _)
   refine fn_of_vcD (nv:=9999) (cu:=[]) (g:=65) (d0:=11) (caps:=[.tmp 2,.tmp 3,.tmp 4]) fits mixed Tryz.func34 rfl rfl rfl rfl rfl rfl rfl rfl rfl rfl hoB hoB rfl rfl rfl rfl ⟨rfl,rfl,rfl⟩ ?_
   ((repeat' ((conv=>whnf);first|exact .intro|refine .ya ?_|refine .na ?_|refine .ys ?_|refine .ns ?_|refine .neg (fun _=>?_) (fun _=>?_)|refine .mk (fun _=>?_) (fun _=>?_)|refine .inr (X5 (c1.r [3] _) ?_)|refine .inl (.inr (X5 (c1.r [3] _) ?_))|refine .inl (X5 (c1.r [3] _) ?_)|refine .inl (.inl (X1 (c0) ?_))|refine .inl (X1 (c0) ?_)|refine X1 (c0) ?_|(refine ⟨_,_,_,parse1_zero 0 (.v .nilIface) _ _,?_,?_⟩)|refine .mk ?_ ?_|refine AK ?_|refine AT ?_|fail));all_goals conv=>whnf)
   ((repeat' first|exact rfl|((conv=>whnf);first|done|exact suL|refine And.intro ?_ ?_|fail));all_goals conv=>whnf)
end Go.Proofs.YtcdjjjokniinkaaGreatDoor
end
