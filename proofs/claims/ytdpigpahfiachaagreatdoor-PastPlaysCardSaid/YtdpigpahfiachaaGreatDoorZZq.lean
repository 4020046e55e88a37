/- Proved: a part of what the law is proved with (the reckoner, contracts of functions, plain laws). Conditions: as each says. -/
import Derived.Test.YtdpigpahfiachaaGreatDoorZZl
section
namespace Go.Proofs.YtdpigpahfiachaaGreatDoor
open Go Go.RowKit Go.EYtdpigpahfiachaaGreatDoor
set_option maxRecDepth 100000
set_option maxHeartbeats 4000000
variable {gl:List (Nat×List D)}
theorem FClone_e:Go.EYtdpigpahfiachaaGreatDoor.Fn Tryz.prog gl 58 [.c (.d (.lst 3 []))] [] 0 (.ret (.c (.all 3 0))) [(0,.rows 3 (([]:List Fl).map flD) 44)] 1 []:=by
 refine ⟨by omega,fun k B h hk=>(by omega),fun k hk=>(by cases hk),fun w M0 adr xs hW hG hd=>?_⟩
 obtain ⟨x,rfl,hx⟩:=All2.one_iff.1 hd
 have nil:∀ (w':World) (v':Value),Evo (Trk adr []) w w'→v'=.slice none 0 0→∃ adr':Env,Evo (Trk adr []) w w'∧WOk M0 adr' [(0,.rows 3 (([]:List Fl).map flD) 44)] 1 w'∧(∀ k,k<0→k ∉ []→adr' k=adr k)∧
  (∀ k B b m,Go.EYtdpigpahfiachaaGreatDoor.look [(0,Blk.rows 3 (([]:List Fl).map flD) 44)] k=some B→adr' k=some (some b,m)→Trk adr [] b∨w.heap.size≤b)∧RetOk adr' (Mut M0 adr' [(0,.rows 3 (([]:List Fl).map flD) 44)]) w' (.ret (.c (.all 3 0))) (.returned v'):=by
  rintro w' v' hE rfl
  refine ⟨fun k=>if k=0 then some (none,0) else none,hE,⟨?_,?_,?_,?_,?_,?_⟩,fun k hk=>(by omega),?_,_,rfl,.inl ⟨rfl,rfl⟩⟩
  ·intro k B h
   match k,h with
   | 0,_=>decide
  ·intro k hk
   exact if_neg (by omega)
  ·intro k B h
   match k,h with
   | 0,h =>
    cases h
    exact ⟨by decide,rfl,rfl⟩
  ·intro k k' B B' b m m' h h' _ _
   match k,k',h,h' with
   | 0,0,_,_=>rfl
  ·intro k B b m h he hM
   match k,h with
   | 0,_=>cases he
  ·intro b hM
   exact Nat.lt_of_lt_of_le (hW.bound b hM) hE.size
  ·intro k B b m h he
   match k,h with
   | 0,_=>cases he
 obtain ⟨a,c,rfl⟩:∃ a c,x=.slice a 0 c:=by
  have hx':DenD _ w (.lst 3 []) x:=hx
  cases hx' with
  | lst0 z a c hc=>exact ⟨a,c,rfl⟩
  | lst z l b o c cs hb hM hl hc hz h1 h2=>exact ⟨_,_,rfl⟩
 refine .inl ⟨by unfold HasBody;kernel_rfl,?_⟩
 cases a with
 | none =>
  refine (fclone_nil 0 c w).mono ?_
  rintro e w' ⟨rfl,rfl⟩
  exact nil w' _ (Evo.refl _ _) rfl
 | some ad =>
  refine (fclone_calls ad 0 c [] w (by decide) rfl (fun j u h=>by cases h) (fun u h=>by cases h)).mono ?_
  rintro e w' ⟨v',rfl,hown,-,hb⟩
  have hE:Evo (Trk adr []) w w':=Evo.of_below hb _
  obtain ⟨-,⟨rfl,hz⟩|⟨g,cap,cur,rfl,hg,hh,hc1,hc2,hc3,hc4⟩⟩:=hown
  ·exact nil w' _ hE rfl
  ·refine ⟨fun k=>if k=0 then some (some g,0) else none,hE,⟨?_,?_,?_,?_,?_,?_⟩,fun k hk=>(by omega),?_,_,rfl,.inr ⟨g,_,cap,cur,_,_,rfl,hh,hc3,hc1,hc2,rfl⟩⟩
   ·intro k B h
    match k,h with
    | 0,_=>decide
   ·intro k hk
    exact if_neg (by omega)
   ·intro k B h
    match k,h with
    | 0,h =>
     cases h
     refine ⟨by decide,rfl,fun r hr=>by simp at hr,cur,cap,hh,hc3,hc1,hc2,?_⟩
     show All2 _ [] (cur.toList.take (0 * 3))
     simp[All2]
   ·intro k k' B B' b m m' h h' _ _
    match k,k',h,h' with
    | 0,0,_,_=>rfl
   ·intro k B b m h he hM
    match k,h with
    | 0,_ =>
     cases he
     have:=hW.bound _ hM
     omega
   ·intro b hM
    exact Nat.lt_of_lt_of_le (hW.bound b hM) hb.size
   ·intro k B b m h he
    match k,h with
    | 0,_ =>
     cases he
     exact .inr hg
end Go.Proofs.YtdpigpahfiachaaGreatDoor
end
section
namespace Go.Proofs.YtdpigpahfiachaaGreatDoor
open Go Go.RowKit Go.EYtdpigpahfiachaaGreatDoor
set_option maxRecDepth 100000
set_option maxHeartbeats 4000000
variable {gl:List (Nat×List D)}
theorem rows_out2 {M0:Nat→Prop} {adr:Env} {w w':World} {g c z e z1 e1:Nat} {cur2:Array Value} {l l' l1:List (List D)} (hW:WOk M0 adr [(0,.rows z l e),(1,.rows z1 l1 e1)] 2 w) (hE:Evo (Trk adr [(0,.rows z l e),(1,.rows z1 l1 e1)]) w w')
 (hg:w'.heap[g]?=some (Obj.cells cur2 e (0,0))) (hwh:(∃ n,adr 0=some (some g,n))∨w.heap.size≤g) (hkeep:∀ b m,adr 1=some (some b,m)→w'.heap[b]?=w.heap[b]?) (hs:cur2.size=c * z) (hz:0<z) (hr:∀ r ∈ l',r.length=z) (hl:l'.length≤c) (hc:c≤maxLen)
 (hden:DenL (Mut M0 adr [(0,.rows z l e),(1,.rows z1 l1 e1)]) w l'.flatten (cur2.toList.take (l'.length * z))) :
 ∃ adr':Env,Evo (Trk adr [(0,.rows z l e),(1,.rows z1 l1 e1)]) w w'∧WOk M0 adr' [(0,.rows z l' e),(1,.rows z1 l1 e1)] 2 w'∧(∀ k,k<2→k ∉ [0]→adr' k=adr k)∧
  (∀ k B b m,Go.EYtdpigpahfiachaaGreatDoor.look [(0,Blk.rows z l' e),(1,Blk.rows z1 l1 e1)] k=some B→adr' k=some (some b,m)→Trk adr [(0,.rows z l e),(1,.rows z1 l1 e1)] b∨w.heap.size≤b)∧
  RetOk adr' (Mut M0 adr' [(0,.rows z l' e),(1,.rows z1 l1 e1)]) w' (.ret (.c (.all z 0))) (.returned (.slice (some ⟨g,0,none⟩) l'.length c)):=by
 have hM:∀ x,x<w.heap.size→Mut M0 (fun k=>if k=0 then some (some g,l'.length) else adr k) [(0,.rows z l' e),(1,.rows z1 l1 e1)] x→Mut M0 adr [(0,.rows z l e),(1,.rows z1 l1 e1)] x:=by
  rintro x hx (h|⟨k,B,m,h1,h2⟩)
  ·exact .inl h
  ·match k,h1 with
   | 0,_ =>
    cases h2
    rcases hwh with ⟨n,ha⟩|hge
    ·exact .inr ⟨0,_,n,rfl,ha⟩
    ·omega
   | 1,_=>exact .inr ⟨1,_,m,rfl,h2⟩
 have hS:∀ x,x<w.heap.size→Trk adr [(0,.rows z l e),(1,.rows z1 l1 e1)] x→Mut M0 adr [(0,.rows z l e),(1,.rows z1 l1 e1)] x:=fun x _ ⟨k,B,m,h1,h2⟩=>.inr ⟨k,B,m,h1,h2⟩
 have hapart:∀ b m,adr 1=some (some b,m)→b≠g:=by
  rintro b m h1 rfl
  rcases hwh with ⟨n,ha⟩|hge
  ·have:=hW.inj 0 1 _ _ b n m rfl rfl ha h1
   omega
  ·have:=hW.lt (k:=1) rfl h1
   omega
 refine ⟨fun k=>if k=0 then some (some g,l'.length) else adr k,hE,⟨?_,?_,?_,?_,?_,?_⟩,fun k hk hn=>?_,?_,_,rfl,.inr ⟨g,l'.length,c,cur2,e,(0,0),rfl,hg,hs,hl,hc,rfl⟩⟩
 ·intro k B h
  match k,h with
  | 0,_=>decide
  | 1,_=>decide
 ·intro k hk
  show (if k=0 then _ else adr k)=none
  rw[if_neg (by omega)]
  exact hW.fresh k hk
 ·intro k B h
  match k,h with
  | 0,h =>
   cases h
   exact ⟨hz,rfl,hr,cur2,c,hg,hs,hl,hc,DenL.evo hE hS hM hden⟩
  | 1,h =>
   cases h
   exact LocB.evo hE hS hM (fun b m h1 _=>hkeep b m h1) (fun l t hh=>by cases hh) (hW.loc 1 _ rfl)
 ·intro k k' B B' b m m' h h' h1 h2
  match k,k',h,h' with
  | 0,0,_,_=>rfl
  | 1,1,_,_=>rfl
  | 0,1,_,_ =>
   cases h1
   exact absurd rfl (hapart _ _ h2)
  | 1,0,_,_ =>
   cases h2
   exact absurd rfl (hapart _ _ h1)
 ·intro k B b m h he hm
  match k,h with
  | 0,_ =>
   cases he
   rcases hwh with ⟨n,ha⟩|hge
   ·exact hW.prot 0 _ _ n rfl ha hm
   ·have:=hW.bound _ hm
    omega
  | 1,_=>exact hW.prot 1 _ b m rfl he hm
 ·intro b hm
  exact Nat.lt_of_lt_of_le (hW.bound b hm) hE.size
 ·show (if k=0 then _ else adr k)=adr k
  rw[if_neg (fun h=>hn (by simp[h]))]
 ·intro k B b m h he
  match k,h with
  | 0,_ =>
   cases he
   rcases hwh with ⟨n,ha⟩|hge
   ·exact .inl ⟨0,_,n,rfl,ha⟩
   ·exact .inr hge
  | 1,_=>exact .inl ⟨1,_,m,rfl,he⟩
end Go.Proofs.YtdpigpahfiachaaGreatDoor
end
section
namespace Go.Proofs.YtdpigpahfiachaaGreatDoor
open Go Go.RowKit Go.Lib Go.EYtdpigpahfiachaaGreatDoor
set_option maxRecDepth 100000
set_option maxHeartbeats 4000000
theorem ins_end (a:Option Addr) (n c vb vc:Nat) (w w1:World) (v':Value) (hn:n≤c) (hc:c≤maxLen) (ha:a=none→c=0)
 (hr:(Builtin.append_ #[38,38] 38 #[.slice a n c,.slice (some ⟨vb,0,none⟩) 1 vc]).run Tryz.prog w=.ok v' w1) :
 Calls Tryz.prog 106 #[.slice a n c,.int .i64 n,.slice (some ⟨vb,0,none⟩) 1 vc] w fun e w'=>e=.returned v'∧w'=w1:=by
 unfold maxLen at hc
 have mixed':=mixed
 cases a with
 | none =>
  obtain rfl:=ha rfl
  obtain rfl:n=0:=by omega
  go_enter Tryz.func106,Tryz.ntmps106
  go_wp2_with (at_builtin;refine Lib.wpList_append_run _ rfl _ _ _ _ rfl _ _ rfl rfl _ _ hr ?_)
  go_ret
  exact ⟨rfl,rfl⟩
 | some ad =>
  clear ha
  go_enter Tryz.func106,Tryz.ntmps106
  go_wp2_with (at_builtin;refine Lib.wpList_append_run _ rfl _ _ _ _ rfl _ _ rfl rfl _ _ hr ?_)
  all_goals (go_ret;exact ⟨rfl,rfl⟩)
theorem ovr_put {cur:Array Value} {a k e:Nat} {vs cs:List Value} (h1:vs.length=k) (he:e=a+k+cs.length) (hs:e≤cur.size) :
 (ovr (ovr cur (a+k) cs) a vs).toList.take e=cur.toList.take a++(vs++cs)∧(ovr (ovr cur a vs) (a+k) cs).toList.take e=cur.toList.take a++(vs++cs):=by
 have hl:(cur.toList.take a).length=a:=by simp;omega
 have key:∀ (x:Array Value),(∀ j,j<a→x[j]?=cur[j]?)→(∀ j v,vs[j]?=some v→x[a+j]?=some v)→(∀ j v,cs[j]?=some v→x[a+k+j]?=some v)→x.toList.take e=cur.toList.take a++(vs++cs):=by
  intro x g1 g2 g3
  apply List.ext_getElem?
  intro j
  rw[List.getElem?_take]
  by_cases hj:j<e
  ·rw[if_pos hj,Array.getElem?_toList]
   by_cases h2:j<a
   ·rw[g1 j h2,List.getElem?_append_left (by omega),List.getElem?_take,if_pos h2,Array.getElem?_toList]
   ·rw[List.getElem?_append_right (by omega),hl]
    by_cases h3:j - a<vs.length
    ·rw[List.getElem?_append_left h3,List.getElem?_eq_getElem h3]
     have:=g2 (j - a) vs[j - a] (List.getElem?_eq_getElem h3)
     rwa [show a+(j - a)=j by omega] at this
    ·have h4:j - a - vs.length<cs.length:=by omega
     rw[List.getElem?_append_right (by omega),List.getElem?_eq_getElem h4]
     have:=g3 (j - a - vs.length) cs[j - a - vs.length] (List.getElem?_eq_getElem h4)
     rwa [show a+k+(j - a - vs.length)=j by omega] at this
  ·rw[if_neg hj,List.getElem?_eq_none]
   simp
   omega
 have lt:∀ {l:List Value} {j:Nat} {v:Value},l[j]?=some v→j<l.length:=fun h=>(List.getElem?_eq_some_iff.1 h).1
 constructor
 ·refine key _ (fun j hj=>?_) (fun j v hv=>?_) (fun j v hv=>?_)
  ·rw[ovr_out _ _ _ _ (.inl hj),ovr_out _ _ _ _ (.inl (by omega))]
  ·exact ovr_in vs a _ j v (by rw[ovr_size];omega) hv
  ·have:=lt hv
   rw[ovr_out _ _ _ _ (.inr (by omega))]
   exact ovr_in cs (a+k) cur j v (by omega) hv
 ·refine key _ (fun j hj=>?_) (fun j v hv=>?_) (fun j v hv=>?_)
  ·rw[ovr_out _ _ _ _ (.inl (by omega)),ovr_out _ _ _ _ (.inl hj)]
  ·have:=lt hv
   rw[ovr_out _ _ _ _ (.inl (by omega))]
   exact ovr_in vs a cur j v (by omega) hv
  ·exact ovr_in cs (a+k) _ j v (by rw[ovr_size];omega) hv
end Go.Proofs.YtdpigpahfiachaaGreatDoor
end
section
namespace Go.Proofs.YtdpigpahfiachaaGreatDoor
open Go Go.RowKit Go.EYtdpigpahfiachaaGreatDoor
set_option maxRecDepth 100000
set_option maxHeartbeats 4000000
variable {gl:List (Nat×List D)}
theorem fitFl:FitsOne Tryz.prog 44 ⟨true,3,32,[iD 0,iD 0,.str []],[(0,2),(2,1)],false,none,none,6,[],false,[]⟩:=⟨by kernel_rfl,rfl,rfl,by kernel_rfl,(fun h=>by cases h),by kernel_rfl⟩
theorem flat_ins {z:Nat}:∀ {l:List (List D)} {i:Nat} {r:List D} (_:∀ r ∈ l,r.length=z) (_:i≤l.length),(l.insertIdx i r).flatten=l.flatten.take (i * z)++(r++l.flatten.drop (i * z))
 | l,0,r,_,_=>by simp
 | x::l,i+1,r,hz,hi=>by
  have hx:=hz x (by simp)
  have hi':i≤l.length:=by simpa using hi
  have e:(i+1) * z=x.length+i * z:=by rw[hx,Nat.add_mul,Nat.one_mul,Nat.add_comm]
  rw[List.insertIdx_succ_cons,List.flatten_cons,List.flatten_cons,flat_ins (fun r h=>hz r (by simp[h])) hi',e,List.take_append,List.drop_append,List.take_of_length_le (Nat.le_add_right _ _),List.drop_eq_nil_of_le (Nat.le_add_right _ _)]
  simp
theorem map_ins:∀ (l:List Fl) (i:Nat) (f:Fl),(l.insertIdx i f).map flD=(l.map flD).insertIdx i (flD f)
 | [],0,_=>rfl
 | [],_+1,_=>rfl
 | _::_,0,_=>rfl
 | x::l,i+1,f=>by
  rw[List.insertIdx_succ_cons,List.map_cons,List.map_cons,List.insertIdx_succ_cons,map_ins l i f]
theorem len_ins (l:List Fl) (i:Nat) (f:Fl) (hi:i≤l.length):((l.insertIdx i f).map flD).length=l.length+1:=by
 rw[List.length_map,List.length_insertIdx,if_pos hi]
theorem den_ins {M:Nat→Prop} {w:World} {l:List Fl} {i:Nat} {f:Fl} {xs vs:List Value} (hi:i≤l.length) (h:DenL M w (l.map flD).flatten xs) (hv:DenL M w (flD f) vs) :
 DenL M w ((l.insertIdx i f).map flD).flatten (xs.take (i * 3)++(vs++xs.drop (i * 3))):=by
 rw[map_ins,flat_ins flD_3 (by simpa using hi)]
 exact All2.app (All2.take _ h) (All2.app hv (All2.drop _ h))
end Go.Proofs.YtdpigpahfiachaaGreatDoor
end
section
namespace Go.Proofs.YtdpigpahfiachaaGreatDoor
open Go Go.RowKit Go.EYtdpigpahfiachaaGreatDoor
set_option maxRecDepth 100000
set_option maxHeartbeats 4000000
variable {gl:List (Nat×List D)}
theorem alloc_setRow (w:World) (x y:Array Value) (t:TypeId) (f:Nat×Nat):(w.alloc (.cells x t f)).setRow w.heap.size y=w.alloc (.cells y t f):=by
 unfold World.setRow World.alloc
 simp only[World.mk.injEq,and_true]
 apply Array.ext_getElem?
 intro k
 simp only[Array.getElem?_modify,Array.getElem?_push]
 by_cases h:w.heap.size=k
 ·subst h
  simp
 ·rw[if_neg h]
  simp[Ne.symm h]
theorem Ins_x (l:List Fl) (f:Fl) (i:Nat) (hi:i≤l.length) (hbig:l.length≤65536):Go.EYtdpigpahfiachaaGreatDoor.Fn Tryz.prog gl 106 [.c (.all 3 0),.c (.d (iD (i:Nat))),.c (.all 3 1)] [(0,.rows 3 (l.map flD) 44),(1,.rows 3 [flD f] 44)] 2 (.ret (.c (.all 3 0))) [(0,.rows 3 ((l.insertIdx i f).map flD) 44),(1,.rows 3 [flD f] 44)] 2 [0]:=by
 refine ⟨Nat.le_refl _,fun k B h hk=>?_,fun k hk=>?_,fun w M0 adr xs hW hG hd=>?_⟩
 ·match k,h with
  | 0,_=>rfl
  | 1,_=>rfl
 ·cases List.mem_singleton.1 hk
  rfl
 match xs,hd with
 | [x,y,z],⟨hx,hy,hz,_⟩ =>
  obtain rfl:y=.int .i64 (i:Nat):=DenD.v_inv hy
  have hloc:=hW.loc 0 _ rfl
  have hloc1:=hW.loc 1 _ rfl
  obtain ⟨vb,vc,vcur,rfl,hva,hv,hvsz,hv1,hvd⟩:∃ (vb vc:Nat) (vcur:Array Value),z=.slice (some ⟨vb,0,none⟩) 1 vc∧adr 1=some (some vb,1)∧w.heap[vb]?=some (Obj.cells vcur 44 (0,0))∧vcur.size=vc * 3∧1≤vc∧DenL (Mut M0 adr [(0,.rows 3 (l.map flD) 44),(1,.rows 3 [flD f] 44)]) w (flD f) (vcur.toList.take 3):=by
   rcases hz with ⟨h5,rfl⟩|⟨b,q,cp,cur,ee,ff,h5,h6,h7,h8,h9,rfl⟩
   ·rw[h5] at hloc1
    obtain ⟨_,h6,_⟩:=hloc1
    cases h6
   ·rw[h5] at hloc1
    obtain ⟨g1,g2,g3,cur',cp',g4,g5,g6,g7,g8⟩:=hloc1
    rw[h6] at g4
    cases g4
    obtain rfl:q=1:=g2.symm
    exact ⟨b,cp,cur,rfl,h5,h6,h7,h8,by simpa using g8⟩
  have hvl:(vcur.toList.take 3).length=3:=by rw[List.length_take,Array.length_toList];omega
  have hvs:∀ (k:Nat) (u:Value),(vcur.toList.take 3)[k]?=some u→vcur[k]?=some u:=fun k u hu=>by
   rw[List.getElem?_take] at hu
   split at hu
   ·simpa using hu
   ·cases hu
  have h2:∀ u ∈ vcur.toList.take 3,u.oneCell'=true:=allOne_ok (rs:=[flD f]) rfl (by simpa using hvd)
  obtain ⟨vs,hvs0⟩:∃ vs,vs=vcur.toList.take 3:=⟨_,rfl⟩
  rw[← hvs0] at hvd hvl hvs h2
  have hxs:∀ k u,vs[k]?=some u→w.cell? ((⟨vb,0,none⟩:Addr).add k)=some u:=fun k u hu=>by
   rw[Addr.add_lit,Nat.zero_add]
   simpa[World.cell?,hv] using hvs k u hu
  have hle:=len_ins l i f hi
  have hlen:(l.map flD).length=l.length:=List.length_map _
  have hkeep1:∀ (w':World) (g:Nat),w'.heap[vb]?=w.heap[vb]?→∀ b m,adr 1=some (some b,m)→w'.heap[b]?=w.heap[b]?:=fun w' g hw b m h1=>by
   rw[hva] at h1
   cases h1
   exact hw
  have hapart:∀ b m,adr 0=some (some b,m)→vb≠b:=by
   rintro b m h1 rfl
   have:=hW.inj 0 1 _ _ vb m 1 rfl rfl h1 hva
   omega
  have hvbl:vb<w.heap.size:=(Array.getElem?_eq_some_iff.1 hv).1
  have hnewkeep:∀ o:Obj,(w.alloc o).heap[vb]?=w.heap[vb]?:=fun o=>by
   show (w.heap.push o)[vb]?=_
   rw[Array.getElem?_push,if_neg (by omega)]
  have hnewat:∀ o:Obj,(w.alloc o).heap[w.heap.size]?=some o:=fun o=>by
   show (w.heap.push o)[w.heap.size]?=_
   simp
  have hrowkeep:∀ b m cur2,adr 0=some (some b,m)→(w.setRow b cur2).heap[vb]?=w.heap[vb]?:=fun b m cur2 h1=>by
   unfold World.setRow
   simp only[Array.getElem?_modify]
   rw[if_neg (fun e=>hapart b m h1 e.symm)]
  refine .inl ⟨by unfold HasBody;kernel_rfl,?_⟩
  rcases hx with ⟨h5,rfl⟩|⟨b,q,cp,cur,ee,ff,h5,h6,h7,h8,h9,rfl⟩
  ·rw[h5] at hloc
   obtain ⟨_,h6,_⟩:=hloc
   obtain rfl:=List.map_eq_nil_iff.1 h6
   obtain rfl:i=0:=by simpa using hi
   obtain ⟨v',w',hr,hc⟩:=run_append (P:=Tryz.prog) w (t:=38) (ty:=38) (e:=44) Tryz.underlying38 fitFl (by decide) (v:=.slice none 0 0) (x:=.slice (some ⟨vb,0,none⟩) 1 vc) (m:=0) (q:=1) (xs:=[]) (news:=vs) (.inl ⟨rfl,rfl,rfl⟩) (.inr ⟨_,_,rfl,hvl,hxs⟩) h2 (by decide) (by decide)
   refine (ins_end none 0 0 vb vc w w' v' (Nat.le_refl _) (by decide) (fun _=>rfl) hr).mono ?_
   rintro e w'' ⟨rfl,rfl⟩
   rcases hc with ⟨-,-,-,h⟩|⟨g,cap,cur,cur',h,-⟩|⟨cap,cur',rfl,rfl,k1,k2,k3,k4⟩
   ·cases h
   ·cases h
   ·have:=rows_out2 (l':=([f]:List Fl).map flD) hW (((Evo.drew _ w).trans (Evo.alloc _ _ (Obj.cells cur' 44 (0,0))))) (hnewat _) (.inr (Nat.le_refl _)) (hkeep1 _ 0 (hnewkeep _)) k3 (by decide) flD_3 k1 k2 (by
     have e1:([f]:List Fl).map flD=[flD f]:=rfl
     rw[show (([f]:List Fl).map flD).length * 3=(0+1) * 3 from rfl]
     have k5:cur'.toList.take ((0+1) * 3)=[]++vs:=k4
     rw[k5]
     simpa using hvd)
    exact this
  ·rw[h5] at hloc
   obtain ⟨g1,g2,g3,cur',cp',g4,g5,g6,g7,g8⟩:=hloc
   rw[h6] at g4
   cases g4
   obtain rfl:cp=cp':=by omega
   have hq:q=l.length:=by rw[← g2,hlen]
   subst hq
   rw[hlen] at g8
   have hsz:cur.toList.length=cp * 3:=by rw[Array.length_toList];exact h7
   have hone:=allOne_ok (flD_ones l) g8
   have hden:=den_ins hi g8 hvd
   have hbl:b<w.heap.size:=(Array.getElem?_eq_some_iff.1 h6).1
   by_cases hin:i=l.length
   ·subst hin
    obtain ⟨v',w',hr,hc⟩:=run_append (P:=Tryz.prog) w (t:=38) (ty:=38) (e:=44) Tryz.underlying38 fitFl (by decide) (v:=.slice (some ⟨b,0,none⟩) l.length cp) (x:=.slice (some ⟨vb,0,none⟩) 1 vc) (m:=l.length) (q:=1) (xs:=cur.toList.take (l.length * 3)) (news:=vs) (.inr ⟨b,cp,cur,rfl,h6,h8,h9,h7,rfl⟩) (.inr ⟨_,_,rfl,hvl,hxs⟩) h2 (by show (l.length+1) * 32≤_;omega) (by unfold maxLen;omega)
    refine (ins_end (some ⟨b,0,none⟩) l.length cp vb vc w w' v' h8 h9 (fun h=>by cases h) hr).mono ?_
    rintro e w'' ⟨rfl,rfl⟩
    have hd2:cur.toList.take (l.length * 3)++vs=(cur.toList.take (l.length * 3)).take (l.length * 3)++(vs++(cur.toList.take (l.length * 3)).drop (l.length * 3)):=by
     rw[List.take_take,Nat.min_self,List.drop_take,Nat.sub_self,List.take_zero,List.append_nil]
    rcases hc with ⟨h,-⟩|⟨g,cap,cur1,cur',h,k1,k2,k3,rfl,k4,rfl,k5,k6⟩|⟨cap,cur',rfl,rfl,k1,k2,k3,k4⟩
    ·cases h
    ·cases h
     rw[h6] at k1
     cases k1
     have:=rows_out2 (l':=(l.insertIdx l.length f).map flD) hW (Evo.setRow (w:=w) (cs:=cur') h6 k5 ⟨0,_,_,rfl,h5⟩) (heap_setRow h6 cur') (.inl ⟨_,h5⟩) (hkeep1 _ 0 (hrowkeep b _ _ h5)) (k5.trans h7) (by decide) flD_3 (by rw[hle];exact k4) h9 (by
      rw[hle,k6,hd2]
      exact hden)
     rw[hle] at this
     exact this
    ·have:=rows_out2 (l':=(l.insertIdx l.length f).map flD) hW (((Evo.drew _ w).trans (Evo.alloc _ _ (Obj.cells cur' 44 (0,0))))) (hnewat _) (.inr (Nat.le_refl _)) (hkeep1 _ 0 (hnewkeep _)) k3 (by decide) flD_3 (by rw[hle];exact k1) k2 (by
      rw[hle,k4,hd2]
      exact hden)
     rw[hle] at this
     exact this
   ·have hi':i<l.length:=by omega
    obtain ⟨cs,hcs0⟩:∃ cs,cs=(cur.toList.take (l.length * 3)).drop (i * 3):=⟨_,rfl⟩
    have hcl:cs.length=(l.length - i) * 3:=by
     rw[hcs0,List.length_drop,List.length_take,hsz]
     omega
    have hcs:∀ (k:Nat) (u:Value),cs[k]?=some u→cur[i * 3+k]?=some u:=fun k u hu=>by
     rw[hcs0,List.getElem?_drop,List.getElem?_take] at hu
     split at hu
     ·simpa using hu
     ·cases hu
    have h1:∀ u ∈ cs,u.oneCell'=true:=fun u hu=>hone u (List.mem_of_mem_drop (by rw[← hcs0];exact hu))
    rw[← hcs0] at hden
    have e1:(cur.toList.take (l.length * 3)).take (i * 3)=cur.toList.take (i * 3):=by rw[List.take_take,Nat.min_eq_left (by omega)]
    rw[e1] at hden
    have e3:(i+1) * 3=i * 3+3:=by omega
    by_cases hroom:l.length+1≤cp
    ·refine (ins_shift b l.length cp i vb vc cur vcur cs vs w h6 h7 hv (hapart b _ h5) hi' hroom h9 hvl hvs hcl hcs h1 h2).mono ?_
     rintro e w'' ⟨rfl,rfl⟩
     have:=rows_out2 (l':=(l.insertIdx i f).map flD) hW ((Evo.drew _ w).trans (Evo.setRow (w:=w.drew) (cs:=ovr (ovr cur ((i+1) * 3) cs) (i * 3) vs) h6 (by rw[ovr_size,ovr_size]) ⟨0,_,_,rfl,h5⟩)) (heap_setRow (w:=w.drew) h6 _) (.inl ⟨_,h5⟩) (hkeep1 _ 0 (hrowkeep b _ _ h5)) (by rw[ovr_size,ovr_size];exact h7) (by decide) flD_3 (by rw[hle];exact hroom) h9 (by
      rw[hle,e3,(ovr_put hvl (by rw[hcl];omega) (by omega)).1]
      exact hden)
     rw[hle] at this
     exact this
    ·refine (ins_grow b l.length cp i vb vc cur vcur cs vs w h6 h7 hv hi' h8 (by omega) hbig hvl hvs hcl hcs h1 h2).mono ?_
     rintro e w'' ⟨G,hG1,hG2,rfl,rfl⟩
     have hRl:=rowI_size (cur:=cur) (n:=l.length) (i:=i) (G:=G) hi' (by omega) hG1
     have hw:(((w.alloc (.cells (rowI cur l.length i G) 44)).drew.setCells w.heap.size (i * 3) vs).drew).setCells w.heap.size ((i+1) * 3) cs=(w.alloc (.cells (ovr (ovr (rowI cur l.length i G) (i * 3) vs) ((i+1) * 3) cs) 44)).drew.drew:=by
      rw[setCells_row (w:=(w.alloc (.cells (rowI cur l.length i G) 44)).drew) _ _ (hnewat _)]
      rw[show (w.alloc (.cells (rowI cur l.length i G) 44)).drew.setRow w.heap.size (ovr (rowI cur l.length i G) (i * 3) vs)=((w.alloc (.cells (rowI cur l.length i G) 44)).setRow w.heap.size (ovr (rowI cur l.length i G) (i * 3) vs)).drew from rfl,alloc_setRow]
      rw[setCells_row (w:=(w.alloc (.cells (ovr (rowI cur l.length i G) (i * 3) vs) 44)).drew.drew) _ _ (hnewat _)]
      rw[show (w.alloc (.cells (ovr (rowI cur l.length i G) (i * 3) vs) 44)).drew.drew.setRow w.heap.size (ovr (ovr (rowI cur l.length i G) (i * 3) vs) ((i+1) * 3) cs)=((w.alloc (.cells (ovr (rowI cur l.length i G) (i * 3) vs) 44)).setRow w.heap.size (ovr (ovr (rowI cur l.length i G) (i * 3) vs) ((i+1) * 3) cs)).drew.drew from rfl,alloc_setRow]
     rw[hw]
     have:=rows_out2 (l':=(l.insertIdx i f).map flD) hW (((Evo.alloc _ w (Obj.cells (ovr (ovr (rowI cur l.length i G) (i * 3) vs) ((i+1) * 3) cs) 44 (0,0))).trans (Evo.drew _ _)).trans (Evo.drew _ _)) (hnewat _) (.inr (Nat.le_refl _)) (hkeep1 _ 0 (hnewkeep _)) (by rw[ovr_size,ovr_size];exact hRl) (by decide) flD_3 (by rw[hle];exact hG1) hG2 (by
      rw[hle,e3,(ovr_put hvl (by rw[hcl];omega) (by omega)).2]
      have e4:(rowI cur l.length i G).toList.take (i * 3)=cur.toList.take (i * 3):=by
       unfold rowI
       rw[Array.toList_append,Array.toList_append,List.append_assoc]
       exact List.take_left' (by rw[List.length_take,hsz];omega)
      rw[e4]
      exact hden)
     rw[hle] at this
     exact this
end Go.Proofs.YtdpigpahfiachaaGreatDoor
end
