/- Proved: a part of what the law is proved with (the reckoner, contracts of functions, plain laws). Conditions: as each says. -/
import Derived.OwnWalk
import Derived.Lib.SliceRun
import Derived.Lib.Walk
import Derived.Shelf.SlGeneric
import Derived.Shelf.SlSortCmp.NoneTotal
import Derived.Shelf.SlicesG.Cmp
import Derived.Test.YtfcmhmglpcimiaaGreatDoorProg
import Derived.Shelf.RegionOpenPlain
import Derived.WalkKit
import Derived.Test.YtfcmhmglpcimiaaGreatDoorKGe
import Derived.Test.YtfcmhmglpcimiaaGreatDoorKJk
import Derived.Test.YtfcmhmglpcimiaaGreatDoorKTja
import Derived.Test.YtfcmhmglpcimiaaGreatDoorKTjg
namespace Go.Proofs.YtfcmhmglpcimiaaGreatDoor
open Go Go.RowKit Go.EYtfcmhmglpcimiaaGreatDoor
set_option maxRecDepth 100000
section
set_option maxHeartbeats 400000000
variable {gl:List (Nat×List D)}
abbrev clF (f:Fl):Cl:=(f.c,f.r)
structure Rd where
 isF:List UInt8→Bool
 nd:List UInt8→Nd
 on:List UInt8→List Cl
section
variable (rd:Rd)
abbrev fsL (l:List Fl):List Fl:=l.filter fun f=>rd.isF f.t
def ntL (l:List Fl):Nt:=⟨l.map clF,l.map (·.t),ksD ((fsL rd l).map clF),(fsL rd l).map fun f=>.agg (rd.nd f.t).cs,(fsL rd l).map clF,fun c=>match (fsL rd l).find? fun f=>decide (clF f=c) with
 | some f=>rd.on f.t
 | none=>[]⟩
abbrev newH (l:List Fl) (pc:C):List (Nat×Blk):=[(0,.mp (ksD (l.map clF)) ((l.map (·.t)).map Go.EYtfcmhmglpcimiaaGreatDoor.D.str)),(1,.mp (ksD ((fsL rd l).map clF)) ((fsL rd l).map fun f=>.agg (rd.nd f.t).cs)),(2,.mp (ksD ((fsL rd l).map clF)) ((fsL rd l).map fun f=>.lst 2 (cellsR (rd.on f.t)))),(4,.var [pc,.mref 0,.mref 1,.mref 2,.d (.v (.slice none 0 0)),.mref 3] 77),(5,.rows 2 (cellsR (l.map clF)) 39)]
abbrev newR (l:List Fl) (Q:List (List Cl)):List (Nat×Blk):=[(4,.var [.all 2 5,.mref 0,.mref 1,.mref 2,.all 1 14,.mref 3] 77),(5,.rows 2 (cellsR (l.map clF)) 39),(0,.mp (ksD (l.map clF)) ((l.map (·.t)).map Go.EYtfcmhmglpcimiaaGreatDoor.D.str)),(1,.mp (ksD ((fsL rd l).map clF)) ((fsL rd l).map fun f=>.agg (rd.nd f.t).cs)),(2,.mp (ksD ((fsL rd l).map clF)) ((fsL rd l).map fun f=>.lst 2 (cellsR (rd.on f.t)))),(3,.mp (ksD Q.flatten) (ofT Q Q.length)),(14,.rows 1 (Q.map partR) 31)]
theorem onV_new {l:List Fl} (hnd:(l.map clF).Nodup):onV (ntL rd l)=(fsL rd l).map fun f=>.lst 2 (cellsR (rd.on f.t)):=by
 show ((fsL rd l).map clF).map _=_
 rw[List.map_map]
 refine List.map_congr_left fun f hf=>?_
 have hfd:(fsL rd l).find? (fun g=>decide (clF g=clF f))=some f:=by
  have hn2:((fsL rd l).map clF).Nodup:=hnd.sublist (List.Sublist.map clF List.filter_sublist)
  cases hx:(fsL rd l).find? (fun g=>decide (clF g=clF f)) with
  | none =>
   have:=List.find?_eq_none.1 hx f hf
   simp at this
  | some g =>
   have h1:=List.find?_some hx
   have h2:=List.mem_of_find?_eq_some hx
   simp only[decide_eq_true_eq] at h1
   obtain ⟨i,hi,rfl⟩:=List.getElem_of_mem h2
   obtain ⟨j,hj,rfl⟩:=List.getElem_of_mem hf
   have:i=j:=(List.getElem_inj (xs:=(fsL rd l).map clF) (i:=i) (j:=j) (h₀:=by simpa using hi) (h₁:=by simpa using hj) hn2).1 (by simpa using h1)
   subst this
   rfl
 show Go.EYtfcmhmglpcimiaaGreatDoor.D.lst 2 (cellsR (match (fsL rd l).find? fun g=>decide (clF g=clF f) with
  | some f=>rd.on f.t
  | none=>[]))=_
 rw[hfd]
theorem New_y (l:List Fl) (hl:l.length≤200) (hnd:(l.map clF).Nodup)
 (c1:FnP Tryz.prog gl 6 [.lst 3 (l.map flD)] (.v .nilIface))
 (c2:∀ f ∈ l,FnP Tryz.prog gl 31 [.str f.t] (.v (.bool (!rd.isF f.t))))
 (c3:∀ f ∈ l,rd.isF f.t=true→∃ i:Int,FnP Tryz.prog gl 32 [.str f.t] (.tup [.agg (rd.nd f.t).cs,iD i,.v .nilIface]))
 (c4:∀ f ∈ l,rd.isF f.t=true→FnP Tryz.prog gl 38 [.agg (rd.nd f.t).cs] (.lst 2 (cellsR (rd.on f.t))))
 (hp:Go.EYtfcmhmglpcimiaaGreatDoor.Fn Tryz.prog gl 39 [.c (.ptr 0 0)] (ntH (ntL rd l)) 6 (.ret (.tup [])) (ntH' (ntL rd l) (partsZ (ntL rd l).g (ntL rd l).V)) 15 []) :
 Go.EYtfcmhmglpcimiaaGreatDoor.Fn Tryz.prog gl 26 [.c (.d (.lst 3 (l.map flD)))] [] 0 (.ret (.tup [(false,[.ptr 4 0]),(false,[.d (.v .nilIface)])])) (newR rd l (partsZ (ntL rd l).g (l.map clF))) 15 []:=by
 have hov:=onV_new rd hnd
 unfold ntH ntH' at hp
 rw[hov] at hp
 have hlm:(l.map flD).length=l.length:=List.length_map _
 refine fn_of_vc (nv:=9999) (cu:=[9,14,100008]) fits mixed Tryz.func26 rfl hoB rfl rfl rfl rfl ?_
 ((repeat' ((conv=>whnf);first|exact .intro|refine G ?_|intro _|refine C1 c1 ?_|refine .mk ?_ ?_|refine H ?_|fail));all_goals conv=>whnf)
 refine ⟨{ σ:=Nat,fr:=fun i=>[(24,.c (.d (nD i)))],ks:=[0,1,2,4],L:=fun i=>newH rd (l.take i) (.all 2 5),ex:=1,I:=fun i=>i≤l.length,μ:=fun i=>l.length - i },⟨0,Nat.zero_le _,?_⟩,fun (i:Nat) hi=>?_⟩
 ·((repeat' first|exact rfl|((conv=>whnf);first|done|exact suL|refine And.intro ?_ ?_|fail));all_goals conv=>whnf)
  all_goals first|exact ⟨2,_,rfl,by decide,by decide⟩|skip
 replace hi:i≤l.length:=hi
 by_cases hlt:i<l.length
 ·have h3:(i:Int)<(((l.map flD).length:Nat):Int):=by omega
  have g1:=get_map (f:=flD) hlt
  have e0:=wN (i:=i) (by omega)
  have hm:l[i] ∈ l:=List.getElem_mem hlt
  have hnew:clF l[i] ∉ (l.take i).map clF:=fun h=>by
   obtain ⟨f,hf,he⟩:=List.mem_map.1 h
   obtain ⟨j,hj,rfl⟩:=List.getElem_of_mem hf
   rw[List.getElem_take] at he
   rw[List.length_take] at hj
   have h1:=(List.pairwise_iff_getElem.1 hnd) j i (by rw[List.length_map];omega) (by rw[List.length_map];omega) (by omega)
   rw[List.getElem_map,List.getElem_map] at h1
   exact h1 he
  have htk:l.take (i+1)=l.take i++[l[i]]:=List.take_succ_eq_append_getElem hlt
  have k2:=c2 _ hm
  have k3:=c3 _ hm
  have k4:=c4 _ hm
  generalize l[i]=f at *
  obtain ⟨fc,fr,ft⟩:=f
  have hk:kC (fc,fr) ∉ ksD ((l.take i).map clF):=fun h=>hnew (kC_mem.1 h)
  have hrl:(cellsR ((l.take i).map clF)).length=i:=by rw[List.length_map,List.length_map,List.length_take];omega
  have b1:((cellsR ((l.take i).map clF)).length+1) * 16≤140737488355328:=by omega
  have b2:(cellsR ((l.take i).map clF)).length+1≤maxLen:=by unfold maxLen;omega
  have hcs:cellsR ((l.take (i+1)).map clF)=cellsR ((l.take i).map clF)++[[iD fc,iD fr]]:=by
   rw[htk,List.map_append]
   exact List.map_append
  have hks:ksD ((l.take (i+1)).map clF)=ksD ((l.take i).map clF)++[kC (fc,fr)]:=by
   rw[htk,List.map_append]
   exact List.map_append
  have hts:((l.take (i+1)).map (·.t)).map Go.EYtfcmhmglpcimiaaGreatDoor.D.str=((l.take i).map (·.t)).map Go.EYtfcmhmglpcimiaaGreatDoor.D.str++[.str ft]:=by
   rw[htk,List.map_append,List.map_append]
   rfl
  ((repeat' ((conv=>whnf);first|exact .intro|refine G ?_|intro _|refine .mk ?_ ?_|refine H ?_|fail));all_goals conv=>whnf)
  refine ⟨{ σ:=Unit,fr:=fun _=>[],ks:=[0,1,2,4,5],L:=fun _=>newH rd (l.take (i+1)) (.all 2 5),ex:=0,I:=fun _=>True,μ:=fun _=>0 },?_,fun _ _=>?_⟩
  ·((repeat' ((conv=>whnf);first|exact .intro|refine G ?_|intro _|(refine ⟨Int.natCast_nonneg _,_,g1,?_⟩)|refine .mk ?_ ?_|refine H ?_|fail));all_goals conv=>whnf)
   refine ⟨{ σ:=Unit,fr:=fun _=>[],ks:=[4,5],L:=fun _=>[(4,.var [.all 2 5,.mref 0,.mref 1,.mref 2,.d (.v (.slice none 0 0)),.mref 3] 77),(5,.rows 2 (cellsR ((l.take (i+1)).map clF)) 39)],ex:=0,I:=fun _=>True,μ:=fun _=>0 },?_,fun _ _=>?_⟩
   ·((repeat' ((conv=>whnf);first|exact .intro|refine G ?_|intro _|(refine ⟨⟨rfl,b1,b2⟩,?_⟩)|refine .mk ?_ ?_|refine H ?_|fail));all_goals conv=>whnf)
    all_goals refine ⟨(),trivial,?_⟩
    all_goals ((repeat' first|exact rfl|((conv=>whnf);first|done|exact suL|refine And.intro ?_ ?_|fail));all_goals conv=>whnf)
    all_goals first|exact hcs.symm|skip
   cases hf:rd.isF ft
   ·have hfs:fsL rd (l.take (i+1))=fsL rd (l.take i):=by
     show (l.take (i+1)).filter _=_
     rw[htk,List.filter_append]
     simp[hf]
    have k2':FnP Tryz.prog gl 31 [.str ft] (.v (.bool true)):=by have:=k2;rw[hf] at this;exact this
    ((repeat' ((conv=>whnf);first|exact .intro|refine G ?_|intro _|refine C1 k2' ?_|(refine ⟨3,⟨key_cell,rfl,keys_T _⟩,.inl ⟨hk,?_⟩⟩)|refine .mk ?_ ?_|refine H ?_|fail));all_goals conv=>whnf)
    all_goals refine ⟨(),trivial,?_⟩
    all_goals ((repeat' first|exact rfl|((conv=>whnf);first|done|exact suL|refine And.intro ?_ ?_|fail));all_goals conv=>whnf)
    all_goals first|exact hks.symm|exact hts.symm|(rw[hfs];done)|skip
   ·have hfs:fsL rd (l.take (i+1))=fsL rd (l.take i)++[⟨fc,fr,ft⟩]:=by
     show (l.take (i+1)).filter _=_
     rw[htk,List.filter_append]
     simp[hf]
    have k2':FnP Tryz.prog gl 31 [.str ft] (.v (.bool false)):=by have:=k2;rw[hf] at this;exact this
    obtain ⟨ix,k3'⟩:=k3 hf
    have k4':=k4 hf
    have hkf:kC (fc,fr) ∉ ksD ((fsL rd (l.take i)).map clF):=fun h=>by
     obtain ⟨g,hg,he⟩:=List.mem_map.1 (kC_mem.1 h)
     exact hnew (List.mem_map.2 ⟨g,(List.mem_filter.1 hg).1,he⟩)
    have hfk:ksD ((fsL rd (l.take (i+1))).map clF)=ksD ((fsL rd (l.take i)).map clF)++[kC (fc,fr)]:=by
     rw[hfs,List.map_append]
     exact List.map_append
    have hfn:((fsL rd (l.take (i+1))).map fun f=>Go.EYtfcmhmglpcimiaaGreatDoor.D.agg (rd.nd f.t).cs)=((fsL rd (l.take i)).map fun f=>Go.EYtfcmhmglpcimiaaGreatDoor.D.agg (rd.nd f.t).cs)++[.agg (rd.nd ft).cs]:=by
     rw[hfs,List.map_append]
     rfl
    have hfo:((fsL rd (l.take (i+1))).map fun f=>Go.EYtfcmhmglpcimiaaGreatDoor.D.lst 2 (cellsR (rd.on f.t)))=((fsL rd (l.take i)).map fun f=>Go.EYtfcmhmglpcimiaaGreatDoor.D.lst 2 (cellsR (rd.on f.t)))++[.lst 2 (cellsR (rd.on ft))]:=by
     rw[hfs,List.map_append]
     rfl
    clear k2 k3 k4 hfs
    obtain ⟨N,hN⟩:∃ N,rd.nd ft=N:=⟨_,rfl⟩
    rw[hN] at k3' k4' hfn
    obtain ⟨nk,nm,ns,na,nb,nks⟩:=N
    ((repeat' ((conv=>whnf);first|exact .intro|refine G ?_|intro _|refine C1 k2' ?_|refine C1 k3' ?_|refine C1 k4' ?_|(first|refine ⟨3,⟨key_cell,rfl,keys_T _⟩,.inl ⟨hk,?_⟩⟩|refine ⟨3,⟨key_cell,rfl,keys_T _⟩,.inl ⟨hkf,?_⟩⟩)|refine .mk ?_ ?_|refine H ?_|fail));all_goals conv=>whnf)
    all_goals refine ⟨(),trivial,?_⟩
    all_goals ((repeat' first|exact rfl|((conv=>whnf);first|done|exact suL|refine And.intro ?_ ?_|fail));all_goals conv=>whnf)
    all_goals first|exact hks.symm|exact hts.symm|exact hfk.symm|exact hfn.symm|exact hfo.symm|skip
  ·((repeat' ((conv=>whnf);first|exact .intro|refine G ?_|intro _|refine .mk ?_ ?_|refine H ?_|fail));all_goals conv=>whnf)
   all_goals refine ⟨i+1,⟨hlt,by show l.length - (i+1)<l.length - i;omega⟩,?_⟩
   all_goals ((repeat' first|exact rfl|((conv=>whnf);first|done|exact suL|refine And.intro ?_ ?_|fail));all_goals conv=>whnf)
   all_goals first|exact cqN e0|skip
 ·have h3:¬ (i:Int)<(((l.map flD).length:Nat):Int):=by omega
  obtain rfl:i=l.length:=by omega
  have hta:l.take l.length=l:=List.take_length
  rw[← hta] at hp
  ((repeat' ((conv=>whnf);first|exact .intro|refine G ?_|intro _|refine C5 hp [4,5,0,1,2,3] ?_|refine .mk ?_ ?_|refine H ?_|fail));all_goals conv=>whnf)
  all_goals ((repeat' first|exact rfl|((conv=>whnf);first|done|exact suL|refine And.intro ?_ ?_|fail));all_goals conv=>whnf)
  all_goals first|(rw[hta];done)|(rw[hta];rfl)|skip
end
end
section
set_option maxHeartbeats 4000000
variable {gl:List (Nat×List D)}
theorem idx_le:∀ {l:List Cl} {k:Nat} (h:k<l.length),l.idxOf l[k]≤k
 | a::l,0,_=>by simp
 | a::l,k+1,h=>by
  have ih:=idx_le (l:=l) (k:=k) (by simpa using h)
  rw[List.getElem_cons_succ,List.idxOf_cons]
  cases (a==l[k]'(by simpa using h)) with
  | true=>exact Nat.zero_le _
  | false=>exact Nat.succ_le_succ ih
theorem Index_d (l:List Cl) (c:Cl) (hc:c ∈ l) (hl:l.length≤65536):FnP Tryz.prog gl 65 [.lst 2 (cellsR l),kC c] (nD (l.idxOf c)):=by
 have hm:(cellsR l).length=l.length:=List.length_map _
 have hi:=List.idxOf_lt_length_iff.2 hc
 refine S0 Tryz.func65 rfl ?_
 ((repeat' ((conv=>whnf);first|exact .intro|refine G ?_|intro _|refine .mk ?_ ?_|refine H ?_|fail));all_goals conv=>whnf)
 refine ⟨{ σ:=Nat,fr:=fun k=>[(8,.c (.d (nD k)))],ks:=[],L:=fun _=>[],ex:=0,I:=fun k=>k≤l.idxOf c,μ:=fun k=>l.length - k },⟨0,Nat.zero_le _,?_⟩,fun (k:Nat) hk=>?_⟩
 ·((repeat' first|exact rfl|((conv=>whnf);first|done|exact suL|refine And.intro ?_ ?_|fail));all_goals conv=>whnf)
 replace hk:k≤l.idxOf c:=hk
 have hlt:k<l.length:=by omega
 have h2:(k:Int)<((cellsR l).length:Nat):=by omega
 have g1:=get_map (f:=rowC) hlt
 have e0:=wN (i:=k) (by omega)
 by_cases he:k=l.idxOf c
 ·have hc2:l[k]=c:=by subst he;exact List.getElem_idxOf hi
  rw[← he]
  rw[hc2] at g1
  obtain ⟨c1,c2⟩:=c
  ((repeat' ((conv=>whnf);first|exact .intro|refine G ?_|intro _|(refine ⟨Int.natCast_nonneg _,_,g1,?_⟩)|refine .mk ?_ ?_|refine H ?_|fail));all_goals conv=>whnf)
  all_goals first|exact LeD.rfl|(exfalso;simp_all [andPD];done)|skip
 ·have hne:l[k]≠c:=fun e=>he (by
   have h1:=idx_le hlt
   rw[e] at h1
   omega)
  obtain ⟨c1,c2⟩:=c
  generalize l[k]=y at g1 hne
  obtain ⟨y1,y2⟩:=y
  have hne2:¬ (c1=y1∧c2=y2∧True):=fun h=>hne (by rw[h.1,h.2.1])
  ((repeat' ((conv=>whnf);first|exact .intro|refine G ?_|intro _|(refine ⟨Int.natCast_nonneg _,_,g1,?_⟩)|refine .mk ?_ ?_|refine H ?_|fail));all_goals conv=>whnf)
  all_goals first|(exfalso;simp_all;done)|skip
  all_goals refine ⟨k+1,⟨by show k+1≤_;omega,by show l.length - (k+1)<l.length - k;omega⟩,?_⟩
  all_goals ((repeat' first|exact rfl|((conv=>whnf);first|done|exact suL|refine And.intro ?_ ?_|fail));all_goals conv=>whnf)
  all_goals first|exact cqN e0|skip
end
section
set_option maxHeartbeats 4000000
variable {gl:List (Nat×List D)}
def encL:List Cl→List Value
 | []=>[]
 | c::l=>.int .i64 c.1::.int .i64 c.2::encL l
theorem encL_len:∀ l:List Cl,(encL l).length=l.length * 2
 | []=>rfl
 | c::l=>by
  have:=encL_len l
  simp only[encL,List.length_cons]
  omega
theorem encL_den {M:Nat→Prop} {w:World}:∀ l:List Cl,DenL M w (cellsR l).flatten (encL l)
 | []=>trivial
 | _::l=>⟨.v _,.v _,encL_den l⟩
theorem encL_val {M:Nat→Prop} {w:World}:∀ {l:List Cl} {xs:List Value},DenL M w (cellsR l).flatten xs→xs=encL l
 | [],[],_=>rfl
 | [],_::_,h=>h.elim
 | c::l,[],h=>h.elim
 | c::l,[_],h=>h.2.elim
 | c::l,x::y::xs,h=>by
  obtain ⟨h1,h2,h3⟩:=h
  rw[encL,← encL_val h3,DenD.v_inv h1,DenD.v_inv h2]
theorem encL_drop:∀ (l:List Cl) (a:Nat),(encL l).drop (a * 2)=encL (l.drop a)
 | l,0=>by simp
 | [],a+1=>by simp[encL]
 | c::l,a+1=>by
  rw[show (a+1) * 2=a * 2+1+1 by omega,encL,List.drop_succ_cons,List.drop_succ_cons,List.drop_succ_cons]
  exact encL_drop l a
theorem encL_take:∀ (l:List Cl) (a:Nat),(encL l).take (a * 2)=encL (l.take a)
 | l,0=>by simp[encL]
 | [],a+1=>by simp[encL]
 | c::l,a+1=>by
  rw[show (a+1) * 2=a * 2+1+1 by omega,encL,List.take_succ_cons,List.take_succ_cons,List.take_succ_cons,encL,encL_take l a]
theorem encL_one:∀ (l:List Cl),∀ u ∈ encL l,u.oneCell'=true
 | [],u,h=>by cases h
 | c::l,u,h=>by
  rcases List.mem_cons.1 h with rfl|h
  ·rfl
  rcases List.mem_cons.1 h with rfl|h
  ·rfl
  exact encL_one l u h
theorem cclone_calls (ad:Addr) (n c:Nat) (news:List Value) (w:World) (hn:n≤65536) (hl:news.length=n * 2) (hc:∀ j u,news[j]?=some u→w.cell? (ad.add j)=some u) (h1:∀ u ∈ news,u.oneCell'=true) :
 Calls Tryz.prog 66 #[.slice (some ad) n c] w fun e w'=>∃ v',e=.returned v'∧w'.ownsRow w.heap.size 39 2 v' n news∧v'≠.slice none 0 0∧Below w.heap.size w w':=by
 obtain ⟨i0,hi,hz0,hz1,hz2⟩:=info_parts (show (Tryz.prog.info? 39).map (fun i=>(i.zero,i.size,i.bytes))=some (some (.agg #[.int .i64 0,.int .i64 0]),2,16) by kernel_rfl)
 have q22:∀ (w:World) (a:Option Addr) (n c n' c':Nat),(binOp .eql 31 (.slice a n c) (.slice none n' c')).run Tryz.prog w=.ok (.bool a.isNone) w:=fun w a n c n' c'=>Lib.run_eql_slice_nil w _ _ a n c n' c' Tryz.underlying31
 have A:Aside (∀ j u,news[j]?=some u→w.cell? (ad.add j)=some u):=hc
 clear hc
 go_enter Tryz.func66,Tryz.ntmps66
 go_wp2_with (at_builtin;refine wpList_append_own _ rfl _ _ 31 rfl w.heap.size 39 i0 (.agg #[.int .i64 0,.int .i64 0]) 2 16 Tryz.underlying31 hi hz0 hz1 hz2 rfl (by decide) _ _ _ rfl (World.ownsRow_made w #[] 0 (Nat.le_refl _) (Nat.zero_le _) rfl) ad n c news rfl ?qc1 ?qc2 ?qc3 ?qc4 ?qc5 ?qc6 ?_)
 case qc1=>exact hl
 case qc2=>exact fun j u hj=>Lib.cell?_alloc_some _ (A.out j u hj)
 case qc3=>exact h1
 case qc4=>unfold maxLen;omega
 case qc5=>omega
 case qc6=>simp
 intro v' w1 hown hgrow hnil
 go_wp2
 go_ret
 refine ⟨v',rfl,by simpa using hown,?_,?_⟩
 ·exact hnil
 ·exact ((Below.refl _ w).alloc (Nat.le_refl _) _).grown hgrow (by simp) (by intro k hk;simp[Value.ownBlock] at hk;omega)
theorem Clone_o (l:List Cl) (a m:Nat) (ham:a+m≤l.length) (h0:0<m) (hn:m≤65536):Go.EYtfcmhmglpcimiaaGreatDoor.Fn Tryz.prog gl 66 [.c (.own 2 0 a m)] [(0,.rows 2 (cellsR l) 39)] 1 (.ret (.c (.all 2 1))) [(0,.rows 2 (cellsR l) 39),(1,.rows 2 (((cellsR l).drop a).take m) 39)] 2 []:=by
 have hres:((cellsR l).drop a).take m=cellsR ((l.drop a).take m):=by
  show ((l.map rowC).drop a).take m=((l.drop a).take m).map rowC
  rw[List.map_take,List.map_drop]
 rw[hres]
 have hrl:((l.drop a).take m).length=m:=by rw[List.length_take,List.length_drop];omega
 refine ⟨by omega,fun k B h hk=>?_,fun k hk=>(by cases hk),fun w M0 adr xs hW hG hd=>?_⟩
 ·match k,hk with
  | 0,_=>rfl
 obtain ⟨x,rfl,hx⟩:=All2.one_iff.1 hd
 have hloc:=hW.loc 0 _ rfl
 rcases hx with ⟨_,_,h⟩|⟨_,h,_⟩|⟨b,q,cp,cur,ee,f,h5,h6,h7,h8,h9,rfl⟩
 ·omega
 ·omega
 rw[h5] at hloc
 obtain ⟨g1,g2,g3,cur',cp',g4,g5,g6,g7,g8⟩:=hloc
 rw[h6] at g4
 cases g4
 have hlr:(cellsR l).length=l.length:=List.length_map _
 have hv:=encL_val g8
 rw[hlr] at hv g2
 have hnl:(encL ((l.drop a).take m)).length=m * 2:=by rw[encL_len,hrl]
 have hcell:∀ j u,(encL ((l.drop a).take m))[j]?=some u→w.cell? ((⟨b,a * 2,none⟩:Addr).add j)=some u:=fun j u hj=>by
  rw[← encL_take,← encL_drop,← hv,List.getElem?_take] at hj
  split at hj
  ·rw[List.getElem?_drop,List.getElem?_take] at hj
   split at hj
   ·rw[Array.getElem?_toList] at hj
    by_cases hj0:j=0
    ·subst hj0
     simp only[World.cell?,Addr.add,h6,if_true]
     simpa using hj
    ·simp[World.cell?,Addr.add,h6,hj,hj0]
   ·cases hj
  ·cases hj
 refine .inl ⟨by unfold HasBody;kernel_rfl,(cclone_calls ⟨b,a * 2,none⟩ m (cp - a) (encL ((l.drop a).take m)) w hn hnl hcell (encL_one _)).mono ?_⟩
 rintro e w' ⟨v',rfl,hown,-,hb⟩
 have hE:Evo (Trk adr [(0,.rows 2 (cellsR l) 39)]) w w':=Evo.of_below hb _
 obtain ⟨-,⟨rfl,hz⟩|⟨g,cap,cur2,rfl,hg,hh,hc1,hc2,hc3,hc4⟩⟩:=hown
 ·omega
 have hbw:b<w.heap.size:=(Array.getElem?_eq_some_iff.1 h6).1
 refine ⟨fun k=>if k=1 then some (some g,m) else adr k,hE,⟨?_,?_,?_,?_,?_,?_⟩,fun k hk _=>if_neg (by omega),?_,_,rfl,.inr ⟨g,m,cap,cur2,_,_,rfl,hh,hc3,hc1,hc2,rfl⟩⟩
 ·intro k B h
  match k,h with
  | 0,_=>decide
  | 1,_=>decide
 ·intro k hk
  show (if k=1 then _ else adr k)=none
  rw[if_neg (by omega)]
  exact hW.fresh k (by omega)
 ·intro k B h
  match k,h with
  | 0,h =>
   cases h
   have hlo:=hW.loc 0 _ rfl
   show LocB _ _ w' (if (0:Nat)=1 then some (some g,m) else adr 0) _
   rw[if_neg (by decide)]
   refine hlo.evo (S:=fun _=>False) (Evo.of_below hb _) (fun _ _ h=>h.elim) (fun b1 hlt hm=>?_) (fun j e hj he=>?_) (fun l t hB=>by cases hB)
   ·rcases hm with hm|⟨k,B,m1,hk,he⟩
    ·exact .inl hm
    ·match k,hk with
     | 0,hk=>exact .inr ⟨0,_,m1,rfl,he⟩
     | 1,_ =>
      cases he
      omega
   ·exact (Evo.of_below hb (fun _=>False)).block j he fun h=>h
  | 1,h =>
   cases h
   refine ⟨by decide,by rw[List.length_map,hrl],fun r hr=>?_,cur2,cap,hh,hc3,by rw[List.length_map,hrl];exact hc1,hc2,?_⟩
   ·obtain ⟨c,_,rfl⟩:=List.mem_map.1 hr
    rfl
   ·rw[List.length_map,hrl,hc4]
    exact encL_den _
 ·intro k k' B B' b1 m1 m' h h' e1 e2
  match k,k',h,h' with
  | 0,0,_,_=>rfl
  | 1,1,_,_=>rfl
  | 0,1,_,_ =>
   exfalso
   simp only[if_true] at e2
   rw[if_neg (by decide)] at e1
   rw[h5] at e1
   cases e1
   cases e2
   omega
  | 1,0,_,_ =>
   exfalso
   simp only[if_true] at e1
   rw[if_neg (by decide)] at e2
   rw[h5] at e2
   cases e1
   cases e2
   omega
 ·intro k B b1 m1 h he hM
  match k,h with
  | 0,h=>exact hW.prot 0 B b1 m1 h he hM
  | 1,_ =>
   cases he
   have:=hW.bound _ hM
   omega
 ·intro b1 hM
  exact Nat.lt_of_lt_of_le (hW.bound b1 hM) hb.size
 ·intro k B b1 m1 h he
  match k,h with
  | 0,h=>exact .inl ⟨0,_,m1,rfl,he⟩
  | 1,_ =>
   cases he
   exact .inr hg
end
end Go.Proofs.YtfcmhmglpcimiaaGreatDoor
namespace Go.Proofs
open Go.Shelf
def Tryz.sortCells_ren:Go.Shelf.Ren:=⟨fun|6=>62|15=>85|14=>84|28=>106|29=>107|20=>98|21=>99|22=>100|23=>101|24=>102|25=>103|26=>104|27=>105|46=>133|47=>134|48=>135|49=>136|50=>137|57=>154|n=>n,fun|22=>31|24=>39|25=>82|3=>3|39=>172|0=>0|53=>194|55=>196|4=>4|46=>188|45=>187|50=>79|5=>5|9=>9|66=>212|70=>215|76=>228|77=>229|n=>n,fun|n=>n⟩
theorem Tryz.sortCells:Go.Proofs.SlLaysF0.n6 Tryz.prog Tryz.sortCells_ren:={
 mixed:=by kernel_rfl
 f6:=⟨Tryz.f62.name,by decide,Tryz.func62.trans (congrArg some (by kernel_rfl))⟩
 f14:=⟨Tryz.f84.name,by decide,Tryz.func84.trans (congrArg some (by kernel_rfl))⟩
 f15:=Tryz.func85.trans (congrArg some (by kernel_rfl))
 f20:=⟨Tryz.f98.name,by decide,Tryz.func98.trans (congrArg some (by kernel_rfl))⟩
 f21:=⟨Tryz.f99.name,by decide,Tryz.func99.trans (congrArg some (by kernel_rfl))⟩
 f22:=⟨Tryz.f100.name,by decide,Tryz.func100.trans (congrArg some (by kernel_rfl))⟩
 f23:=⟨Tryz.f101.name,by decide,Tryz.func101.trans (congrArg some (by kernel_rfl))⟩
 f24:=⟨Tryz.f102.name,by decide,Tryz.func102.trans (congrArg some (by kernel_rfl))⟩
 f25:=⟨Tryz.f103.name,by decide,Tryz.func103.trans (congrArg some (by kernel_rfl))⟩
 f26:=⟨Tryz.f104.name,by decide,Tryz.func104.trans (congrArg some (by kernel_rfl))⟩
 f27:=⟨Tryz.f105.name,by decide,Tryz.func105.trans (congrArg some (by kernel_rfl))⟩
 f28:=Tryz.func106.trans (congrArg some (by kernel_rfl))
 f29:=Tryz.func107.trans (congrArg some (by kernel_rfl))
 f46:=⟨Tryz.f133.name,by decide,Tryz.func133.trans (congrArg some (by kernel_rfl))⟩
 f47:=Tryz.func134.trans (congrArg some (by kernel_rfl))
 f48:=Tryz.func135.trans (congrArg some (by kernel_rfl))
 f49:=⟨Tryz.f136.name,by decide,Tryz.func136.trans (congrArg some (by kernel_rfl))⟩
 f50:=⟨Tryz.f137.name,by decide,Tryz.func137.trans (congrArg some (by kernel_rfl))⟩
 f57:=⟨Tryz.f154.name,by decide,Tryz.func154.trans (congrArg some (by kernel_rfl))⟩
 t0:=Tryz.underlying0
 a0:=Tryz.isAgg0
 z0:=Tryz.sizeOf0
 v0:=Tryz.zeroValue0
 t3:=Tryz.underlying3
 a3:=Tryz.isAgg3
 z3:=Tryz.sizeOf3
 v3:=Tryz.zeroValue3
 t4:=Tryz.underlying4
 a4:=Tryz.isAgg4
 z4:=Tryz.sizeOf4
 v4:=Tryz.zeroValue4
 t5:=Tryz.underlying5
 a5:=Tryz.isAgg5
 z5:=Tryz.sizeOf5
 v5:=Tryz.zeroValue5
 t9:=Tryz.underlying9
 a9:=Tryz.isAgg9
 z9:=Tryz.sizeOf9
 v9:=Tryz.zeroValue9
 t22:=Tryz.underlying31
 a22:=Tryz.isAgg31
 z22:=Tryz.sizeOf31
 v22:=Tryz.zeroValue31
 t25:=Tryz.underlying82
 a25:=Tryz.isAgg82
 z25:=Tryz.sizeOf82
 v25:=Tryz.zeroValue82
 t39:=Tryz.underlying172
 a39:=Tryz.isAgg172
 z39:=Tryz.sizeOf172
 v39:=Tryz.zeroValue172
 t45:=Tryz.underlying187
 a45:=Tryz.isAgg187
 z45:=Tryz.sizeOf187
 v45:=Tryz.zeroValue187
 t46:=Tryz.underlying188
 a46:=Tryz.isAgg188
 z46:=Tryz.sizeOf188
 v46:=Tryz.zeroValue188
 t50:=Tryz.underlying79
 a50:=Tryz.isAgg79
 z50:=Tryz.sizeOf79
 v50:=Tryz.zeroValue79
 t53:=Tryz.underlying194
 a53:=Tryz.isAgg194
 z53:=Tryz.sizeOf194
 v53:=Tryz.zeroValue194
 t55:=Tryz.underlying196
 a55:=Tryz.isAgg196
 z55:=Tryz.sizeOf196
 v55:=Tryz.zeroValue196
 t66:=Tryz.underlying212
 a66:=Tryz.isAgg212
 z66:=Tryz.sizeOf212
 v66:=Tryz.zeroValue212
 t70:=Tryz.underlying215
 a70:=Tryz.isAgg215
 z70:=Tryz.sizeOf215
 v70:=Tryz.zeroValue215
 t76:=Tryz.underlying228
 a76:=Tryz.isAgg228
 z76:=Tryz.sizeOf228
 v76:=Tryz.zeroValue228
 t77:=Tryz.underlying229
 a77:=Tryz.isAgg229
 z77:=Tryz.sizeOf229
 v77:=Tryz.zeroValue229 }
def Tryz.cmpInt_ren:Go.Shelf.Ren:=⟨fun|5=>42|7=>69|n=>n,fun|22=>3|3=>3|4=>4|n=>n,fun|n=>n⟩
theorem Tryz.cmpInt:Go.Proofs.SlLaysC2.n5 Tryz.prog Tryz.cmpInt_ren:={
 mixed:=by kernel_rfl
 f5:=⟨Tryz.f42.name,by decide,Tryz.func42.trans (congrArg some (by kernel_rfl))⟩
 f7:=⟨Tryz.f69.name,by decide,Tryz.func69.trans (congrArg some (by kernel_rfl))⟩
 t3:=Tryz.underlying3
 a3:=Tryz.isAgg3
 z3:=Tryz.sizeOf3
 v3:=Tryz.zeroValue3
 t4:=Tryz.underlying4
 a4:=Tryz.isAgg4
 z4:=Tryz.sizeOf4
 v4:=Tryz.zeroValue4
 t22:=Tryz.underlying3
 a22:=Tryz.isAgg3
 z22:=Tryz.sizeOf3
 v22:=Tryz.zeroValue3 }
def Tryz.sortParts_ren:Go.Shelf.Ren:=⟨fun|6=>67|15=>85|14=>86|28=>106|29=>107|20=>108|21=>109|22=>110|23=>111|24=>112|25=>113|26=>114|27=>115|46=>138|47=>134|48=>135|49=>139|50=>140|57=>155|n=>n,fun|22=>34|24=>31|25=>145|3=>3|39=>172|0=>0|53=>194|55=>196|4=>4|46=>188|45=>187|50=>79|5=>5|9=>9|66=>212|70=>215|76=>228|77=>229|n=>n,fun|n=>n⟩
theorem Tryz.sortParts:Go.Proofs.SlLaysF.n6 Tryz.prog Tryz.sortParts_ren:={
 mixed:=by kernel_rfl
 f6:=⟨Tryz.f67.name,by decide,Tryz.func67.trans (congrArg some (by kernel_rfl))⟩
 f14:=⟨Tryz.f86.name,by decide,Tryz.func86.trans (congrArg some (by kernel_rfl))⟩
 f15:=Tryz.func85.trans (congrArg some (by kernel_rfl))
 f20:=⟨Tryz.f108.name,by decide,Tryz.func108.trans (congrArg some (by kernel_rfl))⟩
 f21:=⟨Tryz.f109.name,by decide,Tryz.func109.trans (congrArg some (by kernel_rfl))⟩
 f22:=⟨Tryz.f110.name,by decide,Tryz.func110.trans (congrArg some (by kernel_rfl))⟩
 f23:=⟨Tryz.f111.name,by decide,Tryz.func111.trans (congrArg some (by kernel_rfl))⟩
 f24:=⟨Tryz.f112.name,by decide,Tryz.func112.trans (congrArg some (by kernel_rfl))⟩
 f25:=⟨Tryz.f113.name,by decide,Tryz.func113.trans (congrArg some (by kernel_rfl))⟩
 f26:=⟨Tryz.f114.name,by decide,Tryz.func114.trans (congrArg some (by kernel_rfl))⟩
 f27:=⟨Tryz.f115.name,by decide,Tryz.func115.trans (congrArg some (by kernel_rfl))⟩
 f28:=Tryz.func106.trans (congrArg some (by kernel_rfl))
 f29:=Tryz.func107.trans (congrArg some (by kernel_rfl))
 f46:=⟨Tryz.f138.name,by decide,Tryz.func138.trans (congrArg some (by kernel_rfl))⟩
 f47:=Tryz.func134.trans (congrArg some (by kernel_rfl))
 f48:=Tryz.func135.trans (congrArg some (by kernel_rfl))
 f49:=⟨Tryz.f139.name,by decide,Tryz.func139.trans (congrArg some (by kernel_rfl))⟩
 f50:=⟨Tryz.f140.name,by decide,Tryz.func140.trans (congrArg some (by kernel_rfl))⟩
 f57:=⟨Tryz.f155.name,by decide,Tryz.func155.trans (congrArg some (by kernel_rfl))⟩
 t0:=Tryz.underlying0
 a0:=Tryz.isAgg0
 z0:=Tryz.sizeOf0
 v0:=Tryz.zeroValue0
 t3:=Tryz.underlying3
 a3:=Tryz.isAgg3
 z3:=Tryz.sizeOf3
 v3:=Tryz.zeroValue3
 t4:=Tryz.underlying4
 a4:=Tryz.isAgg4
 z4:=Tryz.sizeOf4
 v4:=Tryz.zeroValue4
 t5:=Tryz.underlying5
 a5:=Tryz.isAgg5
 z5:=Tryz.sizeOf5
 v5:=Tryz.zeroValue5
 t9:=Tryz.underlying9
 a9:=Tryz.isAgg9
 z9:=Tryz.sizeOf9
 v9:=Tryz.zeroValue9
 t22:=Tryz.underlying34
 a22:=Tryz.isAgg34
 z22:=Tryz.sizeOf34
 v22:=Tryz.zeroValue34
 a24:=Tryz.isAgg31
 z24:=Tryz.sizeOf31
 t25:=Tryz.underlying145
 a25:=Tryz.isAgg145
 z25:=Tryz.sizeOf145
 v25:=Tryz.zeroValue145
 t39:=Tryz.underlying172
 a39:=Tryz.isAgg172
 z39:=Tryz.sizeOf172
 v39:=Tryz.zeroValue172
 t45:=Tryz.underlying187
 a45:=Tryz.isAgg187
 z45:=Tryz.sizeOf187
 v45:=Tryz.zeroValue187
 t46:=Tryz.underlying188
 a46:=Tryz.isAgg188
 z46:=Tryz.sizeOf188
 v46:=Tryz.zeroValue188
 t50:=Tryz.underlying79
 a50:=Tryz.isAgg79
 z50:=Tryz.sizeOf79
 v50:=Tryz.zeroValue79
 t53:=Tryz.underlying194
 a53:=Tryz.isAgg194
 z53:=Tryz.sizeOf194
 v53:=Tryz.zeroValue194
 t55:=Tryz.underlying196
 a55:=Tryz.isAgg196
 z55:=Tryz.sizeOf196
 v55:=Tryz.zeroValue196
 t66:=Tryz.underlying212
 a66:=Tryz.isAgg212
 z66:=Tryz.sizeOf212
 v66:=Tryz.zeroValue212
 t70:=Tryz.underlying215
 a70:=Tryz.isAgg215
 z70:=Tryz.sizeOf215
 v70:=Tryz.zeroValue215
 t76:=Tryz.underlying228
 a76:=Tryz.isAgg228
 z76:=Tryz.sizeOf228
 v76:=Tryz.zeroValue228
 t77:=Tryz.underlying229
 a77:=Tryz.isAgg229
 z77:=Tryz.sizeOf229
 v77:=Tryz.zeroValue229 }
end Go.Proofs
namespace Go.Proofs.YtfcmhmglpcimiaaGreatDoor
open Go Go.RowKit Go.Sort Go.EYtfcmhmglpcimiaaGreatDoor
set_option maxRecDepth 100000
set_option maxHeartbeats 4000000
theorem or_calls (b:Nat) (x y:Int) (c:Nat) (w:World) (h0:w.cell? ⟨b,0,none⟩=some (.int .i64 x)) (h1:w.cell? ⟨b,1,none⟩=some (.int .i64 y)) :
 Calls Tryz.prog 41 #[.slice (some ⟨b,0,none⟩) 2 c] w fun e w'=>e=.returned (.int .i64 (orZ x y))∧w'=w:=by
 by_cases hx:x=0
 ·subst hx
  have hr:orZ 0 y=y:=rfl
  rw[hr]
  clear hr
  by_cases hy:y=0
  ·subst hy
   go_enter Tryz.func41,Tryz.ntmps41
   go_wp2
   refine wp_loop_rounds 3 ?_
   rw[rounds_succ]
   go_wp2
   rw[rounds_succ]
   go_wp2
   rw[rounds_succ]
   go_wp2
   go_ret
   exact ⟨rfl,rfl⟩
  ·go_enter Tryz.func41,Tryz.ntmps41
   go_wp2
   refine wp_loop_rounds 3 ?_
   rw[rounds_succ]
   go_wp2
   rw[rounds_succ]
   go_wp2
   go_ret
   exact ⟨rfl,rfl⟩
 ·have hr:orZ x y=x:=if_neg hx
  rw[hr]
  clear hr
  go_enter Tryz.func41,Tryz.ntmps41
  go_wp2
  refine wp_loop_rounds 3 ?_
  rw[rounds_succ]
  go_wp2
  go_ret
  exact ⟨rfl,rfl⟩
end Go.Proofs.YtfcmhmglpcimiaaGreatDoor
