/- Proved: a part of what the law is proved with (the reckoner, contracts of functions, plain laws). Conditions: as each says. -/
import Derived.Test.YtaheflnnigocgaaGreatDoorHFp
import Derived.Test.YtaheflnnigocgaaGreatDoorHGd
import Derived.Test.YtaheflnnigocgaaGreatDoorHTjg
section
namespace Go.Proofs.YtaheflnnigocgaaGreatDoor
open Go Go.RowKit Go.EYtaheflnnigocgaaGreatDoor
set_option maxRecDepth 100000
set_option maxHeartbeats 400000000
variable {gl:List (Nat×List D)}
abbrev clF (f:Fl):Cl:=(f.c,f.r)
structure Rd where
 isF:List UInt8→Bool
 nd:List UInt8→Nd
 on:List UInt8→List Cl
section
variable (rd:Rd)
abbrev fsL (l:List Fl):List Fl:=l.filter fun f=>rd.isF f.t
def ntL (l:List Fl):Nt:=⟨l.map clF,l.map (·.t),ksD ((fsL rd l).map clF),(fsL rd l).map fun f=>.agg (rd.nd f.t).cs,(fsL rd l).map clF,fun c=>match (fsL rd l).find? fun f=>decide (clF f=c) with
 | some f=>rd.on f.t
 | none=>[]⟩
abbrev newH (l:List Fl) (pc:C):List (Nat×Blk):=[(0,.mp (ksD (l.map clF)) ((l.map (·.t)).map Go.EYtaheflnnigocgaaGreatDoor.D.str)),(1,.mp (ksD ((fsL rd l).map clF)) ((fsL rd l).map fun f=>.agg (rd.nd f.t).cs)),(2,.mp (ksD ((fsL rd l).map clF)) ((fsL rd l).map fun f=>.lst 2 (cellsR (rd.on f.t)))),(4,.var [pc,.mref 0,.mref 1,.mref 2,.d (.v (.slice none 0 0)),.mref 3] 60),(5,.rows 2 (cellsR (l.map clF)) 24)]
abbrev newR (l:List Fl) (Q:List (List Cl)):List (Nat×Blk):=[(4,.var [.all 2 5,.mref 0,.mref 1,.mref 2,.all 1 14,.mref 3] 60),(5,.rows 2 (cellsR (l.map clF)) 24),(0,.mp (ksD (l.map clF)) ((l.map (·.t)).map Go.EYtaheflnnigocgaaGreatDoor.D.str)),(1,.mp (ksD ((fsL rd l).map clF)) ((fsL rd l).map fun f=>.agg (rd.nd f.t).cs)),(2,.mp (ksD ((fsL rd l).map clF)) ((fsL rd l).map fun f=>.lst 2 (cellsR (rd.on f.t)))),(3,.mp (ksD Q.flatten) (ofT Q Q.length)),(14,.rows 1 (Q.map partR) 39)]
theorem onV_new {l:List Fl} (hnd:(l.map clF).Nodup):onV (ntL rd l)=(fsL rd l).map fun f=>.lst 2 (cellsR (rd.on f.t)):=by
 show ((fsL rd l).map clF).map _=_
 rw[List.map_map]
 refine List.map_congr_left fun f hf=>?_
 have hfd:(fsL rd l).find? (fun g=>decide (clF g=clF f))=some f:=by
  have hn2:((fsL rd l).map clF).Nodup:=hnd.sublist (List.Sublist.map clF List.filter_sublist)
  cases hx:(fsL rd l).find? (fun g=>decide (clF g=clF f)) with
  | none =>
   have:=List.find?_eq_none.1 hx f hf
   simp at this
  | some g =>
   have h1:=List.find?_some hx
   have h2:=List.mem_of_find?_eq_some hx
   simp only[decide_eq_true_eq] at h1
   obtain ⟨i,hi,rfl⟩:=List.getElem_of_mem h2
   obtain ⟨j,hj,rfl⟩:=List.getElem_of_mem hf
   have:i=j:=(List.getElem_inj (xs:=(fsL rd l).map clF) (i:=i) (j:=j) (h₀:=by simpa using hi) (h₁:=by simpa using hj) hn2).1 (by simpa using h1)
   subst this
   rfl
 show Go.EYtaheflnnigocgaaGreatDoor.D.lst 2 (cellsR (match (fsL rd l).find? fun g=>decide (clF g=clF f) with
  | some f=>rd.on f.t
  | none=>[]))=_
 rw[hfd]
theorem New_y (l:List Fl) (hl:l.length≤200) (hnd:(l.map clF).Nodup)
 (c1:FnP Tryz.prog gl 23 [.lst 3 (l.map flD)] (.v .nilIface))
 (c2:∀ f ∈ l,FnP Tryz.prog gl 24 [.str f.t] (.v (.bool (!rd.isF f.t))))
 (c3:∀ f ∈ l,rd.isF f.t=true→∃ i:Int,FnP Tryz.prog gl 25 [.str f.t] (.tup [.agg (rd.nd f.t).cs,iD i,.v .nilIface]))
 (c4:∀ f ∈ l,rd.isF f.t=true→FnP Tryz.prog gl 26 [.agg (rd.nd f.t).cs] (.lst 2 (cellsR (rd.on f.t))))
 (hp:Go.EYtaheflnnigocgaaGreatDoor.Fn Tryz.prog gl 27 [.c (.ptr 0 0)] (ntH (ntL rd l)) 6 (.ret (.tup [])) (ntH' (ntL rd l) (partsZ (ntL rd l).g (ntL rd l).V)) 15 []) :
 Go.EYtaheflnnigocgaaGreatDoor.Fn Tryz.prog gl 18 [.c (.d (.lst 3 (l.map flD)))] [] 0 (.ret (.tup [(false,[.ptr 4 0]),(false,[.d (.v .nilIface)])])) (newR rd l (partsZ (ntL rd l).g (l.map clF))) 15 []:=by
 have hov:=onV_new rd hnd
 unfold ntH ntH' at hp
 rw[hov] at hp
 have hlm:(l.map flD).length=l.length:=List.length_map _
 refine fn_of_vc (nv:=9999) (cu:=[9,14,100008]) fits mixed Tryz.func18 rfl hoB rfl rfl rfl rfl ?_
 ((repeat' ((conv=>whnf);first|exact .intro|refine .ya ?_|refine .na ?_|refine .ys ?_|refine .ns ?_|refine .neg (fun _=>?_) (fun _=>?_)|refine .mk (fun _=>?_) (fun _=>?_)|refine .inl (.inl (X1 (c1) ?_))|refine .inl (X1 (c1) ?_)|refine X1 (c1) ?_|refine .mk ?_ ?_|refine AK ?_|refine AT ?_|fail));all_goals conv=>whnf)
 refine ⟨{ σ:=Nat,fr:=fun i=>[(24,.c (.d (nD i)))],ks:=[0,1,2,4],L:=fun i=>newH rd (l.take i) (.all 2 5),ex:=1,I:=fun i=>i≤l.length,μ:=fun i=>l.length - i },⟨0,Nat.zero_le _,?_⟩,fun (i:Nat) hi=>?_⟩
 ·((repeat' first|exact rfl|((conv=>whnf);first|done|exact suL|refine And.intro ?_ ?_|fail));all_goals conv=>whnf)
  all_goals first|exact ⟨2,_,rfl,by decide,by decide⟩|skip
 replace hi:i≤l.length:=hi
 by_cases hlt:i<l.length
 ·have h3:(i:Int)<(((l.map flD).length:Nat):Int):=by omega
  have g1:=get_map (f:=flD) hlt
  have e0:=wN (i:=i) (by omega)
  have hm:l[i] ∈ l:=List.getElem_mem hlt
  have hnew:clF l[i] ∉ (l.take i).map clF:=fun h=>by
   obtain ⟨f,hf,he⟩:=List.mem_map.1 h
   obtain ⟨j,hj,rfl⟩:=List.getElem_of_mem hf
   rw[List.getElem_take] at he
   rw[List.length_take] at hj
   have h1:=(List.pairwise_iff_getElem.1 hnd) j i (by rw[List.length_map];omega) (by rw[List.length_map];omega) (by omega)
   rw[List.getElem_map,List.getElem_map] at h1
   exact h1 he
  have htk:l.take (i+1)=l.take i++[l[i]]:=List.take_succ_eq_append_getElem hlt
  have k2:=c2 _ hm
  have k3:=c3 _ hm
  have k4:=c4 _ hm
  generalize l[i]=f at *
  obtain ⟨fc,fr,ft⟩:=f
  have hk:kC (fc,fr) ∉ ksD ((l.take i).map clF):=fun h=>hnew (kC_mem.1 h)
  have hrl:(cellsR ((l.take i).map clF)).length=i:=by rw[List.length_map,List.length_map,List.length_take];omega
  have b1:((cellsR ((l.take i).map clF)).length+1) * 16≤140737488355328:=by omega
  have b2:(cellsR ((l.take i).map clF)).length+1≤maxLen:=by unfold maxLen;omega
  have hcs:cellsR ((l.take (i+1)).map clF)=cellsR ((l.take i).map clF)++[[iD fc,iD fr]]:=by
   rw[htk,List.map_append]
   exact List.map_append
  have hks:ksD ((l.take (i+1)).map clF)=ksD ((l.take i).map clF)++[kC (fc,fr)]:=by
   rw[htk,List.map_append]
   exact List.map_append
  have hts:((l.take (i+1)).map (·.t)).map Go.EYtaheflnnigocgaaGreatDoor.D.str=((l.take i).map (·.t)).map Go.EYtaheflnnigocgaaGreatDoor.D.str++[.str ft]:=by
   rw[htk,List.map_append,List.map_append]
   rfl
  ((repeat' ((conv=>whnf);first|exact .intro|refine .ya ?_|refine .na ?_|refine .ys ?_|refine .ns ?_|refine .neg (fun _=>?_) (fun _=>?_)|refine .mk (fun _=>?_) (fun _=>?_)|refine .mk ?_ ?_|refine AK ?_|refine AT ?_|fail));all_goals conv=>whnf)
  refine ⟨{ σ:=Unit,fr:=fun _=>[],ks:=[0,1,2,4,5],L:=fun _=>newH rd (l.take (i+1)) (.all 2 5),ex:=0,I:=fun _=>True,μ:=fun _=>0 },?_,fun _ _=>?_⟩
  ·((repeat' ((conv=>whnf);first|exact .intro|refine .ya ?_|refine .na ?_|refine .ys ?_|refine .ns ?_|refine .neg (fun _=>?_) (fun _=>?_)|refine .mk (fun _=>?_) (fun _=>?_)|(refine ⟨Int.natCast_nonneg _,_,g1,?_⟩)|refine .mk ?_ ?_|refine AK ?_|refine AT ?_|fail));all_goals conv=>whnf)
   refine ⟨{ σ:=Unit,fr:=fun _=>[],ks:=[4,5],L:=fun _=>[(4,.var [.all 2 5,.mref 0,.mref 1,.mref 2,.d (.v (.slice none 0 0)),.mref 3] 60),(5,.rows 2 (cellsR ((l.take (i+1)).map clF)) 24)],ex:=0,I:=fun _=>True,μ:=fun _=>0 },?_,fun _ _=>?_⟩
   ·((repeat' ((conv=>whnf);first|exact .intro|refine .ya ?_|refine .na ?_|refine .ys ?_|refine .ns ?_|refine .neg (fun _=>?_) (fun _=>?_)|refine .mk (fun _=>?_) (fun _=>?_)|(refine ⟨⟨rfl,b1,b2⟩,?_⟩)|refine .mk ?_ ?_|refine AK ?_|refine AT ?_|fail));all_goals conv=>whnf)
    all_goals refine ⟨(),trivial,?_⟩
    all_goals ((repeat' first|exact rfl|((conv=>whnf);first|done|exact suL|refine And.intro ?_ ?_|fail));all_goals conv=>whnf)
    all_goals first|exact hcs.symm|skip
   cases hf:rd.isF ft
   ·have hfs:fsL rd (l.take (i+1))=fsL rd (l.take i):=by
     show (l.take (i+1)).filter _=_
     rw[htk,List.filter_append]
     simp[hf]
    have k2':FnP Tryz.prog gl 24 [.str ft] (.v (.bool true)):=by have:=k2;rw[hf] at this;exact this
    ((repeat' ((conv=>whnf);first|exact .intro|refine .ya ?_|refine .na ?_|refine .ys ?_|refine .ns ?_|refine .neg (fun _=>?_) (fun _=>?_)|refine .mk (fun _=>?_) (fun _=>?_)|refine .inl (.inl (X1 (k2') ?_))|refine .inl (X1 (k2') ?_)|refine X1 (k2') ?_|(refine ⟨3,⟨key_cell,rfl,keys_T _⟩,.inl ⟨hk,?_⟩⟩)|refine .mk ?_ ?_|refine AK ?_|refine AT ?_|fail));all_goals conv=>whnf)
    all_goals refine ⟨(),trivial,?_⟩
    all_goals ((repeat' first|exact rfl|((conv=>whnf);first|done|exact suL|refine And.intro ?_ ?_|fail));all_goals conv=>whnf)
    all_goals first|exact hks.symm|exact hts.symm|(rw[hfs];done)|skip
   ·have hfs:fsL rd (l.take (i+1))=fsL rd (l.take i)++[⟨fc,fr,ft⟩]:=by
     show (l.take (i+1)).filter _=_
     rw[htk,List.filter_append]
     simp[hf]
    have k2':FnP Tryz.prog gl 24 [.str ft] (.v (.bool false)):=by have:=k2;rw[hf] at this;exact this
    obtain ⟨ix,k3'⟩:=k3 hf
    have k4':=k4 hf
    have hkf:kC (fc,fr) ∉ ksD ((fsL rd (l.take i)).map clF):=fun h=>by
     obtain ⟨g,hg,he⟩:=List.mem_map.1 (kC_mem.1 h)
     exact hnew (List.mem_map.2 ⟨g,(List.mem_filter.1 hg).1,he⟩)
    have hfk:ksD ((fsL rd (l.take (i+1))).map clF)=ksD ((fsL rd (l.take i)).map clF)++[kC (fc,fr)]:=by
     rw[hfs,List.map_append]
     exact List.map_append
    have hfn:((fsL rd (l.take (i+1))).map fun f=>Go.EYtaheflnnigocgaaGreatDoor.D.agg (rd.nd f.t).cs)=((fsL rd (l.take i)).map fun f=>Go.EYtaheflnnigocgaaGreatDoor.D.agg (rd.nd f.t).cs)++[.agg (rd.nd ft).cs]:=by
     rw[hfs,List.map_append]
     rfl
    have hfo:((fsL rd (l.take (i+1))).map fun f=>Go.EYtaheflnnigocgaaGreatDoor.D.lst 2 (cellsR (rd.on f.t)))=((fsL rd (l.take i)).map fun f=>Go.EYtaheflnnigocgaaGreatDoor.D.lst 2 (cellsR (rd.on f.t)))++[.lst 2 (cellsR (rd.on ft))]:=by
     rw[hfs,List.map_append]
     rfl
    clear k2 k3 k4 hfs
    obtain ⟨N,hN⟩:∃ N,rd.nd ft=N:=⟨_,rfl⟩
    rw[hN] at k3' k4' hfn
    obtain ⟨nk,nm,ns,na,nb,nks⟩:=N
    ((repeat' ((conv=>whnf);first|exact .intro|refine .ya ?_|refine .na ?_|refine .ys ?_|refine .ns ?_|refine .neg (fun _=>?_) (fun _=>?_)|refine .mk (fun _=>?_) (fun _=>?_)|refine .inl (.inl (X1 (by first|exact k2'|exact k3'|exact k4') ?_))|refine .inl (X1 (by first|exact k2'|exact k3'|exact k4') ?_)|refine X1 (by first|exact k2'|exact k3'|exact k4') ?_|(first|refine ⟨3,⟨key_cell,rfl,keys_T _⟩,.inl ⟨hk,?_⟩⟩|refine ⟨3,⟨key_cell,rfl,keys_T _⟩,.inl ⟨hkf,?_⟩⟩)|refine .mk ?_ ?_|refine AK ?_|refine AT ?_|fail));all_goals conv=>whnf)
    all_goals refine ⟨(),trivial,?_⟩
    all_goals ((repeat' first|exact rfl|((conv=>whnf);first|done|exact suL|refine And.intro ?_ ?_|fail));all_goals conv=>whnf)
    all_goals first|exact hks.symm|exact hts.symm|exact hfk.symm|exact hfn.symm|exact hfo.symm|skip
  ·((repeat' ((conv=>whnf);first|exact .intro|refine .ya ?_|refine .na ?_|refine .ys ?_|refine .ns ?_|refine .neg (fun _=>?_) (fun _=>?_)|refine .mk (fun _=>?_) (fun _=>?_)|refine .mk ?_ ?_|refine AK ?_|refine AT ?_|fail));all_goals conv=>whnf)
   all_goals refine ⟨i+1,⟨hlt,by show l.length - (i+1)<l.length - i;omega⟩,?_⟩
   all_goals ((repeat' first|exact rfl|((conv=>whnf);first|done|exact suL|refine And.intro ?_ ?_|fail));all_goals conv=>whnf)
   all_goals first|exact cqN e0|skip
 ·have h3:¬ (i:Int)<(((l.map flD).length:Nat):Int):=by omega
  obtain rfl:i=l.length:=by omega
  have hta:l.take l.length=l:=List.take_length
  rw[← hta] at hp
  ((repeat' ((conv=>whnf);first|exact .intro|refine .ya ?_|refine .na ?_|refine .ys ?_|refine .ns ?_|refine .neg (fun _=>?_) (fun _=>?_)|refine .mk (fun _=>?_) (fun _=>?_)|refine .inr (X5 (hp.r [4,5,0,1,2,3] _) ?_)|refine .inl (.inr (X5 (hp.r [4,5,0,1,2,3] _) ?_))|refine .inl (X5 (hp.r [4,5,0,1,2,3] _) ?_)|refine .mk ?_ ?_|refine AK ?_|refine AT ?_|fail));all_goals conv=>whnf)
  all_goals ((repeat' first|exact rfl|((conv=>whnf);first|done|exact suL|refine And.intro ?_ ?_|fail));all_goals conv=>whnf)
  all_goals first|(rw[hta];done)|(rw[hta];rfl)|skip
end
end Go.Proofs.YtaheflnnigocgaaGreatDoor
end
section
namespace Go.Proofs.YtaheflnnigocgaaGreatDoor
open Go Go.RowKit Go.EYtaheflnnigocgaaGreatDoor
set_option maxRecDepth 100000
set_option maxHeartbeats 400000000
variable {gl:List (Nat×List D)}
abbrev NewOk (gl:List (Nat×List D)) (rd:Rd) (l:List Fl):Prop:=Go.EYtaheflnnigocgaaGreatDoor.Fn Tryz.prog gl 18 [.c (.d (.lst 3 (l.map flD)))] [] 0 (.ret (.tup [(false,[.ptr 4 0]),(false,[.d (.v .nilIface)])])) (newR rd l (partsZ (ntL rd l).g (l.map clF))) 15 []
section
variable (rd:Rd)
abbrev linkR (p:Cl×Cl):List Go.EYtaheflnnigocgaaGreatDoor.D:=[iD p.1.1,iD p.1.2,iD p.2.1,iD p.2.2]
def linksZ (on:Cl→List Cl) (V:List Cl):List (Cl×Cl):=V.flatMap fun c=>(on c).map fun y=>(c,y)
theorem linksZ_s {on:Cl→List Cl} {V:List Cl} {i:Nat} (h:i<V.length):linksZ on (V.take (i+1))=linksZ on (V.take i)++(on V[i]).map fun y=>(V[i],y):=by
 unfold linksZ
 rw[List.take_succ_eq_append_getElem h,List.flatMap_append,List.flatMap_singleton]
theorem linksZ_len {on:Cl→List Cl} (ho:∀ c,(on c).length≤2700):∀ V:List Cl,(linksZ on V).length≤V.length * 2700
 | []=>Nat.zero_le _
 | c::V=>by
  have h1:=linksZ_len ho V
  have h2:=ho c
  unfold linksZ at *
  rw[List.flatMap_cons,List.length_append,List.length_map,List.length_cons]
  omega
theorem Parts_d (l:List Fl) (cN:NewOk gl rd l):FnP Tryz.prog gl 10 [.lst 3 (l.map flD)] (.tup [.lst 1 ((partsZ (ntL rd l).g (l.map clF)).map partR),.v .nilIface]):=by
 refine fnP_of_vc (nv:=9999) (cu:=[]) fits mixed Tryz.func10 rfl hoB rfl ?_
 ((repeat' ((conv=>whnf);first|exact .intro|refine .ya ?_|refine .na ?_|refine .ys ?_|refine .ns ?_|refine .neg (fun _=>?_) (fun _=>?_)|refine .mk (fun _=>?_) (fun _=>?_)|refine .inr (X5 (cN.r [] _) ?_)|refine .inl (.inr (X5 (cN.r [] _) ?_))|refine .inl (X5 (cN.r [] _) ?_)|refine .mk ?_ ?_|refine AK ?_|refine AT ?_|fail));all_goals conv=>whnf)
 all_goals exact LeD.rfl
theorem Links_d (l:List Fl) (hl:l.length≤200) (hnd:(l.map clF).Nodup) (ho:∀ c,((ntL rd l).on c).length≤2700) (cN:NewOk gl rd l):FnP Tryz.prog gl 6 [.lst 3 (l.map flD)] (.tup [.lst 4 ((linksZ (ntL rd l).on (l.map clF)).map linkR),.v .nilIface]):=by
 have hov:=onV_new rd hnd
 have hvl:(cellsR (l.map clF)).length=(l.map clF).length:=List.length_map _
 have hvm:(l.map clF).length=l.length:=List.length_map _
 have hon:∀ c,c ∉ (fsL rd l).map clF→(ntL rd l).on c=[]:=fun c hc=>by
  show (match (fsL rd l).find? fun g=>decide (clF g=c) with
   | some f=>rd.on f.t
   | none=>[])=[]
  cases hx:(fsL rd l).find? (fun g=>decide (clF g=c)) with
  | none=>rfl
  | some g =>
   have h1:=List.find?_some hx
   simp only[decide_eq_true_eq] at h1
   exact absurd (List.mem_map.2 ⟨g,List.mem_of_find?_eq_some hx,h1⟩) hc
 unfold NewOk newR at cN
 rw[← hov] at cN
 have hget:∀ c,c ∈ (fsL rd l).map clF→(onV (ntL rd l))[((fsL rd l).map clF).idxOf c]?=some (.lst 2 (cellsR ((ntL rd l).on c))):=fun c hc=>get_key hc _
 generalize (ntL rd l).on=on at *
 generalize onV (ntL rd l)=ov at *
 generalize l.map clF=V at *
 generalize (fsL rd l).map clF=oK at *
 refine fnP_of_vc (nv:=9999) (cu:=[]) fits mixed Tryz.func6 rfl hoB rfl ?_
 ((repeat' ((conv=>whnf);first|exact .intro|refine .ya ?_|refine .na ?_|refine .ys ?_|refine .ns ?_|refine .neg (fun _=>?_) (fun _=>?_)|refine .mk (fun _=>?_) (fun _=>?_)|refine .inr (X5 (cN.r [] _) ?_)|refine .inl (.inr (X5 (cN.r [] _) ?_))|refine .inl (X5 (cN.r [] _) ?_)|refine .mk ?_ ?_|refine AK ?_|refine AT ?_|fail));all_goals conv=>whnf)
 refine ⟨{ σ:=Nat,fr:=fun i=>[(24,.c (.d (nD i))),(6,.c (.all 4 15))],ks:=[],L:=fun i=>[(15,.rows 4 ((linksZ on (V.take i)).map linkR) 33)],ex:=1,I:=fun i=>i≤V.length,μ:=fun i=>V.length - i },⟨0,Nat.zero_le _,?_⟩,fun (i:Nat) hi=>?_⟩
 ·((repeat' first|exact rfl|((conv=>whnf);first|done|exact suL|refine And.intro ?_ ?_|fail));all_goals conv=>whnf)
  all_goals first|exact ⟨4,_,rfl,by decide,by decide⟩|skip
 replace hi:i≤V.length:=hi
 by_cases hlt:i<V.length
 ·have h3:(i:Int)<(((cellsR V).length:Nat):Int):=by omega
  have g1:=get_map (f:=rowC) hlt
  have e0:=wN (i:=i) (by omega)
  have hst:=linksZ_s (on:=on) hlt
  have hll:=linksZ_len ho (V.take i)
  rw[List.length_take] at hll
  generalize V[i]=c at g1 hst
  have hoc:=ho c
  by_cases hc:c ∈ oK
  ·have g3:=ksD_get hc
   have g4:=hget c hc
   have hcm:(cellsR (on c)).length=(on c).length:=List.length_map _
   ((repeat' ((conv=>whnf);first|exact .intro|refine .ya ?_|refine .na ?_|refine .ys ?_|refine .ns ?_|refine .neg (fun _=>?_) (fun _=>?_)|refine .mk (fun _=>?_) (fun _=>?_)|(first|refine ⟨_,g1,?_⟩|refine ⟨3,⟨key_cell,rfl,keys_T _⟩,by kernel_rfl,.inl ⟨_,_,⟨g3,g4⟩,?_⟩⟩)|refine .mk ?_ ?_|refine AK ?_|refine AT ?_|fail));all_goals conv=>whnf)
   refine ⟨{ σ:=Nat,fr:=fun j=>[(35,.c (.d (nD j))),(6,.c (.all 4 15))],ks:=[15],L:=fun j=>[(15,.rows 4 ((linksZ on (V.take i)++((on c).take j).map fun y=>(c,y)).map linkR) 33)],ex:=0,I:=fun j=>j≤(on c).length,μ:=fun j=>(on c).length - j },⟨0,Nat.zero_le _,?_⟩,fun (j:Nat) hj=>?_⟩
   ·((repeat' first|exact rfl|((conv=>whnf);first|done|exact suL|refine And.intro ?_ ?_|fail));all_goals conv=>whnf)
    all_goals first|(rw[List.take_zero,List.map_nil,List.append_nil];done)|skip
   replace hj:j≤(on c).length:=hj
   by_cases hlj:j<(on c).length
   ·have h4:(j:Int)<(((cellsR (on c)).length:Nat):Int):=by omega
    have g5:=get_map (f:=rowC) hlj
    have e1:=wN (i:=j) (by omega)
    have htk:(on c).take (j+1)=(on c).take j++[(on c)[j]]:=List.take_succ_eq_append_getElem hlj
    have hrl:((linksZ on (V.take i)++((on c).take j).map fun y=>(c,y)).map linkR).length=(linksZ on (V.take i)).length+j:=by rw[List.length_map,List.length_append,List.length_map,List.length_take];omega
    have b1:(((linksZ on (V.take i)++((on c).take j).map fun y=>(c,y)).map linkR).length+1) * 32≤140737488355328:=by omega
    have b2:((linksZ on (V.take i)++((on c).take j).map fun y=>(c,y)).map linkR).length+1≤maxLen:=by unfold maxLen;omega
    generalize (on c)[j]=y at g5 htk
    have hsr:(linksZ on (V.take i)++((on c).take (j+1)).map fun y=>(c,y)).map linkR=(linksZ on (V.take i)++((on c).take j).map fun y=>(c,y)).map linkR++[[iD c.1,iD c.2,iD y.1,iD y.2]]:=by
     rw[htk]
     simp only[List.map_append,List.append_assoc]
     rfl
    ((repeat' ((conv=>whnf);first|exact .intro|refine .ya ?_|refine .na ?_|refine .ys ?_|refine .ns ?_|refine .neg (fun _=>?_) (fun _=>?_)|refine .mk (fun _=>?_) (fun _=>?_)|(first|refine ⟨Int.natCast_nonneg _,_,g5,?_⟩|refine ⟨⟨rfl,b1,b2⟩,?_⟩)|refine .mk ?_ ?_|refine AK ?_|refine AT ?_|fail));all_goals conv=>whnf)
    all_goals refine ⟨j+1,⟨hlj,by show (on c).length - (j+1)<(on c).length - j;omega⟩,?_⟩
    all_goals ((repeat' first|exact rfl|((conv=>whnf);first|done|exact suL|refine And.intro ?_ ?_|fail));all_goals conv=>whnf)
    all_goals first|exact cqN e1|exact hsr.symm|skip
   obtain rfl:j=(on c).length:=by omega
   have h4:¬ (((on c).length:Nat):Int)<(((cellsR (on c)).length:Nat):Int):=by omega
   ((repeat' ((conv=>whnf);first|exact .intro|refine .ya ?_|refine .na ?_|refine .ys ?_|refine .ns ?_|refine .neg (fun _=>?_) (fun _=>?_)|refine .mk (fun _=>?_) (fun _=>?_)|refine .mk ?_ ?_|refine AK ?_|refine AT ?_|fail));all_goals conv=>whnf)
   all_goals refine ⟨i+1,⟨hlt,by show V.length - (i+1)<V.length - i;omega⟩,?_⟩
   all_goals ((repeat' first|exact rfl|((conv=>whnf);first|done|exact suL|refine And.intro ?_ ?_|fail));all_goals conv=>whnf)
   all_goals first|exact cqN e0|(rw[hst,List.take_length];done)|skip
  ·have hkc:kC c ∉ ksD oK:=fun h=>hc (kC_mem.1 h)
   have hoe:=hon c hc
   ((repeat' ((conv=>whnf);first|exact .intro|refine .ya ?_|refine .na ?_|refine .ys ?_|refine .ns ?_|refine .neg (fun _=>?_) (fun _=>?_)|refine .mk (fun _=>?_) (fun _=>?_)|(first|refine ⟨_,g1,?_⟩|refine ⟨3,⟨key_cell,rfl,keys_T _⟩,by kernel_rfl,.inr ⟨hkc,?_⟩⟩)|refine .mk ?_ ?_|refine AK ?_|refine AT ?_|fail));all_goals conv=>whnf)
   refine ⟨{ σ:=Nat,fr:=fun j=>[(35,.c (.d (nD j))),(6,.c (.all 4 15))],ks:=[],L:=fun j=>[],ex:=0,I:=fun j=>j=0,μ:=fun j=>0 },⟨0,rfl,?_⟩,fun (j:Nat) hj=>?_⟩
   ·((repeat' first|exact rfl|((conv=>whnf);first|done|exact suL|refine And.intro ?_ ?_|fail));all_goals conv=>whnf)
   obtain rfl:j=0:=hj
   ((repeat' ((conv=>whnf);first|exact .intro|refine .ya ?_|refine .na ?_|refine .ys ?_|refine .ns ?_|refine .neg (fun _=>?_) (fun _=>?_)|refine .mk (fun _=>?_) (fun _=>?_)|refine .mk ?_ ?_|refine AK ?_|refine AT ?_|fail));all_goals conv=>whnf)
   all_goals refine ⟨i+1,⟨hlt,by show V.length - (i+1)<V.length - i;omega⟩,?_⟩
   all_goals ((repeat' first|exact rfl|((conv=>whnf);first|done|exact suL|refine And.intro ?_ ?_|fail));all_goals conv=>whnf)
   all_goals first|exact cqN e0|(rw[hst,hoe,List.map_nil,List.append_nil];done)|skip
 ·have h3:¬ (i:Int)<(((cellsR V).length:Nat):Int):=by omega
  obtain rfl:i=V.length:=by omega
  rw[← List.take_length (l:=V)]
  ((repeat' ((conv=>whnf);first|exact .intro|refine .ya ?_|refine .na ?_|refine .ys ?_|refine .ns ?_|refine .neg (fun _=>?_) (fun _=>?_)|refine .mk (fun _=>?_) (fun _=>?_)|refine .mk ?_ ?_|refine AK ?_|refine AT ?_|fail));all_goals conv=>whnf)
  all_goals first|exact LeD.rfl|(rw[List.take_length];exact LeD.rfl)|skip
end
end Go.Proofs.YtaheflnnigocgaaGreatDoor
end
section
namespace Go.Proofs.YtaheflnnigocgaaGreatDoor
open Go Go.RowKit Go.EYtaheflnnigocgaaGreatDoor
set_option maxRecDepth 100000
set_option maxHeartbeats 4000000
variable {gl:List (Nat×List D)}
theorem idx_le:∀ {l:List Cl} {k:Nat} (h:k<l.length),l.idxOf l[k]≤k
 | a::l,0,_=>by simp
 | a::l,k+1,h=>by
  have ih:=idx_le (l:=l) (k:=k) (by simpa using h)
  rw[List.getElem_cons_succ,List.idxOf_cons]
  cases (a==l[k]'(by simpa using h)) with
  | true=>exact Nat.zero_le _
  | false=>exact Nat.succ_le_succ ih
theorem Index_d (l:List Cl) (c:Cl) (hc:c ∈ l) (hl:l.length≤65536):FnP Tryz.prog gl 46 [.lst 2 (cellsR l),kC c] (nD (l.idxOf c)):=by
 have hm:(cellsR l).length=l.length:=List.length_map _
 have hi:=List.idxOf_lt_length_iff.2 hc
 refine fnP_of_vc (nv:=9999) (cu:=[]) fits mixed Tryz.func46 rfl hoB rfl ?_
 ((repeat' ((conv=>whnf);first|exact .intro|refine .ya ?_|refine .na ?_|refine .ys ?_|refine .ns ?_|refine .neg (fun _=>?_) (fun _=>?_)|refine .mk (fun _=>?_) (fun _=>?_)|refine .mk ?_ ?_|refine AK ?_|refine AT ?_|fail));all_goals conv=>whnf)
 refine ⟨{ σ:=Nat,fr:=fun k=>[(8,.c (.d (nD k)))],ks:=[],L:=fun _=>[],ex:=0,I:=fun k=>k≤l.idxOf c,μ:=fun k=>l.length - k },⟨0,Nat.zero_le _,?_⟩,fun (k:Nat) hk=>?_⟩
 ·((repeat' first|exact rfl|((conv=>whnf);first|done|exact suL|refine And.intro ?_ ?_|fail));all_goals conv=>whnf)
 replace hk:k≤l.idxOf c:=hk
 have hlt:k<l.length:=by omega
 have h2:(k:Int)<((cellsR l).length:Nat):=by omega
 have g1:=get_map (f:=rowC) hlt
 have e0:=wN (i:=k) (by omega)
 by_cases he:k=l.idxOf c
 ·have hc2:l[k]=c:=by subst he;exact List.getElem_idxOf hi
  rw[← he]
  rw[hc2] at g1
  obtain ⟨c1,c2⟩:=c
  ((repeat' ((conv=>whnf);first|exact .intro|refine .ya ?_|refine .na ?_|refine .ys ?_|refine .ns ?_|refine .neg (fun _=>?_) (fun _=>?_)|refine .mk (fun _=>?_) (fun _=>?_)|(refine ⟨Int.natCast_nonneg _,_,g1,?_⟩)|refine .mk ?_ ?_|refine AK ?_|refine AT ?_|fail));all_goals conv=>whnf)
  all_goals first|exact LeD.rfl|(exfalso;simp_all [andPD];done)|skip
 ·have hne:l[k]≠c:=fun e=>he (by
   have h1:=idx_le hlt
   rw[e] at h1
   omega)
  obtain ⟨c1,c2⟩:=c
  generalize l[k]=y at g1 hne
  obtain ⟨y1,y2⟩:=y
  have hne2:¬ (c1=y1∧c2=y2∧True):=fun h=>hne (by rw[h.1,h.2.1])
  ((repeat' ((conv=>whnf);first|exact .intro|refine .ya ?_|refine .na ?_|refine .ys ?_|refine .ns ?_|refine .neg (fun _=>?_) (fun _=>?_)|refine .mk (fun _=>?_) (fun _=>?_)|(refine ⟨Int.natCast_nonneg _,_,g1,?_⟩)|refine .mk ?_ ?_|refine AK ?_|refine AT ?_|fail));all_goals conv=>whnf)
  all_goals first|(exfalso;simp_all;done)|skip
  all_goals refine ⟨k+1,⟨by show k+1≤_;omega,by show l.length - (k+1)<l.length - k;omega⟩,?_⟩
  all_goals ((repeat' first|exact rfl|((conv=>whnf);first|done|exact suL|refine And.intro ?_ ?_|fail));all_goals conv=>whnf)
  all_goals first|exact cqN e0|skip
end Go.Proofs.YtaheflnnigocgaaGreatDoor
end
