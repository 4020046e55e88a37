/- Proved: a part of what the law is proved with (the reckoner, contracts of functions, plain laws). Conditions: as each says. -/
import Derived.Test.YtaheflnnigocgaaGreatDoorGTji
section
namespace Go.Proofs.YtaheflnnigocgaaGreatDoor
open Go Go.RowKit Go.EYtaheflnnigocgaaGreatDoor
set_option maxRecDepth 100000
set_option maxHeartbeats 400000000
variable {gl:List (Nat×List D)}
abbrev NewOk (gl:List (Nat×List D)) (rd:Rd) (l:List Fl):Prop:=Go.EYtaheflnnigocgaaGreatDoor.Fn Tryz.prog gl 18 [.c (.d (.lst 3 (l.map flD)))] [] 0 (.ret (.tup [(false,[.ptr 4 0]),(false,[.d (.v .nilIface)])])) (newR rd l (partsZ (ntL rd l).g (l.map clF))) 15 []
section
variable (rd:Rd)
abbrev linkR (p:Cl×Cl):List Go.EYtaheflnnigocgaaGreatDoor.D:=[iD p.1.1,iD p.1.2,iD p.2.1,iD p.2.2]
def linksZ (on:Cl→List Cl) (V:List Cl):List (Cl×Cl):=V.flatMap fun c=>(on c).map fun y=>(c,y)
theorem linksZ_s {on:Cl→List Cl} {V:List Cl} {i:Nat} (h:i<V.length):linksZ on (V.take (i+1))=linksZ on (V.take i)++(on V[i]).map fun y=>(V[i],y):=by
 unfold linksZ
 rw[List.take_succ_eq_append_getElem h,List.flatMap_append,List.flatMap_singleton]
theorem linksZ_len {on:Cl→List Cl} (ho:∀ c,(on c).length≤2700):∀ V:List Cl,(linksZ on V).length≤V.length * 2700
 | []=>Nat.zero_le _
 | c::V=>by
  have h1:=linksZ_len ho V
  have h2:=ho c
  unfold linksZ at *
  rw[List.flatMap_cons,List.length_append,List.length_map,List.length_cons]
  omega
theorem Parts_d (l:List Fl) (cN:NewOk gl rd l):FnP Tryz.prog gl 10 [.lst 3 (l.map flD)] (.tup [.lst 1 ((partsZ (ntL rd l).g (l.map clF)).map partR),.v .nilIface]):=by
 refine fnP_of_vc (nv:=9999) (cu:=[]) fits mixed Tryz.func10 rfl hoB rfl ?_
 ((repeat' ((conv=>whnf);first|exact .intro|refine .ya ?_|refine .na ?_|refine .ys ?_|refine .ns ?_|refine .neg (fun _=>?_) (fun _=>?_)|refine .mk (fun _=>?_) (fun _=>?_)|refine .inr (X5 (cN.r [] _) ?_)|refine .inl (.inr (X5 (cN.r [] _) ?_))|refine .inl (X5 (cN.r [] _) ?_)|refine .mk ?_ ?_|refine AK ?_|refine AT ?_|fail));all_goals conv=>whnf)
 all_goals exact LeD.rfl
theorem Links_d (l:List Fl) (hl:l.length≤200) (hnd:(l.map clF).Nodup) (ho:∀ c,((ntL rd l).on c).length≤2700) (cN:NewOk gl rd l):FnP Tryz.prog gl 6 [.lst 3 (l.map flD)] (.tup [.lst 4 ((linksZ (ntL rd l).on (l.map clF)).map linkR),.v .nilIface]):=by
 have hov:=onV_new rd hnd
 have hvl:(cellsR (l.map clF)).length=(l.map clF).length:=List.length_map _
 have hvm:(l.map clF).length=l.length:=List.length_map _
 have hon:∀ c,c ∉ (fsL rd l).map clF→(ntL rd l).on c=[]:=fun c hc=>by
  show (match (fsL rd l).find? fun g=>decide (clF g=c) with
   | some f=>rd.on f.t
   | none=>[])=[]
  cases hx:(fsL rd l).find? (fun g=>decide (clF g=c)) with
  | none=>rfl
  | some g =>
   have h1:=List.find?_some hx
   simp only[decide_eq_true_eq] at h1
   exact absurd (List.mem_map.2 ⟨g,List.mem_of_find?_eq_some hx,h1⟩) hc
 unfold NewOk newR at cN
 rw[← hov] at cN
 have hget:∀ c,c ∈ (fsL rd l).map clF→(onV (ntL rd l))[((fsL rd l).map clF).idxOf c]?=some (.lst 2 (cellsR ((ntL rd l).on c))):=fun c hc=>get_key hc _
 generalize (ntL rd l).on=on at *
 generalize onV (ntL rd l)=ov at *
 generalize l.map clF=V at *
 generalize (fsL rd l).map clF=oK at *
 refine fnP_of_vc (nv:=9999) (cu:=[]) fits mixed Tryz.func6 rfl hoB rfl ?_
 ((repeat' ((conv=>whnf);first|exact .intro|refine .ya ?_|refine .na ?_|refine .ys ?_|refine .ns ?_|refine .neg (fun _=>?_) (fun _=>?_)|refine .mk (fun _=>?_) (fun _=>?_)|refine .inr (X5 (cN.r [] _) ?_)|refine .inl (.inr (X5 (cN.r [] _) ?_))|refine .inl (X5 (cN.r [] _) ?_)|refine .mk ?_ ?_|refine AK ?_|refine AT ?_|fail));all_goals conv=>whnf)
 refine ⟨{ σ:=Nat,fr:=fun i=>[(24,.c (.d (nD i))),(6,.c (.all 4 15))],ks:=[],L:=fun i=>[(15,.rows 4 ((linksZ on (V.take i)).map linkR) 33)],ex:=1,I:=fun i=>i≤V.length,μ:=fun i=>V.length - i },⟨0,Nat.zero_le _,?_⟩,fun (i:Nat) hi=>?_⟩
 ·((repeat' first|exact rfl|((conv=>whnf);first|done|exact suL|refine And.intro ?_ ?_|fail));all_goals conv=>whnf)
  all_goals first|exact ⟨4,_,rfl,by decide,by decide⟩|skip
 replace hi:i≤V.length:=hi
 by_cases hlt:i<V.length
 ·have h3:(i:Int)<(((cellsR V).length:Nat):Int):=by omega
  have g1:=get_map (f:=rowC) hlt
  have e0:=wN (i:=i) (by omega)
  have hst:=linksZ_s (on:=on) hlt
  have hll:=linksZ_len ho (V.take i)
  rw[List.length_take] at hll
  generalize V[i]=c at g1 hst
  have hoc:=ho c
  by_cases hc:c ∈ oK
  ·have g3:=ksD_get hc
   have g4:=hget c hc
   have hcm:(cellsR (on c)).length=(on c).length:=List.length_map _
   ((repeat' ((conv=>whnf);first|exact .intro|refine .ya ?_|refine .na ?_|refine .ys ?_|refine .ns ?_|refine .neg (fun _=>?_) (fun _=>?_)|refine .mk (fun _=>?_) (fun _=>?_)|(first|refine ⟨_,g1,?_⟩|refine ⟨3,⟨key_cell,rfl,keys_T _⟩,by kernel_rfl,.inl ⟨_,_,⟨g3,g4⟩,?_⟩⟩)|refine .mk ?_ ?_|refine AK ?_|refine AT ?_|fail));all_goals conv=>whnf)
   refine ⟨{ σ:=Nat,fr:=fun j=>[(35,.c (.d (nD j))),(6,.c (.all 4 15))],ks:=[15],L:=fun j=>[(15,.rows 4 ((linksZ on (V.take i)++((on c).take j).map fun y=>(c,y)).map linkR) 33)],ex:=0,I:=fun j=>j≤(on c).length,μ:=fun j=>(on c).length - j },⟨0,Nat.zero_le _,?_⟩,fun (j:Nat) hj=>?_⟩
   ·((repeat' first|exact rfl|((conv=>whnf);first|done|exact suL|refine And.intro ?_ ?_|fail));all_goals conv=>whnf)
    all_goals first|(rw[List.take_zero,List.map_nil,List.append_nil];done)|skip
   replace hj:j≤(on c).length:=hj
   by_cases hlj:j<(on c).length
   ·have h4:(j:Int)<(((cellsR (on c)).length:Nat):Int):=by omega
    have g5:=get_map (f:=rowC) hlj
    have e1:=wN (i:=j) (by omega)
    have htk:(on c).take (j+1)=(on c).take j++[(on c)[j]]:=List.take_succ_eq_append_getElem hlj
    have hrl:((linksZ on (V.take i)++((on c).take j).map fun y=>(c,y)).map linkR).length=(linksZ on (V.take i)).length+j:=by rw[List.length_map,List.length_append,List.length_map,List.length_take];omega
    have b1:(((linksZ on (V.take i)++((on c).take j).map fun y=>(c,y)).map linkR).length+1) * 32≤140737488355328:=by omega
    have b2:((linksZ on (V.take i)++((on c).take j).map fun y=>(c,y)).map linkR).length+1≤maxLen:=by unfold maxLen;omega
    generalize (on c)[j]=y at g5 htk
    have hsr:(linksZ on (V.take i)++((on c).take (j+1)).map fun y=>(c,y)).map linkR=(linksZ on (V.take i)++((on c).take j).map fun y=>(c,y)).map linkR++[[iD c.1,iD c.2,iD y.1,iD y.2]]:=by
     rw[htk]
     simp only[List.map_append,List.append_assoc]
     rfl
    ((repeat' ((conv=>whnf);first|exact .intro|refine .ya ?_|refine .na ?_|refine .ys ?_|refine .ns ?_|refine .neg (fun _=>?_) (fun _=>?_)|refine .mk (fun _=>?_) (fun _=>?_)|(first|refine ⟨Int.natCast_nonneg _,_,g5,?_⟩|refine ⟨⟨rfl,b1,b2⟩,?_⟩)|refine .mk ?_ ?_|refine AK ?_|refine AT ?_|fail));all_goals conv=>whnf)
    all_goals refine ⟨j+1,⟨hlj,by show (on c).length - (j+1)<(on c).length - j;omega⟩,?_⟩
    all_goals ((repeat' first|exact rfl|((conv=>whnf);first|done|exact suL|refine And.intro ?_ ?_|fail));all_goals conv=>whnf)
    all_goals first|exact cqN e1|exact hsr.symm|skip
   obtain rfl:j=(on c).length:=by omega
   have h4:¬ (((on c).length:Nat):Int)<(((cellsR (on c)).length:Nat):Int):=by omega
   ((repeat' ((conv=>whnf);first|exact .intro|refine .ya ?_|refine .na ?_|refine .ys ?_|refine .ns ?_|refine .neg (fun _=>?_) (fun _=>?_)|refine .mk (fun _=>?_) (fun _=>?_)|refine .mk ?_ ?_|refine AK ?_|refine AT ?_|fail));all_goals conv=>whnf)
   all_goals refine ⟨i+1,⟨hlt,by show V.length - (i+1)<V.length - i;omega⟩,?_⟩
   all_goals ((repeat' first|exact rfl|((conv=>whnf);first|done|exact suL|refine And.intro ?_ ?_|fail));all_goals conv=>whnf)
   all_goals first|exact cqN e0|(rw[hst,List.take_length];done)|skip
  ·have hkc:kC c ∉ ksD oK:=fun h=>hc (kC_mem.1 h)
   have hoe:=hon c hc
   ((repeat' ((conv=>whnf);first|exact .intro|refine .ya ?_|refine .na ?_|refine .ys ?_|refine .ns ?_|refine .neg (fun _=>?_) (fun _=>?_)|refine .mk (fun _=>?_) (fun _=>?_)|(first|refine ⟨_,g1,?_⟩|refine ⟨3,⟨key_cell,rfl,keys_T _⟩,by kernel_rfl,.inr ⟨hkc,?_⟩⟩)|refine .mk ?_ ?_|refine AK ?_|refine AT ?_|fail));all_goals conv=>whnf)
   refine ⟨{ σ:=Nat,fr:=fun j=>[(35,.c (.d (nD j))),(6,.c (.all 4 15))],ks:=[],L:=fun j=>[],ex:=0,I:=fun j=>j=0,μ:=fun j=>0 },⟨0,rfl,?_⟩,fun (j:Nat) hj=>?_⟩
   ·((repeat' first|exact rfl|((conv=>whnf);first|done|exact suL|refine And.intro ?_ ?_|fail));all_goals conv=>whnf)
   obtain rfl:j=0:=hj
   ((repeat' ((conv=>whnf);first|exact .intro|refine .ya ?_|refine .na ?_|refine .ys ?_|refine .ns ?_|refine .neg (fun _=>?_) (fun _=>?_)|refine .mk (fun _=>?_) (fun _=>?_)|refine .mk ?_ ?_|refine AK ?_|refine AT ?_|fail));all_goals conv=>whnf)
   all_goals refine ⟨i+1,⟨hlt,by show V.length - (i+1)<V.length - i;omega⟩,?_⟩
   all_goals ((repeat' first|exact rfl|((conv=>whnf);first|done|exact suL|refine And.intro ?_ ?_|fail));all_goals conv=>whnf)
   all_goals first|exact cqN e0|(rw[hst,hoe,List.map_nil,List.append_nil];done)|skip
 ·have h3:¬ (i:Int)<(((cellsR V).length:Nat):Int):=by omega
  obtain rfl:i=V.length:=by omega
  rw[← List.take_length (l:=V)]
  ((repeat' ((conv=>whnf);first|exact .intro|refine .ya ?_|refine .na ?_|refine .ys ?_|refine .ns ?_|refine .neg (fun _=>?_) (fun _=>?_)|refine .mk (fun _=>?_) (fun _=>?_)|refine .mk ?_ ?_|refine AK ?_|refine AT ?_|fail));all_goals conv=>whnf)
  all_goals first|exact LeD.rfl|(rw[List.take_length];exact LeD.rfl)|skip
end
end Go.Proofs.YtaheflnnigocgaaGreatDoor
end
