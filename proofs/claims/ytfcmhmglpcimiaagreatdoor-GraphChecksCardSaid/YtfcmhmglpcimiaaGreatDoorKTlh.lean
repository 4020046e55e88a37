/- Proved: a part of what the law is proved with (the reckoner, contracts of functions, plain laws). Conditions: as each says. -/
import Derived.Test.YtfcmhmglpcimiaaGreatDoorKCg
import Derived.Test.YtfcmhmglpcimiaaGreatDoorKTja
import Derived.Test.YtfcmhmglpcimiaaGreatDoorKTjf
section
namespace Go.Proofs.YtfcmhmglpcimiaaGreatDoor
open Go Go.RowKit Go.EYtfcmhmglpcimiaaGreatDoor
set_option maxRecDepth 100000
set_option maxHeartbeats 400000000
variable {gl:List (Nat×List D)}
theorem on_at {l:List Fl} (h:gZ l) {f:Fl} (hf:f ∈ l):(ntZ l).on (clF f)=if rdZ.isF f.t=true then rdZ.on f.t else []:=by
 have hone:∀ f' ∈ l,clF f'=clF f→f'=f:=fun f' hf' e=>by
  obtain ⟨i,hi,rfl⟩:=List.getElem_of_mem hf'
  obtain ⟨j,hj,rfl⟩:=List.getElem_of_mem hf
  have:i=j:=(List.getElem_inj (xs:=l.map clF) (i:=i) (j:=j) (h₀:=by simpa using hi) (h₁:=by simpa using hj) (gNd h)).1 (by simpa using e)
  subst this
  rfl
 show (match (fsL rdZ l).find? fun g=>decide (clF g=clF f) with
  | some f=>rdZ.on f.t
  | none=>[])=_
 cases hx:(fsL rdZ l).find? (fun g=>decide (clF g=clF f)) with
 | none =>
  by_cases hF:rdZ.isF f.t=true
  ·have:=List.find?_eq_none.1 hx f (List.mem_filter.2 ⟨hf,hF⟩)
   simp at this
  ·rw[if_neg hF]
 | some f' =>
  have h1:=List.find?_some hx
  simp only[decide_eq_true_eq] at h1
  have h2:=List.mem_filter.1 (List.mem_of_find?_eq_some hx)
  obtain rfl:=hone f' h2.1 h1
  rw[if_pos h2.2]
noncomputable abbrev docZ (l:List Fl):List (Nat×Blk):=docH rdZ.isF rdZ.nd rdZ.on (ntZ l).g l
theorem rNew_ok {l:List Fl} (h:gZ l):Go.EYtfcmhmglpcimiaaGreatDoor.Fn Tryz.prog gl 8 [.c (.d (.lst 3 (l.map flD)))] [] 0 (.ret (.c (.ptr 0 0))) (docZ l) 5 []:=by
 refine rNew_h rdZ.isF rdZ.nd rdZ.on (ntZ l).g l h.1 (gUp h) (fun f hf=>(gT h hf).1) (fun _ _=>rfl) (fun f hf hF=>?_) (fun f hf hF=>?_) (fun x=>decide_eq_true_iff) (fun f hf=>on_at h hf) (fun c=>(on_few l c).1)
 ·obtain ⟨n,i,hp,_⟩:=gRead (gT h hf).2.1 (of_decide_eq_true hF)
  have c:=rParse_d (gl:=gl) rfZ_ok rfZ_nil f.t
  have e:rdZ.nd f.t=n:=by show (match parseZ rfZ f.t with|.ok n _=>n|.no _ _=>n00)=n;rw[hp]
  rw[hp] at c
  rw[e]
  exact ⟨_,c⟩
 ·obtain ⟨n,i,hp,hf',hc⟩:=gRead (gT h hf).2.1 (of_decide_eq_true hF)
  have e:rdZ.nd f.t=n:=by show (match parseZ rfZ f.t with|.ok n _=>n|.no _ _=>n00)=n;rw[hp]
  have e2:rdZ.on f.t=refsZ n:=by show (match parseZ rfZ f.t with|.ok n _=>refsZ n|.no _ _=>[])=refsZ n;rw[hp]
  rw[e,e2]
  exact rOf_d n hf' hc
theorem onR_c {l:List Fl} (h:gZ l) {f:Fl} (hf:f ∈ l):(onR rdZ.isF rdZ.on f=[.lst 2 (cellsR ((ntZ l).on (clF f)))])∨(onR rdZ.isF rdZ.on f=[.v (.slice none 0 0)]∧(ntZ l).on (clF f)=[]):=by
 have hx:=on_at h hf
 unfold onR
 by_cases hF:rdZ.isF f.t=true
 ·rw[if_pos hF] at hx
  rw[if_pos hF,hx]
  exact .inl rfl
 ·rw[if_neg hF] at hx
  rw[if_neg hF]
  exact .inr ⟨rfl,hx⟩
abbrev newEr (gl:List (Nat×List D)) (l:List Fl) (e:Int):Prop:=Go.EYtfcmhmglpcimiaaGreatDoor.Fn Tryz.prog gl 26 [.c (.d (.lst 3 (l.map flD)))] [] 0 (.ret (.tup [(false,[.d (.v (.pointer none))]),(false,[.d (erD e)])])) [] 0 []
theorem gLinks_e (l:List Fl) (e:Int) (cN:newEr gl l e):FnP Tryz.prog gl 9 [.lst 3 (l.map flD)] (.tup [.v (.slice none 0 0),erD e]):=by
 refine fnP_of_vc (nv:=9999) (cu:=[]) fits mixed Tryz.func9 rfl hoB rfl ?_
 ((repeat' ((conv=>whnf);first|exact .intro|refine .ya ?_|refine .na ?_|refine .ys ?_|refine .ns ?_|refine .neg (fun _=>?_) (fun _=>?_)|refine .mk (fun _=>?_) (fun _=>?_)|refine .inr (X5 (cN.r [] _) ?_)|refine .inl (.inr (X5 (cN.r [] _) ?_))|refine .inl (X5 (cN.r [] _) ?_)|refine .mk ?_ ?_|refine AK ?_|refine AT ?_|fail));all_goals conv=>whnf)
 all_goals exact LeD.rfl
theorem GraphChecks_d (te:TypeId) (pe:Value) (hV:Has gl (glV te pe)) (hl:Go.EYtfcmhmglpcimiaaGreatDoor.look gl 1=some lvAll) (hr:Go.EYtfcmhmglpcimiaaGreatDoor.look gl 0=some errT) (l:List Fl):FnP Tryz.prog gl 3 [.lst 3 (l.map flD)] (.v (.bool true)):=by
 have hlm:(l.map flD).length=l.length:=List.length_map _
 rcases checks_d te pe hV hl rfZ_ok rfZ_nil l with ⟨h,cG,cR⟩|⟨e,he,cG,cR⟩
 ·have cL:=Links_d rdZ l h.1 (gNd h) (fun c=>(on_few l c).1) (New_ok te pe hV hl h cG)
  have cD:=rNew_ok (gl:=gl) h
  have cE:=Err_0 (gl:=gl) hr
  have hl2:=h.1
  have ho:∀ c,((ntZ l).on c).length≤2700:=fun c=>(on_few l c).1
  have hvl:(l.map clF).length=l.length:=List.length_map _
  refine fnP_of_vc (nv:=9999) (cu:=[100013,12]) fits mixed Tryz.func3 rfl hoB rfl ?_
  ((repeat' ((conv=>whnf);first|exact .intro|refine .ya ?_|refine .na ?_|refine .ys ?_|refine .ns ?_|refine .neg (fun _=>?_) (fun _=>?_)|refine .mk (fun _=>?_) (fun _=>?_)|refine .inr (X5 (cD.r [] _) ?_)|refine .inl (.inr (X5 (cD.r [] _) ?_))|refine .inl (X5 (cD.r [] _) ?_)|refine .inl (.inl (X1 (by first|exact cG|exact cR|exact cE) ?_))|refine .inl (X1 (by first|exact cG|exact cR|exact cE) ?_)|refine X1 (by first|exact cG|exact cR|exact cE) ?_|refine .mk ?_ ?_|refine AK ?_|refine AT ?_|fail));all_goals conv=>whnf)
  refine ⟨{ σ:=Nat,fr:=fun i=>[(8,.c (.d (nD i))),(6,.c (.all 4 5))],ks:=[],L:=fun i=>[(5,.rows 4 ((linksZ (ntZ l).on ((l.map clF).take i)).map linkR) 42)],ex:=1,I:=fun i=>i≤l.length,μ:=fun i=>l.length - i },⟨0,Nat.zero_le _,?_⟩,fun (i:Nat) hi=>?_⟩
  ·((repeat' first|exact rfl|((conv=>whnf);first|done|exact suL|refine And.intro ?_ ?_|fail));all_goals conv=>whnf)
   all_goals first|exact ⟨4,_,rfl,by decide,by decide⟩|exact .inr (.inr (.inl ⟨rfl,4,5,rfl,by decide⟩))|skip
  replace hi:i≤l.length:=hi
  by_cases hlt:i<l.length
  ·have h3:(i:Int)<(((l.map flD).length:Nat):Int):=by omega
   have g1:=get_map (f:=flD) hlt
   have g2:=get_map (f:=onR rdZ.isF rdZ.on) hlt
   have h4:(0:Int)≤(i:Int)∧(i:Int)<(((l.map (onR rdZ.isF rdZ.on)).length:Nat):Int):=by rw[List.length_map];omega
   have e0:=wN (i:=i) (by omega)
   have hst:=linksZ_s (on:=(ntZ l).on) (V:=l.map clF) (i:=i) (by omega)
   have hci:(l.map clF)[i]'(by omega)=clF l[i]:=List.getElem_map ..
   rw[hci] at hst
   have hll:=linksZ_len ho ((l.map clF).take i)
   rw[List.length_take] at hll
   have hor:=onR_c h (List.getElem_mem hlt)
   generalize hff:l[i]=f at g1 g2 hst hor
   have hoc:=ho (clF f)
   rcases hor with hor|⟨hor,hox⟩
   ·rw[hor] at g2
    have hcm:(cellsR ((ntZ l).on (clF f))).length=((ntZ l).on (clF f)).length:=List.length_map _
    ((repeat' ((conv=>whnf);first|exact .intro|refine .ya ?_|refine .na ?_|refine .ys ?_|refine .ns ?_|refine .neg (fun _=>?_) (fun _=>?_)|refine .mk (fun _=>?_) (fun _=>?_)|refine .mk ?_ ?_|refine AK ?_|refine AT ?_|fail));all_goals conv=>whnf)
    refine ⟨{ σ:=Nat,fr:=fun j=>[(9,.c (.d (nD j))),(6,.c (.all 4 5))],ks:=[5],L:=fun j=>[(5,.rows 4 ((linksZ (ntZ l).on ((l.map clF).take i)++(((ntZ l).on (clF f)).take j).map fun y=>(clF f,y)).map linkR) 42)],ex:=0,I:=fun j=>j≤((ntZ l).on (clF f)).length,μ:=fun j=>((ntZ l).on (clF f)).length - j },⟨0,Nat.zero_le _,?_⟩,fun (j:Nat) hj=>?_⟩
    ·((repeat' first|exact rfl|((conv=>whnf);first|done|exact suL|refine And.intro ?_ ?_|fail));all_goals conv=>whnf)
     all_goals first|(rw[List.take_zero,List.map_nil,List.append_nil];done)|skip
    replace hj:j≤((ntZ l).on (clF f)).length:=hj
    by_cases hlj:j<((ntZ l).on (clF f)).length
    ·have h5:(j:Int)<(((cellsR ((ntZ l).on (clF f))).length:Nat):Int):=by omega
     have g5:=get_map (f:=rowC) hlj
     have e1:=wN (i:=j) (by omega)
     have htk:((ntZ l).on (clF f)).take (j+1)=((ntZ l).on (clF f)).take j++[((ntZ l).on (clF f))[j]]:=List.take_succ_eq_append_getElem hlj
     have hrl:((linksZ (ntZ l).on ((l.map clF).take i)++(((ntZ l).on (clF f)).take j).map fun y=>(clF f,y)).map linkR).length=(linksZ (ntZ l).on ((l.map clF).take i)).length+j:=by rw[List.length_map,List.length_append,List.length_map,List.length_take];omega
     have b1:(((linksZ (ntZ l).on ((l.map clF).take i)++(((ntZ l).on (clF f)).take j).map fun y=>(clF f,y)).map linkR).length+1) * 32≤140737488355328:=by omega
     have b2:((linksZ (ntZ l).on ((l.map clF).take i)++(((ntZ l).on (clF f)).take j).map fun y=>(clF f,y)).map linkR).length+1≤maxLen:=by unfold maxLen;omega
     generalize ((ntZ l).on (clF f))[j]=y at g5 htk
     have hsr:(linksZ (ntZ l).on ((l.map clF).take i)++(((ntZ l).on (clF f)).take (j+1)).map fun y=>(clF f,y)).map linkR=(linksZ (ntZ l).on ((l.map clF).take i)++(((ntZ l).on (clF f)).take j).map fun y=>(clF f,y)).map linkR++[[iD f.c,iD f.r,iD y.1,iD y.2]]:=by
      rw[htk]
      simp only[List.map_append,List.append_assoc]
      rfl
     ((repeat' ((conv=>whnf);first|exact .intro|refine .ya ?_|refine .na ?_|refine .ys ?_|refine .ns ?_|refine .neg (fun _=>?_) (fun _=>?_)|refine .mk (fun _=>?_) (fun _=>?_)|(first|refine ⟨h4,?_⟩|refine ⟨_,g2,?_⟩)|refine .mk ?_ ?_|refine AK ?_|refine AT ?_|fail));all_goals conv=>whnf)
     refine ⟨{ σ:=Unit,fr:=fun _=>[(6,.c (.all 4 5))],ks:=[5],L:=fun _=>[(5,.rows 4 ((linksZ (ntZ l).on ((l.map clF).take i)++(((ntZ l).on (clF f)).take (j+1)).map fun y=>(clF f,y)).map linkR) 42)],ex:=0,I:=fun _=>True,μ:=fun _=>0 },?_,fun _ _=>?_⟩
     ·((repeat' ((conv=>whnf);first|exact .intro|refine .ya ?_|refine .na ?_|refine .ys ?_|refine .ns ?_|refine .neg (fun _=>?_) (fun _=>?_)|refine .mk (fun _=>?_) (fun _=>?_)|(first|refine ⟨h4,?_⟩|refine ⟨_,g2,?_⟩|refine ⟨Int.natCast_nonneg _,_,g1,?_⟩|refine ⟨Int.natCast_nonneg _,_,g5,?_⟩|refine ⟨⟨rfl,b1,b2⟩,?_⟩)|refine .mk ?_ ?_|refine AK ?_|refine AT ?_|fail));all_goals conv=>whnf)
      all_goals refine ⟨(),trivial,?_⟩
      all_goals ((repeat' first|exact rfl|((conv=>whnf);first|done|exact suL|refine And.intro ?_ ?_|fail));all_goals conv=>whnf)
      all_goals first|exact hsr.symm|skip
     ((repeat' ((conv=>whnf);first|exact .intro|refine .ya ?_|refine .na ?_|refine .ys ?_|refine .ns ?_|refine .neg (fun _=>?_) (fun _=>?_)|refine .mk (fun _=>?_) (fun _=>?_)|refine .mk ?_ ?_|refine AK ?_|refine AT ?_|fail));all_goals conv=>whnf)
     all_goals refine ⟨j+1,⟨hlj,by show ((ntZ l).on (clF f)).length - (j+1)<((ntZ l).on (clF f)).length - j;omega⟩,?_⟩
     all_goals ((repeat' first|exact rfl|((conv=>whnf);first|done|exact suL|refine And.intro ?_ ?_|fail));all_goals conv=>whnf)
     all_goals first|exact cqN e1|skip
    ·obtain rfl:j=((ntZ l).on (clF f)).length:=by omega
     have h5:¬ ((((ntZ l).on (clF f)).length:Nat):Int)<(((cellsR ((ntZ l).on (clF f))).length:Nat):Int):=by omega
     ((repeat' ((conv=>whnf);first|exact .intro|refine .ya ?_|refine .na ?_|refine .ys ?_|refine .ns ?_|refine .neg (fun _=>?_) (fun _=>?_)|refine .mk (fun _=>?_) (fun _=>?_)|(first|refine ⟨h4,?_⟩|refine ⟨_,g2,?_⟩)|refine .mk ?_ ?_|refine AK ?_|refine AT ?_|fail));all_goals conv=>whnf)
     all_goals refine ⟨i+1,⟨hlt,by show l.length - (i+1)<l.length - i;omega⟩,?_⟩
     all_goals ((repeat' first|exact rfl|((conv=>whnf);first|done|exact suL|refine And.intro ?_ ?_|fail));all_goals conv=>whnf)
     all_goals first|exact cqN e0|(rw[hst,List.take_length];done)|skip
   ·rw[hor] at g2
    ((repeat' ((conv=>whnf);first|exact .intro|refine .ya ?_|refine .na ?_|refine .ys ?_|refine .ns ?_|refine .neg (fun _=>?_) (fun _=>?_)|refine .mk (fun _=>?_) (fun _=>?_)|refine .mk ?_ ?_|refine AK ?_|refine AT ?_|fail));all_goals conv=>whnf)
    refine ⟨{ σ:=Nat,fr:=fun j=>[(9,.c (.d (nD j))),(6,.c (.all 4 5))],ks:=[],L:=fun j=>[],ex:=0,I:=fun j=>j=0,μ:=fun j=>0 },⟨0,rfl,?_⟩,fun (j:Nat) hj=>?_⟩
    ·((repeat' first|exact rfl|((conv=>whnf);first|done|exact suL|refine And.intro ?_ ?_|fail));all_goals conv=>whnf)
    obtain rfl:j=0:=hj
    ((repeat' ((conv=>whnf);first|exact .intro|refine .ya ?_|refine .na ?_|refine .ys ?_|refine .ns ?_|refine .neg (fun _=>?_) (fun _=>?_)|refine .mk (fun _=>?_) (fun _=>?_)|(first|refine ⟨h4,?_⟩|refine ⟨_,g2,?_⟩)|refine .mk ?_ ?_|refine AK ?_|refine AT ?_|fail));all_goals conv=>whnf)
    all_goals refine ⟨i+1,⟨hlt,by show l.length - (i+1)<l.length - i;omega⟩,?_⟩
    all_goals ((repeat' first|exact rfl|((conv=>whnf);first|done|exact suL|refine And.intro ?_ ?_|fail));all_goals conv=>whnf)
    all_goals first|exact cqN e0|(rw[hst,hox,List.map_nil,List.append_nil];done)|skip
  ·obtain rfl:i=l.length:=by omega
   have h3:¬ ((l.length:Nat):Int)<(((l.map flD).length:Nat):Int):=by omega
   have hll:=linksZ_len ho (l.map clF)
   have hta:(l.map clF).take l.length=l.map clF:=by rw[← hvl,List.take_length]
   have hwl:(((linksZ (ntZ l).on ((l.map clF).take l.length)).map linkR).length:Nat)=(linksZ (ntZ l).on (l.map clF)).length:=by rw[hta,List.length_map]
   have hgl2:(((linksZ (ntZ l).on (l.map clF)).map linkR).length:Nat)=(linksZ (ntZ l).on (l.map clF)).length:=List.length_map _
   have h6:((((linksZ (ntL rdZ l).on (l.map clF)).map linkR).length:Nat):Int)=((((linksZ (ntZ l).on ((l.map clF).take l.length)).map linkR).length:Nat):Int):=by rw[hwl,hgl2]
   ((repeat' ((conv=>whnf);first|exact .intro|refine .ya ?_|refine .na ?_|refine .ys ?_|refine .ns ?_|refine .neg (fun _=>?_) (fun _=>?_)|refine .mk (fun _=>?_) (fun _=>?_)|refine .inl (.inl (X1 (by first|exact cL|exact cE) ?_))|refine .inl (X1 (by first|exact cL|exact cE) ?_)|refine X1 (by first|exact cL|exact cE) ?_|refine .mk ?_ ?_|refine AK ?_|refine AT ?_|fail));all_goals conv=>whnf)
   refine ⟨{ σ:=Nat,fr:=fun k=>[(12,.c (.d (nD k)))],ks:=[],L:=fun _=>[],ex:=0,I:=fun k=>k≤(linksZ (ntZ l).on (l.map clF)).length,μ:=fun k=>(linksZ (ntZ l).on (l.map clF)).length - k },⟨0,Nat.zero_le _,?_⟩,fun (k:Nat) hk=>?_⟩
   ·((repeat' first|exact rfl|((conv=>whnf);first|done|exact suL|refine And.intro ?_ ?_|fail));all_goals conv=>whnf)
   replace hk:k≤(linksZ (ntZ l).on (l.map clF)).length:=hk
   by_cases hkl:k<(linksZ (ntZ l).on (l.map clF)).length
   ·have h7:(k:Int)<((((linksZ (ntL rdZ l).on (l.map clF)).map linkR).length:Nat):Int):=by rw[hgl2];omega
    have g3:=get_map (f:=linkR) hkl
    have e2:=wN (i:=k) (by omega)
    have h8:(0:Int)≤(k:Int)∧(k:Int)<((((linksZ (ntZ l).on ((l.map clF).take l.length)).map linkR).length:Nat):Int):=by rw[hwl];omega
    have g4:((linksZ (ntZ l).on ((l.map clF).take l.length)).map linkR)[k]?=some (linkR (linksZ (ntZ l).on (l.map clF))[k]):=by rw[hta];exact g3
    generalize (linksZ (ntZ l).on (l.map clF))[k]=q at g3 g4
    ((repeat' ((conv=>whnf);first|exact .intro|refine .ya ?_|refine .na ?_|refine .ys ?_|refine .ns ?_|refine .neg (fun _=>?_) (fun _=>?_)|refine .mk (fun _=>?_) (fun _=>?_)|(first|refine ⟨Int.natCast_nonneg _,_,g3,?_⟩|refine ⟨h8,?_⟩|refine ⟨_,g4,?_⟩|refine ⟨_,link_eq _ _ _ _,?_⟩)|refine .mk ?_ ?_|refine AK ?_|refine AT ?_|fail));all_goals conv=>whnf)
    all_goals refine ⟨k+1,⟨hkl,by show _ - (k+1)<_ - k;omega⟩,?_⟩
    all_goals ((repeat' first|exact rfl|((conv=>whnf);first|done|exact suL|refine And.intro ?_ ?_|fail));all_goals conv=>whnf)
    all_goals first|exact cqN e2|skip
   ·have h7:¬ (k:Int)<((((linksZ (ntL rdZ l).on (l.map clF)).map linkR).length:Nat):Int):=by rw[hgl2];omega
    ((repeat' ((conv=>whnf);first|exact .intro|refine .ya ?_|refine .na ?_|refine .ys ?_|refine .ns ?_|refine .neg (fun _=>?_) (fun _=>?_)|refine .mk (fun _=>?_) (fun _=>?_)|refine .mk ?_ ?_|refine AK ?_|refine AT ?_|fail));all_goals conv=>whnf)
    all_goals exact LeD.rfl
 ·have cL:=gLinks_e l e (New_e l e cG)
  have cE:=Err_e (gl:=gl) e he hr
  refine fnP_of_vc (nv:=9999) (cu:=[100013,12]) fits mixed Tryz.func3 rfl hoB rfl ?_
  ((repeat' ((conv=>whnf);first|exact .intro|refine .ya ?_|refine .na ?_|refine .ys ?_|refine .ns ?_|refine .neg (fun _=>?_) (fun _=>?_)|refine .mk (fun _=>?_) (fun _=>?_)|refine .inl (.inl (X1 (by first|exact cG|exact cR|exact cE|exact cL) ?_))|refine .inl (X1 (by first|exact cG|exact cR|exact cE|exact cL) ?_)|refine X1 (by first|exact cG|exact cR|exact cE|exact cL) ?_|refine .mk ?_ ?_|refine AK ?_|refine AT ?_|fail));all_goals conv=>whnf)
  refine ⟨{ σ:=Nat,fr:=fun k=>[(12,.c (.d (nD k)))],ks:=[],L:=fun _=>[],ex:=0,I:=fun k=>k=0,μ:=fun _=>0 },⟨0,rfl,?_⟩,fun (k:Nat) hk=>?_⟩
  ·((repeat' first|exact rfl|((conv=>whnf);first|done|exact suL|refine And.intro ?_ ?_|fail));all_goals conv=>whnf)
  obtain rfl:k=0:=hk
  ((repeat' ((conv=>whnf);first|exact .intro|refine .ya ?_|refine .na ?_|refine .ys ?_|refine .ns ?_|refine .neg (fun _=>?_) (fun _=>?_)|refine .mk (fun _=>?_) (fun _=>?_)|refine .mk ?_ ?_|refine AK ?_|refine AT ?_|fail));all_goals conv=>whnf)
  all_goals exact LeD.rfl
end Go.Proofs.YtfcmhmglpcimiaaGreatDoor
end
section
namespace Go.Proofs.YtfcmhmglpcimiaaGreatDoor
open Go Go.RowKit Go.EYtfcmhmglpcimiaaGreatDoor
set_option maxRecDepth 100000
theorem GraphChecks_g (te:TypeId) (pe:Value) (l:List Fl):FnP Tryz.prog (glF te pe) 3 [.lst 3 (l.map flD)] (.v (.bool true)) :=
 GraphChecks_d te pe (glF_has te pe) rfl rfl l
end Go.Proofs.YtfcmhmglpcimiaaGreatDoor
end
