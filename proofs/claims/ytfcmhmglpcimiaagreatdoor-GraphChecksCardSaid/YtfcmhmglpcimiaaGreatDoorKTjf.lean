/- Proved: a part of what the law is proved with (the reckoner, contracts of functions, plain laws). Conditions: as each says. -/
import Derived.Test.YtfcmhmglpcimiaaGreatDoorProg
import Derived.Laws.StructEq
import Derived.WalkKit
import Derived.Test.YtfcmhmglpcimiaaGreatDoorKEv
import Derived.Test.YtfcmhmglpcimiaaGreatDoorKGe
import Derived.Test.YtfcmhmglpcimiaaGreatDoorKIg
import Derived.Test.YtfcmhmglpcimiaaGreatDoorKTja
import Derived.Test.YtfcmhmglpcimiaaGreatDoorKTje
import Derived.Test.YtfcmhmglpcimiaaGreatDoorKTle
section
namespace Go.Proofs.YtfcmhmglpcimiaaGreatDoor
open Go Go.RowKit Go.EYtfcmhmglpcimiaaGreatDoor
set_option maxRecDepth 100000
set_option maxHeartbeats 400000000
variable {gl:List (Nat×List D)}
abbrev zN:List Go.EYtfcmhmglpcimiaaGreatDoor.D:=[iD 0,iD 0,.str [],iD 0,iD 0,.v (.bool false),.v (.bool false),iD 0,iD 0,.v (.bool false),.v (.bool false),.v (.slice none 0 0)]
theorem set_last {α:Type} (A:List α) (z r:α):(A++[z]).set A.length r=A++[r]:=by
 rw[List.set_append_right _ _ (Nat.le_refl _),Nat.sub_self]
 rfl
section
variable (isF:List UInt8→Bool) (nd:List UInt8→Nd) (on:List UInt8→List Cl)
def ndR (f:Fl):List Go.EYtfcmhmglpcimiaaGreatDoor.D:=if isF f.t=true then (nd f.t).cs else zN
def isR (f:Fl):List Go.EYtfcmhmglpcimiaaGreatDoor.D:=[.b (((f.t.getD (0:Int).toNat 0).toNat:Int)=61) inferInstance]
def onR (f:Fl):List Go.EYtfcmhmglpcimiaaGreatDoor.D:=if isF f.t=true then [.lst 2 ((on f.t).map rowC)] else [.v (.slice none 0 0)]
noncomputable def farR (g:Gr) (V:List Cl) (c:Cl):List Go.EYtfcmhmglpcimiaaGreatDoor.D:=open Classical in [.lst 1 (V.map fun x=>[.v (.bool (decide (Plus g c x)))])]
noncomputable abbrev docH (g:Gr) (l:List Fl):List (Nat×Blk):=[(0,docN l (.all 12 1) (.all 1 2) (.all 1 3) (.all 1 4)),(1,.rows 12 (l.map (ndR isF nd)) 64),(2,.rows 1 (l.map isR) 4),(3,.rows 1 (l.map (onR isF on)) 31),(4,.rows 1 ((vF l).map (farR g (vF l))) 33)]
theorem rNew_h (g:Gr) (l:List Fl) (hl:l.length≤200) (hs:(vF l).Pairwise les) (ht:∀ f ∈ l,f.t≠[]) (hF:∀ f ∈ l,isF f.t=decide (f.t.head?=some 61))
 (c3:∀ f ∈ l,isF f.t=true→∃ i:Int,FnP Tryz.prog gl 23 [.str f.t] (.tup [.agg (nd f.t).cs,iD i,iD 0]))
 (c4:∀ f ∈ l,isF f.t=true→FnP Tryz.prog gl 24 [.agg (nd f.t).cs] (.lst 2 ((on f.t).map rowC)))
 (hgV:∀ x,g.has x=true↔x ∈ vF l) (hgo:∀ f ∈ l,g.on (f.c,f.r)=if isF f.t=true then on f.t else []) (hgl:∀ c,(g.on c).length≤2700) :
 Go.EYtfcmhmglpcimiaaGreatDoor.Fn Tryz.prog gl 8 [.c (.d (.lst 3 (l.map flD)))] [] 0 (.ret (.c (.ptr 0 0))) (docH isF nd on g l) 5 []:=by
 have hlm:(l.map flD).length=l.length:=List.length_map _
 have hvm:(vF l).length=l.length:=List.length_map _
 refine fn_of_vc (nv:=75) (cu:=[100011,12]) fits mixed Tryz.func8 rfl hoB rfl rfl rfl rfl ?_
 ((repeat' ((conv=>whnf);first|exact .intro|refine .ya ?_|refine .na ?_|refine .ys ?_|refine .ns ?_|refine .neg (fun _=>?_) (fun _=>?_)|refine .mk (fun _=>?_) (fun _=>?_)|refine .mk ?_ ?_|refine AK ?_|refine AT ?_|fail));all_goals conv=>whnf)
 refine ⟨{ σ:=Nat,fr:=fun i=>[(4,.c (.d (iD (i:Int))))],ks:=[0],L:=fun i=>[(0,docN l (.all 12 1) (.all 1 2) (.all 1 3) (.d (.v (.slice none 0 0)))),(1,.rows 12 ((l.take i).map (ndR isF nd)) 64),(2,.rows 1 ((l.take i).map isR) 4),(3,.rows 1 ((l.take i).map (onR isF on)) 31)],ex:=3,I:=fun i=>i≤l.length,μ:=fun i=>l.length - i },⟨0,Nat.zero_le _,?_⟩,fun (i:Nat) hi=>?_⟩
 ·((repeat' first|exact rfl|((conv=>whnf);first|done|exact suL|refine And.intro ?_ ?_|fail));all_goals conv=>whnf)
  all_goals first|exact ⟨12,_,rfl,by decide,by decide⟩|exact ⟨1,_,rfl,by decide,by decide⟩|exact .inr (.inr (.inl ⟨rfl,12,1,rfl,by decide⟩))|exact .inr (.inr (.inl ⟨rfl,1,2,rfl,by decide⟩))|exact .inr (.inr (.inl ⟨rfl,1,3,rfl,by decide⟩))|skip
 replace hi:i≤l.length:=hi
 by_cases hlt:i<l.length
 ·have h3:(i:Int)<(((l.map flD).length:Nat):Int):=by omega
  have g1:=get_map (f:=flD) hlt
  have e0:IntKind.i64.wrap ((i:Int)+1)=((i+1:Nat):Int):=by rw[wrapI (by omega)];rfl
  have hm:l[i] ∈ l:=List.getElem_mem hlt
  have htk:l.take (i+1)=l.take i++[l[i]]:=List.take_succ_eq_append_getElem hlt
  have k2:=hF _ hm
  have k3:=c3 _ hm
  have k4:=c4 _ hm
  have k5:=ht _ hm
  generalize l[i]=f at *
  obtain ⟨fc,fr,ft⟩:=f
  have hr1:((l.take i).map (ndR isF nd)).length=i:=by rw[List.length_map,List.length_take];omega
  have hr2:((l.take i).map isR).length=i:=by rw[List.length_map,List.length_take];omega
  have hr3:((l.take i).map (onR isF on)).length=i:=by rw[List.length_map,List.length_take];omega
  have b1:(((l.take i).map (ndR isF nd)).length+1) * 104≤140737488355328:=by omega
  have b2:((l.take i).map (ndR isF nd)).length+1≤maxLen:=by unfold maxLen;omega
  have hb:(0:Int)≤((((l.take i).map (ndR isF nd)).length:Nat):Int)∧((((l.take i).map (ndR isF nd)).length:Nat):Int)<((((l.take i).map (ndR isF nd))++[zN]).length:Nat):=by rw[List.length_append,List.length_singleton];omega
  have hz:((l.take i).map (ndR isF nd)++[zN])[((l.take i).map (ndR isF nd)).length]?=some zN:=List.getElem?_concat_length
  have hz0:((l.take i).map (ndR isF nd)++[zN])[0+((l.take i).map (ndR isF nd)).length]?=some zN:=by rw[Nat.zero_add];exact hz
  have b3:(((l.take i).map isR).length+1) * 1≤140737488355328:=by omega
  have b4:((l.take i).map isR).length+1≤maxLen:=by unfold maxLen;omega
  have b5:(((l.take i).map (onR isF on)).length+1) * 24≤140737488355328:=by omega
  have b6:((l.take i).map (onR isF on)).length+1≤maxLen:=by unfold maxLen;omega
  have hq1:(l.take (i+1)).map (ndR isF nd)=(l.take i).map (ndR isF nd)++[ndR isF nd ⟨fc,fr,ft⟩]:=by rw[htk,List.map_append];rfl
  have hq2:(l.take (i+1)).map isR=(l.take i).map isR++[isR ⟨fc,fr,ft⟩]:=by rw[htk,List.map_append];rfl
  have hq3:(l.take (i+1)).map (onR isF on)=(l.take i).map (onR isF on)++[onR isF on ⟨fc,fr,ft⟩]:=by rw[htk,List.map_append];rfl
  cases ft with
  | nil=>exact absurd rfl k5
  | cons ch tr =>
  have hl0:(0:Int)<(((ch::tr).length:Nat):Int):=Int.natCast_pos.2 (Nat.succ_pos _)
  cases hf:isF (ch::tr) with
  | true =>
   rw[hf] at k2
   have hc:ch=61:=by simpa using (of_decide_eq_true k2.symm)
   have h2:((((ch::tr).getD (0:Int).toNat 0).toNat:Nat):Int)=61:=by subst hc;rfl
   obtain ⟨ix,k3'⟩:=k3 hf
   have k4':=k4 hf
   have hnr:ndR isF nd ⟨fc,fr,ch::tr⟩=(nd (ch::tr)).cs:=if_pos hf
   have hor:onR isF on ⟨fc,fr,ch::tr⟩=[.lst 2 ((on (ch::tr)).map rowC)]:=if_pos hf
   rw[hnr] at hq1
   rw[hor] at hq3
   clear k2 k3 k4 hnr hor
   generalize nd (ch::tr)=M at *
   generalize (on (ch::tr)).map rowC=om at *
   obtain ⟨nk,nm,ns,na,nb,nks⟩:=M
   ((repeat' ((conv=>whnf);first|exact .intro|refine .ya ?_|refine .na ?_|refine .ys ?_|refine .ns ?_|refine .neg (fun _=>?_) (fun _=>?_)|refine .mk (fun _=>?_) (fun _=>?_)|refine .inl (.inl (X1 (by first|exact k3'|exact k4') ?_))|refine .inl (X1 (by first|exact k3'|exact k4') ?_)|refine X1 (by first|exact k3'|exact k4') ?_|(first|refine ⟨Int.natCast_nonneg _,_,g1,?_⟩)|refine .mk ?_ ?_|refine AK ?_|refine AT ?_|fail));all_goals conv=>whnf)
   refine ⟨{ σ:=Unit,fr:=fun _=>[],ks:=[0,1],L:=fun _=>[(0,docN l (.all 12 1) (.all 1 2) (.all 1 3) (.d (.v (.slice none 0 0)))),(1,.rows 12 ((l.take (i+1)).map (ndR isF nd)) 64)],ex:=0,I:=fun _=>True,μ:=fun _=>0 },?_,fun _ _=>?_⟩
   ·have hset:=set_last ((l.take i).map (ndR isF nd)) zN (Nd.mk nk nm ns na nb nks).cs
    replace hset:=hset.trans hq1.symm
    ((repeat' ((conv=>whnf);first|exact .intro|refine .ya ?_|refine .na ?_|refine .ys ?_|refine .ns ?_|refine .neg (fun _=>?_) (fun _=>?_)|refine .mk (fun _=>?_) (fun _=>?_)|(first|refine ⟨⟨rfl,b1,b2⟩,?_⟩|refine ⟨hb,?_⟩|refine ⟨zN,hz,?_⟩|refine ⟨zN,hz0,?_⟩)|refine .mk ?_ ?_|refine AK ?_|refine AT ?_|fail));all_goals conv=>whnf)
    all_goals refine ⟨(),trivial,?_⟩
    all_goals ((repeat' first|exact rfl|((conv=>whnf);first|done|exact suL|refine And.intro ?_ ?_|fail));all_goals conv=>whnf)
    all_goals first|exact hset|(refine Eq.trans ?_ hset;rfl)|skip
   ·((repeat' ((conv=>whnf);first|exact .intro|refine .ya ?_|refine .na ?_|refine .ys ?_|refine .ns ?_|refine .neg (fun _=>?_) (fun _=>?_)|refine .mk (fun _=>?_) (fun _=>?_)|(first|refine ⟨⟨rfl,b3,b4⟩,?_⟩|refine ⟨⟨rfl,b5,b6⟩,?_⟩)|refine .mk ?_ ?_|refine AK ?_|refine AT ?_|fail));all_goals conv=>whnf)
    all_goals refine ⟨i+1,⟨hlt,by show l.length - (i+1)<l.length - i;omega⟩,?_⟩
    all_goals ((repeat' first|exact rfl|((conv=>whnf);first|done|exact suL|refine And.intro ?_ ?_|fail));all_goals conv=>whnf)
    all_goals first|exact .inr (.inl (by rw[e0]))|exact hq2.symm|exact hq3.symm|skip
  | false =>
   rw[hf] at k2
   have hc:¬ ch=61:=fun e=>by
    rw[e] at k2
    exact absurd k2 (by simp)
   have h2:¬ ((((ch::tr).getD (0:Int).toNat 0).toNat:Nat):Int)=61:=fun hh=>hc (by
    have hh':((ch.toNat:Nat):Int)=61:=hh
    apply UInt8.toNat_inj.1
    show ch.toNat=61
    omega)
   have hnr:ndR isF nd ⟨fc,fr,ch::tr⟩=zN:=if_neg (by rw[hf];decide)
   have hor:onR isF on ⟨fc,fr,ch::tr⟩=[.v (.slice none 0 0)]:=if_neg (by rw[hf];decide)
   rw[hnr] at hq1
   rw[hor] at hq3
   clear k2 k3 k4 hnr hor
   ((repeat' ((conv=>whnf);first|exact .intro|refine .ya ?_|refine .na ?_|refine .ys ?_|refine .ns ?_|refine .neg (fun _=>?_) (fun _=>?_)|refine .mk (fun _=>?_) (fun _=>?_)|(first|refine ⟨Int.natCast_nonneg _,_,g1,?_⟩)|refine .mk ?_ ?_|refine AK ?_|refine AT ?_|fail));all_goals conv=>whnf)
   refine ⟨{ σ:=Unit,fr:=fun _=>[],ks:=[0,1],L:=fun _=>[(0,docN l (.all 12 1) (.all 1 2) (.all 1 3) (.d (.v (.slice none 0 0)))),(1,.rows 12 ((l.take (i+1)).map (ndR isF nd)) 64)],ex:=0,I:=fun _=>True,μ:=fun _=>0 },?_,fun _ _=>?_⟩
   ·have hset:=set_last ((l.take i).map (ndR isF nd)) zN zN
    replace hset:=hset.trans hq1.symm
    ((repeat' ((conv=>whnf);first|exact .intro|refine .ya ?_|refine .na ?_|refine .ys ?_|refine .ns ?_|refine .neg (fun _=>?_) (fun _=>?_)|refine .mk (fun _=>?_) (fun _=>?_)|(first|refine ⟨⟨rfl,b1,b2⟩,?_⟩|refine ⟨hb,?_⟩|refine ⟨zN,hz,?_⟩|refine ⟨zN,hz0,?_⟩)|refine .mk ?_ ?_|refine AK ?_|refine AT ?_|fail));all_goals conv=>whnf)
    all_goals refine ⟨(),trivial,?_⟩
    all_goals ((repeat' first|exact rfl|((conv=>whnf);first|done|exact suL|refine And.intro ?_ ?_|fail));all_goals conv=>whnf)
    all_goals first|exact hset|(refine Eq.trans ?_ hset;rfl)|skip
   ·((repeat' ((conv=>whnf);first|exact .intro|refine .ya ?_|refine .na ?_|refine .ys ?_|refine .ns ?_|refine .neg (fun _=>?_) (fun _=>?_)|refine .mk (fun _=>?_) (fun _=>?_)|(first|refine ⟨⟨rfl,b3,b4⟩,?_⟩|refine ⟨⟨rfl,b5,b6⟩,?_⟩)|refine .mk ?_ ?_|refine AK ?_|refine AT ?_|fail));all_goals conv=>whnf)
    all_goals refine ⟨i+1,⟨hlt,by show l.length - (i+1)<l.length - i;omega⟩,?_⟩
    all_goals ((repeat' first|exact rfl|((conv=>whnf);first|done|exact suL|refine And.intro ?_ ?_|fail));all_goals conv=>whnf)
    all_goals first|exact .inr (.inl (by rw[e0]))|exact hq2.symm|exact hq3.symm|skip
 ·obtain rfl:i=l.length:=by omega
  have h3:¬ ((l.length:Nat):Int)<(((l.map flD).length:Nat):Int):=by omega
  ((repeat' ((conv=>whnf);first|exact .intro|refine .ya ?_|refine .na ?_|refine .ys ?_|refine .ns ?_|refine .neg (fun _=>?_) (fun _=>?_)|refine .mk (fun _=>?_) (fun _=>?_)|refine .mk ?_ ?_|refine AK ?_|refine AT ?_|fail));all_goals conv=>whnf)
  refine ⟨{ σ:=Nat,fr:=fun i=>[(8,.c (.d (iD (i:Int))))],ks:=[0],L:=fun i=>[(0,docN l (.all 12 1) (.all 1 2) (.all 1 3) (.all 1 4)),(4,.rows 1 (((vF l).take i).map (farR g (vF l))) 33)],ex:=1,I:=fun i=>i≤l.length,μ:=fun i=>l.length - i },⟨0,Nat.zero_le _,?_⟩,fun (i:Nat) hi=>?_⟩
  ·((repeat' first|exact rfl|((conv=>whnf);first|done|exact suL|refine And.intro ?_ ?_|fail));all_goals conv=>whnf)
   all_goals first|exact .inr (.inr (.inl ⟨rfl,1,4,rfl,by decide⟩))|exact ⟨1,_,rfl,by decide,by decide⟩|skip
  replace hi:i≤l.length:=hi
  by_cases hlt:i<l.length
  ·have h3:(i:Int)<(((l.map flD).length:Nat):Int):=by omega
   have e0:IntKind.i64.wrap ((i:Int)+1)=((i+1:Nat):Int):=by rw[wrapI (by omega)];rfl
   have hiv:i<(vF l).length:=by omega
   have hnV:(vF l).Nodup:=hs.imp fun {a b} (hab:les a b) (e:a=b)=>les_irr b (by rwa [e] at hab)
   have hci:(vF l).idxOf (vF l)[i]=i:=List.Nodup.idxOf_getElem hnV i hiv
   have hcV:(vF l)[i] ∈ vF l:=List.getElem_mem hiv
   have htk:(vF l).take (i+1)=(vF l).take i++[(vF l)[i]]:=List.take_succ_eq_append_getElem hiv
   generalize (vF l)[i]=c at hci hcV htk
   have hgh:∀ z ∈ vF l,g.has z=true:=fun z hz=>(hgV z).2 hz
   have hmk:(0:Int)≤(((l.map flD).length:Nat):Int)∧(((l.map flD).length:Nat):Int)≤(((l.map flD).length:Nat):Int)∧((1:Nat):Int) * (((l.map flD).length:Nat):Int)≤281474976710656∧(((l.map flD).length:Nat):Int)≤9223372036854775807:=by omega
   ((repeat' ((conv=>whnf);first|exact .intro|refine .ya ?_|refine .na ?_|refine .ys ?_|refine .ns ?_|refine .neg (fun _=>?_) (fun _=>?_)|refine .mk (fun _=>?_) (fun _=>?_)|(refine ⟨hmk,?_⟩)|refine .mk ?_ ?_|refine AK ?_|refine AT ?_|fail));all_goals conv=>whnf)
   refine ⟨{ σ:=Nat×List Cl,fr:=fun q=>[(11,.c (.d (iD (q.1:Int)))),(10,.c (.all 1 6))],ks:=[5,6],L:=fun q=>[(5,.rows 1 ((vF l).map fun x=>[.v (.bool (decide (x ∈ q.2)))]) 4),(6,.rows 1 ((c::q.2).map fun x=>[iD (((vF l).idxOf x:Nat):Int)]) 3)],ex:=0,I:=fun q=>q.1≤q.2.length+1∧Bf g (vF l) c q.2∧BDone g (vF l) q.2 ((c::q.2).take q.1),μ:=fun q=>l.length+1 - q.1 },⟨(0,[]),⟨Nat.zero_le _,Bf.init,(fun x hx=>nomatch hx)⟩,?_⟩,fun (q:Nat×List Cl) hq=>?_⟩
   ·have hrep:List.replicate (((l.map flD).length:Nat):Int).toNat [Go.EYtfcmhmglpcimiaaGreatDoor.D.v (.bool false)]=(vF l).map fun x=>[.v (.bool (decide (x ∈ ([]:List Cl))))]:=by
     show List.replicate (l.map flD).length _=_
     rw[hlm,← hvm,← List.map_const']
     exact List.map_congr_left fun x _=>by simp
    have htd:[[iD (i:Int)]]=(c::([]:List Cl)).map fun x=>[iD (((vF l).idxOf x:Nat):Int)]:=by
     show _=[[iD (((vF l).idxOf c:Nat):Int)]]
     rw[hci]
    ((repeat' first|exact rfl|((conv=>whnf);first|done|exact suL|refine And.intro ?_ ?_|fail));all_goals conv=>whnf)
    all_goals first|exact hrep|exact htd|skip
   obtain ⟨k,R⟩:=q
   obtain ⟨hk,hB,hD⟩:=hq
   replace hk:k≤R.length+1:=hk
   replace hB:Bf g (vF l) c R:=hB
   replace hD:BDone g (vF l) R ((c::R).take k):=hD
   have hRl:=hB.len
   have hTl:((c::R).map fun x=>[iD (((vF l).idxOf x:Nat):Int)]).length=R.length+1:=by rw[List.length_map];rfl
   by_cases hkl:k<R.length+1
   ·have h4:(k:Int)<((((c::R).map fun x=>[iD (((vF l).idxOf x:Nat):Int)]).length:Nat):Int):=by omega
    have e2:IntKind.i64.wrap ((k:Int)+1)=((k+1:Nat):Int):=by rw[wrapI (by omega)];rfl
    have hkc:k<(c::R).length:=by rw[List.length_cons];exact hkl
    have g6:=get_map (f:=fun x:Cl=>[iD (((vF l).idxOf x:Nat):Int)]) hkc
    have h5:(0:Int)≤(k:Int)∧(k:Int)<((((c::R).map fun x=>[iD (((vF l).idxOf x:Nat):Int)]).length:Nat):Int):=⟨by omega,h4⟩
    have hxT:(c::R)[k] ∈ c::R:=List.getElem_mem hkc
    have hxV:(c::R)[k] ∈ vF l:=by
     rcases List.mem_cons.1 hxT with e|h
     ·rw[e];exact hcV
     ·exact hB.sub _ h
    have hds:∀ R':List Cl,(∃ E,R'=R++E)→BOne (vF l) R' (g.on (c::R)[k])→BDone g (vF l) R' ((c::R').take (k+1)):=by
     rintro _ ⟨E,rfl⟩ hO
     have hk2:k<(c::(R++E)).length:=by rw[List.length_cons,List.length_append];omega
     have hk3:(c::(R++E))[k]=(c::R)[k]:=by
      show ((c::R)++E)[k]=_
      rw[List.getElem_append_left hkc]
     have hk4:(c::(R++E)).take k=(c::R).take k:=by
      show ((c::R)++E).take k=_
      rw[List.take_append_of_le_length (by omega)]
     refine bdone_s hk2 ?_ ?_
     ·rw[hk4]
      exact hD.more fun y hy=>List.mem_append_left _ hy
     ·rw[hk3]
      exact hO
    generalize (c::R)[k]=x at g6 hxT hxV hds
    obtain ⟨p,hp⟩:∃ p,p=(vF l).idxOf x:=⟨_,rfl⟩
    have hpl:p<(vF l).length:=by rw[hp];exact List.idxOf_lt_length_iff.2 hxV
    have hpx:(vF l)[p]=x:=by subst hp;exact List.getElem_idxOf hpl
    have hpl2:p<l.length:=by omega
    have hfx:(l[p].c,l[p].r)=x:=by
     have e:(vF l)[p]=(l[p].c,l[p].r):=List.getElem_map ..
     rw[← hpx,e]
    have hgx:=hgo l[p] (List.getElem_mem hpl2)
    rw[hfx] at hgx
    have g7:((l.take l.length).map (onR isF on))[p]?=some (onR isF on l[p]):=by
     rw[List.take_length]
     exact get_map (f:=onR isF on) hpl2
    have h6:(0:Int)≤((p:Nat):Int)∧((p:Nat):Int)<((((l.take l.length).map (onR isF on)).length:Nat):Int):=by
     rw[List.take_length,List.length_map]
     omega
    rw[← hp] at g6
    have hol:=hgl x
    have hex:(onR isF on l[p]=[.lst 2 ((g.on x).map rowC)])∨(onR isF on l[p]=[.v (.slice none 0 0)]∧g.on x=[]):=by
     unfold onR
     by_cases hf:isF l[p].t=true
     ·rw[if_pos hf] at hgx
      rw[if_pos hf,hgx]
      exact .inl rfl
     ·rw[if_neg hf] at hgx
      rw[if_neg hf]
      exact .inr ⟨rfl,hgx⟩
    rcases hex with hon|⟨hon,hox⟩
    ·rw[hon] at g7
     have hom:((g.on x).map rowC).length=(g.on x).length:=List.length_map _
     ((repeat' ((conv=>whnf);first|exact .intro|refine .ya ?_|refine .na ?_|refine .ys ?_|refine .ns ?_|refine .neg (fun _=>?_) (fun _=>?_)|refine .mk (fun _=>?_) (fun _=>?_)|(first|refine ⟨h5,?_⟩|refine ⟨h6,?_⟩|refine ⟨_,g6,?_⟩|refine ⟨_,g7,?_⟩)|refine .mk ?_ ?_|refine AK ?_|refine AT ?_|fail));all_goals conv=>whnf)
     refine ⟨{ σ:=Nat×List Cl,fr:=fun q=>[(13,.c (.d (iD (q.1:Int)))),(10,.c (.all 1 6))],ks:=[5,6],L:=fun q=>[(5,.rows 1 ((vF l).map fun x=>[.v (.bool (decide (x ∈ q.2)))]) 4),(6,.rows 1 ((c::q.2).map fun x=>[iD (((vF l).idxOf x:Nat):Int)]) 3)],ex:=0,I:=fun q=>q.1≤(g.on x).length∧Bf g (vF l) c q.2∧(∃ E,q.2=R++E)∧BOne (vF l) q.2 ((g.on x).take q.1),μ:=fun q=>(g.on x).length - q.1 },⟨(0,R),⟨Nat.zero_le _,hB,⟨[],by simp⟩,(fun y hy=>nomatch hy)⟩,?_⟩,fun (q:Nat×List Cl) hq=>?_⟩
     ·((repeat' first|exact rfl|((conv=>whnf);first|done|exact suL|refine And.intro ?_ ?_|fail));all_goals conv=>whnf)
     obtain ⟨j,R1⟩:=q
     obtain ⟨hj,hB1,hE,hO⟩:=hq
     replace hj:j≤(g.on x).length:=hj
     replace hB1:Bf g (vF l) c R1:=hB1
     replace hE:∃ E,R1=R++E:=hE
     replace hO:BOne (vF l) R1 ((g.on x).take j):=hO
     have hR1:=hB1.len
     by_cases hlj:j<(g.on x).length
     ·have h7:(j:Int)<((((g.on x).map rowC).length:Nat):Int):=by omega
      have g8:=get_map (f:=rowC) hlj
      have e1:IntKind.i64.wrap ((j:Int)+1)=((j+1:Nat):Int):=by rw[wrapI (by omega)];rfl
      have hym:(g.on x)[j] ∈ g.on x:=List.getElem_mem hlj
      have hos:∀ R',(∀ y ∈ R1,y ∈ R')→((g.on x)[j] ∈ vF l→(g.on x)[j] ∈ R')→BOne (vF l) R' ((g.on x).take (j+1)):=fun R' h1 h2=>bone_s hlj (hO.more h1) h2
      have cn:=number_h (gl:=gl) l hs (by omega) (g.on x)[j]
      generalize (g.on x)[j]=y at g8 hym hos cn
      by_cases hyV:y ∈ vF l
      ·rw[posZ_in hyV] at cn
       have hyl:(vF l).idxOf y<(vF l).length:=List.idxOf_lt_length_iff.2 hyV
       have g9:((vF l).map fun x=>[Go.EYtfcmhmglpcimiaaGreatDoor.D.v (.bool (decide (x ∈ R1)))])[(vF l).idxOf y]?=some [.v (.bool (decide (y ∈ R1)))]:=get_key hyV fun x=>[Go.EYtfcmhmglpcimiaaGreatDoor.D.v (.bool (decide (x ∈ R1)))]
       have h8:(0:Int)≤(((vF l).idxOf y:Nat):Int)∧(((vF l).idxOf y:Nat):Int)<((((vF l).map fun x=>[Go.EYtfcmhmglpcimiaaGreatDoor.D.v (.bool (decide (x ∈ R1)))]).length:Nat):Int):=by rw[List.length_map];omega
       have h9:(((vF l).idxOf y:Nat):Int)≥0:=by omega
       by_cases hyR:y ∈ R1
       ·rw[decide_eq_true hyR] at g9
        ((repeat' ((conv=>whnf);first|exact .intro|refine .ya ?_|refine .na ?_|refine .ys ?_|refine .ns ?_|refine .neg (fun _=>?_) (fun _=>?_)|refine .mk (fun _=>?_) (fun _=>?_)|refine .inr (X5 (cn.r [0,1,2,3,4] _) ?_)|refine .inl (.inr (X5 (cn.r [0,1,2,3,4] _) ?_))|refine .inl (X5 (cn.r [0,1,2,3,4] _) ?_)|(first|refine ⟨_,g8,?_⟩|refine ⟨Int.natCast_nonneg _,_,g8,?_⟩|refine ⟨h8,?_⟩|refine ⟨_,g9,?_⟩)|refine .mk ?_ ?_|refine AK ?_|refine AT ?_|fail));all_goals conv=>whnf)
        all_goals refine ⟨(j+1,R1),⟨⟨hlj,hB1,hE,hos R1 (fun _ h=>h) fun _=>hyR⟩,by show (g.on x).length - (j+1)<(g.on x).length - j;omega⟩,?_⟩
        all_goals ((repeat' first|exact rfl|((conv=>whnf);first|done|exact suL|refine And.intro ?_ ?_|fail));all_goals conv=>whnf)
        all_goals first|exact .inr (.inl (by rw[e1]))|skip
       ·rw[decide_eq_false hyR] at g9
        have hse:((vF l).map fun x=>[Go.EYtfcmhmglpcimiaaGreatDoor.D.v (.bool (decide (x ∈ R1)))]).set ((vF l).idxOf y) [.v (.bool true)]=(vF l).map fun x=>[.v (.bool (decide (x ∈ R1++[y])))]:=by
         rw[map_upd hnV hyV fun x=>[Go.EYtfcmhmglpcimiaaGreatDoor.D.v (.bool (decide (x ∈ R1)))]]
         refine List.map_congr_left fun z _=>?_
         by_cases hz:z=y
         ·rw[if_pos hz,decide_eq_true (show z ∈ R1++[y] by rw[hz];simp)]
         ·rw[if_neg hz]
          simp[hz]
        have hte:((c::(R1++[y])).map fun x=>[iD (((vF l).idxOf x:Nat):Int)])=((c::R1).map fun x=>[iD (((vF l).idxOf x:Nat):Int)])++[[iD (((vF l).idxOf y:Nat):Int)]]:=by
         show ((c::R1)++[y]).map _=_
         rw[List.map_append]
         rfl
        have hTl1:((c::R1).map fun x=>[iD (((vF l).idxOf x:Nat):Int)]).length=R1.length+1:=by rw[List.length_map];rfl
        have b1:(((c::R1).map fun x=>[iD (((vF l).idxOf x:Nat):Int)]).length+1) * 8≤140737488355328:=by omega
        have b2:((c::R1).map fun x=>[iD (((vF l).idxOf x:Nat):Int)]).length+1≤maxLen:=by unfold maxLen;omega
        ((repeat' ((conv=>whnf);first|exact .intro|refine .ya ?_|refine .na ?_|refine .ys ?_|refine .ns ?_|refine .neg (fun _=>?_) (fun _=>?_)|refine .mk (fun _=>?_) (fun _=>?_)|refine .inr (X5 (cn.r [0,1,2,3,4] _) ?_)|refine .inl (.inr (X5 (cn.r [0,1,2,3,4] _) ?_))|refine .inl (X5 (cn.r [0,1,2,3,4] _) ?_)|(first|refine ⟨_,g8,?_⟩|refine ⟨Int.natCast_nonneg _,_,g8,?_⟩|refine ⟨h8,?_⟩|refine ⟨_,g9,?_⟩|refine ⟨⟨rfl,b1,b2⟩,?_⟩)|refine .mk ?_ ?_|refine AK ?_|refine AT ?_|fail));all_goals conv=>whnf)
        all_goals refine ⟨(j+1,R1++[y]),⟨⟨hlj,hB1.put hgh (hE.elim fun E h=>by rw[h];exact (List.mem_cons.1 hxT).elim (fun e=>by rw[e];simp) fun h=>by simp[h]) hym hyV hyR,hE.elim fun E h=>⟨E++[y],by rw[h,List.append_assoc]⟩,hos (R1++[y]) (fun _ h=>List.mem_append_left _ h) fun _=>by simp⟩,by show (g.on x).length - (j+1)<(g.on x).length - j;omega⟩,?_⟩
        all_goals ((repeat' first|exact rfl|((conv=>whnf);first|done|exact suL|refine And.intro ?_ ?_|fail));all_goals conv=>whnf)
        all_goals first|exact .inr (.inl (by rw[e1]))|exact hse|exact hte.symm|skip
      ·rw[posZ_out hyV] at cn
       have h9:¬ (-1:Int)≥0:=by decide
       ((repeat' ((conv=>whnf);first|exact .intro|refine .ya ?_|refine .na ?_|refine .ys ?_|refine .ns ?_|refine .neg (fun _=>?_) (fun _=>?_)|refine .mk (fun _=>?_) (fun _=>?_)|refine .inr (X5 (cn.r [0,1,2,3,4] _) ?_)|refine .inl (.inr (X5 (cn.r [0,1,2,3,4] _) ?_))|refine .inl (X5 (cn.r [0,1,2,3,4] _) ?_)|(first|refine ⟨_,g8,?_⟩|refine ⟨Int.natCast_nonneg _,_,g8,?_⟩)|refine .mk ?_ ?_|refine AK ?_|refine AT ?_|fail));all_goals conv=>whnf)
       all_goals refine ⟨(j+1,R1),⟨⟨hlj,hB1,hE,hos R1 (fun _ h=>h) fun h=>absurd h hyV⟩,by show (g.on x).length - (j+1)<(g.on x).length - j;omega⟩,?_⟩
       all_goals ((repeat' first|exact rfl|((conv=>whnf);first|done|exact suL|refine And.intro ?_ ?_|fail));all_goals conv=>whnf)
       all_goals first|exact .inr (.inl (by rw[e1]))|skip
     ·obtain rfl:j=(g.on x).length:=by omega
      have h7:¬ (((g.on x).length:Nat):Int)<((((g.on x).map rowC).length:Nat):Int):=by omega
      rw[List.take_length] at hO
      ((repeat' ((conv=>whnf);first|exact .intro|refine .ya ?_|refine .na ?_|refine .ys ?_|refine .ns ?_|refine .neg (fun _=>?_) (fun _=>?_)|refine .mk (fun _=>?_) (fun _=>?_)|refine .mk ?_ ?_|refine AK ?_|refine AT ?_|fail));all_goals conv=>whnf)
      all_goals refine ⟨(k+1,R1),⟨⟨hE.elim fun E h=>by rw[h,List.length_append];show k+1≤R.length+E.length+1;omega,hB1,hds R1 hE hO⟩,by show l.length+1 - (k+1)<l.length+1 - k;omega⟩,?_⟩
      all_goals ((repeat' first|exact rfl|((conv=>whnf);first|done|exact suL|refine And.intro ?_ ?_|fail));all_goals conv=>whnf)
      all_goals first|exact .inr (.inl (by rw[e2]))|skip
    ·rw[hon] at g7
     ((repeat' ((conv=>whnf);first|exact .intro|refine .ya ?_|refine .na ?_|refine .ys ?_|refine .ns ?_|refine .neg (fun _=>?_) (fun _=>?_)|refine .mk (fun _=>?_) (fun _=>?_)|(first|refine ⟨h5,?_⟩|refine ⟨h6,?_⟩|refine ⟨_,g6,?_⟩|refine ⟨_,g7,?_⟩)|refine .mk ?_ ?_|refine AK ?_|refine AT ?_|fail));all_goals conv=>whnf)
     refine ⟨{ σ:=Nat,fr:=fun j=>[(13,.c (.d (iD (j:Int)))),(10,.c (.all 1 6))],ks:=[],L:=fun j=>[],ex:=0,I:=fun j=>j=0,μ:=fun j=>0 },⟨0,rfl,?_⟩,fun (j:Nat) hj=>?_⟩
     ·((repeat' first|exact rfl|((conv=>whnf);first|done|exact suL|refine And.intro ?_ ?_|fail));all_goals conv=>whnf)
     obtain rfl:j=0:=hj
     ((repeat' ((conv=>whnf);first|exact .intro|refine .ya ?_|refine .na ?_|refine .ys ?_|refine .ns ?_|refine .neg (fun _=>?_) (fun _=>?_)|refine .mk (fun _=>?_) (fun _=>?_)|refine .mk ?_ ?_|refine AK ?_|refine AT ?_|fail));all_goals conv=>whnf)
     all_goals refine ⟨(k+1,R),⟨⟨by show k+1≤R.length+1;omega,hB,hds R ⟨[],by simp⟩ (by rw[hox];exact fun y hy=>nomatch hy)⟩,by show l.length+1 - (k+1)<l.length+1 - k;omega⟩,?_⟩
     all_goals ((repeat' first|exact rfl|((conv=>whnf);first|done|exact suL|refine And.intro ?_ ?_|fail));all_goals conv=>whnf)
     all_goals first|exact .inr (.inl (by rw[e2]))|skip
   ·obtain rfl:k=R.length+1:=by omega
    have h4:¬ ((R.length+1:Nat):Int)<((((c::R).map fun x=>[iD (((vF l).idxOf x:Nat):Int)]).length:Nat):Int):=by omega
    have hall:=hB.all (fun z=>(hgV z).1) (by rw[List.take_of_length_le (by simp)] at hD;exact hD)
    have hfl:(((vF l).take i).map (farR g (vF l))).length=i:=by rw[List.length_map,List.length_take];omega
    have b3:((((vF l).take i).map (farR g (vF l))).length+1) * 24≤140737488355328:=by omega
    have b4:(((vF l).take i).map (farR g (vF l))).length+1≤maxLen:=by unfold maxLen;omega
    have hfr:((vF l).take (i+1)).map (farR g (vF l))=((vF l).take i).map (farR g (vF l))++[[.lst 1 ((vF l).map fun x=>[.v (.bool (decide (x ∈ R)))])]]:=by
     classical
     rw[htk,List.map_append]
     congr 1
     show [farR g (vF l) c]=_
     unfold farR
     congr 3
     refine List.map_congr_left fun x _=>?_
     have:=hall x
     by_cases hx:x ∈ R
     ·rw[decide_eq_true hx,decide_eq_true (this.1 hx)]
     ·rw[decide_eq_false hx,decide_eq_false fun hh=>hx (this.2 hh)]
    ((repeat' ((conv=>whnf);first|exact .intro|refine .ya ?_|refine .na ?_|refine .ys ?_|refine .ns ?_|refine .neg (fun _=>?_) (fun _=>?_)|refine .mk (fun _=>?_) (fun _=>?_)|(refine ⟨⟨rfl,b3,b4⟩,?_⟩)|refine .mk ?_ ?_|refine AK ?_|refine AT ?_|fail));all_goals conv=>whnf)
    all_goals refine ⟨i+1,⟨hlt,by show l.length - (i+1)<l.length - i;omega⟩,?_⟩
    all_goals ((repeat' first|exact rfl|((conv=>whnf);first|done|exact suL|refine And.intro ?_ ?_|fail));all_goals conv=>whnf)
    all_goals first|exact .inr (.inl (by rw[e0]))|exact hfr.symm|skip
  ·obtain rfl:i=l.length:=by omega
   have h3:¬ ((l.length:Nat):Int)<(((l.map flD).length:Nat):Int):=by omega
   ((repeat' ((conv=>whnf);first|exact .intro|refine .ya ?_|refine .na ?_|refine .ys ?_|refine .ns ?_|refine .neg (fun _=>?_) (fun _=>?_)|refine .mk (fun _=>?_) (fun _=>?_)|refine .mk ?_ ?_|refine AK ?_|refine AT ?_|fail));all_goals conv=>whnf)
   all_goals ((repeat' first|exact rfl|((conv=>whnf);first|done|exact suL|refine And.intro ?_ ?_|fail));all_goals conv=>whnf)
   all_goals first|(rw[List.take_length];done)|(rw[show l.length=(vF l).length from hvm.symm,List.take_length];done)|skip
end
end Go.Proofs.YtfcmhmglpcimiaaGreatDoor
end
section
namespace Go.Proofs.YtfcmhmglpcimiaaGreatDoor
open Go Go.RowKit Go.EYtfcmhmglpcimiaaGreatDoor
set_option maxRecDepth 100000
theorem check_cell (w:World) (em:Bool) (a b:Int):(Instr.checkKey em 10000 39 (.agg #[.int .i64 a,.int .i64 b])).run Tryz.prog w=.ok () w:=by kernel_rfl
theorem eq_cell (w:World) (a b c d:Int):∃ r:Bool,(Op.equal 39 (.agg #[.int .i64 a,.int .i64 b]) (.agg #[.int .i64 c,.int .i64 d])).run Tryz.prog w=.ok r w∧(r=true↔(Value.agg #[.int .i64 c,.int .i64 d])=.agg #[.int .i64 a,.int .i64 b]):=by
 refine ⟨a==c && b==d,?_,?_⟩
 ·have u3:=Tryz.underlying3
  have a3:=Tryz.isAgg3
  have z3:=Tryz.sizeOf3
  have hS:Tryz.prog.underlying 39=some (.struct (Tryz.prog.fieldsOf 39)):=by kernel_rfl
  have hp:Tryz.prog.stoodInHeld 39=false:=by kernel_rfl
  show (Op.equalIn (9999+1) 39 _ _).run Tryz.prog w=_
  rw[run_equalIn_agg w 9999 39 _ _ hS hp]
  simp only[Program.fieldsOf,Tryz.underlying39]
  go_simp
  by_cases h1:a=c <;> by_cases h2:b=d <;> simp[h1,h2]
 ·simp
  constructor
  ·rintro ⟨rfl,rfl⟩;exact ⟨rfl,rfl⟩
  ·rintro ⟨rfl,rfl⟩;exact ⟨rfl,rfl⟩
theorem key_cell:KeyT Tryz.prog 39 3:=by
 refine keyT_of (fun w em d x hs hx=>?_) (fun w d e x y hs he hx hy=>?_) Tryz.underlying39 (fun x y=>?_)
 ·rcases keyS_cases hs with ⟨h,_⟩|⟨h,_⟩|⟨_,a,b,rfl⟩
  ·cases h
  ·cases h
  ·cases hx
   exact check_cell w em a b
 ·rcases keyS_cases hs with ⟨h,_⟩|⟨h,_⟩|⟨_,a,b,rfl⟩
  ·cases h
  ·cases h
  ·rcases keyS_cases he with ⟨h,_⟩|⟨h,_⟩|⟨_,c,d,rfl⟩
   ·cases h
   ·cases h
   ·cases hx
    cases hy
    exact eq_cell w a b c d
 ·cases x <;> cases y <;> rfl
end Go.Proofs.YtfcmhmglpcimiaaGreatDoor
end
section
namespace Go.Proofs.YtfcmhmglpcimiaaGreatDoor
open Go Go.RowKit Go.EYtfcmhmglpcimiaaGreatDoor
set_option maxRecDepth 100000
set_option maxHeartbeats 4000000
variable {gl:List (Nat×List D)}
abbrev kC (c:Cl):D:=cellD c.1 c.2
abbrev nD (n:Nat):D:=iD (n:Int)
abbrev ksD (D:List Cl):List Go.EYtfcmhmglpcimiaaGreatDoor.D:=D.map kC
def numD (D:List Cl):List Go.EYtfcmhmglpcimiaaGreatDoor.D:=D.map fun c=>nD (num D c)
def lowD (D:List Cl) (low:Cl→Nat):List Go.EYtfcmhmglpcimiaaGreatDoor.D:=D.map fun c=>nD (low c)
def onD (D S:List Cl):List Go.EYtfcmhmglpcimiaaGreatDoor.D:=D.map fun c=>.v (.bool (decide (c ∈ S)))
theorem kC_inj {a b:Cl} (h:kC a=kC b):a=b:=by
 obtain ⟨a1,a2⟩:=a
 obtain ⟨b1,b2⟩:=b
 simp[kC,cellD] at h
 rw[h.1,h.2]
theorem kC_mem {c:Cl} {D:List Cl}:kC c ∈ ksD D↔c ∈ D:=by
 constructor
 ·intro h
  obtain ⟨a,ha,e⟩:=List.mem_map.1 h
  exact kC_inj e ▸ ha
 ·exact fun h=>List.mem_map.2 ⟨c,h,rfl⟩
theorem keys_T (D:List Cl):∀ d ∈ ksD D,keyS 3 d=true:=fun d hd=>by
 obtain ⟨f,_,rfl⟩:=List.mem_map.1 hd
 rfl
theorem ksD_get {D:List Cl} {c:Cl} (h:c ∈ D):(ksD D)[D.idxOf c]?=some (kC c):=by
 have hi:=List.idxOf_lt_length_iff.2 h
 rw[List.getElem?_map,List.getElem?_eq_getElem hi,List.getElem_idxOf hi]
 rfl
theorem numD_new {D:List Cl} {c:Cl} (hc:c ∉ D):numD (D++[c])=numD D++[nD (D.length+1)]:=by
 unfold numD
 rw[List.map_append]
 congr 1
 ·exact List.map_congr_left fun x hx=>by rw[num_app hx]
 ·rw[List.map_singleton,num_new hc]
theorem lowD_new {D:List Cl} {c:Cl} (hc:c ∉ D) (low:Cl→Nat) (v:Nat):lowD (D++[c]) (fun x=>if x=c then v else low x)=lowD D low++[nD v]:=by
 have:=map_new hc (fun x=>nD (low x)) (nD v)
 unfold lowD
 rw[← this]
 exact List.map_congr_left fun x _=>by
  show nD (if x=c then v else low x)=_
  by_cases h:x=c
  ·rw[if_pos h,if_pos h]
  ·rw[if_neg h,if_neg h]
theorem onD_new {D S:List Cl} {c:Cl} (hc:c ∉ D):onD (D++[c]) (S++[c])=onD D S++[.v (.bool true)]:=by
 unfold onD
 rw[List.map_append]
 congr 1
 ·exact List.map_congr_left fun x hx=>by
   have hxc:x≠c:=fun e=>hc (e ▸ hx)
   simp[hxc]
 ·simp
theorem numD_get {D:List Cl} {c:Cl} (h:c ∈ D):(numD D)[D.idxOf c]?=some (nD (num D c)):=get_key h _
theorem lowD_get {D:List Cl} {c:Cl} (h:c ∈ D) (low:Cl→Nat):(lowD D low)[D.idxOf c]?=some (nD (low c)):=get_key h _
theorem onD_get {D:List Cl} {c:Cl} (h:c ∈ D) (S:List Cl):(onD D S)[D.idxOf c]?=some (.v (.bool (decide (c ∈ S)))):=get_key h _
theorem lowD_upd {D:List Cl} (hD:D.Nodup) {c:Cl} (hc:c ∈ D) (low:Cl→Nat) (v:Nat):(lowD D low).set (D.idxOf c) (nD v)=lowD D fun x=>if x=c then v else low x:=by
 unfold lowD
 rw[map_upd hD hc]
 exact List.map_congr_left fun x _=>by
  show _=nD (if x=c then v else low x)
  by_cases h:x=c
  ·rw[if_pos h,if_pos h]
  ·rw[if_neg h,if_neg h]
abbrev enH (D S:List Cl) (low:Cl→Nat) (st:C) (rs:List Cl):List (Nat×Blk):=[(0,.mp (ksD D) (numD D)),(1,.mp (ksD D) (lowD D low)),(2,.var [.mref 0] 75),(3,.var [.mref 1] 75),(4,.var [st] 31),(5,.mp (ksD D) (onD D S)),(6,.var [.mref 5] 81),(7,.rows 2 (rs.map rowC) 39)]
theorem enter_h (D S R:List Cl) (low:Cl→Nat) (x:Cl) (hn:x ∉ D) (hD:D.length≤65536) (hS:S.length≤65536):Go.EYtfcmhmglpcimiaaGreatDoor.Fn Tryz.prog gl 64 [.agg [.d (iD x.1),.d (iD x.2)],.c (.ptr 2 0),.c (.ptr 3 0),.c (.ptr 4 0),.c (.ptr 6 0)] (enH D S low (.own 2 7 0 S.length) (S++R)) 8 (.ret (.agg [.d (iD x.1),.d (iD x.2),.d (iD 0)])) (enH (D++[x]) (S++[x]) (fun c=>if c=x then D.length+1 else low c) (.all 2 7) (S++[x])) 8 [7]:=by
 have hk:kC x ∉ ksD D:=fun h=>hn (kC_mem.1 h)
 have hkl:(ksD D).length=D.length:=List.length_map _
 have e0:IntKind.i64.wrap ((((ksD D).length:Nat):Int)+1)=((D.length+1:Nat):Int):=by rw[hkl,wrapI (by omega)];rfl
 have hke:ksD (D++[x])=ksD D++[kC x]:=by unfold ksD;rw[List.map_append];rfl
 have e1:=numD_new hn
 have e2:=lowD_new hn low (D.length+1)
 have e3:=onD_new (S:=S) hn
 have e4:((S++R).map rowC).take S.length=S.map rowC:=by rw[List.map_append,List.take_append_of_le_length (by rw[List.length_map];exact Nat.le_refl _),List.take_of_length_le (by rw[List.length_map];exact Nat.le_refl _)]
 have hml:S.length≤((S++R).map rowC).length:=by rw[List.length_map,List.length_append];omega
 have b0:(((S++R).map rowC).take S.length).length=S.length:=by rw[e4,List.length_map]
 have b1:((((S++R).map rowC).take S.length).length+1) * 16≤140737488355328:=by omega
 have b2:(((S++R).map rowC).take S.length).length+1≤maxLen:=by unfold maxLen;omega
 have g1:(ksD D++[kC x])[D.length]?=some (kC x):=by rw[← hkl];exact List.getElem?_concat_length
 have g2:(numD D++[nD (D.length+1)])[D.length]?=some (nD (D.length+1)):=by
  have:(numD D).length=D.length:=List.length_map _
  rw[← this]
  exact List.getElem?_concat_length
 have hk2:∀ d ∈ ksD D++[kC x],keyS 3 d=true:=by rw[← hke];exact keys_T _
 unfold enH
 rw[e1,e2,e3,hke]
 obtain ⟨c,r⟩:=x
 refine fn_of_vc (nv:=9999) (cu:=[]) fits mixed Tryz.func64 rfl hoB rfl rfl rfl rfl ?_
 ((repeat' ((conv=>whnf);first|exact .intro|refine .ya ?_|refine .na ?_|refine .ys ?_|refine .ns ?_|refine .neg (fun _=>?_) (fun _=>?_)|refine .mk (fun _=>?_) (fun _=>?_)|(first|rw[e0]|refine ⟨3,⟨key_cell,rfl,keys_T _⟩,.inl ⟨hk,?_⟩⟩|refine ⟨3,⟨key_cell,rfl,hk2⟩,by kernel_rfl,.inl ⟨D.length,_,⟨g1,g2⟩,?_⟩⟩|refine ⟨hml,?_⟩|refine ⟨⟨rfl,b1,b2⟩,?_⟩)|refine .mk ?_ ?_|refine AK ?_|refine AT ?_|fail));all_goals conv=>whnf)
 all_goals ((repeat' first|exact rfl|((conv=>whnf);first|done|exact suL|refine And.intro ?_ ?_|fail));all_goals conv=>whnf)
 all_goals first|(rw[e4,List.map_append];rfl)|skip
end Go.Proofs.YtfcmhmglpcimiaaGreatDoor
end
