/- Proved: a part of what the law is proved with (the reckoner, contracts of functions, plain laws). Conditions: as each says. -/
import Derived.Test.YtaheflnnigocgaaGreatDoorHTji
import Derived.Test.YtaheflnnigocgaaGreatDoorHZa
import Derived.Test.YtaheflnnigocgaaGreatDoorHZe
section
namespace Go.Proofs.YtaheflnnigocgaaGreatDoor
open Go Go.RowKit Go.EYtaheflnnigocgaaGreatDoor
set_option maxRecDepth 100000
set_option maxHeartbeats 400000000
variable {gl:List (Nat×List D)}
theorem at6_d (c r:Int):FnP Tryz.prog gl 7 [iD c,iD r] (kC (c,r)):=by
 refine fnP_of_vc (nv:=9999) (cu:=[]) fits mixed Tryz.func7 rfl hoB rfl ?_
 ((repeat' ((conv=>whnf);first|exact .intro|refine .ya ?_|refine .na ?_|refine .ys ?_|refine .ns ?_|refine .neg (fun _=>?_) (fun _=>?_)|refine .mk (fun _=>?_) (fun _=>?_)|refine .mk ?_ ?_|refine AK ?_|refine AT ?_|fail));all_goals conv=>whnf)
 exact LeD.rfl
def nBB:Nd:=.mk 5 0 [] ⟨2,1,false,false⟩ z0 []
abbrev oneBB:List Fl:=[⟨1,1,[61,66,49]⟩]
theorem frm_BB:frmN nBB False:=by
 unfold nBB
 rw[frm_5]
 exact ⟨rfl,rfl,rfl,noR_z0,by decide⟩
theorem parse_BB:parseZ rfZ [61,66,49]=.ok nBB 0:=by
 have ho:okN nBB:=⟨by decide,by decide,trivial⟩
 have hw:61::wrN nBB=[61,66,49]:=by decide +kernel
 have h:=(parse_wr pbZ frm_BB ho).1 (by decide)
 rw[hw] at h
 unfold parseZ
 rw[if_neg (by decide),List.head?_cons,if_pos rfl]
 exact h
theorem refs_BB:refsZ nBB=[(2,1)]:=by
 have e:cellsN nBB=[(2,1)]:=by decide +kernel
 unfold refsZ
 rw[e]
 unfold sortC
 rw[List.mergeSort_singleton]
 rfl
theorem oneBB_ok:gZ oneBB:=by
 refine ⟨by decide,fun k hk=>?_⟩
 have:k=0:=by simpa using hk
 subst this
 show textZ rfZ [61,66,49]=0
 unfold textZ
 rw[if_neg (by decide),List.head?_cons,if_pos rfl,parse_BB]
theorem oneBB_links:linksZ (ntZ oneBB).on (vZ oneBB)=[((1,1),(2,1))]:=by
 show linksZ (ntZ oneBB).on [(1,1)]=_
 unfold linksZ
 rw[List.flatMap_singleton]
 show (match parseZ rfZ [61,66,49] with
  | .ok n _=>refsZ n
  | .no _ _=>[]).map _=_
 rw[parse_BB]
 show (refsZ nBB).map _=_
 rw[refs_BB]
 rfl
theorem GraphMore_d (te:TypeId) (pe:Value) (hV:Has gl (glV te pe)) (hl:Go.EYtaheflnnigocgaaGreatDoor.look gl 0=some lvAll) (l:List Fl) (c d:Cl):FnP Tryz.prog gl 3 [.lst 3 (l.map flD),kC c,kC d] (.v (.bool true)):=by
 have cf:FnP Tryz.prog gl 6 [.lst 3 (oneBB.map flD)] (.tup [.lst 4 [[iD 1,iD 1,iD 2,iD 1]],.v .nilIface]):=by
  rcases New_d te pe hV hl oneBB with ⟨h,cN⟩|⟨h,_⟩
  ·have c:=Links_d rdZ oneBB h.1 (gNd h) (fun c=>(on_few oneBB c).1) cN
   rw[show linksZ (ntL rdZ oneBB).on (oneBB.map clF)=[((1,1),(2,1))] from oneBB_links] at c
   exact c
  ·exact absurd oneBB_ok h
 have ca1:=at6_d (gl:=gl) 1 1
 have ca2:=at6_d (gl:=gl) 2 1
 have cI:=In_d (gl:=gl) c.1 c.2
 have hbb:(2:Int)=2∧(1:Int)=1∧True:=⟨rfl,rfl,trivial⟩
 rcases New_d te pe hV hl l with ⟨h,cN⟩|⟨_,e,he,cN⟩
 ·have cL:=Links_d rdZ l h.1 (gNd h) (fun c=>(on_few l c).1) cN
  have hlm:(l.map flD).length=l.length:=List.length_map _
  have hl2:=h.1
  by_cases ho:okP c.1 c.2
  ·by_cases h200:l.length<200
   ·have h5:¬ (((l.map flD).length:Nat):Int)≥200:=by omega
    refine fnP_of_vc (nv:=9999) (cu:=[]) fits mixed Tryz.func3 rfl hoB rfl ?_
    ((repeat' ((conv=>whnf);first|exact .intro|refine .ya ?_|refine .na ?_|refine .ys ?_|refine .ns ?_|refine .neg (fun _=>?_) (fun _=>?_)|refine .mk (fun _=>?_) (fun _=>?_)|refine .inl (.inl (X1 (by first|exact cL|exact ca1|exact ca2|exact cI) ?_))|refine .inl (X1 (by first|exact cL|exact ca1|exact ca2|exact cI) ?_)|refine X1 (by first|exact cL|exact ca1|exact ca2|exact cI) ?_|refine .inr (X1 (by first|exact cf) ?_)|(first|refine ⟨[iD 1,iD 1,iD 2,iD 1],rfl,?_⟩|refine ⟨[iD 2,iD 1],rfl,?_⟩)|refine .mk ?_ ?_|refine AK ?_|refine AT ?_|fail));all_goals conv=>whnf)
    refine ⟨{ σ:=Nat,fr:=fun k=>[(12,.c (.d (nD k)))],ks:=[],L:=fun _=>[],ex:=0,I:=fun k=>k≤l.length∧∀ j,(hj:j<l.length)→j<k→clF l[j]≠c,μ:=fun k=>l.length - k },⟨0,⟨Nat.zero_le _,(fun _ _ h=>nomatch h)⟩,?_⟩,fun (k:Nat) hk=>?_⟩
    ·((repeat' first|exact rfl|((conv=>whnf);first|done|exact suL|refine And.intro ?_ ?_|fail));all_goals conv=>whnf)
    obtain ⟨hk,hno⟩:=hk
    replace hk:k≤l.length:=hk
    by_cases hlt:k<l.length
    ·have h6:(k:Int)<(((l.map flD).length:Nat):Int):=by omega
     have g1:=get_map (f:=flD) hlt
     have e0:=wN (i:=k) (by omega)
     by_cases hc:clF l[k]=c
     ·have h7:l[k].c=c.1∧l[k].r=c.2∧True:=by rw[← hc];exact ⟨rfl,rfl,trivial⟩
      ((repeat' ((conv=>whnf);first|exact .intro|refine .ya ?_|refine .na ?_|refine .ys ?_|refine .ns ?_|refine .neg (fun _=>?_) (fun _=>?_)|refine .mk (fun _=>?_) (fun _=>?_)|(first|refine ⟨Int.natCast_nonneg _,_,g1,?_⟩)|refine .mk ?_ ?_|refine AK ?_|refine AT ?_|fail));all_goals conv=>whnf)
      all_goals exact LeD.rfl
     ·have h7:¬ (l[k].c=c.1∧l[k].r=c.2∧True):=fun hh=>hc (Prod.ext hh.1 hh.2.1)
      ((repeat' ((conv=>whnf);first|exact .intro|refine .ya ?_|refine .na ?_|refine .ys ?_|refine .ns ?_|refine .neg (fun _=>?_) (fun _=>?_)|refine .mk (fun _=>?_) (fun _=>?_)|(first|refine ⟨Int.natCast_nonneg _,_,g1,?_⟩)|refine .mk ?_ ?_|refine AK ?_|refine AT ?_|fail));all_goals conv=>whnf)
      all_goals refine ⟨k+1,⟨⟨hlt,fun j hj hjk=>(Nat.lt_succ_iff_lt_or_eq.1 hjk).elim (hno j hj) fun e=>by subst e;exact hc⟩,by show l.length - (k+1)<l.length - k;omega⟩,?_⟩
      all_goals ((repeat' first|exact rfl|((conv=>whnf);first|done|exact suL|refine And.intro ?_ ?_|fail));all_goals conv=>whnf)
      all_goals first|exact cqN e0|skip
    have h6:¬ (k:Int)<(((l.map flD).length:Nat):Int):=by omega
    have hcv:c ∉ vZ l:=fun hh=>by
     obtain ⟨f,hf,e⟩:=List.mem_map.1 hh
     obtain ⟨j,hj,rfl⟩:=List.getElem_of_mem hf
     exact hno j hj (by omega) e
    have cW:=rWith_d (gl:=gl) c.1 c.2 [53] l (by omega)
    rw[show decide (([53]:List UInt8)=[])=false by decide] at cW
    obtain ⟨hm1,hm2,hm3,hm4,hm5⟩:=more_all h ho h200 hcv
    generalize wS c.1 c.2 [53] false l=m at *
    rcases New_d te pe hV hl m with ⟨_,cM⟩|⟨hn,_⟩
    rotate_left
    ·exact absurd hm1 hn
    have cL2:=Links_d rdZ m hm1.1 (gNd hm1) (fun c=>(on_few m c).1) cM
    rw[show (ntL rdZ m).on=(ntZ l).on from hm2,show linksZ (ntZ l).on (m.map clF)=linksZ (ntZ l).on (vZ l) from hm3] at cL2
    have cP1:=Parts_d rdZ l cN
    have cP2:=Parts_d rdZ m cM
    have hll:=linksZ_len (fun c=>(on_few l c).1) (vZ l)
    have hvl:(vZ l).length=l.length:=List.length_map _
    have hLm:((linksZ (ntZ l).on (vZ l)).map linkR).length=(linksZ (ntZ l).on (vZ l)).length:=List.length_map _
    have hq1:((qZ l).map partR).length=(qZ l).length:=List.length_map _
    have hq2:((qZ m).map partR).length=(qZ m).length:=List.length_map _
    have hfew:=(qZ_few h).1
    have h7:((((qZ m).map partR).length:Nat):Int)=IntKind.i64.wrap ((((qZ l).map partR).length:Nat)+1):=by rw[wrapI (by omega)];omega
    have h8:((((linksZ (ntZ l).on (vZ l)).map linkR).length:Nat):Int)=((((linksZ (ntZ l).on (vZ l)).map linkR).length:Nat):Int):=rfl
    ((repeat' ((conv=>whnf);first|exact .intro|refine .ya ?_|refine .na ?_|refine .ys ?_|refine .ns ?_|refine .neg (fun _=>?_) (fun _=>?_)|refine .mk (fun _=>?_) (fun _=>?_)|refine .inl (.inl (X1 (by first|exact cW|exact cL2|exact cP1|exact cP2) ?_))|refine .inl (X1 (by first|exact cW|exact cL2|exact cP1|exact cP2) ?_)|refine X1 (by first|exact cW|exact cL2|exact cP1|exact cP2) ?_|refine .mk ?_ ?_|refine AK ?_|refine AT ?_|fail));all_goals conv=>whnf)
    refine ⟨{ σ:=Nat,fr:=fun k=>[(20,.c (.d (nD k)))],ks:=[],L:=fun _=>[],ex:=0,I:=fun k=>k≤(linksZ (ntZ l).on (vZ l)).length,μ:=fun k=>(linksZ (ntZ l).on (vZ l)).length - k },⟨0,Nat.zero_le _,?_⟩,fun (k:Nat) hk=>?_⟩
    ·((repeat' first|exact rfl|((conv=>whnf);first|done|exact suL|refine And.intro ?_ ?_|fail));all_goals conv=>whnf)
    replace hk:k≤(linksZ (ntZ l).on (vZ l)).length:=hk
    by_cases hlt:k<(linksZ (ntZ l).on (vZ l)).length
    ·have h9:(k:Int)<((((linksZ (ntZ l).on (vZ l)).map linkR).length:Nat):Int):=by omega
     have g1:=get_map (f:=linkR) hlt
     have e0:=wN (i:=k) (by omega)
     generalize (linksZ (ntZ l).on (vZ l))[k]=q at g1
     ((repeat' ((conv=>whnf);first|exact .intro|refine .ya ?_|refine .na ?_|refine .ys ?_|refine .ns ?_|refine .neg (fun _=>?_) (fun _=>?_)|refine .mk (fun _=>?_) (fun _=>?_)|(first|refine ⟨Int.natCast_nonneg _,_,g1,?_⟩|refine ⟨_,link_eq _ _ _ _,?_⟩)|refine .mk ?_ ?_|refine AK ?_|refine AT ?_|fail));all_goals conv=>whnf)
     all_goals refine ⟨k+1,⟨hlt,by show _ - (k+1)<_ - k;omega⟩,?_⟩
     all_goals ((repeat' first|exact rfl|((conv=>whnf);first|done|exact suL|refine And.intro ?_ ?_|fail));all_goals conv=>whnf)
     all_goals first|exact cqN e0|skip
    have h9:¬ (k:Int)<((((linksZ (ntZ l).on (vZ l)).map linkR).length:Nat):Int):=by omega
    by_cases hod:okP d.1 d.2
    ·have cH1:=Hangs_d (ntZ l) (qZ l) l (NewZ.net h cN) d (ntZ_ok h) hod
     have cH2:=Hangs_d (ntZ m) (qZ m) m (NewZ.net hm1 cM) d (ntZ_ok hm1) hod
     rw[show hangsZ (ntZ m).g (ntZ m).V d=hangsZ (ntZ l).g (ntZ l).V d from hm5 d] at cH2
     have cS:=sameCells_d (gl:=gl) (hangsZ (ntZ l).g (ntZ l).V d) (hangsZ (ntZ l).g (ntZ l).V d) (by
      have h1:(hangsZ (ntZ l).g (ntZ l).V d).length≤(ntZ l).V.length:=List.length_filter_le _ _
      have h2:=(ntZ_ok h).len
      omega)
     ((repeat' ((conv=>whnf);first|exact .intro|refine .ya ?_|refine .na ?_|refine .ys ?_|refine .ns ?_|refine .neg (fun _=>?_) (fun _=>?_)|refine .mk (fun _=>?_) (fun _=>?_)|refine .inl (.inl (X1 (by first|exact cH1|exact cH2|exact cS) ?_))|refine .inl (X1 (by first|exact cH1|exact cH2|exact cS) ?_)|refine X1 (by first|exact cH1|exact cH2|exact cS) ?_|refine .mk ?_ ?_|refine AK ?_|refine AT ?_|fail));all_goals conv=>whnf)
     all_goals first|exact LeD.rfl|exact LeD.vt rfl|exact LeD.vt (fun h=>h)|skip
    ·have cH1:=Hangs_b (ntZ l) (qZ l) l (NewZ.net h cN) d hod
     have cH2:=Hangs_b (ntZ m) (qZ m) m (NewZ.net hm1 cM) d hod
     ((repeat' ((conv=>whnf);first|exact .intro|refine .ya ?_|refine .na ?_|refine .ys ?_|refine .ns ?_|refine .neg (fun _=>?_) (fun _=>?_)|refine .mk (fun _=>?_) (fun _=>?_)|refine .inl (.inl (X1 (by first|exact cH1|exact cH2) ?_))|refine .inl (X1 (by first|exact cH1|exact cH2) ?_)|refine X1 (by first|exact cH1|exact cH2) ?_|refine .mk ?_ ?_|refine AK ?_|refine AT ?_|fail));all_goals conv=>whnf)
     all_goals first|exact LeD.rfl|exact LeD.vt (fun h=>h)|skip
   ·have h5:(((l.map flD).length:Nat):Int)≥200:=by omega
    refine fnP_of_vc (nv:=9999) (cu:=[]) fits mixed Tryz.func3 rfl hoB rfl ?_
    ((repeat' ((conv=>whnf);first|exact .intro|refine .ya ?_|refine .na ?_|refine .ys ?_|refine .ns ?_|refine .neg (fun _=>?_) (fun _=>?_)|refine .mk (fun _=>?_) (fun _=>?_)|refine .inl (.inl (X1 (by first|exact cL|exact ca1|exact ca2|exact cI) ?_))|refine .inl (X1 (by first|exact cL|exact ca1|exact ca2|exact cI) ?_)|refine X1 (by first|exact cL|exact ca1|exact ca2|exact cI) ?_|refine .inr (X1 (by first|exact cf) ?_)|(first|refine ⟨[iD 1,iD 1,iD 2,iD 1],rfl,?_⟩|refine ⟨[iD 2,iD 1],rfl,?_⟩)|refine .mk ?_ ?_|refine AK ?_|refine AT ?_|fail));all_goals conv=>whnf)
    all_goals exact LeD.rfl
  ·refine fnP_of_vc (nv:=9999) (cu:=[]) fits mixed Tryz.func3 rfl hoB rfl ?_
   ((repeat' ((conv=>whnf);first|exact .intro|refine .ya ?_|refine .na ?_|refine .ys ?_|refine .ns ?_|refine .neg (fun _=>?_) (fun _=>?_)|refine .mk (fun _=>?_) (fun _=>?_)|refine .inl (.inl (X1 (by first|exact cL|exact ca1|exact ca2|exact cI) ?_))|refine .inl (X1 (by first|exact cL|exact ca1|exact ca2|exact cI) ?_)|refine X1 (by first|exact cL|exact ca1|exact ca2|exact cI) ?_|refine .inr (X1 (by first|exact cf) ?_)|(first|refine ⟨[iD 1,iD 1,iD 2,iD 1],rfl,?_⟩|refine ⟨[iD 2,iD 1],rfl,?_⟩)|refine .mk ?_ ?_|refine AK ?_|refine AT ?_|fail));all_goals conv=>whnf)
   all_goals exact LeD.rfl
 ·have cL:=Links_e l e cN
  refine fnP_of_vc (nv:=9999) (cu:=[]) fits mixed Tryz.func3 rfl hoB rfl ?_
  ((repeat' ((conv=>whnf);first|exact .intro|refine .ya ?_|refine .na ?_|refine .ys ?_|refine .ns ?_|refine .neg (fun _=>?_) (fun _=>?_)|refine .mk (fun _=>?_) (fun _=>?_)|refine .inl (.inl (X1 (by first|exact cL|exact ca1|exact ca2|exact cI) ?_))|refine .inl (X1 (by first|exact cL|exact ca1|exact ca2|exact cI) ?_)|refine X1 (by first|exact cL|exact ca1|exact ca2|exact cI) ?_|refine .inr (X1 (by first|exact cf) ?_)|(first|refine ⟨[iD 1,iD 1,iD 2,iD 1],rfl,?_⟩|refine ⟨[iD 2,iD 1],rfl,?_⟩)|refine .mk ?_ ?_|refine AK ?_|refine AT ?_|fail));all_goals conv=>whnf)
  all_goals exact LeD.rfl
end Go.Proofs.YtaheflnnigocgaaGreatDoor
end
section
namespace Go.Proofs.YtaheflnnigocgaaGreatDoor
open Go Go.RowKit Go.EYtaheflnnigocgaaGreatDoor
set_option maxRecDepth 100000
abbrev glK (te:TypeId) (pe:Value) (mx:Int):List (Nat×List D):=(0,lvAll)::(6,[iD mx])::glV te pe
theorem glK_has (te:TypeId) (pe:Value) (mx:Int):Has (glK te pe mx) (glV te pe):=by
 intro g l hl
 rw[look_cons]
 split
 ·rename_i e;subst e;exact absurd hl (by rw[show Go.EYtaheflnnigocgaaGreatDoor.look (glV te pe) 0=none from rfl];simp)
 ·rw[look_cons]
  split
  ·rename_i e;subst e;exact absurd hl (by rw[show Go.EYtaheflnnigocgaaGreatDoor.look (glV te pe) 6=none from rfl];simp)
  ·exact hl
end Go.Proofs.YtaheflnnigocgaaGreatDoor
end
section
namespace Go.Proofs.YtaheflnnigocgaaGreatDoor
open Go Go.RowKit Go.EYtaheflnnigocgaaGreatDoor
set_option maxRecDepth 100000
theorem GraphMore_g (te:TypeId) (pe:Value) (mx:Int) (l:List Fl) (c d:Cl):FnP Tryz.prog (glK te pe mx) 3 [.lst 3 (l.map flD),kC c,kC d] (.v (.bool true)) :=
 GraphMore_d te pe (glK_has te pe mx) rfl l c d
end Go.Proofs.YtaheflnnigocgaaGreatDoor
end
