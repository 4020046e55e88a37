/- Proved: a part of what the law is proved with (the reckoner, contracts of functions, plain laws). Conditions: as each says. -/
import Derived.Test.YtaheflnnigocgaaGreatDoorGTjl
import Derived.Test.YtaheflnnigocgaaGreatDoorGTju
import Derived.Test.YtaheflnnigocgaaGreatDoorGTjw
section
namespace Go.Proofs.YtaheflnnigocgaaGreatDoor
open Go Go.RowKit Go.EYtaheflnnigocgaaGreatDoor
set_option maxRecDepth 100000
set_option maxHeartbeats 40000000
variable {gl:List (Nat×List D)}
theorem Has_g (m:List Cl) (c:Cl) (hm:m.length≤1099511627776):FnP Tryz.prog gl 16 [.lst 2 (cellsR m),kC c] (.b (c ∈ m) inferInstance):=by
 obtain ⟨c,r⟩:=c
 refine fnP_of_vc (nv:=9999) (cu:=[]) fits mixed Tryz.func16 rfl hoB rfl ?_
 ((repeat' ((conv=>whnf);first|exact .intro|refine .ya ?_|refine .na ?_|refine .ys ?_|refine .ns ?_|refine .neg (fun _=>?_) (fun _=>?_)|refine .mk (fun _=>?_) (fun _=>?_)|refine .mk ?_ ?_|refine AK ?_|refine AT ?_|fail));all_goals conv=>whnf)
 refine ⟨{ σ:=Nat,fr:=fun k=>[(5,.c (.d (nD k)))],ks:=[],L:=fun _=>[],ex:=0,I:=fun k=>k≤m.length∧(c,r) ∉ m.take k,μ:=fun k=>m.length - k },⟨0,⟨Nat.zero_le _,by simp⟩,?_⟩,fun (k:Nat) hk=>?_⟩
 ·((repeat' first|exact rfl|((conv=>whnf);first|done|exact suL|refine And.intro ?_ ?_|fail));all_goals conv=>whnf)
 ·obtain ⟨hk1,hk2⟩:=hk
  by_cases hlt:k<m.length
  ·have h2:(k:Int)<((cellsR m).length:Nat):=by rw[List.length_map];omega
   have e0:=wN (i:=k) (by omega)
   ((repeat' ((conv=>whnf);first|exact .intro|refine .ya ?_|refine .na ?_|refine .ys ?_|refine .ns ?_|refine .neg (fun _=>?_) (fun _=>?_)|refine .mk (fun _=>?_) (fun _=>?_)|(refine ⟨Int.natCast_nonneg _,_,get_map (f:=rowC) hlt,?_⟩)|refine .mk ?_ ?_|refine AK ?_|refine AT ?_|fail));all_goals conv=>whnf)
   ·rename_i h
    exact LeD.bt (by rw[show (c,r)=m[k] from Prod.ext h.1.symm h.2.1.symm];exact List.getElem_mem hlt)
   ·rename_i h
    refine ⟨k+1,⟨⟨hlt,?_⟩,by show m.length - (k+1)<m.length - k;omega⟩,?_⟩
    ·rw[List.take_succ_eq_append_getElem hlt]
     intro hh
     rcases List.mem_append.1 hh with hh|hh
     ·exact hk2 hh
     ·have:=List.mem_singleton.1 hh
      exact h ⟨by rw[← this],by rw[← this],trivial⟩
    ·((repeat' first|exact rfl|((conv=>whnf);first|done|exact suL|refine And.intro ?_ ?_|fail));all_goals conv=>whnf)
     all_goals exact cqN e0
  ·have h2:¬ (k:Int)<((cellsR m).length:Nat):=by rw[List.length_map];omega
   ((repeat' ((conv=>whnf);first|exact .intro|refine .ya ?_|refine .na ?_|refine .ys ?_|refine .ns ?_|refine .neg (fun _=>?_) (fun _=>?_)|refine .mk (fun _=>?_) (fun _=>?_)|refine .mk ?_ ?_|refine AK ?_|refine AT ?_|fail));all_goals conv=>whnf)
   exact LeD.bf (by rwa [List.take_of_length_le (by omega)] at hk2)
theorem index_d (Q:List (List Cl)) (c:Cl) (hl:Q.length≤65536) (hq:∀ q ∈ Q,q.length≤65536) (m:Nat) (hm:m≤Q.length) (r:D) (h0:∀ k,(h:k<Q.length)→k<m→c ∉ Q[k]) (hr:(m=Q.length∧r=iD (-1))∨(∃ h:m<Q.length,c ∈ Q[m]∧r=nD m)):FnP Tryz.prog gl 14 [.lst 1 (Q.map partR),kC c] r:=by
 have hQm:(Q.map partR).length=Q.length:=List.length_map _
 refine fnP_of_vc (nv:=9999) (cu:=[]) fits mixed Tryz.func14 rfl hoB rfl ?_
 ((repeat' ((conv=>whnf);first|exact .intro|refine .ya ?_|refine .na ?_|refine .ys ?_|refine .ns ?_|refine .neg (fun _=>?_) (fun _=>?_)|refine .mk (fun _=>?_) (fun _=>?_)|refine .mk ?_ ?_|refine AK ?_|refine AT ?_|fail));all_goals conv=>whnf)
 refine ⟨{ σ:=Nat,fr:=fun k=>[(5,.c (.d (nD k)))],ks:=[],L:=fun _=>[],ex:=0,I:=fun k=>k≤m,μ:=fun k=>Q.length - k },⟨0,Nat.zero_le _,?_⟩,fun (k:Nat) hk=>?_⟩
 ·((repeat' first|exact rfl|((conv=>whnf);first|done|exact suL|refine And.intro ?_ ?_|fail));all_goals conv=>whnf)
 replace hk:k≤m:=hk
 by_cases hlt:k<Q.length
 ·have h2:(k:Int)<(((Q.map partR).length:Nat):Int):=by omega
  have g1:=get_map (f:=partR) hlt
  have e0:=wN (i:=k) (by omega)
  have c1:=Has_g (gl:=gl) Q[k] c (by have:=hq _ (List.getElem_mem hlt);omega)
  by_cases hc:c ∈ Q[k]
  ·have hkm:k=m:=Classical.byContradiction fun hh=>h0 k hlt (by omega) hc
   subst hkm
   have hrr:r=nD k:=by
    rcases hr with ⟨h,_⟩|⟨_,_,h⟩
    ·omega
    ·exact h
   subst hrr
   ((repeat' ((conv=>whnf);first|exact .intro|refine .ya ?_|refine .na ?_|refine .ys ?_|refine .ns ?_|refine .neg (fun _=>?_) (fun _=>?_)|refine .mk (fun _=>?_) (fun _=>?_)|refine .inl (.inl (X1 (c1) ?_))|refine .inl (X1 (c1) ?_)|refine X1 (c1) ?_|(refine ⟨Int.natCast_nonneg _,_,g1,?_⟩)|refine .mk ?_ ?_|refine AK ?_|refine AT ?_|fail));all_goals conv=>whnf)
   all_goals exact LeD.rfl
  ·have hkm:k<m:=by
    rcases Nat.lt_or_ge k m with h|h
    ·exact h
    ·obtain rfl:k=m:=by omega
     rcases hr with ⟨h,_⟩|⟨_,h,_⟩
     ·omega
     ·exact absurd h hc
   ((repeat' ((conv=>whnf);first|exact .intro|refine .ya ?_|refine .na ?_|refine .ys ?_|refine .ns ?_|refine .neg (fun _=>?_) (fun _=>?_)|refine .mk (fun _=>?_) (fun _=>?_)|refine .inl (.inl (X1 (c1) ?_))|refine .inl (X1 (c1) ?_)|refine X1 (c1) ?_|(refine ⟨Int.natCast_nonneg _,_,g1,?_⟩)|refine .mk ?_ ?_|refine AK ?_|refine AT ?_|fail));all_goals conv=>whnf)
   all_goals refine ⟨k+1,⟨hkm,by show Q.length - (k+1)<Q.length - k;omega⟩,?_⟩
   all_goals ((repeat' first|exact rfl|((conv=>whnf);first|done|exact suL|refine And.intro ?_ ?_|fail));all_goals conv=>whnf)
   all_goals exact cqN e0
 ·have h2:¬ (k:Int)<(((Q.map partR).length:Nat):Int):=by omega
  have hrr:r=iD (-1):=by
   rcases hr with ⟨_,h⟩|⟨h,_⟩
   ·exact h
   ·omega
  subst hrr
  ((repeat' ((conv=>whnf);first|exact .intro|refine .ya ?_|refine .na ?_|refine .ys ?_|refine .ns ?_|refine .neg (fun _=>?_) (fun _=>?_)|refine .mk (fun _=>?_) (fun _=>?_)|refine .mk ?_ ?_|refine AK ?_|refine AT ?_|fail));all_goals conv=>whnf)
  all_goals exact LeD.rfl
theorem linked_d (L:List (Cl×Cl)) (a b:Cl) (hl:L.length≤1099511627776):FnP Tryz.prog gl 15 [.lst 4 (L.map linkR),kC a,kC b] (.b ((a,b) ∈ L) inferInstance):=by
 have hLm:(L.map linkR).length=L.length:=List.length_map _
 refine fnP_of_vc (nv:=9999) (cu:=[]) fits mixed Tryz.func15 rfl hoB rfl ?_
 ((repeat' ((conv=>whnf);first|exact .intro|refine .ya ?_|refine .na ?_|refine .ys ?_|refine .ns ?_|refine .neg (fun _=>?_) (fun _=>?_)|refine .mk (fun _=>?_) (fun _=>?_)|refine .mk ?_ ?_|refine AK ?_|refine AT ?_|fail));all_goals conv=>whnf)
 refine ⟨{ σ:=Nat,fr:=fun k=>[(7,.c (.d (nD k)))],ks:=[],L:=fun _=>[],ex:=0,I:=fun k=>k≤L.length∧(a,b) ∉ L.take k,μ:=fun k=>L.length - k },⟨0,⟨Nat.zero_le _,by simp⟩,?_⟩,fun (k:Nat) hk=>?_⟩
 ·((repeat' first|exact rfl|((conv=>whnf);first|done|exact suL|refine And.intro ?_ ?_|fail));all_goals conv=>whnf)
 obtain ⟨hk1,hk2⟩:=hk
 by_cases hlt:k<L.length
 ·have h2:(k:Int)<(((L.map linkR).length:Nat):Int):=by omega
  have g1:=get_map (f:=linkR) hlt
  have e0:=wN (i:=k) (by omega)
  have hm:L[k] ∈ L:=List.getElem_mem hlt
  have htk:L.take (k+1)=L.take k++[L[k]]:=List.take_succ_eq_append_getElem hlt
  generalize L[k]=q at g1 hm htk
  obtain ⟨⟨x1,x2⟩,⟨y1,y2⟩⟩:=q
  obtain ⟨a1,a2⟩:=a
  obtain ⟨b1,b2⟩:=b
  have hno:¬ ((x1=a1∧x2=a2∧True)∧(y1=b1∧y2=b2∧True))→((a1,a2),(b1,b2)) ∉ L.take (k+1):=fun h hh=>by
   rw[htk] at hh
   rcases List.mem_append.1 hh with hh|hh
   ·exact hk2 hh
   ·have:=List.mem_singleton.1 hh
    cases this
    exact h ⟨⟨rfl,rfl,trivial⟩,⟨rfl,rfl,trivial⟩⟩
  by_cases h1:x1=a1∧x2=a2∧True
  ·by_cases h3:y1=b1∧y2=b2∧True
   ·have hin:((a1,a2),(b1,b2)) ∈ L:=by rw[← h1.1,← h1.2.1,← h3.1,← h3.2.1];exact hm
    ((repeat' ((conv=>whnf);first|exact .intro|refine .ya ?_|refine .na ?_|refine .ys ?_|refine .ns ?_|refine .neg (fun _=>?_) (fun _=>?_)|refine .mk (fun _=>?_) (fun _=>?_)|(first|refine ⟨Int.natCast_nonneg _,_,g1,?_⟩|refine ⟨[iD x1,iD x2],rfl,?_⟩|refine ⟨[iD y1,iD y2],rfl,?_⟩)|refine .mk ?_ ?_|refine AK ?_|refine AT ?_|fail));all_goals conv=>whnf)
    all_goals exact LeD.bt hin
   ·((repeat' ((conv=>whnf);first|exact .intro|refine .ya ?_|refine .na ?_|refine .ys ?_|refine .ns ?_|refine .neg (fun _=>?_) (fun _=>?_)|refine .mk (fun _=>?_) (fun _=>?_)|(first|refine ⟨Int.natCast_nonneg _,_,g1,?_⟩|refine ⟨[iD x1,iD x2],rfl,?_⟩|refine ⟨[iD y1,iD y2],rfl,?_⟩)|refine .mk ?_ ?_|refine AK ?_|refine AT ?_|fail));all_goals conv=>whnf)
    all_goals refine ⟨k+1,⟨⟨hlt,hno fun h=>h3 h.2⟩,by show L.length - (k+1)<L.length - k;omega⟩,?_⟩
    all_goals ((repeat' first|exact rfl|((conv=>whnf);first|done|exact suL|refine And.intro ?_ ?_|fail));all_goals conv=>whnf)
    all_goals exact cqN e0
  ·((repeat' ((conv=>whnf);first|exact .intro|refine .ya ?_|refine .na ?_|refine .ys ?_|refine .ns ?_|refine .neg (fun _=>?_) (fun _=>?_)|refine .mk (fun _=>?_) (fun _=>?_)|(first|refine ⟨Int.natCast_nonneg _,_,g1,?_⟩|refine ⟨[iD x1,iD x2],rfl,?_⟩|refine ⟨[iD y1,iD y2],rfl,?_⟩)|refine .mk ?_ ?_|refine AK ?_|refine AT ?_|fail));all_goals conv=>whnf)
   all_goals refine ⟨k+1,⟨⟨hlt,hno fun h=>h1 h.1⟩,by show L.length - (k+1)<L.length - k;omega⟩,?_⟩
   all_goals ((repeat' first|exact rfl|((conv=>whnf);first|done|exact suL|refine And.intro ?_ ?_|fail));all_goals conv=>whnf)
   all_goals exact cqN e0
 ·have h2:¬ (k:Int)<(((L.map linkR).length:Nat):Int):=by omega
  rw[List.take_of_length_le (by omega)] at hk2
  ((repeat' ((conv=>whnf);first|exact .intro|refine .ya ?_|refine .na ?_|refine .ys ?_|refine .ns ?_|refine .neg (fun _=>?_) (fun _=>?_)|refine .mk (fun _=>?_) (fun _=>?_)|refine .mk ?_ ?_|refine AK ?_|refine AT ?_|fail));all_goals conv=>whnf)
  all_goals exact LeD.bf hk2
end Go.Proofs.YtaheflnnigocgaaGreatDoor
end
section
namespace Go.Proofs.YtaheflnnigocgaaGreatDoor
open Go Go.RowKit Go.EYtaheflnnigocgaaGreatDoor
set_option maxRecDepth 100000
set_option maxHeartbeats 400000000
variable {gl:List (Nat×List D)}
theorem linksZ_mem {on:Cl→List Cl} {V:List Cl} {a b:Cl}:(a,b) ∈ linksZ on V↔a ∈ V∧b ∈ on a:=by
 unfold linksZ
 rw[List.mem_flatMap]
 constructor
 ·rintro ⟨c,hc,h⟩
  obtain ⟨y,hy,e⟩:=List.mem_map.1 h
  cases e
  exact ⟨hc,hy⟩
 ·rintro ⟨h1,h2⟩
  exact ⟨a,h1,List.mem_map.2 ⟨b,h2,rfl⟩⟩
abbrev newErr (gl:List (Nat×List D)) (l:List Fl) (e:Int):Prop:=Go.EYtaheflnnigocgaaGreatDoor.Fn Tryz.prog gl 18 [.c (.d (.lst 3 (l.map flD)))] [] 0 (.ret (.tup [(false,[.d (.v (.pointer none))]),(false,[.d (erD e)])])) [] 0 []
theorem Links_e (l:List Fl) (e:Int) (cN:newErr gl l e):FnP Tryz.prog gl 6 [.lst 3 (l.map flD)] (.tup [.v (.slice none 0 0),erD e]):=by
 refine fnP_of_vc (nv:=9999) (cu:=[]) fits mixed Tryz.func6 rfl hoB rfl ?_
 ((repeat' ((conv=>whnf);first|exact .intro|refine .ya ?_|refine .na ?_|refine .ys ?_|refine .ns ?_|refine .neg (fun _=>?_) (fun _=>?_)|refine .mk (fun _=>?_) (fun _=>?_)|refine .inr (X5 (cN.r [] _) ?_)|refine .inl (.inr (X5 (cN.r [] _) ?_))|refine .inl (X5 (cN.r [] _) ?_)|refine .mk ?_ ?_|refine AK ?_|refine AT ?_|fail));all_goals conv=>whnf)
 all_goals exact LeD.rfl
theorem Parts_e (l:List Fl) (e:Int) (cN:newErr gl l e):FnP Tryz.prog gl 10 [.lst 3 (l.map flD)] (.tup [.v (.slice none 0 0),erD e]):=by
 refine fnP_of_vc (nv:=9999) (cu:=[]) fits mixed Tryz.func10 rfl hoB rfl ?_
 ((repeat' ((conv=>whnf);first|exact .intro|refine .ya ?_|refine .na ?_|refine .ys ?_|refine .ns ?_|refine .neg (fun _=>?_) (fun _=>?_)|refine .mk (fun _=>?_) (fun _=>?_)|refine .inr (X5 (cN.r [] _) ?_)|refine .inl (.inr (X5 (cN.r [] _) ?_))|refine .inl (X5 (cN.r [] _) ?_)|refine .mk ?_ ?_|refine AK ?_|refine AT ?_|fail));all_goals conv=>whnf)
 all_goals exact LeD.rfl
theorem Circle_e (l:List Fl) (c:Cl) (e:Int) (cN:newErr gl l e):FnP Tryz.prog gl 13 [.lst 3 (l.map flD),kC c] (.tup [.v (.slice none 0 0),erD e]):=by
 refine fnP_of_vc (nv:=9999) (cu:=[]) fits mixed Tryz.func13 rfl hoB rfl ?_
 ((repeat' ((conv=>whnf);first|exact .intro|refine .ya ?_|refine .na ?_|refine .ys ?_|refine .ns ?_|refine .neg (fun _=>?_) (fun _=>?_)|refine .mk (fun _=>?_) (fun _=>?_)|refine .inr (X5 (cN.r [] _) ?_)|refine .inl (.inr (X5 (cN.r [] _) ?_))|refine .inl (X5 (cN.r [] _) ?_)|refine .mk ?_ ?_|refine AK ?_|refine AT ?_|fail));all_goals conv=>whnf)
 all_goals exact LeD.rfl
abbrev vZ (l:List Fl):List Cl:=l.map clF
noncomputable abbrev qZ (l:List Fl):List (List Cl):=partsZ (ntZ l).g (vZ l)
abbrev NewZ (gl:List (Nat×List D)) (l:List Fl):Prop:=Go.EYtaheflnnigocgaaGreatDoor.Fn Tryz.prog gl 18 [.c (.d (.lst 3 (l.map flD)))] [] 0 (.ret (.tup [(false,[.ptr 4 0]),(false,[.d (.v .nilIface)])])) (newR rdZ l (qZ l)) 15 []
theorem NewZ.net {l:List Fl} (h:gZ l) (c:NewZ gl l):NetOk gl l (ntZ l) (qZ l):=by
 unfold NetOk
 have:=onV_new rdZ (gNd h)
 unfold netR
 rw[this]
 exact c
theorem rowZ {l:List Fl} (h:gZ l):Row (ntZ l).g (vZ l) (qZ l):=row_z (fun _x=>decide_eq_true_iff) (gNd h)
theorem vZ_ok {l:List Fl} (h:gZ l) {c:Cl} (hc:c ∈ vZ l):okP c.1 c.2:=by
 obtain ⟨f,hf,rfl⟩:=List.mem_map.1 hc
 exact (gT h hf).2.2
theorem qZ_sub {l:List Fl} (h:gZ l) {i:Nat} (hi:i<(qZ l).length) {c:Cl} (hc:c ∈ (qZ l)[i]):c ∈ vZ l :=
 of_decide_eq_true ((rowZ h).ps.sub _ (List.getElem_mem hi) c hc)
theorem qZ_few {l:List Fl} (h:gZ l):(qZ l).length≤200∧∀ q ∈ qZ l,q.length≤200:=by
 have hR:=rowZ h
 have hV:(vZ l).length≤200:=by rw[List.length_map];exact h.1
 refine ⟨?_,fun q hq=>Nat.le_trans (nodup_len (p:=vZ l) ((hR.ps.up q hq).imp fun {a b} (hab:les a b) (e:a=b)=>les_irr b (by rwa [e] at hab)) fun c hc=>of_decide_eq_true (hR.ps.sub q hq c hc)) hV⟩
 have key:∀ P:List (List Cl),P.Pairwise (fun p q=>∀ c ∈ p,c ∉ q)→(∀ p ∈ P,(∃ c,c ∈ p)∧∀ c ∈ p,c ∈ vZ l)→∃ H:List Cl,H.length=P.length∧H.Nodup∧∀ c ∈ H,c ∈ vZ l∧∃ p ∈ P,c ∈ p:=fun P=>by
  induction P with
  | nil=>exact fun _ _=>⟨[],rfl,List.nodup_nil,fun c hc=>nomatch hc⟩
  | cons p P ih =>
   intro h1 h2
   obtain ⟨h3,h4⟩:=List.pairwise_cons.1 h1
   obtain ⟨H,g1,g2,g3⟩:=ih h4 fun q hq=>h2 q (by simp[hq])
   obtain ⟨⟨c,hc⟩,hcD⟩:=h2 p (by simp)
   refine ⟨c::H,by simp[g1],List.nodup_cons.2 ⟨fun hcH=>?_,g2⟩,fun d hd=>?_⟩
   ·obtain ⟨_,q,hq,hcq⟩:=g3 c hcH
    exact h3 q hq c hc hcq
   ·rcases List.mem_cons.1 hd with rfl|hd
    ·exact ⟨hcD d hc,p,by simp,hc⟩
    ·obtain ⟨g4,q,hq,g5⟩:=g3 d hd
     exact ⟨g4,q,by simp[hq],g5⟩
 obtain ⟨H,g1,g2,g3⟩:=key (qZ l) hR.ps.two fun p hp=>⟨List.exists_mem_of_ne_nil p (hR.ps.part p hp).ne,fun c hc=>of_decide_eq_true (hR.ps.sub p hp c hc)⟩
 rw[← g1]
 exact Nat.le_trans (nodup_len g2 fun c hc=>(g3 c hc).1) hV
theorem Circle_x {l:List Fl} (h:gZ l) (cN:NewZ gl l) (c:Cl) :
 (∃ e:Int,e≠0∧FnP Tryz.prog gl 13 [.lst 3 (l.map flD),kC c] (.tup [.v (.slice none 0 0),erD e])∧(c ∉ vZ l∨∃ p,∃ hp:p<(qZ l).length,(qZ l)[p]=[c]∧c ∉ (ntZ l).on c))∨
 ∃ p,∃ hp:p<(qZ l).length,∃ a,c ∈ (qZ l)[p]∧Wit (ntZ l).g (qZ l)[p] c a∧FnP Tryz.prog gl 13 [.lst 3 (l.map flD),kC c] (.tup [.lst 2 (cellsR a),.v .nilIface]):=by
 have hN:=cN.net h
 have hR:=rowZ h
 by_cases ho:okP c.1 c.2
 ·by_cases hc:c ∈ vZ l
  ·obtain ⟨p,hp,hcp⟩:=hR.ex hc
   have hat:∀ y ∈ (qZ l)[p],∀ j,(hj:j<(qZ l).length)→y ∈ (qZ l)[j]→j=p:=fun y hy j hj hyj=>hR.at hj hp hyj hy
   have hne:=(hR.ps.part _ (List.getElem_mem hp)).ne
   obtain ⟨d,r,hq⟩:=List.exists_cons_of_ne_nil hne
   by_cases hcc:r≠[]∨d ∈ (ntZ l).on d
   ·refine .inr ⟨p,hp,_,hcp,circZ_wit (hR.ps.part _ (List.getElem_mem hp)) hcp (Part.on (hR.ps.part _ (List.getElem_mem hp)) (hR.ps.up _ (List.getElem_mem hp)) hcp (hR.ps.sub _ (List.getElem_mem hp)) hq hcc),?_⟩
    exact Circle_y (ntZ l) (qZ l) l hN c (ntZ_ok h) hR ho p hp hcp d r hq hcc hat
   ·have hr:r=[]:=Classical.byContradiction fun hh=>hcc (.inl hh)
    subst hr
    have hd:d ∉ (ntZ l).on d:=fun hh=>hcc (.inr hh)
    have hdc:c=d:=by
     rw[hq] at hcp
     exact List.mem_singleton.1 hcp
    subst hdc
    exact .inl ⟨6,by decide,Circle_n (ntZ l) (qZ l) l hN c (ntZ_ok h) ho p hp hq (fun j hj hcj=>hat c hcp j hj hcj) hd,.inr ⟨p,hp,hq,hd⟩⟩
  ·refine .inl ⟨6,by decide,Circle_0 (ntZ l) (qZ l) l hN c ho fun hh=>hc ?_,.inl hc⟩
   obtain ⟨q,hq,hcq⟩:=List.mem_flatten.1 hh
   obtain ⟨i,hi,rfl⟩:=List.getElem_of_mem hq
   exact qZ_sub h hi hcq
 ·exact .inl ⟨1,by decide,Circle_b (ntZ l) (qZ l) l hN c ho,.inl fun hc=>ho (vZ_ok h hc)⟩
def nAA:Nd:=.mk 5 0 [] ⟨1,1,false,false⟩ z0 []
abbrev oneAA:List Fl:=[⟨1,1,[61,65,49]⟩]
theorem frm_AA:frmN nAA False:=by
 unfold nAA
 rw[frm_5]
 exact ⟨rfl,rfl,rfl,noR_z0,by decide⟩
theorem parse_AA:parseZ rfZ [61,65,49]=.ok nAA 0:=by
 have ho:okN nAA:=⟨by decide,by decide,trivial⟩
 have hw:61::wrN nAA=[61,65,49]:=by decide +kernel
 have h:=(parse_wr pbZ frm_AA ho).1 (by decide)
 rw[hw] at h
 unfold parseZ
 rw[if_neg (by decide),List.head?_cons,if_pos rfl]
 exact h
theorem refs_AA:refsZ nAA=[(1,1)]:=by
 have e:cellsN nAA=[(1,1)]:=by decide +kernel
 unfold refsZ
 rw[e]
 unfold sortC
 rw[List.mergeSort_singleton]
 rfl
theorem oneAA_ok:gZ oneAA:=by
 refine ⟨by decide,fun k hk=>?_⟩
 have:k=0:=by simpa using hk
 subst this
 show textZ rfZ [61,65,49]=0
 unfold textZ
 rw[if_neg (by decide),List.head?_cons,if_pos rfl,parse_AA]
theorem oneAA_on:(1,1) ∈ (ntZ oneAA).on (1,1):=by
 show (1,1) ∈ (match parseZ rfZ [61,65,49] with
  | .ok n _=>refsZ n
  | .no _ _=>[])
 rw[parse_AA]
 show (1,1) ∈ refsZ nAA
 rw[refs_AA]
 simp
theorem oneAA_d (cN:NewZ gl oneAA):FnP Tryz.prog gl 13 [.lst 3 (oneAA.map flD),kC (1,1)] (.tup [.lst 2 [[iD 1,iD 1]],.v .nilIface]):=by
 have hV:vZ oneAA=[(1,1)]:=rfl
 rcases Circle_x oneAA_ok cN (1,1) with ⟨_,_,_,h|⟨p,hp,_,h⟩⟩|⟨p,hp,a,h1,h2,h3⟩
 ·exact absurd (by rw[hV];simp) h
 ·exact absurd oneAA_on h
 ·have hs:∀ x ∈ a,x ∈ [(1,1)]:=fun x hx=>by
   rw[← hV]
   exact qZ_sub oneAA_ok hp (h2.sub x hx)
  have hl:=nodup_len h2.nd hs
  have ha:a=[(1,1)]:=by
   have h4:=h2.hd
   cases a with
   | nil=>cases h4
   | cons x r =>
    cases r with
    | nil=>cases h4;rfl
    | cons y r=>simp at hl
  subst ha
  exact h3
theorem wit_i {g:Gr} {p:List Cl} {c:Cl} {a:List Cl} (h:Wit g p c a) {i:Nat} (hi:i<a.length):a[i] ∈ p∧a[i] ∉ a.take i:=by
 refine ⟨h.sub _ (List.getElem_mem hi),fun hh=>?_⟩
 obtain ⟨j,hj,e⟩:=List.getElem_of_mem hh
 rw[List.getElem_take] at e
 rw[List.length_take] at hj
 have:=(List.getElem_inj (xs:=a) (i:=j) (j:=i) (h₀:=by omega) (h₁:=hi) h.nd).1 e
 omega
theorem GraphWitness_d (te:TypeId) (pe:Value) (hV:Has gl (glV te pe)) (hl:Go.EYtaheflnnigocgaaGreatDoor.look gl 0=some lvAll) (l:List Fl) (c:Cl):FnP Tryz.prog gl 4 [.lst 3 (l.map flD),kC c] (.v (.bool true)):=by
 have cf:FnP Tryz.prog gl 13 [.lst 3 (oneAA.map flD),kC (1,1)] (.tup [.lst 2 [[iD 1,iD 1]],.v .nilIface]):=by
  rcases New_d te pe hV hl oneAA with ⟨_,cN⟩|⟨h,_⟩
  ·exact oneAA_d cN
  ·exact absurd oneAA_ok h
 rcases New_d te pe hV hl l with ⟨h,cN⟩|⟨_,e,he,cN⟩
 ·have cL:=Links_d rdZ l h.1 (gNd h) (fun c=>(on_few l c).1) cN
  have cP:=Parts_d rdZ l cN
  have hll:=linksZ_len (fun c=>(on_few l c).1) (vZ l)
  have hvl:(vZ l).length=l.length:=List.length_map _
  have hl2:=h.1
  have hfew:=qZ_few h
  have hQm:((qZ l).map partR).length=(qZ l).length:=List.length_map _
  rcases Circle_x h cN c with ⟨e,he,cC,hno⟩|⟨p,hp,a,hcp,hw,cC⟩
  ·have cK:=linked_d (gl:=gl) (linksZ (ntZ l).on (vZ l)) c c (by omega)
   rcases hno with hcv|⟨p,hp,hq,hcc⟩
   ·have cI:=index_d (gl:=gl) (qZ l) c (by omega) (fun q hq=>Nat.le_trans (hfew.2 q hq) (by decide)) (qZ l).length (Nat.le_refl _) (iD (-1)) (fun k hk _ hck=>hcv (qZ_sub h hk hck)) (.inl ⟨rfl,rfl⟩)
    refine fnP_of_vc (nv:=9999) (cu:=[]) fits mixed Tryz.func4 rfl hoB rfl ?_
    ((repeat' ((conv=>whnf);first|exact .intro|refine .ya ?_|refine .na ?_|refine .ys ?_|refine .ns ?_|refine .neg (fun _=>?_) (fun _=>?_)|refine .mk (fun _=>?_) (fun _=>?_)|refine .inl (.inl (X1 (by first|exact cL|exact cP|exact cC|exact cK|exact cI) ?_))|refine .inl (X1 (by first|exact cL|exact cP|exact cC|exact cK|exact cI) ?_)|refine X1 (by first|exact cL|exact cP|exact cC|exact cK|exact cI) ?_|refine .inr (X1 (by first|exact cf) ?_)|refine .mk ?_ ?_|refine AK ?_|refine AT ?_|fail));all_goals conv=>whnf)
    all_goals first|exact LeD.rfl|exact LeD.vt (by omega)|skip
   ·have hcp:c ∈ (qZ l)[p]:=by rw[hq];simp
    have cI:=index_d (gl:=gl) (qZ l) c (by omega) (fun q hq=>Nat.le_trans (hfew.2 q hq) (by decide)) p (Nat.le_of_lt hp) (nD p) (fun k hk hkp hck=>by have:=(rowZ h).at hk hp hck hcp;omega) (.inr ⟨hp,hcp,rfl⟩)
    have g1:=get_map (f:=partR) hp
    rw[hq] at g1
    have h3:¬ ((p:Nat):Int)<0:=by omega
    have hnk:¬ (c,c) ∈ linksZ (ntZ l).on (vZ l):=fun hh=>hcc (linksZ_mem.1 hh).2
    refine fnP_of_vc (nv:=9999) (cu:=[]) fits mixed Tryz.func4 rfl hoB rfl ?_
    ((repeat' ((conv=>whnf);first|exact .intro|refine .ya ?_|refine .na ?_|refine .ys ?_|refine .ns ?_|refine .neg (fun _=>?_) (fun _=>?_)|refine .mk (fun _=>?_) (fun _=>?_)|refine .inl (.inl (X1 (by first|exact cL|exact cP|exact cC|exact cK|exact cI) ?_))|refine .inl (X1 (by first|exact cL|exact cP|exact cC|exact cK|exact cI) ?_)|refine X1 (by first|exact cL|exact cP|exact cC|exact cK|exact cI) ?_|refine .inr (X1 (by first|exact cf) ?_)|(refine ⟨Int.natCast_nonneg _,_,g1,?_⟩)|refine .mk ?_ ?_|refine AK ?_|refine AT ?_|fail));all_goals conv=>whnf)
    all_goals first|exact LeD.rfl|exact LeD.vt (by omega)|skip
  ·have cI:=index_d (gl:=gl) (qZ l) c (by omega) (fun q hq=>Nat.le_trans (hfew.2 q hq) (by decide)) p (Nat.le_of_lt hp) (nD p) (fun k hk hkp hck=>by have:=(rowZ h).at hk hp hck hcp;omega) (.inr ⟨hp,hcp,rfl⟩)
   have hal:0<a.length:=by
    have:=hw.hd
    cases a with
    | nil=>cases this
    | cons x r=>simp
   have hla:(cellsR a).length=a.length:=List.length_map _
   have ha2:a.length≤200:=Nat.le_trans (nodup_len hw.nd hw.sub) (hfew.2 _ (List.getElem_mem hp))
   have g0:(cellsR a)[(0:Int).toNat]?=some (rowC c):=by
    have:=get_map (f:=rowC) hal
    rw[head_at hw.hd hal] at this
    exact this
   have h3:¬ ((p:Nat):Int)<0:=by omega
   have h4:¬ (((cellsR a).length:Nat):Int)=0:=by omega
   have h5:c.1=c.1∧c.2=c.2∧True:=⟨rfl,rfl,trivial⟩
   have g1:=get_map (f:=partR) hp
   refine fnP_of_vc (nv:=9999) (cu:=[]) fits mixed Tryz.func4 rfl hoB rfl ?_
   ((repeat' ((conv=>whnf);first|exact .intro|refine .ya ?_|refine .na ?_|refine .ys ?_|refine .ns ?_|refine .neg (fun _=>?_) (fun _=>?_)|refine .mk (fun _=>?_) (fun _=>?_)|refine .inl (.inl (X1 (by first|exact cL|exact cP|exact cC|exact cI) ?_))|refine .inl (X1 (by first|exact cL|exact cP|exact cC|exact cI) ?_)|refine X1 (by first|exact cL|exact cP|exact cC|exact cI) ?_|refine .inr (X1 (by first|exact cf) ?_)|(first|refine ⟨Int.le_refl _,_,g0,?_⟩|refine ⟨_,g0,?_⟩)|refine .mk ?_ ?_|refine AK ?_|refine AT ?_|fail));all_goals conv=>whnf)
   refine ⟨{ σ:=Nat,fr:=fun k=>[(16,.c (.d (nD k)))],ks:=[],L:=fun _=>[],ex:=0,I:=fun k=>k≤a.length,μ:=fun k=>a.length - k },⟨0,Nat.zero_le _,?_⟩,fun (k:Nat) hk=>?_⟩
   ·((repeat' first|exact rfl|((conv=>whnf);first|done|exact suL|refine And.intro ?_ ?_|fail));all_goals conv=>whnf)
   replace hk:k≤a.length:=hk
   by_cases hlt:k<a.length
   ·have h6:(k:Int)<(((cellsR a).length:Nat):Int):=by omega
    have g2:=get_map (f:=rowC) hlt
    have e0:=wN (i:=k) (by omega)
    obtain ⟨w1,w2⟩:=wit_i hw hlt
    have c1:=Has_g (gl:=gl) (qZ l)[p] a[k] (Nat.le_trans (hfew.2 _ (List.getElem_mem hp)) (by decide))
    have c2:=Has_g (gl:=gl) (a.take k) a[k] (by rw[List.length_take];omega)
    have hmk:(k+1) % a.length<a.length:=Nat.mod_lt _ hal
    have g3:=get_map (f:=rowC) hmk
    have cK:=linked_d (gl:=gl) (linksZ (ntZ l).on (vZ l)) a[k] a[(k+1) % a.length] (by omega)
    have w3:(a[k],a[(k+1) % a.length]) ∈ linksZ (ntZ l).on (vZ l):=linksZ_mem.2 ⟨qZ_sub h hp w1,hw.lnk k hlt _ hmk rfl⟩
    have hcut:List.drop (0:Int).toNat (List.take (((k:Nat):Int)).toNat (cellsR a))=cellsR (a.take k):=by
     show ((a.map rowC).take k).drop 0=(a.take k).map rowC
     rw[List.drop_zero,List.map_take]
    rw[← hcut] at c2
    have er:(IntKind.i64.wrap ((k:Int)+1)).tmod (((cellsR a).length:Nat):Int)=(((k+1) % a.length:Nat):Int):=by
     rw[e0,hla]
     rfl
    have g4:(cellsR a)[((IntKind.i64.wrap ((k:Int)+1)).tmod (((cellsR a).length:Nat):Int)).toNat]?=some (rowC a[(k+1) % a.length]):=by
     rw[er]
     exact g3
    have g5:0≤(IntKind.i64.wrap ((k:Int)+1)).tmod (((cellsR a).length:Nat):Int):=by
     rw[er]
     exact Int.natCast_nonneg _
    have hb:(0:Int)≤0∧(0:Int)≤((k:Nat):Int)∧((k:Nat):Int)≤(((cellsR a).length:Nat):Int):=by omega
    ((repeat' ((conv=>whnf);first|exact .intro|refine .ya ?_|refine .na ?_|refine .ys ?_|refine .ns ?_|refine .neg (fun _=>?_) (fun _=>?_)|refine .mk (fun _=>?_) (fun _=>?_)|refine .inl (.inl (X1 (by first|exact c1|exact c2|exact cK) ?_))|refine .inl (X1 (by first|exact c1|exact c2|exact cK) ?_)|refine X1 (by first|exact c1|exact c2|exact cK) ?_|(first|refine ⟨hb,?_⟩|refine ⟨g5,_,g4,?_⟩|refine ⟨Int.natCast_nonneg _,_,g1,?_⟩|refine ⟨Int.natCast_nonneg _,_,g2,?_⟩|refine ⟨_,g2,?_⟩)|refine .mk ?_ ?_|refine AK ?_|refine AT ?_|fail));all_goals conv=>whnf)
    all_goals refine ⟨k+1,⟨hlt,by show a.length - (k+1)<a.length - k;omega⟩,?_⟩
    all_goals ((repeat' first|exact rfl|((conv=>whnf);first|done|exact suL|refine And.intro ?_ ?_|fail));all_goals conv=>whnf)
    all_goals first|exact cqN e0|skip
   ·obtain rfl:k=a.length:=by omega
    have h6:¬ ((a.length:Nat):Int)<(((cellsR a).length:Nat):Int):=by omega
    ((repeat' ((conv=>whnf);first|exact .intro|refine .ya ?_|refine .na ?_|refine .ys ?_|refine .ns ?_|refine .neg (fun _=>?_) (fun _=>?_)|refine .mk (fun _=>?_) (fun _=>?_)|refine .mk ?_ ?_|refine AK ?_|refine AT ?_|fail));all_goals conv=>whnf)
    all_goals exact LeD.rfl
 ·have cL:=Links_e l e cN
  have cP:=Parts_e l e cN
  have cC:=Circle_e l c e cN
  refine fnP_of_vc (nv:=9999) (cu:=[]) fits mixed Tryz.func4 rfl hoB rfl ?_
  ((repeat' ((conv=>whnf);first|exact .intro|refine .ya ?_|refine .na ?_|refine .ys ?_|refine .ns ?_|refine .neg (fun _=>?_) (fun _=>?_)|refine .mk (fun _=>?_) (fun _=>?_)|refine .inl (.inl (X1 (by first|exact cL|exact cP|exact cC) ?_))|refine .inl (X1 (by first|exact cL|exact cP|exact cC) ?_)|refine X1 (by first|exact cL|exact cP|exact cC) ?_|refine .inr (X1 (by first|exact cf) ?_)|refine .mk ?_ ?_|refine AK ?_|refine AT ?_|fail));all_goals conv=>whnf)
  all_goals first|exact LeD.rfl|exact LeD.vt fun h=>nomatch h|skip
end Go.Proofs.YtaheflnnigocgaaGreatDoor
end
section
namespace Go.Proofs.YtaheflnnigocgaaGreatDoor
open Go Go.RowKit Go.EYtaheflnnigocgaaGreatDoor
set_option maxRecDepth 100000
abbrev glK (te:TypeId) (pe:Value) (mx:Int):List (Nat×List D):=(0,lvAll)::(6,[iD mx])::glV te pe
theorem glK_has (te:TypeId) (pe:Value) (mx:Int):Has (glK te pe mx) (glV te pe):=by
 intro g l hl
 rw[look_cons]
 split
 ·rename_i e;subst e;exact absurd hl (by rw[show Go.EYtaheflnnigocgaaGreatDoor.look (glV te pe) 0=none from rfl];simp)
 ·rw[look_cons]
  split
  ·rename_i e;subst e;exact absurd hl (by rw[show Go.EYtaheflnnigocgaaGreatDoor.look (glV te pe) 6=none from rfl];simp)
  ·exact hl
theorem GraphWitness_g (te:TypeId) (pe:Value) (mx:Int) (l:List Fl) (c:Cl):FnP Tryz.prog (glK te pe mx) 4 [.lst 3 (l.map flD),kC c] (.v (.bool true)) :=
 GraphWitness_d te pe (glK_has te pe mx) rfl l c
end Go.Proofs.YtaheflnnigocgaaGreatDoor
end
