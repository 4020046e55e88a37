/- Proved: a part of what the law is proved with (the reckoner, contracts of functions, plain laws). Conditions: as each says. -/
import Derived.Test.YtfkjhfdpphfjhaaGreatDoorXGl
namespace Go.Proofs.YtfkjhfdpphfjhaaGreatDoor
open Go Go.EYtfkjhfdpphfjhaaGreatDoor
set_option maxRecDepth 100000
theorem wd_len {s:List UInt8} {i:Nat} (hs:s.length≤200):(wdAt s i).length≤200:=by
 unfold wdAt
 rw[List.length_take,List.length_drop]
 omega
theorem nw {s:List UInt8} {i:Nat} (_hi:i<s.length) (hw:wordlyP (s.getD ((i:Nat):Int).toNat 0)) (x:UInt8) (hx:¬ wordlyP x):¬ (((s.getD ((i:Nat):Int).toNat 0).toNat:Nat):Int)=((x.toNat:Nat):Int):=fun e=>hx (by
 have:s.getD ((i:Nat):Int).toNat 0=x:=UInt8.toNat_inj.1 (by omega)
 rw[← this];exact hw)
theorem getD_of {s:List UInt8} {i:Nat} {c:UInt8} (h:s[i]?=some c):s.getD ((i:Nat):Int).toNat 0=c:=by
 rw[List.getD,show ((i:Nat):Int).toNat=i by omega,h]
 rfl
theorem prim_other {gl:List (Nat×List D)} {s:List UInt8} {i d:Nat} {c:UInt8} (_hs:s.length≤200) (h:s[i]?=some c) (h40:c≠40) (h34:c≠34) (h35:c≠35) (hw:¬ wordlyP c):Gives1 gl 100 [.c (.ptr 0 0)] s i d (.no i 2):=by
 have hi:=lt_of_get h
 have hne:∀ x:UInt8,c≠x→¬ (((s.getD ((i:Nat):Int).toNat 0).toNat:Nat):Int)=((x.toNat:Nat):Int):=fun x hx e=>hx (by rw[getD_of h] at e;exact UInt8.toNat_inj.1 (by omega))
 have c2:=fail_d (gl:=gl) s i d i 2
 have c0:=wordly_n (gl:=gl) (fun hh=>hw ((wdly_iff c).1 hh))
 rw[← getD_of h] at c0
 have h2:¬ ((i:Nat):Int)=((s.length:Nat):Int):=by omega
 have h3:¬ (((s.getD ((i:Nat):Int).toNat 0).toNat:Nat):Int)=40:=hne 40 h40
 have h4:¬ (((s.getD ((i:Nat):Int).toNat 0).toNat:Nat):Int)=34:=hne 34 h34
 have h5:¬ (((s.getD ((i:Nat):Int).toNat 0).toNat:Nat):Int)=35:=hne 35 h35
 unfold Gives1
 refine S1 Tryz.func100 rfl ?_
 ((repeat' ((conv=>whnf);first|exact .intro|refine G ?_|intro _|refine C5 c2 [0] ?_|refine C1 c0 ?_|refine .mk ?_ ?_|refine H ?_|fail));all_goals conv=>whnf)
 ((repeat' first|exact rfl|((conv=>whnf);first|done|exact suL|refine And.intro ?_ ?_|fail));all_goals conv=>whnf)
theorem prim_plain {gl:List (Nat×List D)} (te:TypeId) (pe:Value) (hV:Has gl (glV te pe)) {rf:List UInt8→Option Rf} (hR:RefsOk rf) {s:List UInt8} {i d:Nat} {c:UInt8} (hs:s.length≤200) (h:s[i]?=some c) (hw:wordlyP c) (hq:¬ (s[wdE s i]?=some 40∧clZ (wdAt s i)=true)) {n:Nd} (hn:plZ rf (wdAt s i)=some n) :
 Gives1 gl 100 [.c (.ptr 0 0)] s i d (.ok n (wdE s i)):=by
 have hi:=lt_of_get h
 have hwl:=wd_len (i:=i) hs
 have he:=wdE_le (show i≤s.length by omega)
 rw[← getD_of h] at hw
 have c0:=wordly_y (gl:=gl) ((wdly_iff _).2 hw)
 have h2:¬ ((i:Nat):Int)=((s.length:Nat):Int):=by omega
 have h3:¬ (((s.getD ((i:Nat):Int).toNat 0).toNat:Nat):Int)=40:=nw hi hw 40 (by decide)
 have h4:¬ (((s.getD ((i:Nat):Int).toNat 0).toNat:Nat):Int)=34:=nw hi hw 34 (by decide)
 have h5:¬ (((s.getD ((i:Nat):Int).toNat 0).toNat:Nat):Int)=35:=nw hi hw 35 (by decide)
 have c1:=word_d (gl:=gl) s i d (by omega) hs
 have c2:=FnP.moreG (plain_s te pe hR hwl hn) hV
 obtain ⟨k,m,t,a,b,ks⟩:=n
 change FnP Tryz.prog (gl) 151 _ (.tup [.agg [iD k,iD m,.str t,iD a.c,iD a.r,tD a.fc,tD a.fr,iD b.c,iD b.r,tD b.fc,tD b.fr,.lst 12 (Nd.csL ks)],.v (.bool true)]) at c2
 unfold Gives1
 rcases Nat.lt_or_ge (wdE s i) s.length with hl2|hl2
 ·have h6:((wdE s i:Nat):Int)<((s.length:Nat):Int):=by omega
  by_cases h7:(((s.getD ((wdE s i:Nat):Int).toNat 0).toNat:Nat):Int)=40
  ·have c3:=called_n (gl:=gl) hwl (by
    cases hc:clZ (wdAt s i) with
    | false=>rfl
    | true=>exact absurd ⟨(byt 40 hl2).1 h7,hc⟩ hq)
   generalize wdE s i=j at *
   generalize wdAt s i=w at *
   refine S1 Tryz.func100 rfl ?_
   ((repeat' ((conv=>whnf);first|exact .intro|refine G ?_|intro _|refine C5 c1 [0] ?_|refine C1 c0 ?_|refine C1 c2 ?_|refine C1 c3 ?_|refine .mk ?_ ?_|refine H ?_|fail));all_goals conv=>whnf)
   ((repeat' first|exact rfl|((conv=>whnf);first|done|exact suL|refine And.intro ?_ ?_|fail));all_goals conv=>whnf)
  ·generalize wdE s i=j at *
   generalize wdAt s i=w at *
   refine S1 Tryz.func100 rfl ?_
   ((repeat' ((conv=>whnf);first|exact .intro|refine G ?_|intro _|refine C5 c1 [0] ?_|refine C1 c0 ?_|refine C1 c2 ?_|refine .mk ?_ ?_|refine H ?_|fail));all_goals conv=>whnf)
   ((repeat' first|exact rfl|((conv=>whnf);first|done|exact suL|refine And.intro ?_ ?_|fail));all_goals conv=>whnf)
 ·have h6:¬ ((wdE s i:Nat):Int)<((s.length:Nat):Int):=by omega
  generalize wdE s i=j at *
  generalize wdAt s i=w at *
  refine S1 Tryz.func100 rfl ?_
  ((repeat' ((conv=>whnf);first|exact .intro|refine G ?_|intro _|refine C5 c1 [0] ?_|refine C1 c0 ?_|refine C1 c2 ?_|refine .mk ?_ ?_|refine H ?_|fail));all_goals conv=>whnf)
  ((repeat' first|exact rfl|((conv=>whnf);first|done|exact suL|refine And.intro ?_ ?_|fail));all_goals conv=>whnf)
theorem prim_plainn {gl:List (Nat×List D)} (te:TypeId) (pe:Value) (hV:Has gl (glV te pe)) {rf:List UInt8→Option Rf} (hR:RefsOk rf) {s:List UInt8} {i d:Nat} {c:UInt8} (hs:s.length≤200) (h:s[i]?=some c) (hw:wordlyP c) (hq:¬ (s[wdE s i]?=some 40∧clZ (wdAt s i)=true)) (hn:plZ rf (wdAt s i)=none) :
 Gives1 gl 100 [.c (.ptr 0 0)] s i d (.no i 2):=by
 have hi:=lt_of_get h
 have hwl:=wd_len (i:=i) hs
 have he:=wdE_le (show i≤s.length by omega)
 rw[← getD_of h] at hw
 have c0:=wordly_y (gl:=gl) ((wdly_iff _).2 hw)
 have h2:¬ ((i:Nat):Int)=((s.length:Nat):Int):=by omega
 have h3:¬ (((s.getD ((i:Nat):Int).toNat 0).toNat:Nat):Int)=40:=nw hi hw 40 (by decide)
 have h4:¬ (((s.getD ((i:Nat):Int).toNat 0).toNat:Nat):Int)=34:=nw hi hw 34 (by decide)
 have h5:¬ (((s.getD ((i:Nat):Int).toNat 0).toNat:Nat):Int)=35:=nw hi hw 35 (by decide)
 have c1:=word_d (gl:=gl) s i d (by omega) hs
 have c2:=FnP.moreG (plain_n te pe hR hwl hn) hV
 have c4:=fail_d (gl:=gl) s (wdE s i) d i 2
 unfold Gives1
 rcases Nat.lt_or_ge (wdE s i) s.length with hl2|hl2
 ·have h6:((wdE s i:Nat):Int)<((s.length:Nat):Int):=by omega
  by_cases h7:(((s.getD ((wdE s i:Nat):Int).toNat 0).toNat:Nat):Int)=40
  ·have c3:=called_n (gl:=gl) hwl (by
    cases hc:clZ (wdAt s i) with
    | false=>rfl
    | true=>exact absurd ⟨(byt 40 hl2).1 h7,hc⟩ hq)
   generalize wdE s i=j at *
   generalize wdAt s i=w at *
   refine S1 Tryz.func100 rfl ?_
   ((repeat' ((conv=>whnf);first|exact .intro|refine G ?_|intro _|refine C5 c1 [0] ?_|refine C5 c4 [0] ?_|refine C1 c0 ?_|refine C1 c2 ?_|refine C1 c3 ?_|refine .mk ?_ ?_|refine H ?_|fail));all_goals conv=>whnf)
   ((repeat' first|exact rfl|((conv=>whnf);first|done|exact suL|refine And.intro ?_ ?_|fail));all_goals conv=>whnf)
  ·generalize wdE s i=j at *
   generalize wdAt s i=w at *
   refine S1 Tryz.func100 rfl ?_
   ((repeat' ((conv=>whnf);first|exact .intro|refine G ?_|intro _|refine C5 c1 [0] ?_|refine C5 c4 [0] ?_|refine C1 c0 ?_|refine C1 c2 ?_|refine .mk ?_ ?_|refine H ?_|fail));all_goals conv=>whnf)
   ((repeat' first|exact rfl|((conv=>whnf);first|done|exact suL|refine And.intro ?_ ?_|fail));all_goals conv=>whnf)
 ·have h6:¬ ((wdE s i:Nat):Int)<((s.length:Nat):Int):=by omega
  generalize wdE s i=j at *
  generalize wdAt s i=w at *
  refine S1 Tryz.func100 rfl ?_
  ((repeat' ((conv=>whnf);first|exact .intro|refine G ?_|intro _|refine C5 c1 [0] ?_|refine C5 c4 [0] ?_|refine C1 c0 ?_|refine C1 c2 ?_|refine .mk ?_ ?_|refine H ?_|fail));all_goals conv=>whnf)
  ((repeat' first|exact rfl|((conv=>whnf);first|done|exact suL|refine And.intro ?_ ?_|fail));all_goals conv=>whnf)
end Go.Proofs.YtfkjhfdpphfjhaaGreatDoor
