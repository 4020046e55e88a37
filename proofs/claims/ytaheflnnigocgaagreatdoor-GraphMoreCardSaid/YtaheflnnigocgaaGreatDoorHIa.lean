/- Proved: a part of what the law is proved with (the reckoner, contracts of functions, plain laws). Conditions: as each says. -/
import Derived.Test.YtaheflnnigocgaaGreatDoorHGl
section
namespace Go.Proofs.YtaheflnnigocgaaGreatDoor
open Go Go.EYtaheflnnigocgaaGreatDoor
set_option maxRecDepth 100000
theorem wd_len {s:List UInt8} {i:Nat} (hs:s.length≤200):(wdAt s i).length≤200:=by
 unfold wdAt
 rw[List.length_take,List.length_drop]
 omega
theorem nw {s:List UInt8} {i:Nat} (_hi:i<s.length) (hw:wordlyP (s.getD ((i:Nat):Int).toNat 0)) (x:UInt8) (hx:¬ wordlyP x):¬ (((s.getD ((i:Nat):Int).toNat 0).toNat:Nat):Int)=((x.toNat:Nat):Int):=fun e=>hx (by
 have:s.getD ((i:Nat):Int).toNat 0=x:=UInt8.toNat_inj.1 (by omega)
 rw[← this];exact hw)
theorem getD_of {s:List UInt8} {i:Nat} {c:UInt8} (h:s[i]?=some c):s.getD ((i:Nat):Int).toNat 0=c:=by
 rw[List.getD,show ((i:Nat):Int).toNat=i by omega,h]
 rfl
theorem prim_other {gl:List (Nat×List D)} {s:List UInt8} {i d:Nat} {c:UInt8} (_hs:s.length≤200) (h:s[i]?=some c) (h40:c≠40) (h34:c≠34) (h35:c≠35) (hw:¬ wordlyP c):Gives1 gl 64 [.c (.ptr 0 0)] s i d (.no i 2):=by
 have hi:=lt_of_get h
 have hne:∀ x:UInt8,c≠x→¬ (((s.getD ((i:Nat):Int).toNat 0).toNat:Nat):Int)=((x.toNat:Nat):Int):=fun x hx e=>hx (by rw[getD_of h] at e;exact UInt8.toNat_inj.1 (by omega))
 have c2:=fail_d (gl:=gl) s i d i 2
 have c0:=wordly_n (gl:=gl) (fun hh=>hw ((wdly_iff c).1 hh))
 rw[← getD_of h] at c0
 have h2:¬ ((i:Nat):Int)=((s.length:Nat):Int):=by omega
 have h3:¬ (((s.getD ((i:Nat):Int).toNat 0).toNat:Nat):Int)=40:=hne 40 h40
 have h4:¬ (((s.getD ((i:Nat):Int).toNat 0).toNat:Nat):Int)=34:=hne 34 h34
 have h5:¬ (((s.getD ((i:Nat):Int).toNat 0).toNat:Nat):Int)=35:=hne 35 h35
 unfold Gives1
 refine fn_of_vc (nv:=9999) (cu:=[]) fits mixed Tryz.func64 rfl hoB rfl rfl rfl rfl ?_
 ((repeat' ((conv=>whnf);first|exact .intro|refine .ya ?_|refine .na ?_|refine .ys ?_|refine .ns ?_|refine .neg (fun _=>?_) (fun _=>?_)|refine .mk (fun _=>?_) (fun _=>?_)|refine .inr (X5 (c2.r [0] _) ?_)|refine .inl (.inr (X5 (c2.r [0] _) ?_))|refine .inl (X5 (c2.r [0] _) ?_)|refine .inl (.inl (X1 (c0) ?_))|refine .inl (X1 (c0) ?_)|refine X1 (c0) ?_|refine .mk ?_ ?_|refine AK ?_|refine AT ?_|fail));all_goals conv=>whnf)
 ((repeat' first|exact rfl|((conv=>whnf);first|done|exact suL|refine And.intro ?_ ?_|fail));all_goals conv=>whnf)
theorem prim_plain {gl:List (Nat×List D)} (te:TypeId) (pe:Value) (hV:Has gl (glV te pe)) {rf:List UInt8→Option Rf} (hR:RefsOk rf) {s:List UInt8} {i d:Nat} {c:UInt8} (hs:s.length≤200) (h:s[i]?=some c) (hw:wordlyP c) (hq:¬ (s[wdE s i]?=some 40∧clZ (wdAt s i)=true)) {n:Nd} (hn:plZ rf (wdAt s i)=some n) :
 Gives1 gl 64 [.c (.ptr 0 0)] s i d (.ok n (wdE s i)):=by
 have hi:=lt_of_get h
 have hwl:=wd_len (i:=i) hs
 have he:=wdE_le (show i≤s.length by omega)
 rw[← getD_of h] at hw
 have c0:=wordly_y (gl:=gl) ((wdly_iff _).2 hw)
 have h2:¬ ((i:Nat):Int)=((s.length:Nat):Int):=by omega
 have h3:¬ (((s.getD ((i:Nat):Int).toNat 0).toNat:Nat):Int)=40:=nw hi hw 40 (by decide)
 have h4:¬ (((s.getD ((i:Nat):Int).toNat 0).toNat:Nat):Int)=34:=nw hi hw 34 (by decide)
 have h5:¬ (((s.getD ((i:Nat):Int).toNat 0).toNat:Nat):Int)=35:=nw hi hw 35 (by decide)
 have c1:=word_d (gl:=gl) s i d (by omega) hs
 have c2:=FnP.moreG (plain_s te pe hR hwl hn) hV
 obtain ⟨k,m,t,a,b,ks⟩:=n
 change FnP Tryz.prog (gl) 102 _ (.tup [.agg [iD k,iD m,.str t,iD a.c,iD a.r,tD a.fc,tD a.fr,iD b.c,iD b.r,tD b.fc,tD b.fr,.lst 12 (Nd.csL ks)],.v (.bool true)]) at c2
 unfold Gives1
 rcases Nat.lt_or_ge (wdE s i) s.length with hl2|hl2
 ·have h6:((wdE s i:Nat):Int)<((s.length:Nat):Int):=by omega
  by_cases h7:(((s.getD ((wdE s i:Nat):Int).toNat 0).toNat:Nat):Int)=40
  ·have c3:=called_n (gl:=gl) hwl (by
    cases hc:clZ (wdAt s i) with
    | false=>rfl
    | true=>exact absurd ⟨(byt 40 hl2).1 h7,hc⟩ hq)
   generalize wdE s i=j at *
   generalize wdAt s i=w at *
   refine fn_of_vc (nv:=9999) (cu:=[]) fits mixed Tryz.func64 rfl hoB rfl rfl rfl rfl ?_
   ((repeat' ((conv=>whnf);first|exact .intro|refine .ya ?_|refine .na ?_|refine .ys ?_|refine .ns ?_|refine .neg (fun _=>?_) (fun _=>?_)|refine .mk (fun _=>?_) (fun _=>?_)|refine .inr (X5 (c1.r [0] _) ?_)|refine .inl (.inr (X5 (c1.r [0] _) ?_))|refine .inl (X5 (c1.r [0] _) ?_)|refine .inl (.inl (X1 (by first|exact c0|exact c2|exact c3) ?_))|refine .inl (X1 (by first|exact c0|exact c2|exact c3) ?_)|refine X1 (by first|exact c0|exact c2|exact c3) ?_|refine .mk ?_ ?_|refine AK ?_|refine AT ?_|fail));all_goals conv=>whnf)
   ((repeat' first|exact rfl|((conv=>whnf);first|done|exact suL|refine And.intro ?_ ?_|fail));all_goals conv=>whnf)
  ·generalize wdE s i=j at *
   generalize wdAt s i=w at *
   refine fn_of_vc (nv:=9999) (cu:=[]) fits mixed Tryz.func64 rfl hoB rfl rfl rfl rfl ?_
   ((repeat' ((conv=>whnf);first|exact .intro|refine .ya ?_|refine .na ?_|refine .ys ?_|refine .ns ?_|refine .neg (fun _=>?_) (fun _=>?_)|refine .mk (fun _=>?_) (fun _=>?_)|refine .inr (X5 (c1.r [0] _) ?_)|refine .inl (.inr (X5 (c1.r [0] _) ?_))|refine .inl (X5 (c1.r [0] _) ?_)|refine .inl (.inl (X1 (by first|exact c0|exact c2) ?_))|refine .inl (X1 (by first|exact c0|exact c2) ?_)|refine X1 (by first|exact c0|exact c2) ?_|refine .mk ?_ ?_|refine AK ?_|refine AT ?_|fail));all_goals conv=>whnf)
   ((repeat' first|exact rfl|((conv=>whnf);first|done|exact suL|refine And.intro ?_ ?_|fail));all_goals conv=>whnf)
 ·have h6:¬ ((wdE s i:Nat):Int)<((s.length:Nat):Int):=by omega
  generalize wdE s i=j at *
  generalize wdAt s i=w at *
  refine fn_of_vc (nv:=9999) (cu:=[]) fits mixed Tryz.func64 rfl hoB rfl rfl rfl rfl ?_
  ((repeat' ((conv=>whnf);first|exact .intro|refine .ya ?_|refine .na ?_|refine .ys ?_|refine .ns ?_|refine .neg (fun _=>?_) (fun _=>?_)|refine .mk (fun _=>?_) (fun _=>?_)|refine .inr (X5 (c1.r [0] _) ?_)|refine .inl (.inr (X5 (c1.r [0] _) ?_))|refine .inl (X5 (c1.r [0] _) ?_)|refine .inl (.inl (X1 (by first|exact c0|exact c2) ?_))|refine .inl (X1 (by first|exact c0|exact c2) ?_)|refine X1 (by first|exact c0|exact c2) ?_|refine .mk ?_ ?_|refine AK ?_|refine AT ?_|fail));all_goals conv=>whnf)
  ((repeat' first|exact rfl|((conv=>whnf);first|done|exact suL|refine And.intro ?_ ?_|fail));all_goals conv=>whnf)
theorem prim_plainn {gl:List (Nat×List D)} (te:TypeId) (pe:Value) (hV:Has gl (glV te pe)) {rf:List UInt8→Option Rf} (hR:RefsOk rf) {s:List UInt8} {i d:Nat} {c:UInt8} (hs:s.length≤200) (h:s[i]?=some c) (hw:wordlyP c) (hq:¬ (s[wdE s i]?=some 40∧clZ (wdAt s i)=true)) (hn:plZ rf (wdAt s i)=none) :
 Gives1 gl 64 [.c (.ptr 0 0)] s i d (.no i 2):=by
 have hi:=lt_of_get h
 have hwl:=wd_len (i:=i) hs
 have he:=wdE_le (show i≤s.length by omega)
 rw[← getD_of h] at hw
 have c0:=wordly_y (gl:=gl) ((wdly_iff _).2 hw)
 have h2:¬ ((i:Nat):Int)=((s.length:Nat):Int):=by omega
 have h3:¬ (((s.getD ((i:Nat):Int).toNat 0).toNat:Nat):Int)=40:=nw hi hw 40 (by decide)
 have h4:¬ (((s.getD ((i:Nat):Int).toNat 0).toNat:Nat):Int)=34:=nw hi hw 34 (by decide)
 have h5:¬ (((s.getD ((i:Nat):Int).toNat 0).toNat:Nat):Int)=35:=nw hi hw 35 (by decide)
 have c1:=word_d (gl:=gl) s i d (by omega) hs
 have c2:=FnP.moreG (plain_n te pe hR hwl hn) hV
 have c4:=fail_d (gl:=gl) s (wdE s i) d i 2
 unfold Gives1
 rcases Nat.lt_or_ge (wdE s i) s.length with hl2|hl2
 ·have h6:((wdE s i:Nat):Int)<((s.length:Nat):Int):=by omega
  by_cases h7:(((s.getD ((wdE s i:Nat):Int).toNat 0).toNat:Nat):Int)=40
  ·have c3:=called_n (gl:=gl) hwl (by
    cases hc:clZ (wdAt s i) with
    | false=>rfl
    | true=>exact absurd ⟨(byt 40 hl2).1 h7,hc⟩ hq)
   generalize wdE s i=j at *
   generalize wdAt s i=w at *
   refine fn_of_vc (nv:=9999) (cu:=[]) fits mixed Tryz.func64 rfl hoB rfl rfl rfl rfl ?_
   ((repeat' ((conv=>whnf);first|exact .intro|refine .ya ?_|refine .na ?_|refine .ys ?_|refine .ns ?_|refine .neg (fun _=>?_) (fun _=>?_)|refine .mk (fun _=>?_) (fun _=>?_)|refine .inr (X5 (c1.r [0] _) ?_)|refine .inl (.inr (X5 (c1.r [0] _) ?_))|refine .inl (X5 (c1.r [0] _) ?_)|refine .inr (X5 (c4.r [0] _) ?_)|refine .inl (.inr (X5 (c4.r [0] _) ?_))|refine .inl (X5 (c4.r [0] _) ?_)|refine .inl (.inl (X1 (by first|exact c0|exact c2|exact c3) ?_))|refine .inl (X1 (by first|exact c0|exact c2|exact c3) ?_)|refine X1 (by first|exact c0|exact c2|exact c3) ?_|refine .mk ?_ ?_|refine AK ?_|refine AT ?_|fail));all_goals conv=>whnf)
   ((repeat' first|exact rfl|((conv=>whnf);first|done|exact suL|refine And.intro ?_ ?_|fail));all_goals conv=>whnf)
  ·generalize wdE s i=j at *
   generalize wdAt s i=w at *
   refine fn_of_vc (nv:=9999) (cu:=[]) fits mixed Tryz.func64 rfl hoB rfl rfl rfl rfl ?_
   ((repeat' ((conv=>whnf);first|exact .intro|refine .ya ?_|refine .na ?_|refine .ys ?_|refine .ns ?_|refine .neg (fun _=>?_) (fun _=>?_)|refine .mk (fun _=>?_) (fun _=>?_)|refine .inr (X5 (c1.r [0] _) ?_)|refine .inl (.inr (X5 (c1.r [0] _) ?_))|refine .inl (X5 (c1.r [0] _) ?_)|refine .inr (X5 (c4.r [0] _) ?_)|refine .inl (.inr (X5 (c4.r [0] _) ?_))|refine .inl (X5 (c4.r [0] _) ?_)|refine .inl (.inl (X1 (by first|exact c0|exact c2) ?_))|refine .inl (X1 (by first|exact c0|exact c2) ?_)|refine X1 (by first|exact c0|exact c2) ?_|refine .mk ?_ ?_|refine AK ?_|refine AT ?_|fail));all_goals conv=>whnf)
   ((repeat' first|exact rfl|((conv=>whnf);first|done|exact suL|refine And.intro ?_ ?_|fail));all_goals conv=>whnf)
 ·have h6:¬ ((wdE s i:Nat):Int)<((s.length:Nat):Int):=by omega
  generalize wdE s i=j at *
  generalize wdAt s i=w at *
  refine fn_of_vc (nv:=9999) (cu:=[]) fits mixed Tryz.func64 rfl hoB rfl rfl rfl rfl ?_
  ((repeat' ((conv=>whnf);first|exact .intro|refine .ya ?_|refine .na ?_|refine .ys ?_|refine .ns ?_|refine .neg (fun _=>?_) (fun _=>?_)|refine .mk (fun _=>?_) (fun _=>?_)|refine .inr (X5 (c1.r [0] _) ?_)|refine .inl (.inr (X5 (c1.r [0] _) ?_))|refine .inl (X5 (c1.r [0] _) ?_)|refine .inr (X5 (c4.r [0] _) ?_)|refine .inl (.inr (X5 (c4.r [0] _) ?_))|refine .inl (X5 (c4.r [0] _) ?_)|refine .inl (.inl (X1 (by first|exact c0|exact c2) ?_))|refine .inl (X1 (by first|exact c0|exact c2) ?_)|refine X1 (by first|exact c0|exact c2) ?_|refine .mk ?_ ?_|refine AK ?_|refine AT ?_|fail));all_goals conv=>whnf)
  ((repeat' first|exact rfl|((conv=>whnf);first|done|exact suL|refine And.intro ?_ ?_|fail));all_goals conv=>whnf)
end Go.Proofs.YtaheflnnigocgaaGreatDoor
end
section
namespace Go.Proofs.YtaheflnnigocgaaGreatDoor
open Go Go.EYtaheflnnigocgaaGreatDoor
set_option maxRecDepth 100000
variable {gl:List (Nat×List D)}
theorem within_2f (s w:List UInt8) (i p g:Nat):Go.EYtaheflnnigocgaaGreatDoor.Fn Tryz.prog gl 62 [.c (.ptr 0 0),.c (.d (iD (p:Int))),.c (.fn g [(1,0),(2,0)])] [(0,rdB s i 30),(1,rpB),(2,txB w)] 3 (.panic (.d (fltD p 4))) [] 3 []:=by
 have c1:=fail_d (gl:=gl) s i 30 p 4
 refine fn_of_vc (nv:=9999) (cu:=[]) fits mixed Tryz.func62 rfl hoB rfl rfl rfl rfl ?_
 ((repeat' ((conv=>whnf);first|exact .intro|refine .ya ?_|refine .na ?_|refine .ys ?_|refine .ns ?_|refine .neg (fun _=>?_) (fun _=>?_)|refine .mk (fun _=>?_) (fun _=>?_)|refine .inr (X5 (c1.r [0] _) ?_)|refine .inl (.inr (X5 (c1.r [0] _) ?_))|refine .inl (X5 (c1.r [0] _) ?_)|refine .mk ?_ ?_|refine AK ?_|refine AT ?_|fail));all_goals conv=>whnf)
 ((repeat' first|exact rfl|((conv=>whnf);first|done|exact suL|refine And.intro ?_ ?_|fail));all_goals conv=>whnf)
theorem prim_callf {s:List UInt8} {i:Nat} {c:UInt8} (hs:s.length≤200) (h:s[i]?=some c) (hw:wordlyP c) (hq:s[wdE s i]?=some 40) (hc:clZ (wdAt s i)=true) :
 Gives1 gl 64 [.c (.ptr 0 0)] s i 30 (.no i 4):=by
 have hi:=lt_of_get h
 have hwl:=wd_len (i:=i) hs
 have hl2:=lt_of_get hq
 rw[← getD_of h] at hw
 have c0:=wordly_y (gl:=gl) ((wdly_iff _).2 hw)
 have h2:¬ ((i:Nat):Int)=((s.length:Nat):Int):=by omega
 have h3:¬ (((s.getD ((i:Nat):Int).toNat 0).toNat:Nat):Int)=40:=nw hi hw 40 (by decide)
 have h4:¬ (((s.getD ((i:Nat):Int).toNat 0).toNat:Nat):Int)=34:=nw hi hw 34 (by decide)
 have h5:¬ (((s.getD ((i:Nat):Int).toNat 0).toNat:Nat):Int)=35:=nw hi hw 35 (by decide)
 have c1:=word_d (gl:=gl) s i 30 (by omega) hs
 have c3:=called_y (gl:=gl) hwl hc
 have h6:((wdE s i:Nat):Int)<((s.length:Nat):Int):=by omega
 have h7:(((s.getD ((wdE s i:Nat):Int).toNat 0).toNat:Nat):Int)=40:=(byt 40 hl2).2 hq
 have c4:=within_2f (gl:=gl) s (wdAt s i) (wdE s i) i 100
 generalize wdE s i=j at *
 generalize wdAt s i=w at *
 unfold Gives1
 refine fn_of_vc (nv:=9999) (cu:=[]) fits mixed Tryz.func64 rfl hoB rfl rfl rfl rfl ?_
 ((repeat' ((conv=>whnf);first|exact .intro|refine .ya ?_|refine .na ?_|refine .ys ?_|refine .ns ?_|refine .neg (fun _=>?_) (fun _=>?_)|refine .mk (fun _=>?_) (fun _=>?_)|refine .inr (X5 (c1.r [0] _) ?_)|refine .inl (.inr (X5 (c1.r [0] _) ?_))|refine .inl (X5 (c1.r [0] _) ?_)|refine .inr (X5 (c4.r [0,1,3] _) ?_)|refine .inl (.inr (X5 (c4.r [0,1,3] _) ?_))|refine .inl (X5 (c4.r [0,1,3] _) ?_)|refine .inl (.inl (X1 (by first|exact c0|exact c3) ?_))|refine .inl (X1 (by first|exact c0|exact c3) ?_)|refine X1 (by first|exact c0|exact c3) ?_|refine .mk ?_ ?_|refine AK ?_|refine AT ?_|fail));all_goals conv=>whnf)
 ((repeat' first|exact rfl|((conv=>whnf);first|done|exact suL|refine And.intro ?_ ?_|fail));all_goals conv=>whnf)
theorem prim_call {s:List UInt8} {i d:Nat} {c:UInt8} (hs:s.length≤200) (hd:d<30) (h:s[i]?=some c) (hw:wordlyP c) (hq:s[wdE s i]?=some 40) (hc:clZ (wdAt s i)=true)
 {r:Rs Nd} (hp:Gives1 gl 101 [.c (.ptr 0 0),.c (.d (.str (wdAt s i)))] s (wdE s i) (d+1) r) :
 Gives1 gl 64 [.c (.ptr 0 0)] s i d r:=by
 have hi:=lt_of_get h
 have hwl:=wd_len (i:=i) hs
 have hl2:=lt_of_get hq
 rw[← getD_of h] at hw
 have c0:=wordly_y (gl:=gl) ((wdly_iff _).2 hw)
 have h2:¬ ((i:Nat):Int)=((s.length:Nat):Int):=by omega
 have h3:¬ (((s.getD ((i:Nat):Int).toNat 0).toNat:Nat):Int)=40:=nw hi hw 40 (by decide)
 have h4:¬ (((s.getD ((i:Nat):Int).toNat 0).toNat:Nat):Int)=34:=nw hi hw 34 (by decide)
 have h5:¬ (((s.getD ((i:Nat):Int).toNat 0).toNat:Nat):Int)=35:=nw hi hw 35 (by decide)
 have c1:=word_d (gl:=gl) s i d (by omega) hs
 have c3:=called_y (gl:=gl) hwl hc
 have h6:((wdE s i:Nat):Int)<((s.length:Nat):Int):=by omega
 have h7:(((s.getD ((wdE s i:Nat):Int).toNat 0).toNat:Nat):Int)=40:=(byt 40 hl2).2 hq
 generalize wdE s i=j at *
 generalize wdAt s i=w at *
 cases r with
 | ok n l =>
  have c4:=within_2 (gl:=gl) (p:=i) hd (prim2_ok hp)
  obtain ⟨k,m,t,a,b,ks⟩:=n
  unfold Gives1
  refine fn_of_vc (nv:=9999) (cu:=[]) fits mixed Tryz.func64 rfl hoB rfl rfl rfl rfl ?_
  ((repeat' ((conv=>whnf);first|exact .intro|refine .ya ?_|refine .na ?_|refine .ys ?_|refine .ns ?_|refine .neg (fun _=>?_) (fun _=>?_)|refine .mk (fun _=>?_) (fun _=>?_)|refine .inr (X5 (c1.r [0] _) ?_)|refine .inl (.inr (X5 (c1.r [0] _) ?_))|refine .inl (X5 (c1.r [0] _) ?_)|refine .inr (X5 (c4.r [0,1,3] _) ?_)|refine .inl (.inr (X5 (c4.r [0,1,3] _) ?_))|refine .inl (X5 (c4.r [0,1,3] _) ?_)|refine .inl (.inl (X1 (by first|exact c0|exact c3) ?_))|refine .inl (X1 (by first|exact c0|exact c3) ?_)|refine X1 (by first|exact c0|exact c3) ?_|refine .mk ?_ ?_|refine AK ?_|refine AT ?_|fail));all_goals conv=>whnf)
  ((repeat' first|exact rfl|((conv=>whnf);first|done|exact suL|refine And.intro ?_ ?_|fail));all_goals conv=>whnf)
 | no q e =>
  have c4:=within_2n (gl:=gl) (p:=i) hd (prim2_no hp)
  unfold Gives1
  refine fn_of_vc (nv:=9999) (cu:=[]) fits mixed Tryz.func64 rfl hoB rfl rfl rfl rfl ?_
  ((repeat' ((conv=>whnf);first|exact .intro|refine .ya ?_|refine .na ?_|refine .ys ?_|refine .ns ?_|refine .neg (fun _=>?_) (fun _=>?_)|refine .mk (fun _=>?_) (fun _=>?_)|refine .inr (X5 (c1.r [0] _) ?_)|refine .inl (.inr (X5 (c1.r [0] _) ?_))|refine .inl (X5 (c1.r [0] _) ?_)|refine .inr (X5 (c4.r [0,1,3] _) ?_)|refine .inl (.inr (X5 (c4.r [0,1,3] _) ?_))|refine .inl (X5 (c4.r [0,1,3] _) ?_)|refine .inl (.inl (X1 (by first|exact c0|exact c3) ?_))|refine .inl (X1 (by first|exact c0|exact c3) ?_)|refine X1 (by first|exact c0|exact c3) ?_|refine .mk ?_ ?_|refine AK ?_|refine AT ?_|fail));all_goals conv=>whnf)
  ((repeat' first|exact rfl|((conv=>whnf);first|done|exact suL|refine And.intro ?_ ?_|fail));all_goals conv=>whnf)
theorem prim_d (te:TypeId) (pe:Value) (hV:Has gl (glV te pe)) {rf:List UInt8→Option Rf} (hR:RefsOk rf) {s:List UInt8} {i d:Nat} (hs:s.length≤200) (hd:d≤30) (hi:i≤s.length) {tw:Nat→Rs Nd} (hf:Fwd s tw)
 (ht:d<30→∀ j,j≤s.length→Gives1 gl 37 [.c (.ptr 0 0),.c (.d (iD 0))] s j (d+1) (tw j))
 (hc:d<30→∀ w k,k<s.length→Gives1 gl 101 [.c (.ptr 0 0),.c (.d (.str w))] s k (d+1) (callF (parZ rf) s tw w k)) :
 Gives1 gl 64 [.c (.ptr 0 0)] s i d (primF (parZ rf) s (decide (d=30)) tw i):=by
 unfold primF
 cases h:s[i]? with
 | none =>
  have:i=s.length:=by have:=List.getElem?_eq_none_iff.1 h;omega
  subst this
  exact prim_end hs
 | some c =>
  have hl:=lt_of_get h
  simp only
  by_cases h40:c=40
  ·subst h40
   rw[if_pos rfl]
   by_cases hd3:d=30
   ·subst hd3
    rw[if_pos (by decide)]
    exact prim_full hs h
   ·rw[if_neg (by simp[hd3])]
    have hd':d<30:=by omega
    have h1:=ht hd' (i+1) hl
    unfold parF
    cases hx:tw (i+1) with
    | no q e=>rw[hx] at h1;exact prim_pare hs hd' h h1
    | ok n j =>
     rw[hx] at h1
     have hj:=(hf _ _ _ hl hx).2
     simp only[Rs.bind_ok]
     by_cases hq:s[skp s j]?=some 41
     ·rw[if_pos hq];exact prim_par hs hd' h hj h1 hq
     ·rw[if_neg hq];exact prim_parn hs hd' h hj h1 hq
  ·rw[if_neg h40]
   by_cases h34:c=34
   ·subst h34
    rw[if_pos rfl]
    cases hx:txtF (s.drop (i+1)) with
    | none=>exact prim_textn hs h hx
    | some q=>obtain ⟨b,l⟩:=q;exact prim_text hs h hx
   ·rw[if_neg h34]
    by_cases h35:c=35
    ·subst h35
     rw[if_pos rfl]
     show Gives1 _ _ _ _ _ _ (match litF (s.drop i) with|some (n,l)=>_|none=>_)
     cases hx:litF (s.drop i) with
     | none=>exact prim_litn te pe hV hs h hx
     | some q=>obtain ⟨m,l⟩:=q;exact prim_lit te pe hV hs h hx
    ·rw[if_neg h35]
     by_cases hw:wordlyP c
     ·rw[if_pos hw]
      unfold wordF
      by_cases hq:s[wdE s i]?=some 40∧clZ (wdAt s i)=true
      ·rw[if_pos (show _∧(parZ rf).cl (wdAt s i)=true from hq)]
       by_cases hd3:d=30
       ·subst hd3
        rw[if_pos (by decide)]
        exact prim_callf hs h hw hq.1 hq.2
       ·rw[if_neg (by simp[hd3])]
        exact prim_call hs (by omega) h hw hq.1 hq.2 (hc (by omega) _ _ (lt_of_get hq.1))
      ·rw[if_neg (show ¬ (_∧(parZ rf).cl (wdAt s i)=true) from hq)]
       show Gives1 _ _ _ _ _ _ (match plZ rf (wdAt s i) with|some n=>_|none=>_)
       cases hx:plZ rf (wdAt s i) with
       | none=>exact prim_plainn te pe hV hR hs h hw hq hx
       | some n=>exact prim_plain te pe hV hR hs h hw hq hx
     ·rw[if_neg hw]
      exact prim_other hs h h40 h34 h35 hw
theorem neg_d (te:TypeId) (pe:Value) (hV:Has gl (glV te pe)) {rf:List UInt8→Option Rf} (hR:RefsOk rf) {s:List UInt8} {i d:Nat} (hs:s.length≤200) (hd:d≤30) (hi:i≤s.length) {tw ng:Nat→Rs Nd} (hf:Fwd s tw)
 (hn:d<30→∀ j,j≤s.length→Gives1 gl 53 [.c (.ptr 0 0)] s j (d+1) (ng j))
 (ht:d<30→∀ j,j≤s.length→Gives1 gl 37 [.c (.ptr 0 0),.c (.d (iD 0))] s j (d+1) (tw j))
 (hc:d<30→∀ w k,k<s.length→Gives1 gl 101 [.c (.ptr 0 0),.c (.d (.str w))] s k (d+1) (callF (parZ rf) s tw w k)) :
 Gives1 gl 53 [.c (.ptr 0 0)] s i d (negF (parZ rf) s (decide (d=30)) ng tw i):=by
 unfold negF
 by_cases h:s[skp s i]?=some 45
 ·rw[if_pos h]
  have hl:=lt_of_get h
  by_cases hd3:d=30
  ·subst hd3
   rw[if_pos (by decide)]
   exact neg_full hi hs h
  ·rw[if_neg (by simp[hd3])]
   have h1:=hn (by omega) (skp s i+1) hl
   cases hx:ng (skp s i+1) with
   | no q e=>rw[hx] at h1;exact neg_ine hi hs (by omega) h h1
   | ok n k=>rw[hx] at h1;exact neg_in hi hs (by omega) h h1
 ·rw[if_neg h]
  exact neg_prim hi hs h (prim_d te pe hV hR hs hd (skp_le hi) hf ht hc)
end Go.Proofs.YtaheflnnigocgaaGreatDoor
end
section
namespace Go.Proofs.YtaheflnnigocgaaGreatDoor
open Go Go.EYtaheflnnigocgaaGreatDoor
set_option maxRecDepth 100000
set_option maxHeartbeats 2000000
variable {gl:List (Nat×List D)}
theorem arg_two {rf:List UInt8→Option Rf} (hR:RefsOk rf) {s:List UInt8} {i d:Nat} (hi:i≤s.length) (hs:s.length≤200) (h:rf (wdAt s (skp s i))=none∨s[wdE s (skp s i)]?≠some 58) {r:Rs Nd}
 (hp:Gives1 gl 37 [.c (.ptr 0 0),.c (.d (iD 0))] s (skp s i) d r):Gives1 gl 117 [.c (.ptr 0 0)] s i d r:=by
 have c0:=blanks_d (gl:=gl) s i d hi hs
 have hj:=skp_le hi
 have c1:=word_d (gl:=gl) s (skp s i) d hj hs
 have hwl:=wd_len (i:=skp s i) hs
 have he:=wdE_le hj
 have hr:=hR gl (wdAt s (skp s i)) hwl
 generalize wdE s (skp s i)=e at *
 generalize wdAt s (skp s i)=w at *
 generalize skp s i=j at *
 cases hrf:rf w with
 | none =>
  have c2:=(hr.2 hrf).1
  cases r with
  | ok n k =>
   obtain ⟨k0,m,t,a,b,ks⟩:=n
   unfold Gives1 at hp ⊢
   refine fn_of_vc (nv:=9999) (cu:=[]) fits mixed Tryz.func117 rfl hoB rfl rfl rfl rfl ?_
   ((repeat' ((conv=>whnf);first|exact .intro|refine .ya ?_|refine .na ?_|refine .ys ?_|refine .ns ?_|refine .neg (fun _=>?_) (fun _=>?_)|refine .mk (fun _=>?_) (fun _=>?_)|refine .inr (X5 (c0.r [0] _) ?_)|refine .inl (.inr (X5 (c0.r [0] _) ?_))|refine .inl (X5 (c0.r [0] _) ?_)|refine .inr (X5 (c1.r [0] _) ?_)|refine .inl (.inr (X5 (c1.r [0] _) ?_))|refine .inl (X5 (c1.r [0] _) ?_)|refine .inr (X5 (hp.r [0] _) ?_)|refine .inl (.inr (X5 (hp.r [0] _) ?_))|refine .inl (X5 (hp.r [0] _) ?_)|refine .inl (.inl (X1 (c2) ?_))|refine .inl (X1 (c2) ?_)|refine X1 (c2) ?_|refine .mk ?_ ?_|refine AK ?_|refine AT ?_|fail));all_goals conv=>whnf)
   ((repeat' first|exact rfl|((conv=>whnf);first|done|exact suL|refine And.intro ?_ ?_|fail));all_goals conv=>whnf)
  | no q f =>
   unfold Gives1 at hp ⊢
   refine fn_of_vc (nv:=9999) (cu:=[]) fits mixed Tryz.func117 rfl hoB rfl rfl rfl rfl ?_
   ((repeat' ((conv=>whnf);first|exact .intro|refine .ya ?_|refine .na ?_|refine .ys ?_|refine .ns ?_|refine .neg (fun _=>?_) (fun _=>?_)|refine .mk (fun _=>?_) (fun _=>?_)|refine .inr (X5 (c0.r [0] _) ?_)|refine .inl (.inr (X5 (c0.r [0] _) ?_))|refine .inl (X5 (c0.r [0] _) ?_)|refine .inr (X5 (c1.r [0] _) ?_)|refine .inl (.inr (X5 (c1.r [0] _) ?_))|refine .inl (X5 (c1.r [0] _) ?_)|refine .inr (X5 (hp.r [0] _) ?_)|refine .inl (.inr (X5 (hp.r [0] _) ?_))|refine .inl (X5 (hp.r [0] _) ?_)|refine .inl (.inl (X1 (c2) ?_))|refine .inl (X1 (c2) ?_)|refine X1 (c2) ?_|refine .mk ?_ ?_|refine AK ?_|refine AT ?_|fail));all_goals conv=>whnf)
   ((repeat' first|exact rfl|((conv=>whnf);first|done|exact suL|refine And.intro ?_ ?_|fail));all_goals conv=>whnf)
 | some a =>
  have c2:=(hr.1 a hrf).1
  have h58:s[e]?≠some 58:=by
   rcases h with h|h
   ·rw[hrf] at h;cases h
   ·exact h
  rcases Nat.lt_or_ge e s.length with hl|hl
  ·have h1:¬ ((e:Nat):Int)=((s.length:Nat):Int):=by omega
   have h2:¬ (((s.getD ((e:Nat):Int).toNat 0).toNat:Nat):Int)=58:=fun hh=>h58 ((byt 58 hl).1 hh)
   cases r with
   | ok n k =>
    obtain ⟨k0,m,t,a,b,ks⟩:=n
    unfold Gives1 at hp ⊢
    refine fn_of_vc (nv:=9999) (cu:=[]) fits mixed Tryz.func117 rfl hoB rfl rfl rfl rfl ?_
    ((repeat' ((conv=>whnf);first|exact .intro|refine .ya ?_|refine .na ?_|refine .ys ?_|refine .ns ?_|refine .neg (fun _=>?_) (fun _=>?_)|refine .mk (fun _=>?_) (fun _=>?_)|refine .inr (X5 (c0.r [0] _) ?_)|refine .inl (.inr (X5 (c0.r [0] _) ?_))|refine .inl (X5 (c0.r [0] _) ?_)|refine .inr (X5 (c1.r [0] _) ?_)|refine .inl (.inr (X5 (c1.r [0] _) ?_))|refine .inl (X5 (c1.r [0] _) ?_)|refine .inr (X5 (hp.r [0] _) ?_)|refine .inl (.inr (X5 (hp.r [0] _) ?_))|refine .inl (X5 (hp.r [0] _) ?_)|refine .inl (.inl (X1 (c2) ?_))|refine .inl (X1 (c2) ?_)|refine X1 (c2) ?_|refine .mk ?_ ?_|refine AK ?_|refine AT ?_|fail));all_goals conv=>whnf)
    ((repeat' first|exact rfl|((conv=>whnf);first|done|exact suL|refine And.intro ?_ ?_|fail));all_goals conv=>whnf)
   | no q f =>
    unfold Gives1 at hp ⊢
    refine fn_of_vc (nv:=9999) (cu:=[]) fits mixed Tryz.func117 rfl hoB rfl rfl rfl rfl ?_
    ((repeat' ((conv=>whnf);first|exact .intro|refine .ya ?_|refine .na ?_|refine .ys ?_|refine .ns ?_|refine .neg (fun _=>?_) (fun _=>?_)|refine .mk (fun _=>?_) (fun _=>?_)|refine .inr (X5 (c0.r [0] _) ?_)|refine .inl (.inr (X5 (c0.r [0] _) ?_))|refine .inl (X5 (c0.r [0] _) ?_)|refine .inr (X5 (c1.r [0] _) ?_)|refine .inl (.inr (X5 (c1.r [0] _) ?_))|refine .inl (X5 (c1.r [0] _) ?_)|refine .inr (X5 (hp.r [0] _) ?_)|refine .inl (.inr (X5 (hp.r [0] _) ?_))|refine .inl (X5 (hp.r [0] _) ?_)|refine .inl (.inl (X1 (c2) ?_))|refine .inl (X1 (c2) ?_)|refine X1 (c2) ?_|refine .mk ?_ ?_|refine AK ?_|refine AT ?_|fail));all_goals conv=>whnf)
    ((repeat' first|exact rfl|((conv=>whnf);first|done|exact suL|refine And.intro ?_ ?_|fail));all_goals conv=>whnf)
  ·have h1:((e:Nat):Int)=((s.length:Nat):Int):=by omega
   cases r with
   | ok n k =>
    obtain ⟨k0,m,t,a,b,ks⟩:=n
    unfold Gives1 at hp ⊢
    refine fn_of_vc (nv:=9999) (cu:=[]) fits mixed Tryz.func117 rfl hoB rfl rfl rfl rfl ?_
    ((repeat' ((conv=>whnf);first|exact .intro|refine .ya ?_|refine .na ?_|refine .ys ?_|refine .ns ?_|refine .neg (fun _=>?_) (fun _=>?_)|refine .mk (fun _=>?_) (fun _=>?_)|refine .inr (X5 (c0.r [0] _) ?_)|refine .inl (.inr (X5 (c0.r [0] _) ?_))|refine .inl (X5 (c0.r [0] _) ?_)|refine .inr (X5 (c1.r [0] _) ?_)|refine .inl (.inr (X5 (c1.r [0] _) ?_))|refine .inl (X5 (c1.r [0] _) ?_)|refine .inr (X5 (hp.r [0] _) ?_)|refine .inl (.inr (X5 (hp.r [0] _) ?_))|refine .inl (X5 (hp.r [0] _) ?_)|refine .inl (.inl (X1 (c2) ?_))|refine .inl (X1 (c2) ?_)|refine X1 (c2) ?_|refine .mk ?_ ?_|refine AK ?_|refine AT ?_|fail));all_goals conv=>whnf)
    ((repeat' first|exact rfl|((conv=>whnf);first|done|exact suL|refine And.intro ?_ ?_|fail));all_goals conv=>whnf)
   | no q f =>
    unfold Gives1 at hp ⊢
    refine fn_of_vc (nv:=9999) (cu:=[]) fits mixed Tryz.func117 rfl hoB rfl rfl rfl rfl ?_
    ((repeat' ((conv=>whnf);first|exact .intro|refine .ya ?_|refine .na ?_|refine .ys ?_|refine .ns ?_|refine .neg (fun _=>?_) (fun _=>?_)|refine .mk (fun _=>?_) (fun _=>?_)|refine .inr (X5 (c0.r [0] _) ?_)|refine .inl (.inr (X5 (c0.r [0] _) ?_))|refine .inl (X5 (c0.r [0] _) ?_)|refine .inr (X5 (c1.r [0] _) ?_)|refine .inl (.inr (X5 (c1.r [0] _) ?_))|refine .inl (X5 (c1.r [0] _) ?_)|refine .inr (X5 (hp.r [0] _) ?_)|refine .inl (.inr (X5 (hp.r [0] _) ?_))|refine .inl (X5 (hp.r [0] _) ?_)|refine .inl (.inl (X1 (c2) ?_))|refine .inl (X1 (c2) ?_)|refine X1 (c2) ?_|refine .mk ?_ ?_|refine AK ?_|refine AT ?_|fail));all_goals conv=>whnf)
    ((repeat' first|exact rfl|((conv=>whnf);first|done|exact suL|refine And.intro ?_ ?_|fail));all_goals conv=>whnf)
theorem arg_box {rf:List UInt8→Option Rf} (hR:RefsOk rf) {s:List UInt8} {i d:Nat} (hi:i≤s.length) (hs:s.length≤200) {a:Rf} (ha:rf (wdAt s (skp s i))=some a) (h:s[wdE s (skp s i)]?=some 58) :
 Gives1 gl 117 [.c (.ptr 0 0)] s i d (match rf (wdAt s (wdE s (skp s i)+1)) with
 | some b=>.ok (.mk 6 0 [] a b []) (wdE s (wdE s (skp s i)+1))
 | none=>.no (wdE s (skp s i)+1) 2):=by
 have c0:=blanks_d (gl:=gl) s i d hi hs
 have hj:=skp_le hi
 have c1:=word_d (gl:=gl) s (skp s i) d hj hs
 have hwl:=wd_len (i:=skp s i) hs
 have c2:=((hR gl (wdAt s (skp s i)) hwl).1 a ha).1
 clear ha
 generalize wdE s (skp s i)=e at *
 generalize wdAt s (skp s i)=w at *
 generalize skp s i=j at *
 have hl:=lt_of_get h
 have c3:=word_d (gl:=gl) s (e+1) d hl hs
 have hwl2:=wd_len (i:=e+1) hs
 have hr:=hR gl (wdAt s (e+1)) hwl2
 have he2:=wdE_le (show e+1≤s.length from hl)
 have h1:¬ ((e:Nat):Int)=((s.length:Nat):Int):=by omega
 have h2:(((s.getD ((e:Nat):Int).toNat 0).toNat:Nat):Int)=58:=(byt 58 hl).2 h
 have h3:¬ ¬ (((s.getD ((e:Nat):Int).toNat 0).toNat:Nat):Int)=58:=fun hh=>hh h2
 have e1:IntKind.i64.wrap (((e:Nat):Int)+1)=((e+1:Nat):Int):=by rw[wrapI (by omega)];rfl
 have c6:=fail_d (gl:=gl) s (wdE s (e+1)) d (e+1) 2
 generalize wdE s (e+1)=e2 at *
 generalize wdAt s (e+1)=w2 at *
 cases hrf:rf w2 with
 | some b =>
  have c4:=(hr.1 b hrf).1
  simp only
  unfold Gives1
  refine fn_of_vc (nv:=9999) (cu:=[]) fits mixed Tryz.func117 rfl hoB rfl rfl rfl rfl ?_
  ((repeat' ((conv=>whnf);first|exact .intro|refine .ya ?_|refine .na ?_|refine .ys ?_|refine .ns ?_|refine .neg (fun _=>?_) (fun _=>?_)|refine .mk (fun _=>?_) (fun _=>?_)|refine .inr (X5 (c0.r [0] _) ?_)|refine .inl (.inr (X5 (c0.r [0] _) ?_))|refine .inl (X5 (c0.r [0] _) ?_)|refine .inr (X5 (c1.r [0] _) ?_)|refine .inl (.inr (X5 (c1.r [0] _) ?_))|refine .inl (X5 (c1.r [0] _) ?_)|refine .inr (X5 (c3.r [0] _) ?_)|refine .inl (.inr (X5 (c3.r [0] _) ?_))|refine .inl (X5 (c3.r [0] _) ?_)|refine .inl (.inl (X1 (by first|exact c2|exact c4) ?_))|refine .inl (X1 (by first|exact c2|exact c4) ?_)|refine X1 (by first|exact c2|exact c4) ?_|(rw[e1])|refine .mk ?_ ?_|refine AK ?_|refine AT ?_|fail));all_goals conv=>whnf)
  ((repeat' first|exact rfl|((conv=>whnf);first|done|exact suL|refine And.intro ?_ ?_|fail));all_goals conv=>whnf)
  all_goals (refine .inr ?_;repeat' first|exact .intro|exact .inr (.inl rfl)|exact lf0|exact ln0|((conv=>whnf);first|exact .intro|exact .inr (.inl rfl)|exact lf0|exact ln0|refine And.intro ?_ ?_|fail))
 | none =>
  have c4:=(hr.2 hrf).1
  simp only
  unfold Gives1
  refine fn_of_vc (nv:=9999) (cu:=[]) fits mixed Tryz.func117 rfl hoB rfl rfl rfl rfl ?_
  ((repeat' ((conv=>whnf);first|exact .intro|refine .ya ?_|refine .na ?_|refine .ys ?_|refine .ns ?_|refine .neg (fun _=>?_) (fun _=>?_)|refine .mk (fun _=>?_) (fun _=>?_)|refine .inr (X5 (c0.r [0] _) ?_)|refine .inl (.inr (X5 (c0.r [0] _) ?_))|refine .inl (X5 (c0.r [0] _) ?_)|refine .inr (X5 (c1.r [0] _) ?_)|refine .inl (.inr (X5 (c1.r [0] _) ?_))|refine .inl (X5 (c1.r [0] _) ?_)|refine .inr (X5 (c3.r [0] _) ?_)|refine .inl (.inr (X5 (c3.r [0] _) ?_))|refine .inl (X5 (c3.r [0] _) ?_)|refine .inr (X5 (c6.r [0] _) ?_)|refine .inl (.inr (X5 (c6.r [0] _) ?_))|refine .inl (X5 (c6.r [0] _) ?_)|refine .inl (.inl (X1 (by first|exact c2|exact c4) ?_))|refine .inl (X1 (by first|exact c2|exact c4) ?_)|refine X1 (by first|exact c2|exact c4) ?_|(rw[e1])|refine .mk ?_ ?_|refine AK ?_|refine AT ?_|fail));all_goals conv=>whnf)
  ((repeat' first|exact rfl|((conv=>whnf);first|done|exact suL|refine And.intro ?_ ?_|fail));all_goals conv=>whnf)
theorem arg_d {rf:List UInt8→Option Rf} (hR:RefsOk rf) {s:List UInt8} {i d:Nat} (hi:i≤s.length) (hs:s.length≤200) {tw:Nat→Rs Nd}
 (ht:∀ j,j≤s.length→Gives1 gl 37 [.c (.ptr 0 0),.c (.d (iD 0))] s j d (tw j)) :
 Gives1 gl 117 [.c (.ptr 0 0)] s i d (argF (parZ rf) s tw i):=by
 unfold argF
 show Gives1 _ _ _ _ _ _ (match rf (wdAt s (skp s i)) with|none=>_|some a=>_)
 cases hrf:rf (wdAt s (skp s i)) with
 | none=>exact arg_two hR hi hs (.inl hrf) (ht _ (skp_le hi))
 | some a =>
  simp only
  by_cases h:s[wdE s (skp s i)]?=some 58
  ·rw[if_pos h]
   exact arg_box hR hi hs hrf h
  ·rw[if_neg h]
   exact arg_two hR hi hs (.inr h) (ht _ (skp_le hi))
end Go.Proofs.YtaheflnnigocgaaGreatDoor
end
