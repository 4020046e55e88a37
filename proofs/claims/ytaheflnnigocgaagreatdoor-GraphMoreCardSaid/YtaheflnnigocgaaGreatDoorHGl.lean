/- Proved: a part of what the law is proved with (the reckoner, contracts of functions, plain laws). Conditions: as each says. -/
import Derived.Test.YtaheflnnigocgaaGreatDoorHGi
section
namespace Go.Proofs.YtaheflnnigocgaaGreatDoor
open Go Go.EYtaheflnnigocgaaGreatDoor
set_option maxRecDepth 100000
variable {gl:List (Nat×List D)}
theorem within_1f (s:List UInt8) (i p g:Nat):Go.EYtaheflnnigocgaaGreatDoor.Fn Tryz.prog gl 62 [.c (.ptr 0 0),.c (.d (iD (p:Int))),.c (.fn g [(1,0)])] [(0,rdB s i 30),(1,rpB)] 2 (.panic (.d (fltD p 4))) [] 2 []:=by
 have c1:=fail_d (gl:=gl) s i 30 p 4
 refine fn_of_vc (nv:=9999) (cu:=[]) fits mixed Tryz.func62 rfl hoB rfl rfl rfl rfl ?_
 ((repeat' ((conv=>whnf);first|exact .intro|refine .ya ?_|refine .na ?_|refine .ys ?_|refine .ns ?_|refine .neg (fun _=>?_) (fun _=>?_)|refine .mk (fun _=>?_) (fun _=>?_)|refine .inr (X5 (c1.r [0] _) ?_)|refine .inl (.inr (X5 (c1.r [0] _) ?_))|refine .inl (X5 (c1.r [0] _) ?_)|refine .mk ?_ ?_|refine AK ?_|refine AT ?_|fail));all_goals conv=>whnf)
 ((repeat' first|exact rfl|((conv=>whnf);first|done|exact suL|refine And.intro ?_ ?_|fail));all_goals conv=>whnf)
theorem prim_end {s:List UInt8} {d:Nat} (_hs:s.length≤200):Gives1 gl 64 [.c (.ptr 0 0)] s s.length d (.no s.length 2):=by
 have c1:=fail_d (gl:=gl) s s.length d s.length 2
 unfold Gives1
 refine fn_of_vc (nv:=9999) (cu:=[]) fits mixed Tryz.func64 rfl hoB rfl rfl rfl rfl ?_
 ((repeat' ((conv=>whnf);first|exact .intro|refine .ya ?_|refine .na ?_|refine .ys ?_|refine .ns ?_|refine .neg (fun _=>?_) (fun _=>?_)|refine .mk (fun _=>?_) (fun _=>?_)|refine .inr (X5 (c1.r [0] _) ?_)|refine .inl (.inr (X5 (c1.r [0] _) ?_))|refine .inl (X5 (c1.r [0] _) ?_)|refine .mk ?_ ?_|refine AK ?_|refine AT ?_|fail));all_goals conv=>whnf)
 ((repeat' first|exact rfl|((conv=>whnf);first|done|exact suL|refine And.intro ?_ ?_|fail));all_goals conv=>whnf)
theorem prim_text {s:List UInt8} {i d:Nat} (hs:s.length≤200) (h:s[i]?=some 34) {b:List UInt8} {l:Nat} (ht:txtF (s.drop (i+1))=some (b,l)):Gives1 gl 64 [.c (.ptr 0 0)] s i d (.ok (.mk 2 0 b z0 z0 []) (i+1+l)):=by
 have hl:=lt_of_get h
 have c1:=text_d (gl:=gl) s i d hs h ht
 have h1:=(byt 34 hl).2 h
 have h2:¬ ((i:Nat):Int)=((s.length:Nat):Int):=by omega
 have h3:¬ (((s.getD ((i:Nat):Int).toNat 0).toNat:Nat):Int)=40:=fun e=>by rw[h1] at e;exact absurd e (by decide)
 unfold Gives1
 refine fn_of_vc (nv:=9999) (cu:=[]) fits mixed Tryz.func64 rfl hoB rfl rfl rfl rfl ?_
 ((repeat' ((conv=>whnf);first|exact .intro|refine .ya ?_|refine .na ?_|refine .ys ?_|refine .ns ?_|refine .neg (fun _=>?_) (fun _=>?_)|refine .mk (fun _=>?_) (fun _=>?_)|refine .inr (X5 (c1.r [0] _) ?_)|refine .inl (.inr (X5 (c1.r [0] _) ?_))|refine .inl (X5 (c1.r [0] _) ?_)|refine .mk ?_ ?_|refine AK ?_|refine AT ?_|fail));all_goals conv=>whnf)
 ((repeat' first|exact rfl|((conv=>whnf);first|done|exact suL|refine And.intro ?_ ?_|fail));all_goals conv=>whnf)
theorem prim_textn {s:List UInt8} {i d:Nat} (hs:s.length≤200) (h:s[i]?=some 34) (ht:txtF (s.drop (i+1))=none):Gives1 gl 64 [.c (.ptr 0 0)] s i d (.no i 2):=by
 have hl:=lt_of_get h
 have c1:=text_n (gl:=gl) s i d hs h ht
 have h1:=(byt 34 hl).2 h
 have h2:¬ ((i:Nat):Int)=((s.length:Nat):Int):=by omega
 have h3:¬ (((s.getD ((i:Nat):Int).toNat 0).toNat:Nat):Int)=40:=fun e=>by rw[h1] at e;exact absurd e (by decide)
 unfold Gives1
 refine fn_of_vc (nv:=9999) (cu:=[]) fits mixed Tryz.func64 rfl hoB rfl rfl rfl rfl ?_
 ((repeat' ((conv=>whnf);first|exact .intro|refine .ya ?_|refine .na ?_|refine .ys ?_|refine .ns ?_|refine .neg (fun _=>?_) (fun _=>?_)|refine .mk (fun _=>?_) (fun _=>?_)|refine .inr (X5 (c1.r [0] _) ?_)|refine .inl (.inr (X5 (c1.r [0] _) ?_))|refine .inl (X5 (c1.r [0] _) ?_)|refine .mk ?_ ?_|refine AK ?_|refine AT ?_|fail));all_goals conv=>whnf)
 ((repeat' first|exact rfl|((conv=>whnf);first|done|exact suL|refine And.intro ?_ ?_|fail));all_goals conv=>whnf)
theorem prim_full {s:List UInt8} {i:Nat} (_hs:s.length≤200) (h:s[i]?=some 40):Gives1 gl 64 [.c (.ptr 0 0)] s i 30 (.no i 4):=by
 have hl:=lt_of_get h
 have c1:=within_1f (gl:=gl) s i i 93
 have h1:=(byt 40 hl).2 h
 have h2:¬ ((i:Nat):Int)=((s.length:Nat):Int):=by omega
 unfold Gives1
 refine fn_of_vc (nv:=9999) (cu:=[]) fits mixed Tryz.func64 rfl hoB rfl rfl rfl rfl ?_
 ((repeat' ((conv=>whnf);first|exact .intro|refine .ya ?_|refine .na ?_|refine .ys ?_|refine .ns ?_|refine .neg (fun _=>?_) (fun _=>?_)|refine .mk (fun _=>?_) (fun _=>?_)|refine .inr (X5 (c1.r [0,1] _) ?_)|refine .inl (.inr (X5 (c1.r [0,1] _) ?_))|refine .inl (X5 (c1.r [0,1] _) ?_)|refine .mk ?_ ?_|refine AK ?_|refine AT ?_|fail));all_goals conv=>whnf)
 ((repeat' first|exact rfl|((conv=>whnf);first|done|exact suL|refine And.intro ?_ ?_|fail));all_goals conv=>whnf)
theorem prim_par {s:List UInt8} {i j d:Nat} {n:Nd} (hs:s.length≤200) (hd:d<30) (h:s[i]?=some 40) (hj:j≤s.length) (ht:Gives1 gl 37 [.c (.ptr 0 0),.c (.d (iD 0))] s (i+1) (d+1) (.ok n j)) (hq:s[skp s j]?=some 41) :
 Gives1 gl 64 [.c (.ptr 0 0)] s i d (.ok n (skp s j+1)):=by
 have hl:=lt_of_get h
 have c1:=within_1 (gl:=gl) (p:=i) hd (prim1_ok hl hj hs ht hq)
 have h1:=(byt 40 hl).2 h
 have h2:¬ ((i:Nat):Int)=((s.length:Nat):Int):=by omega
 obtain ⟨k,m,t,a,b,ks⟩:=n
 unfold Gives1
 refine fn_of_vc (nv:=9999) (cu:=[]) fits mixed Tryz.func64 rfl hoB rfl rfl rfl rfl ?_
 ((repeat' ((conv=>whnf);first|exact .intro|refine .ya ?_|refine .na ?_|refine .ys ?_|refine .ns ?_|refine .neg (fun _=>?_) (fun _=>?_)|refine .mk (fun _=>?_) (fun _=>?_)|refine .inr (X5 (c1.r [0,1] _) ?_)|refine .inl (.inr (X5 (c1.r [0,1] _) ?_))|refine .inl (X5 (c1.r [0,1] _) ?_)|refine .mk ?_ ?_|refine AK ?_|refine AT ?_|fail));all_goals conv=>whnf)
 ((repeat' first|exact rfl|((conv=>whnf);first|done|exact suL|refine And.intro ?_ ?_|fail));all_goals conv=>whnf)
theorem prim_parn {s:List UInt8} {i j d:Nat} {n:Nd} (hs:s.length≤200) (hd:d<30) (h:s[i]?=some 40) (hj:j≤s.length) (ht:Gives1 gl 37 [.c (.ptr 0 0),.c (.d (iD 0))] s (i+1) (d+1) (.ok n j)) (hq:s[skp s j]?≠some 41) :
 Gives1 gl 64 [.c (.ptr 0 0)] s i d (.no (skp s j) 2):=by
 have hl:=lt_of_get h
 have c1:=within_1n (gl:=gl) (p:=i) hd (prim1_n hl hj hs ht hq)
 have h1:=(byt 40 hl).2 h
 have h2:¬ ((i:Nat):Int)=((s.length:Nat):Int):=by omega
 unfold Gives1
 refine fn_of_vc (nv:=9999) (cu:=[]) fits mixed Tryz.func64 rfl hoB rfl rfl rfl rfl ?_
 ((repeat' ((conv=>whnf);first|exact .intro|refine .ya ?_|refine .na ?_|refine .ys ?_|refine .ns ?_|refine .neg (fun _=>?_) (fun _=>?_)|refine .mk (fun _=>?_) (fun _=>?_)|refine .inr (X5 (c1.r [0,1] _) ?_)|refine .inl (.inr (X5 (c1.r [0,1] _) ?_))|refine .inl (X5 (c1.r [0,1] _) ?_)|refine .mk ?_ ?_|refine AK ?_|refine AT ?_|fail));all_goals conv=>whnf)
 ((repeat' first|exact rfl|((conv=>whnf);first|done|exact suL|refine And.intro ?_ ?_|fail));all_goals conv=>whnf)
theorem prim_pare {s:List UInt8} {i q d:Nat} {e:Int} (hs:s.length≤200) (hd:d<30) (h:s[i]?=some 40) (ht:Gives1 gl 37 [.c (.ptr 0 0),.c (.d (iD 0))] s (i+1) (d+1) (.no q e)) :
 Gives1 gl 64 [.c (.ptr 0 0)] s i d (.no q e):=by
 have hl:=lt_of_get h
 have c1:=within_1n (gl:=gl) (p:=i) hd (prim1_no hl hs ht)
 have h1:=(byt 40 hl).2 h
 have h2:¬ ((i:Nat):Int)=((s.length:Nat):Int):=by omega
 unfold Gives1
 refine fn_of_vc (nv:=9999) (cu:=[]) fits mixed Tryz.func64 rfl hoB rfl rfl rfl rfl ?_
 ((repeat' ((conv=>whnf);first|exact .intro|refine .ya ?_|refine .na ?_|refine .ys ?_|refine .ns ?_|refine .neg (fun _=>?_) (fun _=>?_)|refine .mk (fun _=>?_) (fun _=>?_)|refine .inr (X5 (c1.r [0,1] _) ?_)|refine .inl (.inr (X5 (c1.r [0,1] _) ?_))|refine .inl (X5 (c1.r [0,1] _) ?_)|refine .mk ?_ ?_|refine AK ?_|refine AT ?_|fail));all_goals conv=>whnf)
 ((repeat' first|exact rfl|((conv=>whnf);first|done|exact suL|refine And.intro ?_ ?_|fail));all_goals conv=>whnf)
end Go.Proofs.YtaheflnnigocgaaGreatDoor
end
section
namespace Go.Proofs.YtaheflnnigocgaaGreatDoor
open Go Go.EYtaheflnnigocgaaGreatDoor
set_option maxRecDepth 100000
variable {gl:List (Nat×List D)}
theorem neg_full {s:List UInt8} {i:Nat} (hi:i≤s.length) (hs:s.length≤200) (h:s[skp s i]?=some 45):Gives1 gl 53 [.c (.ptr 0 0)] s i 30 (.no (skp s i) 4):=by
 have hl:=lt_of_get h
 have h1:=(byt 45 hl).2 h
 have h2:((skp s i:Nat):Int)<((s.length:Nat):Int):=by omega
 have c0:=blanks_d (gl:=gl) s i 30 hi hs
 have c1:=within_1f (gl:=gl) s (skp s i) (skp s i) 63
 generalize skp s i=j at *
 unfold Gives1
 refine fn_of_vc (nv:=9999) (cu:=[]) fits mixed Tryz.func53 rfl hoB rfl rfl rfl rfl ?_
 ((repeat' ((conv=>whnf);first|exact .intro|refine .ya ?_|refine .na ?_|refine .ys ?_|refine .ns ?_|refine .neg (fun _=>?_) (fun _=>?_)|refine .mk (fun _=>?_) (fun _=>?_)|refine .inr (X5 (c0.r [0] _) ?_)|refine .inl (.inr (X5 (c0.r [0] _) ?_))|refine .inl (X5 (c0.r [0] _) ?_)|refine .inr (X5 (c1.r [0,1] _) ?_)|refine .inl (.inr (X5 (c1.r [0,1] _) ?_))|refine .inl (X5 (c1.r [0,1] _) ?_)|refine .mk ?_ ?_|refine AK ?_|refine AT ?_|fail));all_goals conv=>whnf)
 ((repeat' first|exact rfl|((conv=>whnf);first|done|exact suL|refine And.intro ?_ ?_|fail));all_goals conv=>whnf)
theorem neg_in {s:List UInt8} {i k d:Nat} {n:Nd} (hi:i≤s.length) (hs:s.length≤200) (hd:d<30) (h:s[skp s i]?=some 45) (hn:Gives1 gl 53 [.c (.ptr 0 0)] s (skp s i+1) (d+1) (.ok n k)):Gives1 gl 53 [.c (.ptr 0 0)] s i d (.ok (negN n) k):=by
 have hl:=lt_of_get h
 have h1:=(byt 45 hl).2 h
 have h2:((skp s i:Nat):Int)<((s.length:Nat):Int):=by omega
 have c0:=blanks_d (gl:=gl) s i d hi hs
 have c1:=within_1 (gl:=gl) (p:=skp s i) hd (neg1_ok hl hs hn)
 generalize skp s i=j at *
 unfold Gives1
 refine fn_of_vc (nv:=9999) (cu:=[]) fits mixed Tryz.func53 rfl hoB rfl rfl rfl rfl ?_
 ((repeat' ((conv=>whnf);first|exact .intro|refine .ya ?_|refine .na ?_|refine .ys ?_|refine .ns ?_|refine .neg (fun _=>?_) (fun _=>?_)|refine .mk (fun _=>?_) (fun _=>?_)|refine .inr (X5 (c0.r [0] _) ?_)|refine .inl (.inr (X5 (c0.r [0] _) ?_))|refine .inl (X5 (c0.r [0] _) ?_)|refine .inr (X5 (c1.r [0,1] _) ?_)|refine .inl (.inr (X5 (c1.r [0,1] _) ?_))|refine .inl (X5 (c1.r [0,1] _) ?_)|refine .mk ?_ ?_|refine AK ?_|refine AT ?_|fail));all_goals conv=>whnf)
 ((repeat' first|exact rfl|((conv=>whnf);first|done|exact suL|refine And.intro ?_ ?_|fail));all_goals conv=>whnf)
theorem neg_ine {s:List UInt8} {i q d:Nat} {e:Int} (hi:i≤s.length) (hs:s.length≤200) (hd:d<30) (h:s[skp s i]?=some 45) (hn:Gives1 gl 53 [.c (.ptr 0 0)] s (skp s i+1) (d+1) (.no q e)):Gives1 gl 53 [.c (.ptr 0 0)] s i d (.no q e):=by
 have hl:=lt_of_get h
 have h1:=(byt 45 hl).2 h
 have h2:((skp s i:Nat):Int)<((s.length:Nat):Int):=by omega
 have c0:=blanks_d (gl:=gl) s i d hi hs
 have c1:=within_1n (gl:=gl) (p:=skp s i) hd (neg1_no hl hs hn)
 generalize skp s i=j at *
 unfold Gives1
 refine fn_of_vc (nv:=9999) (cu:=[]) fits mixed Tryz.func53 rfl hoB rfl rfl rfl rfl ?_
 ((repeat' ((conv=>whnf);first|exact .intro|refine .ya ?_|refine .na ?_|refine .ys ?_|refine .ns ?_|refine .neg (fun _=>?_) (fun _=>?_)|refine .mk (fun _=>?_) (fun _=>?_)|refine .inr (X5 (c0.r [0] _) ?_)|refine .inl (.inr (X5 (c0.r [0] _) ?_))|refine .inl (X5 (c0.r [0] _) ?_)|refine .inr (X5 (c1.r [0,1] _) ?_)|refine .inl (.inr (X5 (c1.r [0,1] _) ?_))|refine .inl (X5 (c1.r [0,1] _) ?_)|refine .mk ?_ ?_|refine AK ?_|refine AT ?_|fail));all_goals conv=>whnf)
 ((repeat' first|exact rfl|((conv=>whnf);first|done|exact suL|refine And.intro ?_ ?_|fail));all_goals conv=>whnf)
theorem neg_prim {s:List UInt8} {i d:Nat} (hi:i≤s.length) (hs:s.length≤200) (h:s[skp s i]?≠some 45) {r:Rs Nd} (hp:Gives1 gl 64 [.c (.ptr 0 0)] s (skp s i) d r):Gives1 gl 53 [.c (.ptr 0 0)] s i d r:=by
 have c0:=blanks_d (gl:=gl) s i d hi hs
 cases r with
 | ok n k =>
  obtain ⟨k0,m,t,a,b,ks⟩:=n
  unfold Gives1 at hp ⊢
  rcases Nat.lt_or_ge (skp s i) s.length with hl|hl
  ·have h2:((skp s i:Nat):Int)<((s.length:Nat):Int):=by omega
   have h1:¬ (((s.getD ((skp s i:Nat):Int).toNat 0).toNat:Nat):Int)=45:=fun e=>h ((byt 45 hl).1 e)
   generalize skp s i=j at *
   refine fn_of_vc (nv:=9999) (cu:=[]) fits mixed Tryz.func53 rfl hoB rfl rfl rfl rfl ?_
   ((repeat' ((conv=>whnf);first|exact .intro|refine .ya ?_|refine .na ?_|refine .ys ?_|refine .ns ?_|refine .neg (fun _=>?_) (fun _=>?_)|refine .mk (fun _=>?_) (fun _=>?_)|refine .inr (X5 (c0.r [0] _) ?_)|refine .inl (.inr (X5 (c0.r [0] _) ?_))|refine .inl (X5 (c0.r [0] _) ?_)|refine .inr (X5 (hp.r [0] _) ?_)|refine .inl (.inr (X5 (hp.r [0] _) ?_))|refine .inl (X5 (hp.r [0] _) ?_)|refine .mk ?_ ?_|refine AK ?_|refine AT ?_|fail));all_goals conv=>whnf)
   ((repeat' first|exact rfl|((conv=>whnf);first|done|exact suL|refine And.intro ?_ ?_|fail));all_goals conv=>whnf)
  ·have h2:¬ ((skp s i:Nat):Int)<((s.length:Nat):Int):=by omega
   generalize skp s i=j at *
   refine fn_of_vc (nv:=9999) (cu:=[]) fits mixed Tryz.func53 rfl hoB rfl rfl rfl rfl ?_
   ((repeat' ((conv=>whnf);first|exact .intro|refine .ya ?_|refine .na ?_|refine .ys ?_|refine .ns ?_|refine .neg (fun _=>?_) (fun _=>?_)|refine .mk (fun _=>?_) (fun _=>?_)|refine .inr (X5 (c0.r [0] _) ?_)|refine .inl (.inr (X5 (c0.r [0] _) ?_))|refine .inl (X5 (c0.r [0] _) ?_)|refine .inr (X5 (hp.r [0] _) ?_)|refine .inl (.inr (X5 (hp.r [0] _) ?_))|refine .inl (X5 (hp.r [0] _) ?_)|refine .mk ?_ ?_|refine AK ?_|refine AT ?_|fail));all_goals conv=>whnf)
   ((repeat' first|exact rfl|((conv=>whnf);first|done|exact suL|refine And.intro ?_ ?_|fail));all_goals conv=>whnf)
 | no q e =>
  unfold Gives1 at hp ⊢
  rcases Nat.lt_or_ge (skp s i) s.length with hl|hl
  ·have h2:((skp s i:Nat):Int)<((s.length:Nat):Int):=by omega
   have h1:¬ (((s.getD ((skp s i:Nat):Int).toNat 0).toNat:Nat):Int)=45:=fun e=>h ((byt 45 hl).1 e)
   generalize skp s i=j at *
   refine fn_of_vc (nv:=9999) (cu:=[]) fits mixed Tryz.func53 rfl hoB rfl rfl rfl rfl ?_
   ((repeat' ((conv=>whnf);first|exact .intro|refine .ya ?_|refine .na ?_|refine .ys ?_|refine .ns ?_|refine .neg (fun _=>?_) (fun _=>?_)|refine .mk (fun _=>?_) (fun _=>?_)|refine .inr (X5 (c0.r [0] _) ?_)|refine .inl (.inr (X5 (c0.r [0] _) ?_))|refine .inl (X5 (c0.r [0] _) ?_)|refine .inr (X5 (hp.r [0] _) ?_)|refine .inl (.inr (X5 (hp.r [0] _) ?_))|refine .inl (X5 (hp.r [0] _) ?_)|refine .mk ?_ ?_|refine AK ?_|refine AT ?_|fail));all_goals conv=>whnf)
   ((repeat' first|exact rfl|((conv=>whnf);first|done|exact suL|refine And.intro ?_ ?_|fail));all_goals conv=>whnf)
  ·have h2:¬ ((skp s i:Nat):Int)<((s.length:Nat):Int):=by omega
   generalize skp s i=j at *
   refine fn_of_vc (nv:=9999) (cu:=[]) fits mixed Tryz.func53 rfl hoB rfl rfl rfl rfl ?_
   ((repeat' ((conv=>whnf);first|exact .intro|refine .ya ?_|refine .na ?_|refine .ys ?_|refine .ns ?_|refine .neg (fun _=>?_) (fun _=>?_)|refine .mk (fun _=>?_) (fun _=>?_)|refine .inr (X5 (c0.r [0] _) ?_)|refine .inl (.inr (X5 (c0.r [0] _) ?_))|refine .inl (X5 (c0.r [0] _) ?_)|refine .inr (X5 (hp.r [0] _) ?_)|refine .inl (.inr (X5 (hp.r [0] _) ?_))|refine .inl (X5 (hp.r [0] _) ?_)|refine .mk ?_ ?_|refine AK ?_|refine AT ?_|fail));all_goals conv=>whnf)
   ((repeat' first|exact rfl|((conv=>whnf);first|done|exact suL|refine And.intro ?_ ?_|fail));all_goals conv=>whnf)
end Go.Proofs.YtaheflnnigocgaaGreatDoor
end
section
namespace Go.Proofs.YtaheflnnigocgaaGreatDoor
open Go Go.EYtaheflnnigocgaaGreatDoor
set_option maxRecDepth 100000
def Has (gl' gl:List (Nat×List D)):Prop:=∀ g l,Go.EYtaheflnnigocgaaGreatDoor.look gl g=some l→Go.EYtaheflnnigocgaaGreatDoor.look gl' g=some l
theorem Has.glob {gl' gl:List (Nat×List D)} {M:Nat→Prop} {w:World} (h:Has gl' gl) (hg:Glob gl' M w):Glob gl M w:=fun g l hl=>hg g l (h g l hl)
theorem FnP.moreG {P:Program} {gl' gl:List (Nat×List D)} {f:Nat} {ds:List D} {r:D} (h:FnP P gl f ds r) (hh:Has gl' gl):FnP P gl' f ds r:=fun w M xs hM hg hd=>h w M xs hM (hh.glob hg) hd
theorem lit_slice (s:List UInt8) (i n:Nat):List.drop ((some ((i:Nat):Int)).getD 0).toNat (List.take ((some ((i+n:Nat):Int)).getD ((s.length:Nat):Int)).toNat s)=(s.drop i).take n:=by
 simp only[Option.getD_some,Int.toNat_natCast]
 rw[List.drop_take]
 congr 1
 omega
theorem prim_lit {gl:List (Nat×List D)} (te:TypeId) (pe:Value) (hV:Has gl (glV te pe)) {s:List UInt8} {i d:Nat} (hs:s.length≤200) (h:s[i]?=some 35) {m:Int} {l:Nat} (hl:litF (s.drop i)=some (m,l)):Gives1 gl 64 [.c (.ptr 0 0)] s i d (.ok (.mk 4 m [] z0 z0 []) (i+l)):=by
 have hi:=lt_of_get h
 have h1:=(byt 35 hi).2 h
 have h2:¬ ((i:Nat):Int)=((s.length:Nat):Int):=by omega
 have h3:¬ (((s.getD ((i:Nat):Int).toNat 0).toNat:Nat):Int)=40:=fun e=>by rw[h1] at e;exact absurd e (by decide)
 have h4:¬ (((s.getD ((i:Nat):Int).toNat 0).toNat:Nat):Int)=34:=fun e=>by rw[h1] at e;exact absurd e (by decide)
 unfold Gives1
 refine fn_of_vc (nv:=9999) (cu:=[]) fits mixed Tryz.func64 rfl hoB rfl rfl rfl rfl ?_
 ((repeat' ((conv=>whnf);first|exact .intro|refine .ya ?_|refine .na ?_|refine .ys ?_|refine .ns ?_|refine .neg (fun _=>?_) (fun _=>?_)|refine .mk (fun _=>?_) (fun _=>?_)|refine .mk ?_ ?_|refine AK ?_|refine AT ?_|fail));all_goals conv=>whnf)
 refine ⟨{ σ:=Nat,fr:=fun n=>[(5,.c (.d (iD ((i+n:Nat):Int))))],ks:=[],L:=fun n=>[],ex:=0,I:=fun n=>1≤n∧n≤s.length - i+1∧litN (s.drop i) (s.length - i+1 - n) n=some (m,l),μ:=fun n=>s.length+1 - n },⟨1,⟨Nat.le_refl _,by omega,by rw[← hl];unfold litF;rw[List.length_drop];congr 1⟩,?_⟩,fun (n:Nat) hn=>?_⟩
 ·((repeat' first|exact rfl|((conv=>whnf);first|done|exact suL|refine And.intro ?_ ?_|fail));all_goals conv=>whnf)
  exact ceq (by rw[wrapI (by omega)];rfl)
 ·obtain ⟨hn1,hn2,hn3⟩:=hn
  by_cases hk:i+n≤s.length
  ·have hk':((i+n:Nat):Int)≤((s.length:Nat):Int):=by omega
   have e:=lit_slice s i n
   have c1:=FnP.moreG (Literal_d te pe ((s.drop i).take n)) hV
   rw[show s.length - i+1 - n=(s.length - i - n)+1 by omega] at hn3
   unfold litN at hn3
   cases hz:litZ ((s.drop i).take n) with
   | some q =>
    obtain ⟨k,m'⟩:=q
    rw[hz] at hn3 c1
    simp only[Option.some.injEq,Prod.mk.injEq] at hn3
    obtain ⟨rfl,rfl⟩:=hn3
    rw[← e] at c1
    change FnP Tryz.prog (gl) 96 _ (.tup [vlD k m' [],.v (.bool true)]) at c1
    ((repeat' ((conv=>whnf);first|exact .intro|refine .ya ?_|refine .na ?_|refine .ys ?_|refine .ns ?_|refine .neg (fun _=>?_) (fun _=>?_)|refine .mk (fun _=>?_) (fun _=>?_)|refine .inl (.inl (X1 (c1) ?_))|refine .inl (X1 (c1) ?_)|refine X1 (c1) ?_|refine .mk ?_ ?_|refine AK ?_|refine AT ?_|fail));all_goals conv=>whnf)
    refine ⟨⟨Int.natCast_nonneg _,(show ((i:Nat):Int)≤((i+n:Nat):Int) by omega),hk'⟩,?_⟩
    ((repeat' ((conv=>whnf);first|exact .intro|refine .ya ?_|refine .na ?_|refine .ys ?_|refine .ns ?_|refine .neg (fun _=>?_) (fun _=>?_)|refine .mk (fun _=>?_) (fun _=>?_)|refine .inl (.inl (X1 (c1) ?_))|refine .inl (X1 (c1) ?_)|refine X1 (c1) ?_|refine .mk ?_ ?_|refine AK ?_|refine AT ?_|fail));all_goals conv=>whnf)
    ((repeat' first|exact rfl|((conv=>whnf);first|done|exact suL|refine And.intro ?_ ?_|fail));all_goals conv=>whnf)
    (refine .inr ?_;repeat' first|exact .intro|exact .inr (.inl rfl)|exact lf0|exact ln0|((conv=>whnf);first|exact .intro|exact .inr (.inl rfl)|exact lf0|exact ln0|refine And.intro ?_ ?_|fail))
   | none =>
    rw[hz] at hn3 c1
    rw[← e] at c1
    change FnP Tryz.prog (gl) 96 _ (.tup [vlD 0 0 [],.v (.bool false)]) at c1
    ((repeat' ((conv=>whnf);first|exact .intro|refine .ya ?_|refine .na ?_|refine .ys ?_|refine .ns ?_|refine .neg (fun _=>?_) (fun _=>?_)|refine .mk (fun _=>?_) (fun _=>?_)|refine .inl (.inl (X1 (c1) ?_))|refine .inl (X1 (c1) ?_)|refine X1 (c1) ?_|refine .mk ?_ ?_|refine AK ?_|refine AT ?_|fail));all_goals conv=>whnf)
    refine ⟨⟨Int.natCast_nonneg _,(show ((i:Nat):Int)≤((i+n:Nat):Int) by omega),hk'⟩,?_⟩
    ((repeat' ((conv=>whnf);first|exact .intro|refine .ya ?_|refine .na ?_|refine .ys ?_|refine .ns ?_|refine .neg (fun _=>?_) (fun _=>?_)|refine .mk (fun _=>?_) (fun _=>?_)|refine .inl (.inl (X1 (c1) ?_))|refine .inl (X1 (c1) ?_)|refine X1 (c1) ?_|refine .mk ?_ ?_|refine AK ?_|refine AT ?_|fail));all_goals conv=>whnf)
    refine ⟨n+1,⟨⟨by omega,by omega,by rw[show s.length - i+1 - (n+1)=s.length - i - n by omega];exact hn3⟩,by show s.length+1 - (n+1)<s.length+1 - n;omega⟩,?_⟩
    ((repeat' first|exact rfl|((conv=>whnf);first|done|exact suL|refine And.intro ?_ ?_|fail));all_goals conv=>whnf)
    exact ceq (by rw[wrapI (by omega)];omega)
  ·rw[show s.length - i+1 - n=0 by omega] at hn3
   cases hn3
theorem prim_litn {gl:List (Nat×List D)} (te:TypeId) (pe:Value) (hV:Has gl (glV te pe)) {s:List UInt8} {i d:Nat} (hs:s.length≤200) (h:s[i]?=some 35) (hl:litF (s.drop i)=none):Gives1 gl 64 [.c (.ptr 0 0)] s i d (.no i 2):=by
 have hi:=lt_of_get h
 have h1:=(byt 35 hi).2 h
 have c2:=fail_d (gl:=gl) s i d i 2
 have h2:¬ ((i:Nat):Int)=((s.length:Nat):Int):=by omega
 have h3:¬ (((s.getD ((i:Nat):Int).toNat 0).toNat:Nat):Int)=40:=fun e=>by rw[h1] at e;exact absurd e (by decide)
 have h4:¬ (((s.getD ((i:Nat):Int).toNat 0).toNat:Nat):Int)=34:=fun e=>by rw[h1] at e;exact absurd e (by decide)
 unfold Gives1
 refine fn_of_vc (nv:=9999) (cu:=[]) fits mixed Tryz.func64 rfl hoB rfl rfl rfl rfl ?_
 ((repeat' ((conv=>whnf);first|exact .intro|refine .ya ?_|refine .na ?_|refine .ys ?_|refine .ns ?_|refine .neg (fun _=>?_) (fun _=>?_)|refine .mk (fun _=>?_) (fun _=>?_)|refine .mk ?_ ?_|refine AK ?_|refine AT ?_|fail));all_goals conv=>whnf)
 refine ⟨{ σ:=Nat,fr:=fun n=>[(5,.c (.d (iD ((i+n:Nat):Int))))],ks:=[],L:=fun n=>[],ex:=0,I:=fun n=>1≤n∧n≤s.length - i+1∧litN (s.drop i) (s.length - i+1 - n) n=none,μ:=fun n=>s.length+1 - n },⟨1,⟨Nat.le_refl _,by omega,by rw[← hl];unfold litF;rw[List.length_drop];congr 1⟩,?_⟩,fun (n:Nat) hn=>?_⟩
 ·((repeat' first|exact rfl|((conv=>whnf);first|done|exact suL|refine And.intro ?_ ?_|fail));all_goals conv=>whnf)
  exact ceq (by rw[wrapI (by omega)];rfl)
 ·obtain ⟨hn1,hn2,hn3⟩:=hn
  by_cases hk:i+n≤s.length
  ·have hk':((i+n:Nat):Int)≤((s.length:Nat):Int):=by omega
   have e:=lit_slice s i n
   have c1:=FnP.moreG (Literal_d te pe ((s.drop i).take n)) hV
   rw[show s.length - i+1 - n=(s.length - i - n)+1 by omega] at hn3
   unfold litN at hn3
   cases hz:litZ ((s.drop i).take n) with
   | some q =>
    rw[hz] at hn3
    cases hn3
   | none =>
    rw[hz] at hn3 c1
    rw[← e] at c1
    change FnP Tryz.prog (gl) 96 _ (.tup [vlD 0 0 [],.v (.bool false)]) at c1
    ((repeat' ((conv=>whnf);first|exact .intro|refine .ya ?_|refine .na ?_|refine .ys ?_|refine .ns ?_|refine .neg (fun _=>?_) (fun _=>?_)|refine .mk (fun _=>?_) (fun _=>?_)|refine .inl (.inl (X1 (c1) ?_))|refine .inl (X1 (c1) ?_)|refine X1 (c1) ?_|refine .mk ?_ ?_|refine AK ?_|refine AT ?_|fail));all_goals conv=>whnf)
    refine ⟨⟨Int.natCast_nonneg _,(show ((i:Nat):Int)≤((i+n:Nat):Int) by omega),hk'⟩,?_⟩
    ((repeat' ((conv=>whnf);first|exact .intro|refine .ya ?_|refine .na ?_|refine .ys ?_|refine .ns ?_|refine .neg (fun _=>?_) (fun _=>?_)|refine .mk (fun _=>?_) (fun _=>?_)|refine .inl (.inl (X1 (c1) ?_))|refine .inl (X1 (c1) ?_)|refine X1 (c1) ?_|refine .mk ?_ ?_|refine AK ?_|refine AT ?_|fail));all_goals conv=>whnf)
    refine ⟨n+1,⟨⟨by omega,by omega,by rw[show s.length - i+1 - (n+1)=s.length - i - n by omega];exact hn3⟩,by show s.length+1 - (n+1)<s.length+1 - n;omega⟩,?_⟩
    ((repeat' first|exact rfl|((conv=>whnf);first|done|exact suL|refine And.intro ?_ ?_|fail));all_goals conv=>whnf)
    exact ceq (by rw[wrapI (by omega)];omega)
  ·have hk8:¬ ((i+n:Nat):Int)≤((s.length:Nat):Int):=by omega
   ((repeat' ((conv=>whnf);first|exact .intro|refine .ya ?_|refine .na ?_|refine .ys ?_|refine .ns ?_|refine .neg (fun _=>?_) (fun _=>?_)|refine .mk (fun _=>?_) (fun _=>?_)|refine .inr (X5 (c2.r [0] _) ?_)|refine .inl (.inr (X5 (c2.r [0] _) ?_))|refine .inl (X5 (c2.r [0] _) ?_)|refine .mk ?_ ?_|refine AK ?_|refine AT ?_|fail));all_goals conv=>whnf)
   ((repeat' first|exact rfl|((conv=>whnf);first|done|exact suL|refine And.intro ?_ ?_|fail));all_goals conv=>whnf)
end Go.Proofs.YtaheflnnigocgaaGreatDoor
end
