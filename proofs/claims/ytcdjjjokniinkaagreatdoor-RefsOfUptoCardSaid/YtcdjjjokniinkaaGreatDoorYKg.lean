/- Proved: a part of what the law is proved with (the reckoner, contracts of functions, plain laws). Conditions: as each says. -/
import Derived.Test.YtcdjjjokniinkaaGreatDoorYGi
import Derived.Test.YtcdjjjokniinkaaGreatDoorYRa
section
namespace Go.Proofs.YtcdjjjokniinkaaGreatDoor
open Go Go.EYtcdjjjokniinkaaGreatDoor
set_option maxRecDepth 100000
variable {gl:List (Nat×List D)}
theorem within_1f (s:List UInt8) (i p g:Nat):Go.EYtcdjjjokniinkaaGreatDoor.Fn Tryz.prog gl 128 [.c (.ptr 0 0),.c (.d (iD (p:Int))),.c (.fn g [(1,0)])] [(0,rdB s i 30),(1,rpB)] 2 (.panic (.d (fltD p 4))) [] 2 []:=by
 have c1:=fail_d (gl:=gl) s i 30 p 4
 refine fn_of_vc (nv:=9999) (cu:=[]) fits mixed Tryz.func128 rfl hoB rfl rfl rfl rfl ?_
 ((repeat' ((conv=>whnf);first|exact .intro|refine .ya ?_|refine .na ?_|refine .ys ?_|refine .ns ?_|refine .neg (fun _=>?_) (fun _=>?_)|refine .mk (fun _=>?_) (fun _=>?_)|refine .inr (X5 (c1.r [0] _) ?_)|refine .inl (.inr (X5 (c1.r [0] _) ?_))|refine .inl (X5 (c1.r [0] _) ?_)|refine .mk ?_ ?_|refine AK ?_|refine AT ?_|fail));all_goals conv=>whnf)
 ((repeat' first|exact rfl|((conv=>whnf);first|done|exact suL|refine And.intro ?_ ?_|fail));all_goals conv=>whnf)
theorem prim_end {s:List UInt8} {d:Nat} (_hs:s.length≤200):Gives1 gl 130 [.c (.ptr 0 0)] s s.length d (.no s.length 2):=by
 have c1:=fail_d (gl:=gl) s s.length d s.length 2
 unfold Gives1
 refine fn_of_vc (nv:=9999) (cu:=[]) fits mixed Tryz.func130 rfl hoB rfl rfl rfl rfl ?_
 ((repeat' ((conv=>whnf);first|exact .intro|refine .ya ?_|refine .na ?_|refine .ys ?_|refine .ns ?_|refine .neg (fun _=>?_) (fun _=>?_)|refine .mk (fun _=>?_) (fun _=>?_)|refine .inr (X5 (c1.r [0] _) ?_)|refine .inl (.inr (X5 (c1.r [0] _) ?_))|refine .inl (X5 (c1.r [0] _) ?_)|refine .mk ?_ ?_|refine AK ?_|refine AT ?_|fail));all_goals conv=>whnf)
 ((repeat' first|exact rfl|((conv=>whnf);first|done|exact suL|refine And.intro ?_ ?_|fail));all_goals conv=>whnf)
theorem prim_text {s:List UInt8} {i d:Nat} (hs:s.length≤200) (h:s[i]?=some 34) {b:List UInt8} {l:Nat} (ht:txtF (s.drop (i+1))=some (b,l)):Gives1 gl 130 [.c (.ptr 0 0)] s i d (.ok (.mk 2 0 b z0 z0 []) (i+1+l)):=by
 have hl:=lt_of_get h
 have c1:=text_d (gl:=gl) s i d hs h ht
 have h1:=(byt 34 hl).2 h
 have h2:¬ ((i:Nat):Int)=((s.length:Nat):Int):=by omega
 have h3:¬ (((s.getD ((i:Nat):Int).toNat 0).toNat:Nat):Int)=40:=fun e=>by rw[h1] at e;exact absurd e (by decide)
 unfold Gives1
 refine fn_of_vc (nv:=9999) (cu:=[]) fits mixed Tryz.func130 rfl hoB rfl rfl rfl rfl ?_
 ((repeat' ((conv=>whnf);first|exact .intro|refine .ya ?_|refine .na ?_|refine .ys ?_|refine .ns ?_|refine .neg (fun _=>?_) (fun _=>?_)|refine .mk (fun _=>?_) (fun _=>?_)|refine .inr (X5 (c1.r [0] _) ?_)|refine .inl (.inr (X5 (c1.r [0] _) ?_))|refine .inl (X5 (c1.r [0] _) ?_)|refine .mk ?_ ?_|refine AK ?_|refine AT ?_|fail));all_goals conv=>whnf)
 ((repeat' first|exact rfl|((conv=>whnf);first|done|exact suL|refine And.intro ?_ ?_|fail));all_goals conv=>whnf)
theorem prim_textn {s:List UInt8} {i d:Nat} (hs:s.length≤200) (h:s[i]?=some 34) (ht:txtF (s.drop (i+1))=none):Gives1 gl 130 [.c (.ptr 0 0)] s i d (.no i 2):=by
 have hl:=lt_of_get h
 have c1:=text_n (gl:=gl) s i d hs h ht
 have h1:=(byt 34 hl).2 h
 have h2:¬ ((i:Nat):Int)=((s.length:Nat):Int):=by omega
 have h3:¬ (((s.getD ((i:Nat):Int).toNat 0).toNat:Nat):Int)=40:=fun e=>by rw[h1] at e;exact absurd e (by decide)
 unfold Gives1
 refine fn_of_vc (nv:=9999) (cu:=[]) fits mixed Tryz.func130 rfl hoB rfl rfl rfl rfl ?_
 ((repeat' ((conv=>whnf);first|exact .intro|refine .ya ?_|refine .na ?_|refine .ys ?_|refine .ns ?_|refine .neg (fun _=>?_) (fun _=>?_)|refine .mk (fun _=>?_) (fun _=>?_)|refine .inr (X5 (c1.r [0] _) ?_)|refine .inl (.inr (X5 (c1.r [0] _) ?_))|refine .inl (X5 (c1.r [0] _) ?_)|refine .mk ?_ ?_|refine AK ?_|refine AT ?_|fail));all_goals conv=>whnf)
 ((repeat' first|exact rfl|((conv=>whnf);first|done|exact suL|refine And.intro ?_ ?_|fail));all_goals conv=>whnf)
theorem prim_full {s:List UInt8} {i:Nat} (_hs:s.length≤200) (h:s[i]?=some 40):Gives1 gl 130 [.c (.ptr 0 0)] s i 30 (.no i 4):=by
 have hl:=lt_of_get h
 have c1:=within_1f (gl:=gl) s i i 150
 have h1:=(byt 40 hl).2 h
 have h2:¬ ((i:Nat):Int)=((s.length:Nat):Int):=by omega
 unfold Gives1
 refine fn_of_vc (nv:=9999) (cu:=[]) fits mixed Tryz.func130 rfl hoB rfl rfl rfl rfl ?_
 ((repeat' ((conv=>whnf);first|exact .intro|refine .ya ?_|refine .na ?_|refine .ys ?_|refine .ns ?_|refine .neg (fun _=>?_) (fun _=>?_)|refine .mk (fun _=>?_) (fun _=>?_)|refine .inr (X5 (c1.r [0,1] _) ?_)|refine .inl (.inr (X5 (c1.r [0,1] _) ?_))|refine .inl (X5 (c1.r [0,1] _) ?_)|refine .mk ?_ ?_|refine AK ?_|refine AT ?_|fail));all_goals conv=>whnf)
 ((repeat' first|exact rfl|((conv=>whnf);first|done|exact suL|refine And.intro ?_ ?_|fail));all_goals conv=>whnf)
theorem prim_par {s:List UInt8} {i j d:Nat} {n:Nd} (hs:s.length≤200) (hd:d<30) (h:s[i]?=some 40) (hj:j≤s.length) (ht:Gives1 gl 67 [.c (.ptr 0 0),.c (.d (iD 0))] s (i+1) (d+1) (.ok n j)) (hq:s[skp s j]?=some 41) :
 Gives1 gl 130 [.c (.ptr 0 0)] s i d (.ok n (skp s j+1)):=by
 have hl:=lt_of_get h
 have c1:=within_1 (gl:=gl) (p:=i) hd (prim1_ok hl hj hs ht hq)
 have h1:=(byt 40 hl).2 h
 have h2:¬ ((i:Nat):Int)=((s.length:Nat):Int):=by omega
 obtain ⟨k,m,t,a,b,ks⟩:=n
 unfold Gives1
 refine fn_of_vc (nv:=9999) (cu:=[]) fits mixed Tryz.func130 rfl hoB rfl rfl rfl rfl ?_
 ((repeat' ((conv=>whnf);first|exact .intro|refine .ya ?_|refine .na ?_|refine .ys ?_|refine .ns ?_|refine .neg (fun _=>?_) (fun _=>?_)|refine .mk (fun _=>?_) (fun _=>?_)|refine .inr (X5 (c1.r [0,1] _) ?_)|refine .inl (.inr (X5 (c1.r [0,1] _) ?_))|refine .inl (X5 (c1.r [0,1] _) ?_)|refine .mk ?_ ?_|refine AK ?_|refine AT ?_|fail));all_goals conv=>whnf)
 ((repeat' first|exact rfl|((conv=>whnf);first|done|exact suL|refine And.intro ?_ ?_|fail));all_goals conv=>whnf)
theorem prim_parn {s:List UInt8} {i j d:Nat} {n:Nd} (hs:s.length≤200) (hd:d<30) (h:s[i]?=some 40) (hj:j≤s.length) (ht:Gives1 gl 67 [.c (.ptr 0 0),.c (.d (iD 0))] s (i+1) (d+1) (.ok n j)) (hq:s[skp s j]?≠some 41) :
 Gives1 gl 130 [.c (.ptr 0 0)] s i d (.no (skp s j) 2):=by
 have hl:=lt_of_get h
 have c1:=within_1n (gl:=gl) (p:=i) hd (prim1_n hl hj hs ht hq)
 have h1:=(byt 40 hl).2 h
 have h2:¬ ((i:Nat):Int)=((s.length:Nat):Int):=by omega
 unfold Gives1
 refine fn_of_vc (nv:=9999) (cu:=[]) fits mixed Tryz.func130 rfl hoB rfl rfl rfl rfl ?_
 ((repeat' ((conv=>whnf);first|exact .intro|refine .ya ?_|refine .na ?_|refine .ys ?_|refine .ns ?_|refine .neg (fun _=>?_) (fun _=>?_)|refine .mk (fun _=>?_) (fun _=>?_)|refine .inr (X5 (c1.r [0,1] _) ?_)|refine .inl (.inr (X5 (c1.r [0,1] _) ?_))|refine .inl (X5 (c1.r [0,1] _) ?_)|refine .mk ?_ ?_|refine AK ?_|refine AT ?_|fail));all_goals conv=>whnf)
 ((repeat' first|exact rfl|((conv=>whnf);first|done|exact suL|refine And.intro ?_ ?_|fail));all_goals conv=>whnf)
theorem prim_pare {s:List UInt8} {i q d:Nat} {e:Int} (hs:s.length≤200) (hd:d<30) (h:s[i]?=some 40) (ht:Gives1 gl 67 [.c (.ptr 0 0),.c (.d (iD 0))] s (i+1) (d+1) (.no q e)) :
 Gives1 gl 130 [.c (.ptr 0 0)] s i d (.no q e):=by
 have hl:=lt_of_get h
 have c1:=within_1n (gl:=gl) (p:=i) hd (prim1_no hl hs ht)
 have h1:=(byt 40 hl).2 h
 have h2:¬ ((i:Nat):Int)=((s.length:Nat):Int):=by omega
 unfold Gives1
 refine fn_of_vc (nv:=9999) (cu:=[]) fits mixed Tryz.func130 rfl hoB rfl rfl rfl rfl ?_
 ((repeat' ((conv=>whnf);first|exact .intro|refine .ya ?_|refine .na ?_|refine .ys ?_|refine .ns ?_|refine .neg (fun _=>?_) (fun _=>?_)|refine .mk (fun _=>?_) (fun _=>?_)|refine .inr (X5 (c1.r [0,1] _) ?_)|refine .inl (.inr (X5 (c1.r [0,1] _) ?_))|refine .inl (X5 (c1.r [0,1] _) ?_)|refine .mk ?_ ?_|refine AK ?_|refine AT ?_|fail));all_goals conv=>whnf)
 ((repeat' first|exact rfl|((conv=>whnf);first|done|exact suL|refine And.intro ?_ ?_|fail));all_goals conv=>whnf)
end Go.Proofs.YtcdjjjokniinkaaGreatDoor
end
section
namespace Go.Proofs.YtcdjjjokniinkaaGreatDoor
open Go Go.EYtcdjjjokniinkaaGreatDoor
set_option maxRecDepth 100000
variable {gl:List (Nat×List D)}
theorem neg_full {s:List UInt8} {i:Nat} (hi:i≤s.length) (hs:s.length≤200) (h:s[skp s i]?=some 45):Gives1 gl 91 [.c (.ptr 0 0)] s i 30 (.no (skp s i) 4):=by
 have hl:=lt_of_get h
 have h1:=(byt 45 hl).2 h
 have h2:((skp s i:Nat):Int)<((s.length:Nat):Int):=by omega
 have c0:=blanks_d (gl:=gl) s i 30 hi hs
 have c1:=within_1f (gl:=gl) s (skp s i) (skp s i) 129
 generalize skp s i=j at *
 unfold Gives1
 refine fn_of_vc (nv:=9999) (cu:=[]) fits mixed Tryz.func91 rfl hoB rfl rfl rfl rfl ?_
 ((repeat' ((conv=>whnf);first|exact .intro|refine .ya ?_|refine .na ?_|refine .ys ?_|refine .ns ?_|refine .neg (fun _=>?_) (fun _=>?_)|refine .mk (fun _=>?_) (fun _=>?_)|refine .inr (X5 (c0.r [0] _) ?_)|refine .inl (.inr (X5 (c0.r [0] _) ?_))|refine .inl (X5 (c0.r [0] _) ?_)|refine .inr (X5 (c1.r [0,1] _) ?_)|refine .inl (.inr (X5 (c1.r [0,1] _) ?_))|refine .inl (X5 (c1.r [0,1] _) ?_)|refine .mk ?_ ?_|refine AK ?_|refine AT ?_|fail));all_goals conv=>whnf)
 ((repeat' first|exact rfl|((conv=>whnf);first|done|exact suL|refine And.intro ?_ ?_|fail));all_goals conv=>whnf)
theorem neg_in {s:List UInt8} {i k d:Nat} {n:Nd} (hi:i≤s.length) (hs:s.length≤200) (hd:d<30) (h:s[skp s i]?=some 45) (hn:Gives1 gl 91 [.c (.ptr 0 0)] s (skp s i+1) (d+1) (.ok n k)):Gives1 gl 91 [.c (.ptr 0 0)] s i d (.ok (negN n) k):=by
 have hl:=lt_of_get h
 have h1:=(byt 45 hl).2 h
 have h2:((skp s i:Nat):Int)<((s.length:Nat):Int):=by omega
 have c0:=blanks_d (gl:=gl) s i d hi hs
 have c1:=within_1 (gl:=gl) (p:=skp s i) hd (neg1_ok hl hs hn)
 generalize skp s i=j at *
 unfold Gives1
 refine fn_of_vc (nv:=9999) (cu:=[]) fits mixed Tryz.func91 rfl hoB rfl rfl rfl rfl ?_
 ((repeat' ((conv=>whnf);first|exact .intro|refine .ya ?_|refine .na ?_|refine .ys ?_|refine .ns ?_|refine .neg (fun _=>?_) (fun _=>?_)|refine .mk (fun _=>?_) (fun _=>?_)|refine .inr (X5 (c0.r [0] _) ?_)|refine .inl (.inr (X5 (c0.r [0] _) ?_))|refine .inl (X5 (c0.r [0] _) ?_)|refine .inr (X5 (c1.r [0,1] _) ?_)|refine .inl (.inr (X5 (c1.r [0,1] _) ?_))|refine .inl (X5 (c1.r [0,1] _) ?_)|refine .mk ?_ ?_|refine AK ?_|refine AT ?_|fail));all_goals conv=>whnf)
 ((repeat' first|exact rfl|((conv=>whnf);first|done|exact suL|refine And.intro ?_ ?_|fail));all_goals conv=>whnf)
theorem neg_ine {s:List UInt8} {i q d:Nat} {e:Int} (hi:i≤s.length) (hs:s.length≤200) (hd:d<30) (h:s[skp s i]?=some 45) (hn:Gives1 gl 91 [.c (.ptr 0 0)] s (skp s i+1) (d+1) (.no q e)):Gives1 gl 91 [.c (.ptr 0 0)] s i d (.no q e):=by
 have hl:=lt_of_get h
 have h1:=(byt 45 hl).2 h
 have h2:((skp s i:Nat):Int)<((s.length:Nat):Int):=by omega
 have c0:=blanks_d (gl:=gl) s i d hi hs
 have c1:=within_1n (gl:=gl) (p:=skp s i) hd (neg1_no hl hs hn)
 generalize skp s i=j at *
 unfold Gives1
 refine fn_of_vc (nv:=9999) (cu:=[]) fits mixed Tryz.func91 rfl hoB rfl rfl rfl rfl ?_
 ((repeat' ((conv=>whnf);first|exact .intro|refine .ya ?_|refine .na ?_|refine .ys ?_|refine .ns ?_|refine .neg (fun _=>?_) (fun _=>?_)|refine .mk (fun _=>?_) (fun _=>?_)|refine .inr (X5 (c0.r [0] _) ?_)|refine .inl (.inr (X5 (c0.r [0] _) ?_))|refine .inl (X5 (c0.r [0] _) ?_)|refine .inr (X5 (c1.r [0,1] _) ?_)|refine .inl (.inr (X5 (c1.r [0,1] _) ?_))|refine .inl (X5 (c1.r [0,1] _) ?_)|refine .mk ?_ ?_|refine AK ?_|refine AT ?_|fail));all_goals conv=>whnf)
 ((repeat' first|exact rfl|((conv=>whnf);first|done|exact suL|refine And.intro ?_ ?_|fail));all_goals conv=>whnf)
theorem neg_prim {s:List UInt8} {i d:Nat} (hi:i≤s.length) (hs:s.length≤200) (h:s[skp s i]?≠some 45) {r:Rs Nd} (hp:Gives1 gl 130 [.c (.ptr 0 0)] s (skp s i) d r):Gives1 gl 91 [.c (.ptr 0 0)] s i d r:=by
 have c0:=blanks_d (gl:=gl) s i d hi hs
 cases r with
 | ok n k =>
  obtain ⟨k0,m,t,a,b,ks⟩:=n
  unfold Gives1 at hp ⊢
  rcases Nat.lt_or_ge (skp s i) s.length with hl|hl
  ·have h2:((skp s i:Nat):Int)<((s.length:Nat):Int):=by omega
   have h1:¬ (((s.getD ((skp s i:Nat):Int).toNat 0).toNat:Nat):Int)=45:=fun e=>h ((byt 45 hl).1 e)
   generalize skp s i=j at *
   refine fn_of_vc (nv:=9999) (cu:=[]) fits mixed Tryz.func91 rfl hoB rfl rfl rfl rfl ?_
   ((repeat' ((conv=>whnf);first|exact .intro|refine .ya ?_|refine .na ?_|refine .ys ?_|refine .ns ?_|refine .neg (fun _=>?_) (fun _=>?_)|refine .mk (fun _=>?_) (fun _=>?_)|refine .inr (X5 (c0.r [0] _) ?_)|refine .inl (.inr (X5 (c0.r [0] _) ?_))|refine .inl (X5 (c0.r [0] _) ?_)|refine .inr (X5 (hp.r [0] _) ?_)|refine .inl (.inr (X5 (hp.r [0] _) ?_))|refine .inl (X5 (hp.r [0] _) ?_)|refine .mk ?_ ?_|refine AK ?_|refine AT ?_|fail));all_goals conv=>whnf)
   ((repeat' first|exact rfl|((conv=>whnf);first|done|exact suL|refine And.intro ?_ ?_|fail));all_goals conv=>whnf)
  ·have h2:¬ ((skp s i:Nat):Int)<((s.length:Nat):Int):=by omega
   generalize skp s i=j at *
   refine fn_of_vc (nv:=9999) (cu:=[]) fits mixed Tryz.func91 rfl hoB rfl rfl rfl rfl ?_
   ((repeat' ((conv=>whnf);first|exact .intro|refine .ya ?_|refine .na ?_|refine .ys ?_|refine .ns ?_|refine .neg (fun _=>?_) (fun _=>?_)|refine .mk (fun _=>?_) (fun _=>?_)|refine .inr (X5 (c0.r [0] _) ?_)|refine .inl (.inr (X5 (c0.r [0] _) ?_))|refine .inl (X5 (c0.r [0] _) ?_)|refine .inr (X5 (hp.r [0] _) ?_)|refine .inl (.inr (X5 (hp.r [0] _) ?_))|refine .inl (X5 (hp.r [0] _) ?_)|refine .mk ?_ ?_|refine AK ?_|refine AT ?_|fail));all_goals conv=>whnf)
   ((repeat' first|exact rfl|((conv=>whnf);first|done|exact suL|refine And.intro ?_ ?_|fail));all_goals conv=>whnf)
 | no q e =>
  unfold Gives1 at hp ⊢
  rcases Nat.lt_or_ge (skp s i) s.length with hl|hl
  ·have h2:((skp s i:Nat):Int)<((s.length:Nat):Int):=by omega
   have h1:¬ (((s.getD ((skp s i:Nat):Int).toNat 0).toNat:Nat):Int)=45:=fun e=>h ((byt 45 hl).1 e)
   generalize skp s i=j at *
   refine fn_of_vc (nv:=9999) (cu:=[]) fits mixed Tryz.func91 rfl hoB rfl rfl rfl rfl ?_
   ((repeat' ((conv=>whnf);first|exact .intro|refine .ya ?_|refine .na ?_|refine .ys ?_|refine .ns ?_|refine .neg (fun _=>?_) (fun _=>?_)|refine .mk (fun _=>?_) (fun _=>?_)|refine .inr (X5 (c0.r [0] _) ?_)|refine .inl (.inr (X5 (c0.r [0] _) ?_))|refine .inl (X5 (c0.r [0] _) ?_)|refine .inr (X5 (hp.r [0] _) ?_)|refine .inl (.inr (X5 (hp.r [0] _) ?_))|refine .inl (X5 (hp.r [0] _) ?_)|refine .mk ?_ ?_|refine AK ?_|refine AT ?_|fail));all_goals conv=>whnf)
   ((repeat' first|exact rfl|((conv=>whnf);first|done|exact suL|refine And.intro ?_ ?_|fail));all_goals conv=>whnf)
  ·have h2:¬ ((skp s i:Nat):Int)<((s.length:Nat):Int):=by omega
   generalize skp s i=j at *
   refine fn_of_vc (nv:=9999) (cu:=[]) fits mixed Tryz.func91 rfl hoB rfl rfl rfl rfl ?_
   ((repeat' ((conv=>whnf);first|exact .intro|refine .ya ?_|refine .na ?_|refine .ys ?_|refine .ns ?_|refine .neg (fun _=>?_) (fun _=>?_)|refine .mk (fun _=>?_) (fun _=>?_)|refine .inr (X5 (c0.r [0] _) ?_)|refine .inl (.inr (X5 (c0.r [0] _) ?_))|refine .inl (X5 (c0.r [0] _) ?_)|refine .inr (X5 (hp.r [0] _) ?_)|refine .inl (.inr (X5 (hp.r [0] _) ?_))|refine .inl (X5 (hp.r [0] _) ?_)|refine .mk ?_ ?_|refine AK ?_|refine AT ?_|fail));all_goals conv=>whnf)
   ((repeat' first|exact rfl|((conv=>whnf);first|done|exact suL|refine And.intro ?_ ?_|fail));all_goals conv=>whnf)
end Go.Proofs.YtcdjjjokniinkaaGreatDoor
end
section
namespace Go.Proofs.YtcdjjjokniinkaaGreatDoor
open Go Go.EYtcdjjjokniinkaaGreatDoor
set_option maxRecDepth 100000
def Has (gl' gl:List (Nat×List D)):Prop:=∀ g l,Go.EYtcdjjjokniinkaaGreatDoor.look gl g=some l→Go.EYtcdjjjokniinkaaGreatDoor.look gl' g=some l
theorem Has.glob {gl' gl:List (Nat×List D)} {M:Nat→Prop} {w:World} (h:Has gl' gl) (hg:Glob gl' M w):Glob gl M w:=fun g l hl=>hg g l (h g l hl)
theorem FnP.moreG {P:Program} {gl' gl:List (Nat×List D)} {f:Nat} {ds:List D} {r:D} (h:FnP P gl f ds r) (hh:Has gl' gl):FnP P gl' f ds r:=fun w M xs hM hg hd=>h w M xs hM (hh.glob hg) hd
theorem lit_slice (s:List UInt8) (i n:Nat):List.drop ((some ((i:Nat):Int)).getD 0).toNat (List.take ((some ((i+n:Nat):Int)).getD ((s.length:Nat):Int)).toNat s)=(s.drop i).take n:=by
 simp only[Option.getD_some,Int.toNat_natCast]
 rw[List.drop_take]
 congr 1
 omega
theorem prim_lit {gl:List (Nat×List D)} (te:TypeId) (pe:Value) (hV:Has gl (glV te pe)) {s:List UInt8} {i d:Nat} (hs:s.length≤200) (h:s[i]?=some 35) {m:Int} {l:Nat} (hl:litF (s.drop i)=some (m,l)):Gives1 gl 130 [.c (.ptr 0 0)] s i d (.ok (.mk 4 m [] z0 z0 []) (i+l)):=by
 have hi:=lt_of_get h
 have h1:=(byt 35 hi).2 h
 have h2:¬ ((i:Nat):Int)=((s.length:Nat):Int):=by omega
 have h3:¬ (((s.getD ((i:Nat):Int).toNat 0).toNat:Nat):Int)=40:=fun e=>by rw[h1] at e;exact absurd e (by decide)
 have h4:¬ (((s.getD ((i:Nat):Int).toNat 0).toNat:Nat):Int)=34:=fun e=>by rw[h1] at e;exact absurd e (by decide)
 unfold Gives1
 refine fn_of_vc (nv:=9999) (cu:=[]) fits mixed Tryz.func130 rfl hoB rfl rfl rfl rfl ?_
 ((repeat' ((conv=>whnf);first|exact .intro|refine .ya ?_|refine .na ?_|refine .ys ?_|refine .ns ?_|refine .neg (fun _=>?_) (fun _=>?_)|refine .mk (fun _=>?_) (fun _=>?_)|refine .mk ?_ ?_|refine AK ?_|refine AT ?_|fail));all_goals conv=>whnf)
 refine ⟨{ σ:=Nat,fr:=fun n=>[(5,.c (.d (iD ((i+n:Nat):Int))))],ks:=[],L:=fun n=>[],ex:=0,I:=fun n=>1≤n∧n≤s.length - i+1∧litN (s.drop i) (s.length - i+1 - n) n=some (m,l),μ:=fun n=>s.length+1 - n },⟨1,⟨Nat.le_refl _,by omega,by rw[← hl];unfold litF;rw[List.length_drop];congr 1⟩,?_⟩,fun (n:Nat) hn=>?_⟩
 ·((repeat' first|exact rfl|((conv=>whnf);first|done|exact suL|refine And.intro ?_ ?_|fail));all_goals conv=>whnf)
  exact ceq (by rw[wrapI (by omega)];rfl)
 ·obtain ⟨hn1,hn2,hn3⟩:=hn
  by_cases hk:i+n≤s.length
  ·have hk':((i+n:Nat):Int)≤((s.length:Nat):Int):=by omega
   have e:=lit_slice s i n
   have c1:=FnP.moreG (Literal_d te pe ((s.drop i).take n)) hV
   rw[show s.length - i+1 - n=(s.length - i - n)+1 by omega] at hn3
   unfold litN at hn3
   cases hz:litZ ((s.drop i).take n) with
   | some q =>
    obtain ⟨k,m'⟩:=q
    rw[hz] at hn3 c1
    simp only[Option.some.injEq,Prod.mk.injEq] at hn3
    obtain ⟨rfl,rfl⟩:=hn3
    rw[← e] at c1
    change FnP Tryz.prog (gl) 153 _ (.tup [vlD k m' [],.v (.bool true)]) at c1
    ((repeat' ((conv=>whnf);first|exact .intro|refine .ya ?_|refine .na ?_|refine .ys ?_|refine .ns ?_|refine .neg (fun _=>?_) (fun _=>?_)|refine .mk (fun _=>?_) (fun _=>?_)|refine .inl (.inl (X1 (c1) ?_))|refine .inl (X1 (c1) ?_)|refine X1 (c1) ?_|refine .mk ?_ ?_|refine AK ?_|refine AT ?_|fail));all_goals conv=>whnf)
    refine ⟨⟨Int.natCast_nonneg _,(show ((i:Nat):Int)≤((i+n:Nat):Int) by omega),hk'⟩,?_⟩
    ((repeat' ((conv=>whnf);first|exact .intro|refine .ya ?_|refine .na ?_|refine .ys ?_|refine .ns ?_|refine .neg (fun _=>?_) (fun _=>?_)|refine .mk (fun _=>?_) (fun _=>?_)|refine .inl (.inl (X1 (c1) ?_))|refine .inl (X1 (c1) ?_)|refine X1 (c1) ?_|refine .mk ?_ ?_|refine AK ?_|refine AT ?_|fail));all_goals conv=>whnf)
    ((repeat' first|exact rfl|((conv=>whnf);first|done|exact suL|refine And.intro ?_ ?_|fail));all_goals conv=>whnf)
    (refine .inr ?_;repeat' first|exact .intro|exact .inr (.inl rfl)|exact lf0|exact ln0|((conv=>whnf);first|exact .intro|exact .inr (.inl rfl)|exact lf0|exact ln0|refine And.intro ?_ ?_|fail))
   | none =>
    rw[hz] at hn3 c1
    rw[← e] at c1
    change FnP Tryz.prog (gl) 153 _ (.tup [vlD 0 0 [],.v (.bool false)]) at c1
    ((repeat' ((conv=>whnf);first|exact .intro|refine .ya ?_|refine .na ?_|refine .ys ?_|refine .ns ?_|refine .neg (fun _=>?_) (fun _=>?_)|refine .mk (fun _=>?_) (fun _=>?_)|refine .inl (.inl (X1 (c1) ?_))|refine .inl (X1 (c1) ?_)|refine X1 (c1) ?_|refine .mk ?_ ?_|refine AK ?_|refine AT ?_|fail));all_goals conv=>whnf)
    refine ⟨⟨Int.natCast_nonneg _,(show ((i:Nat):Int)≤((i+n:Nat):Int) by omega),hk'⟩,?_⟩
    ((repeat' ((conv=>whnf);first|exact .intro|refine .ya ?_|refine .na ?_|refine .ys ?_|refine .ns ?_|refine .neg (fun _=>?_) (fun _=>?_)|refine .mk (fun _=>?_) (fun _=>?_)|refine .inl (.inl (X1 (c1) ?_))|refine .inl (X1 (c1) ?_)|refine X1 (c1) ?_|refine .mk ?_ ?_|refine AK ?_|refine AT ?_|fail));all_goals conv=>whnf)
    refine ⟨n+1,⟨⟨by omega,by omega,by rw[show s.length - i+1 - (n+1)=s.length - i - n by omega];exact hn3⟩,by show s.length+1 - (n+1)<s.length+1 - n;omega⟩,?_⟩
    ((repeat' first|exact rfl|((conv=>whnf);first|done|exact suL|refine And.intro ?_ ?_|fail));all_goals conv=>whnf)
    exact ceq (by rw[wrapI (by omega)];omega)
  ·rw[show s.length - i+1 - n=0 by omega] at hn3
   cases hn3
theorem prim_litn {gl:List (Nat×List D)} (te:TypeId) (pe:Value) (hV:Has gl (glV te pe)) {s:List UInt8} {i d:Nat} (hs:s.length≤200) (h:s[i]?=some 35) (hl:litF (s.drop i)=none):Gives1 gl 130 [.c (.ptr 0 0)] s i d (.no i 2):=by
 have hi:=lt_of_get h
 have h1:=(byt 35 hi).2 h
 have c2:=fail_d (gl:=gl) s i d i 2
 have h2:¬ ((i:Nat):Int)=((s.length:Nat):Int):=by omega
 have h3:¬ (((s.getD ((i:Nat):Int).toNat 0).toNat:Nat):Int)=40:=fun e=>by rw[h1] at e;exact absurd e (by decide)
 have h4:¬ (((s.getD ((i:Nat):Int).toNat 0).toNat:Nat):Int)=34:=fun e=>by rw[h1] at e;exact absurd e (by decide)
 unfold Gives1
 refine fn_of_vc (nv:=9999) (cu:=[]) fits mixed Tryz.func130 rfl hoB rfl rfl rfl rfl ?_
 ((repeat' ((conv=>whnf);first|exact .intro|refine .ya ?_|refine .na ?_|refine .ys ?_|refine .ns ?_|refine .neg (fun _=>?_) (fun _=>?_)|refine .mk (fun _=>?_) (fun _=>?_)|refine .mk ?_ ?_|refine AK ?_|refine AT ?_|fail));all_goals conv=>whnf)
 refine ⟨{ σ:=Nat,fr:=fun n=>[(5,.c (.d (iD ((i+n:Nat):Int))))],ks:=[],L:=fun n=>[],ex:=0,I:=fun n=>1≤n∧n≤s.length - i+1∧litN (s.drop i) (s.length - i+1 - n) n=none,μ:=fun n=>s.length+1 - n },⟨1,⟨Nat.le_refl _,by omega,by rw[← hl];unfold litF;rw[List.length_drop];congr 1⟩,?_⟩,fun (n:Nat) hn=>?_⟩
 ·((repeat' first|exact rfl|((conv=>whnf);first|done|exact suL|refine And.intro ?_ ?_|fail));all_goals conv=>whnf)
  exact ceq (by rw[wrapI (by omega)];rfl)
 ·obtain ⟨hn1,hn2,hn3⟩:=hn
  by_cases hk:i+n≤s.length
  ·have hk':((i+n:Nat):Int)≤((s.length:Nat):Int):=by omega
   have e:=lit_slice s i n
   have c1:=FnP.moreG (Literal_d te pe ((s.drop i).take n)) hV
   rw[show s.length - i+1 - n=(s.length - i - n)+1 by omega] at hn3
   unfold litN at hn3
   cases hz:litZ ((s.drop i).take n) with
   | some q =>
    rw[hz] at hn3
    cases hn3
   | none =>
    rw[hz] at hn3 c1
    rw[← e] at c1
    change FnP Tryz.prog (gl) 153 _ (.tup [vlD 0 0 [],.v (.bool false)]) at c1
    ((repeat' ((conv=>whnf);first|exact .intro|refine .ya ?_|refine .na ?_|refine .ys ?_|refine .ns ?_|refine .neg (fun _=>?_) (fun _=>?_)|refine .mk (fun _=>?_) (fun _=>?_)|refine .inl (.inl (X1 (c1) ?_))|refine .inl (X1 (c1) ?_)|refine X1 (c1) ?_|refine .mk ?_ ?_|refine AK ?_|refine AT ?_|fail));all_goals conv=>whnf)
    refine ⟨⟨Int.natCast_nonneg _,(show ((i:Nat):Int)≤((i+n:Nat):Int) by omega),hk'⟩,?_⟩
    ((repeat' ((conv=>whnf);first|exact .intro|refine .ya ?_|refine .na ?_|refine .ys ?_|refine .ns ?_|refine .neg (fun _=>?_) (fun _=>?_)|refine .mk (fun _=>?_) (fun _=>?_)|refine .inl (.inl (X1 (c1) ?_))|refine .inl (X1 (c1) ?_)|refine X1 (c1) ?_|refine .mk ?_ ?_|refine AK ?_|refine AT ?_|fail));all_goals conv=>whnf)
    refine ⟨n+1,⟨⟨by omega,by omega,by rw[show s.length - i+1 - (n+1)=s.length - i - n by omega];exact hn3⟩,by show s.length+1 - (n+1)<s.length+1 - n;omega⟩,?_⟩
    ((repeat' first|exact rfl|((conv=>whnf);first|done|exact suL|refine And.intro ?_ ?_|fail));all_goals conv=>whnf)
    exact ceq (by rw[wrapI (by omega)];omega)
  ·have hk8:¬ ((i+n:Nat):Int)≤((s.length:Nat):Int):=by omega
   ((repeat' ((conv=>whnf);first|exact .intro|refine .ya ?_|refine .na ?_|refine .ys ?_|refine .ns ?_|refine .neg (fun _=>?_) (fun _=>?_)|refine .mk (fun _=>?_) (fun _=>?_)|refine .inr (X5 (c2.r [0] _) ?_)|refine .inl (.inr (X5 (c2.r [0] _) ?_))|refine .inl (X5 (c2.r [0] _) ?_)|refine .mk ?_ ?_|refine AK ?_|refine AT ?_|fail));all_goals conv=>whnf)
   ((repeat' first|exact rfl|((conv=>whnf);first|done|exact suL|refine And.intro ?_ ?_|fail));all_goals conv=>whnf)
end Go.Proofs.YtcdjjjokniinkaaGreatDoor
end
section
namespace Go.Proofs.YtcdjjjokniinkaaGreatDoor
open Go Go.EYtcdjjjokniinkaaGreatDoor
set_option maxRecDepth 100000
set_option maxHeartbeats 4000000
variable {gl:List (Nat×List D)}
def WrOk (gl:List (Nat×List D)) (n:Nd):Prop:=∀ s:List UInt8,s.length+cntN n * 2097200≤140737488355328→
 Go.EYtcdjjjokniinkaaGreatDoor.Fn Tryz.prog gl 82 [.c (.ptr 0 0),.agg (ndC n)] [(0,bld1),(1,bytB s)] 2 (.ret (.tup [])) [(0,bld1),(1,bytB (s++wrN n))] 2 [1]
theorem brackets_d {n:Nd} (hw:WrOk gl n) (hl:(wrN n).length+3≤cntN n * 2097200) (p:Prop) [i:Decidable p] (s:List UInt8) (hs:s.length+cntN n * 2097200+2≤140737488355328) :
 Go.EYtcdjjjokniinkaaGreatDoor.Fn Tryz.prog gl 122 [.c (.ptr 0 0),.agg (ndC n),.c (.d (.b p i))] [(0,bld1),(1,bytB s)] 2 (.ret (.tup [])) [(0,bld1),(1,bytB (s++brN (wrN n) p))] 2 [1]:=by
 obtain ⟨k,m,t,a,b,ks⟩:=n
 by_cases hp:p
 ·have c1:=WriteByte_d (gl:=gl) (.inr rfl) s 40 (by omega)
  have c2:=hw (s++[40]) (by rw[List.length_append,List.length_singleton];omega)
  have c3:=WriteByte_d (gl:=gl) (.inr rfl) (s++[40]++wrN (.mk k m t a b ks)) 41 (by rw[List.length_append,List.length_append,List.length_singleton];omega)
  rw[show s++brN (wrN (.mk k m t a b ks)) p=s++[40]++wrN (.mk k m t a b ks)++[41] by unfold brN;rw[if_pos hp];simp]
  refine fn_of_vc (nv:=9999) (cu:=[]) fits mixed Tryz.func122 rfl hoB rfl rfl rfl rfl ?_
  ((repeat' ((conv=>whnf);first|exact .intro|refine .ya ?_|refine .na ?_|refine .ys ?_|refine .ns ?_|refine .neg (fun _=>?_) (fun _=>?_)|refine .mk (fun _=>?_) (fun _=>?_)|refine .inr (X5 (c1.r [0,1] _) ?_)|refine .inl (.inr (X5 (c1.r [0,1] _) ?_))|refine .inl (X5 (c1.r [0,1] _) ?_)|refine .inr (X5 (c2.r [0,1] _) ?_)|refine .inl (.inr (X5 (c2.r [0,1] _) ?_))|refine .inl (X5 (c2.r [0,1] _) ?_)|refine .inr (X5 (c3.r [0,1] _) ?_)|refine .inl (.inr (X5 (c3.r [0,1] _) ?_))|refine .inl (X5 (c3.r [0,1] _) ?_)|refine .mk ?_ ?_|refine AK ?_|refine AT ?_|fail));all_goals conv=>whnf)
  ((repeat' first|exact rfl|((conv=>whnf);first|done|exact suL|refine And.intro ?_ ?_|fail));all_goals conv=>whnf)
 ·have c2:=hw s (by omega)
  rw[show brN (wrN (.mk k m t a b ks)) p=wrN (.mk k m t a b ks) by unfold brN;rw[if_neg hp]]
  refine fn_of_vc (nv:=9999) (cu:=[]) fits mixed Tryz.func122 rfl hoB rfl rfl rfl rfl ?_
  ((repeat' ((conv=>whnf);first|exact .intro|refine .ya ?_|refine .na ?_|refine .ys ?_|refine .ns ?_|refine .neg (fun _=>?_) (fun _=>?_)|refine .mk (fun _=>?_) (fun _=>?_)|refine .inr (X5 (c2.r [0,1] _) ?_)|refine .inl (.inr (X5 (c2.r [0,1] _) ?_))|refine .inl (X5 (c2.r [0,1] _) ?_)|refine .mk ?_ ?_|refine AK ?_|refine AT ?_|fail));all_goals conv=>whnf)
  ((repeat' first|exact rfl|((conv=>whnf);first|done|exact suL|refine And.intro ?_ ?_|fail));all_goals conv=>whnf)
theorem write_leaf (te:TypeId) (pe:Value) (hV:Has gl (glV te pe)) {mx:Int} (hm:Go.EYtcdjjjokniinkaaGreatDoor.look gl 3=some [iD mx]) (k m:Int) (t:List UInt8) (a b:Rf) (ks:List Nd) {box:Prop} (hk:1≤k∧k≤6) (hf:frmN (.mk k m t a b ks) box) (ho:okN (.mk k m t a b ks)):WrOk gl (.mk k m t a b ks):=by
 intro s hs
 have hl:=wr_len _ hf ho
 obtain ⟨hmI,ht,_⟩:=ho
 have c9:=WriteString_d (gl:=gl) (.inr rfl) s (wrN (.mk k m t a b ks)) (by omega)
 have hk':k=1∨k=2∨k=3∨k=4∨k=5∨k=6:=by omega
 rcases hk' with rfl|rfl|rfl|rfl|rfl|rfl
 ·have c1:=Num_d (gl:=gl) m
  have c2:=FnP.moreG (Show_3 te pe 1 m [] hmI) hV
  rw[show show3 1 m []=wrN (.mk 1 m t a b ks) by rw[wrN];rfl] at c2
  refine fn_of_vc (nv:=9999) (cu:=[]) fits mixed Tryz.func82 rfl hoB rfl rfl rfl rfl ?_
  ((repeat' ((conv=>whnf);first|exact .intro|refine .ya ?_|refine .na ?_|refine .ys ?_|refine .ns ?_|refine .neg (fun _=>?_) (fun _=>?_)|refine .mk (fun _=>?_) (fun _=>?_)|refine .inr (X5 (c9.r [0,1] _) ?_)|refine .inl (.inr (X5 (c9.r [0,1] _) ?_))|refine .inl (X5 (c9.r [0,1] _) ?_)|refine .inl (.inl (X1 (by first|exact c1|exact c2) ?_))|refine .inl (X1 (by first|exact c1|exact c2) ?_)|refine X1 (by first|exact c1|exact c2) ?_|refine .mk ?_ ?_|refine AK ?_|refine AT ?_|fail));all_goals conv=>whnf)
  ((repeat' first|exact rfl|((conv=>whnf);first|done|exact suL|refine And.intro ?_ ?_|fail));all_goals conv=>whnf)
 ·have c1:=Replace_d hm t ht
  rw[show wrN (.mk 2 m t a b ks)=[34]++dqN t++[34] by rw[wrN,if_neg (by decide),if_pos rfl];simp] at c9 hl ⊢
  have hd:=dqN_len t
  have q1:1+(dqN t).length≤9223372036854775807:=by omega
  have q2:([34]++dqN t).length+1≤9223372036854775807:=by rw[List.length_append,List.length_singleton];omega
  refine fn_of_vc (nv:=9999) (cu:=[]) fits mixed Tryz.func82 rfl hoB rfl rfl rfl rfl ?_
  ((repeat' ((conv=>whnf);first|exact .intro|refine .ya ?_|refine .na ?_|refine .ys ?_|refine .ns ?_|refine .neg (fun _=>?_) (fun _=>?_)|refine .mk (fun _=>?_) (fun _=>?_)|refine .inr (X5 (c9.r [0,1] _) ?_)|refine .inl (.inr (X5 (c9.r [0,1] _) ?_))|refine .inl (X5 (c9.r [0,1] _) ?_)|refine .inl (.inl (X1 (c1) ?_))|refine .inl (X1 (c1) ?_)|refine X1 (c1) ?_|(first|refine ⟨q1,?_⟩|refine ⟨q2,?_⟩)|refine .mk ?_ ?_|refine AK ?_|refine AT ?_|fail));all_goals conv=>whnf)
  ((repeat' first|exact rfl|((conv=>whnf);first|done|exact suL|refine And.intro ?_ ?_|fail));all_goals conv=>whnf)
 ·by_cases h1:m=1
  ·have c1:=Is_y (gl:=gl) (inferInstanceAs (Decidable (m=1))) h1
   have c2:=FnP.moreG (Show_3 te pe 3 1 [] (by decide)) hV
   rw[show show3 3 1 []=wrN (.mk 3 m t a b ks) by rw[wrN,if_neg (by decide),if_neg (by decide),if_pos rfl,if_pos h1];rfl] at c2
   refine fn_of_vc (nv:=9999) (cu:=[]) fits mixed Tryz.func82 rfl hoB rfl rfl rfl rfl ?_
   ((repeat' ((conv=>whnf);first|exact .intro|refine .ya ?_|refine .na ?_|refine .ys ?_|refine .ns ?_|refine .neg (fun _=>?_) (fun _=>?_)|refine .mk (fun _=>?_) (fun _=>?_)|refine .inr (X5 (c9.r [0,1] _) ?_)|refine .inl (.inr (X5 (c9.r [0,1] _) ?_))|refine .inl (X5 (c9.r [0,1] _) ?_)|refine .inl (.inl (X1 (by first|exact c1|exact c2) ?_))|refine .inl (X1 (by first|exact c1|exact c2) ?_)|refine X1 (by first|exact c1|exact c2) ?_|refine .mk ?_ ?_|refine AK ?_|refine AT ?_|fail));all_goals conv=>whnf)
   ((repeat' first|exact rfl|((conv=>whnf);first|done|exact suL|refine And.intro ?_ ?_|fail));all_goals conv=>whnf)
  ·have c1:=Is_n (gl:=gl) (inferInstanceAs (Decidable (m=1))) h1
   have c2:=FnP.moreG (Show_3 te pe 3 0 [] (by decide)) hV
   rw[show show3 3 0 []=wrN (.mk 3 m t a b ks) by rw[wrN,if_neg (by decide),if_neg (by decide),if_pos rfl,if_neg h1];rfl] at c2
   refine fn_of_vc (nv:=9999) (cu:=[]) fits mixed Tryz.func82 rfl hoB rfl rfl rfl rfl ?_
   ((repeat' ((conv=>whnf);first|exact .intro|refine .ya ?_|refine .na ?_|refine .ys ?_|refine .ns ?_|refine .neg (fun _=>?_) (fun _=>?_)|refine .mk (fun _=>?_) (fun _=>?_)|refine .inr (X5 (c9.r [0,1] _) ?_)|refine .inl (.inr (X5 (c9.r [0,1] _) ?_))|refine .inl (X5 (c9.r [0,1] _) ?_)|refine .inl (.inl (X1 (by first|exact c1|exact c2) ?_))|refine .inl (X1 (by first|exact c1|exact c2) ?_)|refine X1 (by first|exact c1|exact c2) ?_|refine .mk ?_ ?_|refine AK ?_|refine AT ?_|fail));all_goals conv=>whnf)
   ((repeat' first|exact rfl|((conv=>whnf);first|done|exact suL|refine And.intro ?_ ?_|fail));all_goals conv=>whnf)
 ·rw[frm_4] at hf
  have c1:=Wrong_d (gl:=gl) m
  have c2:=FnP.moreG (Show_3 te pe 4 m [] hmI) hV
  rw[show show3 4 m []=wrN (.mk 4 m t a b ks) by rw[wrN,if_neg (by decide),if_neg (by decide),if_neg (by decide),if_pos rfl];unfold show3;rw[if_neg (by decide),if_neg (by decide),if_neg (by decide),if_pos rfl,if_pos (by omega)]] at c2
  refine fn_of_vc (nv:=9999) (cu:=[]) fits mixed Tryz.func82 rfl hoB rfl rfl rfl rfl ?_
  ((repeat' ((conv=>whnf);first|exact .intro|refine .ya ?_|refine .na ?_|refine .ys ?_|refine .ns ?_|refine .neg (fun _=>?_) (fun _=>?_)|refine .mk (fun _=>?_) (fun _=>?_)|refine .inr (X5 (c9.r [0,1] _) ?_)|refine .inl (.inr (X5 (c9.r [0,1] _) ?_))|refine .inl (X5 (c9.r [0,1] _) ?_)|refine .inl (.inl (X1 (by first|exact c1|exact c2) ?_))|refine .inl (X1 (by first|exact c1|exact c2) ?_)|refine X1 (by first|exact c1|exact c2) ?_|refine .mk ?_ ?_|refine AK ?_|refine AT ?_|fail));all_goals conv=>whnf)
  ((repeat' first|exact rfl|((conv=>whnf);first|done|exact suL|refine And.intro ?_ ?_|fail));all_goals conv=>whnf)
 ·rw[frm_5] at hf
  have c1:=RefName_s (gl:=gl) (fc:=a.fc) (fr:=a.fr) hf.2.2.2.2
  rw[show nameL a.c a.r a.fc a.fr=wrN (.mk 5 m t a b ks) by rw[wrN,if_neg (by decide),if_neg (by decide),if_neg (by decide),if_neg (by decide),if_pos rfl];rfl] at c1
  refine fn_of_vc (nv:=9999) (cu:=[]) fits mixed Tryz.func82 rfl hoB rfl rfl rfl rfl ?_
  ((repeat' ((conv=>whnf);first|exact .intro|refine .ya ?_|refine .na ?_|refine .ys ?_|refine .ns ?_|refine .neg (fun _=>?_) (fun _=>?_)|refine .mk (fun _=>?_) (fun _=>?_)|refine .inr (X5 (c9.r [0,1] _) ?_)|refine .inl (.inr (X5 (c9.r [0,1] _) ?_))|refine .inl (X5 (c9.r [0,1] _) ?_)|refine .inl (.inl (X1 (c1) ?_))|refine .inl (X1 (c1) ?_)|refine X1 (c1) ?_|refine .mk ?_ ?_|refine AK ?_|refine AT ?_|fail));all_goals conv=>whnf)
  ((repeat' first|exact rfl|((conv=>whnf);first|done|exact suL|refine And.intro ?_ ?_|fail));all_goals conv=>whnf)
 ·rw[frm_6] at hf
  have c1:=RefName_s (gl:=gl) (fc:=a.fc) (fr:=a.fr) hf.2.2.2.2.1
  have c2:=RefName_s (gl:=gl) (fc:=b.fc) (fr:=b.fr) hf.2.2.2.2.2
  have hb:=nmR_len b
  have ha:=nmR_len a
  rw[show wrN (.mk 6 m t a b ks)=nmR a++58::nmR b by rw[wrN,if_neg (by decide),if_neg (by decide),if_neg (by decide),if_neg (by decide),if_neg (by decide),if_pos rfl]] at c9 hl ⊢
  have c3:=WriteString_d (gl:=gl) (.inr rfl) s (nmR a) (by omega)
  have c4:=WriteString_d (gl:=gl) (.inr rfl) (s++nmR a) ([58]++nmR b) (by rw[List.length_append,List.length_append];simp;omega)
  have q1:1+(nmR b).length≤9223372036854775807:=by omega
  rw[show s++(nmR a++58::nmR b)=s++nmR a++([58]++nmR b) by simp]
  refine fn_of_vc (nv:=9999) (cu:=[]) fits mixed Tryz.func82 rfl hoB rfl rfl rfl rfl ?_
  ((repeat' ((conv=>whnf);first|exact .intro|refine .ya ?_|refine .na ?_|refine .ys ?_|refine .ns ?_|refine .neg (fun _=>?_) (fun _=>?_)|refine .mk (fun _=>?_) (fun _=>?_)|refine .inr (X5 (c3.r [0,1] _) ?_)|refine .inl (.inr (X5 (c3.r [0,1] _) ?_))|refine .inl (X5 (c3.r [0,1] _) ?_)|refine .inr (X5 (c4.r [0,1] _) ?_)|refine .inl (.inr (X5 (c4.r [0,1] _) ?_))|refine .inl (X5 (c4.r [0,1] _) ?_)|refine .inl (.inl (X1 (by first|exact c1|exact c2) ?_))|refine .inl (X1 (by first|exact c1|exact c2) ?_)|refine X1 (by first|exact c1|exact c2) ?_|(refine ⟨q1,?_⟩)|refine .mk ?_ ?_|refine AK ?_|refine AT ?_|fail));all_goals conv=>whnf)
  ((repeat' first|exact rfl|((conv=>whnf);first|done|exact suL|refine And.intro ?_ ?_|fail));all_goals conv=>whnf)
end Go.Proofs.YtcdjjjokniinkaaGreatDoor
end
