/- Proved: a part of what the law is proved with (the reckoner, contracts of functions, plain laws). Conditions: as each says. -/
import Derived.Test.YtdpigpahfiachaaGreatDoorZGi
section
namespace Go.Proofs.YtdpigpahfiachaaGreatDoor
open Go Go.EYtdpigpahfiachaaGreatDoor
set_option maxRecDepth 100000
variable {gl:List (Nat×List D)}
theorem within_1f (s:List UInt8) (i p g:Nat):Go.EYtdpigpahfiachaaGreatDoor.Fn Tryz.prog gl 143 [.c (.ptr 0 0),.c (.d (iD (p:Int))),.c (.fn g [(1,0)])] [(0,rdB s i 30),(1,rpB)] 2 (.panic (.d (fltD p 4))) [] 2 []:=by
 have c1:=fail_d (gl:=gl) s i 30 p 4
 refine fn_of_vc (nv:=9999) (cu:=[]) fits mixed Tryz.func143 rfl hoB rfl rfl rfl rfl ?_
 ((repeat' ((conv=>whnf);first|exact .intro|refine .ya ?_|refine .na ?_|refine .ys ?_|refine .ns ?_|refine .neg (fun _=>?_) (fun _=>?_)|refine .mk (fun _=>?_) (fun _=>?_)|refine .inr (X5 (c1.r [0] _) ?_)|refine .inl (.inr (X5 (c1.r [0] _) ?_))|refine .inl (X5 (c1.r [0] _) ?_)|refine .mk ?_ ?_|refine AK ?_|refine AT ?_|fail));all_goals conv=>whnf)
 ((repeat' first|exact rfl|((conv=>whnf);first|done|exact suL|refine And.intro ?_ ?_|fail));all_goals conv=>whnf)
theorem prim_end {s:List UInt8} {d:Nat} (_hs:s.length≤200):Gives1 gl 145 [.c (.ptr 0 0)] s s.length d (.no s.length 2):=by
 have c1:=fail_d (gl:=gl) s s.length d s.length 2
 unfold Gives1
 refine fn_of_vc (nv:=9999) (cu:=[]) fits mixed Tryz.func145 rfl hoB rfl rfl rfl rfl ?_
 ((repeat' ((conv=>whnf);first|exact .intro|refine .ya ?_|refine .na ?_|refine .ys ?_|refine .ns ?_|refine .neg (fun _=>?_) (fun _=>?_)|refine .mk (fun _=>?_) (fun _=>?_)|refine .inr (X5 (c1.r [0] _) ?_)|refine .inl (.inr (X5 (c1.r [0] _) ?_))|refine .inl (X5 (c1.r [0] _) ?_)|refine .mk ?_ ?_|refine AK ?_|refine AT ?_|fail));all_goals conv=>whnf)
 ((repeat' first|exact rfl|((conv=>whnf);first|done|exact suL|refine And.intro ?_ ?_|fail));all_goals conv=>whnf)
theorem prim_text {s:List UInt8} {i d:Nat} (hs:s.length≤200) (h:s[i]?=some 34) {b:List UInt8} {l:Nat} (ht:txtF (s.drop (i+1))=some (b,l)):Gives1 gl 145 [.c (.ptr 0 0)] s i d (.ok (.mk 2 0 b z0 z0 []) (i+1+l)):=by
 have hl:=lt_of_get h
 have c1:=text_d (gl:=gl) s i d hs h ht
 have h1:=(byt 34 hl).2 h
 have h2:¬ ((i:Nat):Int)=((s.length:Nat):Int):=by omega
 have h3:¬ (((s.getD ((i:Nat):Int).toNat 0).toNat:Nat):Int)=40:=fun e=>by rw[h1] at e;exact absurd e (by decide)
 unfold Gives1
 refine fn_of_vc (nv:=9999) (cu:=[]) fits mixed Tryz.func145 rfl hoB rfl rfl rfl rfl ?_
 ((repeat' ((conv=>whnf);first|exact .intro|refine .ya ?_|refine .na ?_|refine .ys ?_|refine .ns ?_|refine .neg (fun _=>?_) (fun _=>?_)|refine .mk (fun _=>?_) (fun _=>?_)|refine .inr (X5 (c1.r [0] _) ?_)|refine .inl (.inr (X5 (c1.r [0] _) ?_))|refine .inl (X5 (c1.r [0] _) ?_)|refine .mk ?_ ?_|refine AK ?_|refine AT ?_|fail));all_goals conv=>whnf)
 ((repeat' first|exact rfl|((conv=>whnf);first|done|exact suL|refine And.intro ?_ ?_|fail));all_goals conv=>whnf)
theorem prim_textn {s:List UInt8} {i d:Nat} (hs:s.length≤200) (h:s[i]?=some 34) (ht:txtF (s.drop (i+1))=none):Gives1 gl 145 [.c (.ptr 0 0)] s i d (.no i 2):=by
 have hl:=lt_of_get h
 have c1:=text_n (gl:=gl) s i d hs h ht
 have h1:=(byt 34 hl).2 h
 have h2:¬ ((i:Nat):Int)=((s.length:Nat):Int):=by omega
 have h3:¬ (((s.getD ((i:Nat):Int).toNat 0).toNat:Nat):Int)=40:=fun e=>by rw[h1] at e;exact absurd e (by decide)
 unfold Gives1
 refine fn_of_vc (nv:=9999) (cu:=[]) fits mixed Tryz.func145 rfl hoB rfl rfl rfl rfl ?_
 ((repeat' ((conv=>whnf);first|exact .intro|refine .ya ?_|refine .na ?_|refine .ys ?_|refine .ns ?_|refine .neg (fun _=>?_) (fun _=>?_)|refine .mk (fun _=>?_) (fun _=>?_)|refine .inr (X5 (c1.r [0] _) ?_)|refine .inl (.inr (X5 (c1.r [0] _) ?_))|refine .inl (X5 (c1.r [0] _) ?_)|refine .mk ?_ ?_|refine AK ?_|refine AT ?_|fail));all_goals conv=>whnf)
 ((repeat' first|exact rfl|((conv=>whnf);first|done|exact suL|refine And.intro ?_ ?_|fail));all_goals conv=>whnf)
theorem prim_full {s:List UInt8} {i:Nat} (_hs:s.length≤200) (h:s[i]?=some 40):Gives1 gl 145 [.c (.ptr 0 0)] s i 30 (.no i 4):=by
 have hl:=lt_of_get h
 have c1:=within_1f (gl:=gl) s i i 166
 have h1:=(byt 40 hl).2 h
 have h2:¬ ((i:Nat):Int)=((s.length:Nat):Int):=by omega
 unfold Gives1
 refine fn_of_vc (nv:=9999) (cu:=[]) fits mixed Tryz.func145 rfl hoB rfl rfl rfl rfl ?_
 ((repeat' ((conv=>whnf);first|exact .intro|refine .ya ?_|refine .na ?_|refine .ys ?_|refine .ns ?_|refine .neg (fun _=>?_) (fun _=>?_)|refine .mk (fun _=>?_) (fun _=>?_)|refine .inr (X5 (c1.r [0,1] _) ?_)|refine .inl (.inr (X5 (c1.r [0,1] _) ?_))|refine .inl (X5 (c1.r [0,1] _) ?_)|refine .mk ?_ ?_|refine AK ?_|refine AT ?_|fail));all_goals conv=>whnf)
 ((repeat' first|exact rfl|((conv=>whnf);first|done|exact suL|refine And.intro ?_ ?_|fail));all_goals conv=>whnf)
theorem prim_par {s:List UInt8} {i j d:Nat} {n:Nd} (hs:s.length≤200) (hd:d<30) (h:s[i]?=some 40) (hj:j≤s.length) (ht:Gives1 gl 52 [.c (.ptr 0 0),.c (.d (iD 0))] s (i+1) (d+1) (.ok n j)) (hq:s[skp s j]?=some 41) :
 Gives1 gl 145 [.c (.ptr 0 0)] s i d (.ok n (skp s j+1)):=by
 have hl:=lt_of_get h
 have c1:=within_1 (gl:=gl) (p:=i) hd (prim1_ok hl hj hs ht hq)
 have h1:=(byt 40 hl).2 h
 have h2:¬ ((i:Nat):Int)=((s.length:Nat):Int):=by omega
 obtain ⟨k,m,t,a,b,ks⟩:=n
 unfold Gives1
 refine fn_of_vc (nv:=9999) (cu:=[]) fits mixed Tryz.func145 rfl hoB rfl rfl rfl rfl ?_
 ((repeat' ((conv=>whnf);first|exact .intro|refine .ya ?_|refine .na ?_|refine .ys ?_|refine .ns ?_|refine .neg (fun _=>?_) (fun _=>?_)|refine .mk (fun _=>?_) (fun _=>?_)|refine .inr (X5 (c1.r [0,1] _) ?_)|refine .inl (.inr (X5 (c1.r [0,1] _) ?_))|refine .inl (X5 (c1.r [0,1] _) ?_)|refine .mk ?_ ?_|refine AK ?_|refine AT ?_|fail));all_goals conv=>whnf)
 ((repeat' first|exact rfl|((conv=>whnf);first|done|exact suL|refine And.intro ?_ ?_|fail));all_goals conv=>whnf)
theorem prim_parn {s:List UInt8} {i j d:Nat} {n:Nd} (hs:s.length≤200) (hd:d<30) (h:s[i]?=some 40) (hj:j≤s.length) (ht:Gives1 gl 52 [.c (.ptr 0 0),.c (.d (iD 0))] s (i+1) (d+1) (.ok n j)) (hq:s[skp s j]?≠some 41) :
 Gives1 gl 145 [.c (.ptr 0 0)] s i d (.no (skp s j) 2):=by
 have hl:=lt_of_get h
 have c1:=within_1n (gl:=gl) (p:=i) hd (prim1_n hl hj hs ht hq)
 have h1:=(byt 40 hl).2 h
 have h2:¬ ((i:Nat):Int)=((s.length:Nat):Int):=by omega
 unfold Gives1
 refine fn_of_vc (nv:=9999) (cu:=[]) fits mixed Tryz.func145 rfl hoB rfl rfl rfl rfl ?_
 ((repeat' ((conv=>whnf);first|exact .intro|refine .ya ?_|refine .na ?_|refine .ys ?_|refine .ns ?_|refine .neg (fun _=>?_) (fun _=>?_)|refine .mk (fun _=>?_) (fun _=>?_)|refine .inr (X5 (c1.r [0,1] _) ?_)|refine .inl (.inr (X5 (c1.r [0,1] _) ?_))|refine .inl (X5 (c1.r [0,1] _) ?_)|refine .mk ?_ ?_|refine AK ?_|refine AT ?_|fail));all_goals conv=>whnf)
 ((repeat' first|exact rfl|((conv=>whnf);first|done|exact suL|refine And.intro ?_ ?_|fail));all_goals conv=>whnf)
theorem prim_pare {s:List UInt8} {i q d:Nat} {e:Int} (hs:s.length≤200) (hd:d<30) (h:s[i]?=some 40) (ht:Gives1 gl 52 [.c (.ptr 0 0),.c (.d (iD 0))] s (i+1) (d+1) (.no q e)) :
 Gives1 gl 145 [.c (.ptr 0 0)] s i d (.no q e):=by
 have hl:=lt_of_get h
 have c1:=within_1n (gl:=gl) (p:=i) hd (prim1_no hl hs ht)
 have h1:=(byt 40 hl).2 h
 have h2:¬ ((i:Nat):Int)=((s.length:Nat):Int):=by omega
 unfold Gives1
 refine fn_of_vc (nv:=9999) (cu:=[]) fits mixed Tryz.func145 rfl hoB rfl rfl rfl rfl ?_
 ((repeat' ((conv=>whnf);first|exact .intro|refine .ya ?_|refine .na ?_|refine .ys ?_|refine .ns ?_|refine .neg (fun _=>?_) (fun _=>?_)|refine .mk (fun _=>?_) (fun _=>?_)|refine .inr (X5 (c1.r [0,1] _) ?_)|refine .inl (.inr (X5 (c1.r [0,1] _) ?_))|refine .inl (X5 (c1.r [0,1] _) ?_)|refine .mk ?_ ?_|refine AK ?_|refine AT ?_|fail));all_goals conv=>whnf)
 ((repeat' first|exact rfl|((conv=>whnf);first|done|exact suL|refine And.intro ?_ ?_|fail));all_goals conv=>whnf)
end Go.Proofs.YtdpigpahfiachaaGreatDoor
end
section
namespace Go.Proofs.YtdpigpahfiachaaGreatDoor
open Go Go.EYtdpigpahfiachaaGreatDoor
set_option maxRecDepth 100000
variable {gl:List (Nat×List D)}
theorem neg_full {s:List UInt8} {i:Nat} (hi:i≤s.length) (hs:s.length≤200) (h:s[skp s i]?=some 45):Gives1 gl 95 [.c (.ptr 0 0)] s i 30 (.no (skp s i) 4):=by
 have hl:=lt_of_get h
 have h1:=(byt 45 hl).2 h
 have h2:((skp s i:Nat):Int)<((s.length:Nat):Int):=by omega
 have c0:=blanks_d (gl:=gl) s i 30 hi hs
 have c1:=within_1f (gl:=gl) s (skp s i) (skp s i) 144
 generalize skp s i=j at *
 unfold Gives1
 refine fn_of_vc (nv:=9999) (cu:=[]) fits mixed Tryz.func95 rfl hoB rfl rfl rfl rfl ?_
 ((repeat' ((conv=>whnf);first|exact .intro|refine .ya ?_|refine .na ?_|refine .ys ?_|refine .ns ?_|refine .neg (fun _=>?_) (fun _=>?_)|refine .mk (fun _=>?_) (fun _=>?_)|refine .inr (X5 (c0.r [0] _) ?_)|refine .inl (.inr (X5 (c0.r [0] _) ?_))|refine .inl (X5 (c0.r [0] _) ?_)|refine .inr (X5 (c1.r [0,1] _) ?_)|refine .inl (.inr (X5 (c1.r [0,1] _) ?_))|refine .inl (X5 (c1.r [0,1] _) ?_)|refine .mk ?_ ?_|refine AK ?_|refine AT ?_|fail));all_goals conv=>whnf)
 ((repeat' first|exact rfl|((conv=>whnf);first|done|exact suL|refine And.intro ?_ ?_|fail));all_goals conv=>whnf)
theorem neg_in {s:List UInt8} {i k d:Nat} {n:Nd} (hi:i≤s.length) (hs:s.length≤200) (hd:d<30) (h:s[skp s i]?=some 45) (hn:Gives1 gl 95 [.c (.ptr 0 0)] s (skp s i+1) (d+1) (.ok n k)):Gives1 gl 95 [.c (.ptr 0 0)] s i d (.ok (negN n) k):=by
 have hl:=lt_of_get h
 have h1:=(byt 45 hl).2 h
 have h2:((skp s i:Nat):Int)<((s.length:Nat):Int):=by omega
 have c0:=blanks_d (gl:=gl) s i d hi hs
 have c1:=within_1 (gl:=gl) (p:=skp s i) hd (neg1_ok hl hs hn)
 generalize skp s i=j at *
 unfold Gives1
 refine fn_of_vc (nv:=9999) (cu:=[]) fits mixed Tryz.func95 rfl hoB rfl rfl rfl rfl ?_
 ((repeat' ((conv=>whnf);first|exact .intro|refine .ya ?_|refine .na ?_|refine .ys ?_|refine .ns ?_|refine .neg (fun _=>?_) (fun _=>?_)|refine .mk (fun _=>?_) (fun _=>?_)|refine .inr (X5 (c0.r [0] _) ?_)|refine .inl (.inr (X5 (c0.r [0] _) ?_))|refine .inl (X5 (c0.r [0] _) ?_)|refine .inr (X5 (c1.r [0,1] _) ?_)|refine .inl (.inr (X5 (c1.r [0,1] _) ?_))|refine .inl (X5 (c1.r [0,1] _) ?_)|refine .mk ?_ ?_|refine AK ?_|refine AT ?_|fail));all_goals conv=>whnf)
 ((repeat' first|exact rfl|((conv=>whnf);first|done|exact suL|refine And.intro ?_ ?_|fail));all_goals conv=>whnf)
theorem neg_ine {s:List UInt8} {i q d:Nat} {e:Int} (hi:i≤s.length) (hs:s.length≤200) (hd:d<30) (h:s[skp s i]?=some 45) (hn:Gives1 gl 95 [.c (.ptr 0 0)] s (skp s i+1) (d+1) (.no q e)):Gives1 gl 95 [.c (.ptr 0 0)] s i d (.no q e):=by
 have hl:=lt_of_get h
 have h1:=(byt 45 hl).2 h
 have h2:((skp s i:Nat):Int)<((s.length:Nat):Int):=by omega
 have c0:=blanks_d (gl:=gl) s i d hi hs
 have c1:=within_1n (gl:=gl) (p:=skp s i) hd (neg1_no hl hs hn)
 generalize skp s i=j at *
 unfold Gives1
 refine fn_of_vc (nv:=9999) (cu:=[]) fits mixed Tryz.func95 rfl hoB rfl rfl rfl rfl ?_
 ((repeat' ((conv=>whnf);first|exact .intro|refine .ya ?_|refine .na ?_|refine .ys ?_|refine .ns ?_|refine .neg (fun _=>?_) (fun _=>?_)|refine .mk (fun _=>?_) (fun _=>?_)|refine .inr (X5 (c0.r [0] _) ?_)|refine .inl (.inr (X5 (c0.r [0] _) ?_))|refine .inl (X5 (c0.r [0] _) ?_)|refine .inr (X5 (c1.r [0,1] _) ?_)|refine .inl (.inr (X5 (c1.r [0,1] _) ?_))|refine .inl (X5 (c1.r [0,1] _) ?_)|refine .mk ?_ ?_|refine AK ?_|refine AT ?_|fail));all_goals conv=>whnf)
 ((repeat' first|exact rfl|((conv=>whnf);first|done|exact suL|refine And.intro ?_ ?_|fail));all_goals conv=>whnf)
theorem neg_prim {s:List UInt8} {i d:Nat} (hi:i≤s.length) (hs:s.length≤200) (h:s[skp s i]?≠some 45) {r:Rs Nd} (hp:Gives1 gl 145 [.c (.ptr 0 0)] s (skp s i) d r):Gives1 gl 95 [.c (.ptr 0 0)] s i d r:=by
 have c0:=blanks_d (gl:=gl) s i d hi hs
 cases r with
 | ok n k =>
  obtain ⟨k0,m,t,a,b,ks⟩:=n
  unfold Gives1 at hp ⊢
  rcases Nat.lt_or_ge (skp s i) s.length with hl|hl
  ·have h2:((skp s i:Nat):Int)<((s.length:Nat):Int):=by omega
   have h1:¬ (((s.getD ((skp s i:Nat):Int).toNat 0).toNat:Nat):Int)=45:=fun e=>h ((byt 45 hl).1 e)
   generalize skp s i=j at *
   refine fn_of_vc (nv:=9999) (cu:=[]) fits mixed Tryz.func95 rfl hoB rfl rfl rfl rfl ?_
   ((repeat' ((conv=>whnf);first|exact .intro|refine .ya ?_|refine .na ?_|refine .ys ?_|refine .ns ?_|refine .neg (fun _=>?_) (fun _=>?_)|refine .mk (fun _=>?_) (fun _=>?_)|refine .inr (X5 (c0.r [0] _) ?_)|refine .inl (.inr (X5 (c0.r [0] _) ?_))|refine .inl (X5 (c0.r [0] _) ?_)|refine .inr (X5 (hp.r [0] _) ?_)|refine .inl (.inr (X5 (hp.r [0] _) ?_))|refine .inl (X5 (hp.r [0] _) ?_)|refine .mk ?_ ?_|refine AK ?_|refine AT ?_|fail));all_goals conv=>whnf)
   ((repeat' first|exact rfl|((conv=>whnf);first|done|exact suL|refine And.intro ?_ ?_|fail));all_goals conv=>whnf)
  ·have h2:¬ ((skp s i:Nat):Int)<((s.length:Nat):Int):=by omega
   generalize skp s i=j at *
   refine fn_of_vc (nv:=9999) (cu:=[]) fits mixed Tryz.func95 rfl hoB rfl rfl rfl rfl ?_
   ((repeat' ((conv=>whnf);first|exact .intro|refine .ya ?_|refine .na ?_|refine .ys ?_|refine .ns ?_|refine .neg (fun _=>?_) (fun _=>?_)|refine .mk (fun _=>?_) (fun _=>?_)|refine .inr (X5 (c0.r [0] _) ?_)|refine .inl (.inr (X5 (c0.r [0] _) ?_))|refine .inl (X5 (c0.r [0] _) ?_)|refine .inr (X5 (hp.r [0] _) ?_)|refine .inl (.inr (X5 (hp.r [0] _) ?_))|refine .inl (X5 (hp.r [0] _) ?_)|refine .mk ?_ ?_|refine AK ?_|refine AT ?_|fail));all_goals conv=>whnf)
   ((repeat' first|exact rfl|((conv=>whnf);first|done|exact suL|refine And.intro ?_ ?_|fail));all_goals conv=>whnf)
 | no q e =>
  unfold Gives1 at hp ⊢
  rcases Nat.lt_or_ge (skp s i) s.length with hl|hl
  ·have h2:((skp s i:Nat):Int)<((s.length:Nat):Int):=by omega
   have h1:¬ (((s.getD ((skp s i:Nat):Int).toNat 0).toNat:Nat):Int)=45:=fun e=>h ((byt 45 hl).1 e)
   generalize skp s i=j at *
   refine fn_of_vc (nv:=9999) (cu:=[]) fits mixed Tryz.func95 rfl hoB rfl rfl rfl rfl ?_
   ((repeat' ((conv=>whnf);first|exact .intro|refine .ya ?_|refine .na ?_|refine .ys ?_|refine .ns ?_|refine .neg (fun _=>?_) (fun _=>?_)|refine .mk (fun _=>?_) (fun _=>?_)|refine .inr (X5 (c0.r [0] _) ?_)|refine .inl (.inr (X5 (c0.r [0] _) ?_))|refine .inl (X5 (c0.r [0] _) ?_)|refine .inr (X5 (hp.r [0] _) ?_)|refine .inl (.inr (X5 (hp.r [0] _) ?_))|refine .inl (X5 (hp.r [0] _) ?_)|refine .mk ?_ ?_|refine AK ?_|refine AT ?_|fail));all_goals conv=>whnf)
   ((repeat' first|exact rfl|((conv=>whnf);first|done|exact suL|refine And.intro ?_ ?_|fail));all_goals conv=>whnf)
  ·have h2:¬ ((skp s i:Nat):Int)<((s.length:Nat):Int):=by omega
   generalize skp s i=j at *
   refine fn_of_vc (nv:=9999) (cu:=[]) fits mixed Tryz.func95 rfl hoB rfl rfl rfl rfl ?_
   ((repeat' ((conv=>whnf);first|exact .intro|refine .ya ?_|refine .na ?_|refine .ys ?_|refine .ns ?_|refine .neg (fun _=>?_) (fun _=>?_)|refine .mk (fun _=>?_) (fun _=>?_)|refine .inr (X5 (c0.r [0] _) ?_)|refine .inl (.inr (X5 (c0.r [0] _) ?_))|refine .inl (X5 (c0.r [0] _) ?_)|refine .inr (X5 (hp.r [0] _) ?_)|refine .inl (.inr (X5 (hp.r [0] _) ?_))|refine .inl (X5 (hp.r [0] _) ?_)|refine .mk ?_ ?_|refine AK ?_|refine AT ?_|fail));all_goals conv=>whnf)
   ((repeat' first|exact rfl|((conv=>whnf);first|done|exact suL|refine And.intro ?_ ?_|fail));all_goals conv=>whnf)
end Go.Proofs.YtdpigpahfiachaaGreatDoor
end
