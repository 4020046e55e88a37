/- Proved: a part of what the law is proved with (the reckoner, contracts of functions, plain laws). Conditions: as each says. -/
import Derived.Test.YtfcmhmglpcimiaaGreatDoorKHa
namespace Go.Proofs.YtfcmhmglpcimiaaGreatDoor
open Go Go.EYtfcmhmglpcimiaaGreatDoor
set_option maxRecDepth 100000
section
variable {gl:List (Nat×List D)}
theorem within_1f (s:List UInt8) (i p g:Nat):Go.EYtfcmhmglpcimiaaGreatDoor.Fn Tryz.prog gl 87 [.c (.ptr 0 0),.c (.d (iD (p:Int))),.c (.fn g [(1,0)])] [(0,rdB s i 30),(1,rpB)] 2 (.panic (.d (fltD p 4))) [] 2 []:=by
 have c1:=fail_d (gl:=gl) s i 30 p 4
 refine S1 Tryz.func87 rfl ?_
 ((repeat' ((conv=>whnf);first|exact .intro|refine G ?_|intro _|refine C5 c1 [0] ?_|refine .mk ?_ ?_|refine H ?_|fail));all_goals conv=>whnf)
 ((repeat' first|exact rfl|((conv=>whnf);first|done|exact suL|refine And.intro ?_ ?_|fail));all_goals conv=>whnf)
theorem prim_end {s:List UInt8} {d:Nat} (_hs:s.length≤200):Gives1 gl 89 [.c (.ptr 0 0)] s s.length d (.no s.length 2):=by
 have c1:=fail_d (gl:=gl) s s.length d s.length 2
 unfold Gives1
 refine S1 Tryz.func89 rfl ?_
 ((repeat' ((conv=>whnf);first|exact .intro|refine G ?_|intro _|refine C5 c1 [0] ?_|refine .mk ?_ ?_|refine H ?_|fail));all_goals conv=>whnf)
 ((repeat' first|exact rfl|((conv=>whnf);first|done|exact suL|refine And.intro ?_ ?_|fail));all_goals conv=>whnf)
theorem prim_text {s:List UInt8} {i d:Nat} (hs:s.length≤200) (h:s[i]?=some 34) {b:List UInt8} {l:Nat} (ht:txtF (s.drop (i+1))=some (b,l)):Gives1 gl 89 [.c (.ptr 0 0)] s i d (.ok (.mk 2 0 b z0 z0 []) (i+1+l)):=by
 have hl:=lt_of_get h
 have c1:=text_d (gl:=gl) s i d hs h ht
 have h1:=(byt 34 hl).2 h
 have h2:¬ ((i:Nat):Int)=((s.length:Nat):Int):=by omega
 have h3:¬ (((s.getD ((i:Nat):Int).toNat 0).toNat:Nat):Int)=40:=fun e=>by rw[h1] at e;exact absurd e (by decide)
 unfold Gives1
 refine S1 Tryz.func89 rfl ?_
 ((repeat' ((conv=>whnf);first|exact .intro|refine G ?_|intro _|refine C5 c1 [0] ?_|refine .mk ?_ ?_|refine H ?_|fail));all_goals conv=>whnf)
 ((repeat' first|exact rfl|((conv=>whnf);first|done|exact suL|refine And.intro ?_ ?_|fail));all_goals conv=>whnf)
theorem prim_textn {s:List UInt8} {i d:Nat} (hs:s.length≤200) (h:s[i]?=some 34) (ht:txtF (s.drop (i+1))=none):Gives1 gl 89 [.c (.ptr 0 0)] s i d (.no i 2):=by
 have hl:=lt_of_get h
 have c1:=text_n (gl:=gl) s i d hs h ht
 have h1:=(byt 34 hl).2 h
 have h2:¬ ((i:Nat):Int)=((s.length:Nat):Int):=by omega
 have h3:¬ (((s.getD ((i:Nat):Int).toNat 0).toNat:Nat):Int)=40:=fun e=>by rw[h1] at e;exact absurd e (by decide)
 unfold Gives1
 refine S1 Tryz.func89 rfl ?_
 ((repeat' ((conv=>whnf);first|exact .intro|refine G ?_|intro _|refine C5 c1 [0] ?_|refine .mk ?_ ?_|refine H ?_|fail));all_goals conv=>whnf)
 ((repeat' first|exact rfl|((conv=>whnf);first|done|exact suL|refine And.intro ?_ ?_|fail));all_goals conv=>whnf)
theorem prim_full {s:List UInt8} {i:Nat} (_hs:s.length≤200) (h:s[i]?=some 40):Gives1 gl 89 [.c (.ptr 0 0)] s i 30 (.no i 4):=by
 have hl:=lt_of_get h
 have c1:=within_1f (gl:=gl) s i i 116
 have h1:=(byt 40 hl).2 h
 have h2:¬ ((i:Nat):Int)=((s.length:Nat):Int):=by omega
 unfold Gives1
 refine S1 Tryz.func89 rfl ?_
 ((repeat' ((conv=>whnf);first|exact .intro|refine G ?_|intro _|refine C5 c1 [0,1] ?_|refine .mk ?_ ?_|refine H ?_|fail));all_goals conv=>whnf)
 ((repeat' first|exact rfl|((conv=>whnf);first|done|exact suL|refine And.intro ?_ ?_|fail));all_goals conv=>whnf)
theorem prim_par {s:List UInt8} {i j d:Nat} {n:Nd} (hs:s.length≤200) (hd:d<30) (h:s[i]?=some 40) (hj:j≤s.length) (ht:Gives1 gl 46 [.c (.ptr 0 0),.c (.d (iD 0))] s (i+1) (d+1) (.ok n j)) (hq:s[skp s j]?=some 41) :
 Gives1 gl 89 [.c (.ptr 0 0)] s i d (.ok n (skp s j+1)):=by
 have hl:=lt_of_get h
 have c1:=within_1 (gl:=gl) (p:=i) hd (prim1_ok hl hj hs ht hq)
 have h1:=(byt 40 hl).2 h
 have h2:¬ ((i:Nat):Int)=((s.length:Nat):Int):=by omega
 obtain ⟨k,m,t,a,b,ks⟩:=n
 unfold Gives1
 refine S1 Tryz.func89 rfl ?_
 ((repeat' ((conv=>whnf);first|exact .intro|refine G ?_|intro _|refine C5 c1 [0,1] ?_|refine .mk ?_ ?_|refine H ?_|fail));all_goals conv=>whnf)
 ((repeat' first|exact rfl|((conv=>whnf);first|done|exact suL|refine And.intro ?_ ?_|fail));all_goals conv=>whnf)
theorem prim_parn {s:List UInt8} {i j d:Nat} {n:Nd} (hs:s.length≤200) (hd:d<30) (h:s[i]?=some 40) (hj:j≤s.length) (ht:Gives1 gl 46 [.c (.ptr 0 0),.c (.d (iD 0))] s (i+1) (d+1) (.ok n j)) (hq:s[skp s j]?≠some 41) :
 Gives1 gl 89 [.c (.ptr 0 0)] s i d (.no (skp s j) 2):=by
 have hl:=lt_of_get h
 have c1:=within_1n (gl:=gl) (p:=i) hd (prim1_n hl hj hs ht hq)
 have h1:=(byt 40 hl).2 h
 have h2:¬ ((i:Nat):Int)=((s.length:Nat):Int):=by omega
 unfold Gives1
 refine S1 Tryz.func89 rfl ?_
 ((repeat' ((conv=>whnf);first|exact .intro|refine G ?_|intro _|refine C5 c1 [0,1] ?_|refine .mk ?_ ?_|refine H ?_|fail));all_goals conv=>whnf)
 ((repeat' first|exact rfl|((conv=>whnf);first|done|exact suL|refine And.intro ?_ ?_|fail));all_goals conv=>whnf)
theorem prim_pare {s:List UInt8} {i q d:Nat} {e:Int} (hs:s.length≤200) (hd:d<30) (h:s[i]?=some 40) (ht:Gives1 gl 46 [.c (.ptr 0 0),.c (.d (iD 0))] s (i+1) (d+1) (.no q e)) :
 Gives1 gl 89 [.c (.ptr 0 0)] s i d (.no q e):=by
 have hl:=lt_of_get h
 have c1:=within_1n (gl:=gl) (p:=i) hd (prim1_no hl hs ht)
 have h1:=(byt 40 hl).2 h
 have h2:¬ ((i:Nat):Int)=((s.length:Nat):Int):=by omega
 unfold Gives1
 refine S1 Tryz.func89 rfl ?_
 ((repeat' ((conv=>whnf);first|exact .intro|refine G ?_|intro _|refine C5 c1 [0,1] ?_|refine .mk ?_ ?_|refine H ?_|fail));all_goals conv=>whnf)
 ((repeat' first|exact rfl|((conv=>whnf);first|done|exact suL|refine And.intro ?_ ?_|fail));all_goals conv=>whnf)
end
section
variable {gl:List (Nat×List D)}
theorem neg_full {s:List UInt8} {i:Nat} (hi:i≤s.length) (hs:s.length≤200) (h:s[skp s i]?=some 45):Gives1 gl 71 [.c (.ptr 0 0)] s i 30 (.no (skp s i) 4):=by
 have hl:=lt_of_get h
 have h1:=(byt 45 hl).2 h
 have h2:((skp s i:Nat):Int)<((s.length:Nat):Int):=by omega
 have c0:=blanks_d (gl:=gl) s i 30 hi hs
 have c1:=within_1f (gl:=gl) s (skp s i) (skp s i) 88
 generalize skp s i=j at *
 unfold Gives1
 refine S1 Tryz.func71 rfl ?_
 ((repeat' ((conv=>whnf);first|exact .intro|refine G ?_|intro _|refine C5 c0 [0] ?_|refine C5 c1 [0,1] ?_|refine .mk ?_ ?_|refine H ?_|fail));all_goals conv=>whnf)
 ((repeat' first|exact rfl|((conv=>whnf);first|done|exact suL|refine And.intro ?_ ?_|fail));all_goals conv=>whnf)
theorem neg_in {s:List UInt8} {i k d:Nat} {n:Nd} (hi:i≤s.length) (hs:s.length≤200) (hd:d<30) (h:s[skp s i]?=some 45) (hn:Gives1 gl 71 [.c (.ptr 0 0)] s (skp s i+1) (d+1) (.ok n k)):Gives1 gl 71 [.c (.ptr 0 0)] s i d (.ok (negN n) k):=by
 have hl:=lt_of_get h
 have h1:=(byt 45 hl).2 h
 have h2:((skp s i:Nat):Int)<((s.length:Nat):Int):=by omega
 have c0:=blanks_d (gl:=gl) s i d hi hs
 have c1:=within_1 (gl:=gl) (p:=skp s i) hd (neg1_ok hl hs hn)
 generalize skp s i=j at *
 unfold Gives1
 refine S1 Tryz.func71 rfl ?_
 ((repeat' ((conv=>whnf);first|exact .intro|refine G ?_|intro _|refine C5 c0 [0] ?_|refine C5 c1 [0,1] ?_|refine .mk ?_ ?_|refine H ?_|fail));all_goals conv=>whnf)
 ((repeat' first|exact rfl|((conv=>whnf);first|done|exact suL|refine And.intro ?_ ?_|fail));all_goals conv=>whnf)
theorem neg_ine {s:List UInt8} {i q d:Nat} {e:Int} (hi:i≤s.length) (hs:s.length≤200) (hd:d<30) (h:s[skp s i]?=some 45) (hn:Gives1 gl 71 [.c (.ptr 0 0)] s (skp s i+1) (d+1) (.no q e)):Gives1 gl 71 [.c (.ptr 0 0)] s i d (.no q e):=by
 have hl:=lt_of_get h
 have h1:=(byt 45 hl).2 h
 have h2:((skp s i:Nat):Int)<((s.length:Nat):Int):=by omega
 have c0:=blanks_d (gl:=gl) s i d hi hs
 have c1:=within_1n (gl:=gl) (p:=skp s i) hd (neg1_no hl hs hn)
 generalize skp s i=j at *
 unfold Gives1
 refine S1 Tryz.func71 rfl ?_
 ((repeat' ((conv=>whnf);first|exact .intro|refine G ?_|intro _|refine C5 c0 [0] ?_|refine C5 c1 [0,1] ?_|refine .mk ?_ ?_|refine H ?_|fail));all_goals conv=>whnf)
 ((repeat' first|exact rfl|((conv=>whnf);first|done|exact suL|refine And.intro ?_ ?_|fail));all_goals conv=>whnf)
theorem neg_prim {s:List UInt8} {i d:Nat} (hi:i≤s.length) (hs:s.length≤200) (h:s[skp s i]?≠some 45) {r:Rs Nd} (hp:Gives1 gl 89 [.c (.ptr 0 0)] s (skp s i) d r):Gives1 gl 71 [.c (.ptr 0 0)] s i d r:=by
 have c0:=blanks_d (gl:=gl) s i d hi hs
 cases r with
 | ok n k =>
  obtain ⟨k0,m,t,a,b,ks⟩:=n
  unfold Gives1 at hp ⊢
  rcases Nat.lt_or_ge (skp s i) s.length with hl|hl
  ·have h2:((skp s i:Nat):Int)<((s.length:Nat):Int):=by omega
   have h1:¬ (((s.getD ((skp s i:Nat):Int).toNat 0).toNat:Nat):Int)=45:=fun e=>h ((byt 45 hl).1 e)
   generalize skp s i=j at *
   refine S1 Tryz.func71 rfl ?_
   ((repeat' ((conv=>whnf);first|exact .intro|refine G ?_|intro _|refine C5 c0 [0] ?_|refine C5 hp [0] ?_|refine .mk ?_ ?_|refine H ?_|fail));all_goals conv=>whnf)
   ((repeat' first|exact rfl|((conv=>whnf);first|done|exact suL|refine And.intro ?_ ?_|fail));all_goals conv=>whnf)
  ·have h2:¬ ((skp s i:Nat):Int)<((s.length:Nat):Int):=by omega
   generalize skp s i=j at *
   refine S1 Tryz.func71 rfl ?_
   ((repeat' ((conv=>whnf);first|exact .intro|refine G ?_|intro _|refine C5 c0 [0] ?_|refine C5 hp [0] ?_|refine .mk ?_ ?_|refine H ?_|fail));all_goals conv=>whnf)
   ((repeat' first|exact rfl|((conv=>whnf);first|done|exact suL|refine And.intro ?_ ?_|fail));all_goals conv=>whnf)
 | no q e =>
  unfold Gives1 at hp ⊢
  rcases Nat.lt_or_ge (skp s i) s.length with hl|hl
  ·have h2:((skp s i:Nat):Int)<((s.length:Nat):Int):=by omega
   have h1:¬ (((s.getD ((skp s i:Nat):Int).toNat 0).toNat:Nat):Int)=45:=fun e=>h ((byt 45 hl).1 e)
   generalize skp s i=j at *
   refine S1 Tryz.func71 rfl ?_
   ((repeat' ((conv=>whnf);first|exact .intro|refine G ?_|intro _|refine C5 c0 [0] ?_|refine C5 hp [0] ?_|refine .mk ?_ ?_|refine H ?_|fail));all_goals conv=>whnf)
   ((repeat' first|exact rfl|((conv=>whnf);first|done|exact suL|refine And.intro ?_ ?_|fail));all_goals conv=>whnf)
  ·have h2:¬ ((skp s i:Nat):Int)<((s.length:Nat):Int):=by omega
   generalize skp s i=j at *
   refine S1 Tryz.func71 rfl ?_
   ((repeat' ((conv=>whnf);first|exact .intro|refine G ?_|intro _|refine C5 c0 [0] ?_|refine C5 hp [0] ?_|refine .mk ?_ ?_|refine H ?_|fail));all_goals conv=>whnf)
   ((repeat' first|exact rfl|((conv=>whnf);first|done|exact suL|refine And.intro ?_ ?_|fail));all_goals conv=>whnf)
end
section
def Has (gl' gl:List (Nat×List D)):Prop:=∀ g l,Go.EYtfcmhmglpcimiaaGreatDoor.look gl g=some l→Go.EYtfcmhmglpcimiaaGreatDoor.look gl' g=some l
theorem Has.glob {gl' gl:List (Nat×List D)} {M:Nat→Prop} {w:World} (h:Has gl' gl) (hg:Glob gl' M w):Glob gl M w:=fun g l hl=>hg g l (h g l hl)
theorem FnP.moreG {P:Program} {gl' gl:List (Nat×List D)} {f:Nat} {ds:List D} {r:D} (h:FnP P gl f ds r) (hh:Has gl' gl):FnP P gl' f ds r:=fun w M xs hM hg hd=>h w M xs hM (hh.glob hg) hd
theorem lit_slice (s:List UInt8) (i n:Nat):List.drop ((some ((i:Nat):Int)).getD 0).toNat (List.take ((some ((i+n:Nat):Int)).getD ((s.length:Nat):Int)).toNat s)=(s.drop i).take n:=by
 simp only[Option.getD_some,Int.toNat_natCast]
 rw[List.drop_take]
 congr 1
 omega
theorem prim_lit {gl:List (Nat×List D)} (te:TypeId) (pe:Value) (hV:Has gl (glV te pe)) {s:List UInt8} {i d:Nat} (hs:s.length≤200) (h:s[i]?=some 35) {m:Int} {l:Nat} (hl:litF (s.drop i)=some (m,l)):Gives1 gl 89 [.c (.ptr 0 0)] s i d (.ok (.mk 4 m [] z0 z0 []) (i+l)):=by
 have hi:=lt_of_get h
 have h1:=(byt 35 hi).2 h
 have h2:¬ ((i:Nat):Int)=((s.length:Nat):Int):=by omega
 have h3:¬ (((s.getD ((i:Nat):Int).toNat 0).toNat:Nat):Int)=40:=fun e=>by rw[h1] at e;exact absurd e (by decide)
 have h4:¬ (((s.getD ((i:Nat):Int).toNat 0).toNat:Nat):Int)=34:=fun e=>by rw[h1] at e;exact absurd e (by decide)
 unfold Gives1
 refine S1 Tryz.func89 rfl ?_
 ((repeat' ((conv=>whnf);first|exact .intro|refine G ?_|intro _|refine .mk ?_ ?_|refine H ?_|fail));all_goals conv=>whnf)
 refine ⟨{ σ:=Nat,fr:=fun n=>[(5,.c (.d (iD ((i+n:Nat):Int))))],ks:=[],L:=fun n=>[],ex:=0,I:=fun n=>1≤n∧n≤s.length - i+1∧litN (s.drop i) (s.length - i+1 - n) n=some (m,l),μ:=fun n=>s.length+1 - n },⟨1,⟨Nat.le_refl _,by omega,by rw[← hl];unfold litF;rw[List.length_drop];congr 1⟩,?_⟩,fun (n:Nat) hn=>?_⟩
 ·((repeat' first|exact rfl|((conv=>whnf);first|done|exact suL|refine And.intro ?_ ?_|fail));all_goals conv=>whnf)
  exact ceq (by rw[wrapI (by omega)];rfl)
 ·obtain ⟨hn1,hn2,hn3⟩:=hn
  by_cases hk:i+n≤s.length
  ·have hk':((i+n:Nat):Int)≤((s.length:Nat):Int):=by omega
   have e:=lit_slice s i n
   have c1:=FnP.moreG (Literal_d te pe ((s.drop i).take n)) hV
   rw[show s.length - i+1 - n=(s.length - i - n)+1 by omega] at hn3
   unfold litN at hn3
   cases hz:litZ ((s.drop i).take n) with
   | some q =>
    obtain ⟨k,m'⟩:=q
    rw[hz] at hn3 c1
    simp only[Option.some.injEq,Prod.mk.injEq] at hn3
    obtain ⟨rfl,rfl⟩:=hn3
    rw[← e] at c1
    change FnP Tryz.prog (gl) 119 _ (.tup [vlD k m' [],.v (.bool true)]) at c1
    ((repeat' ((conv=>whnf);first|exact .intro|refine G ?_|intro _|refine C1 c1 ?_|refine .mk ?_ ?_|refine H ?_|fail));all_goals conv=>whnf)
    refine ⟨⟨Int.natCast_nonneg _,(show ((i:Nat):Int)≤((i+n:Nat):Int) by omega),hk'⟩,?_⟩
    ((repeat' ((conv=>whnf);first|exact .intro|refine G ?_|intro _|refine C1 c1 ?_|refine .mk ?_ ?_|refine H ?_|fail));all_goals conv=>whnf)
    ((repeat' first|exact rfl|((conv=>whnf);first|done|exact suL|refine And.intro ?_ ?_|fail));all_goals conv=>whnf)
    (refine .inr ?_;repeat' first|exact .intro|exact .inr (.inl rfl)|exact lf0|exact ln0|((conv=>whnf);first|exact .intro|exact .inr (.inl rfl)|exact lf0|exact ln0|refine And.intro ?_ ?_|fail))
   | none =>
    rw[hz] at hn3 c1
    rw[← e] at c1
    change FnP Tryz.prog (gl) 119 _ (.tup [vlD 0 0 [],.v (.bool false)]) at c1
    ((repeat' ((conv=>whnf);first|exact .intro|refine G ?_|intro _|refine C1 c1 ?_|refine .mk ?_ ?_|refine H ?_|fail));all_goals conv=>whnf)
    refine ⟨⟨Int.natCast_nonneg _,(show ((i:Nat):Int)≤((i+n:Nat):Int) by omega),hk'⟩,?_⟩
    ((repeat' ((conv=>whnf);first|exact .intro|refine G ?_|intro _|refine C1 c1 ?_|refine .mk ?_ ?_|refine H ?_|fail));all_goals conv=>whnf)
    refine ⟨n+1,⟨⟨by omega,by omega,by rw[show s.length - i+1 - (n+1)=s.length - i - n by omega];exact hn3⟩,by show s.length+1 - (n+1)<s.length+1 - n;omega⟩,?_⟩
    ((repeat' first|exact rfl|((conv=>whnf);first|done|exact suL|refine And.intro ?_ ?_|fail));all_goals conv=>whnf)
    exact ceq (by rw[wrapI (by omega)];omega)
  ·rw[show s.length - i+1 - n=0 by omega] at hn3
   cases hn3
theorem prim_litn {gl:List (Nat×List D)} (te:TypeId) (pe:Value) (hV:Has gl (glV te pe)) {s:List UInt8} {i d:Nat} (hs:s.length≤200) (h:s[i]?=some 35) (hl:litF (s.drop i)=none):Gives1 gl 89 [.c (.ptr 0 0)] s i d (.no i 2):=by
 have hi:=lt_of_get h
 have h1:=(byt 35 hi).2 h
 have c2:=fail_d (gl:=gl) s i d i 2
 have h2:¬ ((i:Nat):Int)=((s.length:Nat):Int):=by omega
 have h3:¬ (((s.getD ((i:Nat):Int).toNat 0).toNat:Nat):Int)=40:=fun e=>by rw[h1] at e;exact absurd e (by decide)
 have h4:¬ (((s.getD ((i:Nat):Int).toNat 0).toNat:Nat):Int)=34:=fun e=>by rw[h1] at e;exact absurd e (by decide)
 unfold Gives1
 refine S1 Tryz.func89 rfl ?_
 ((repeat' ((conv=>whnf);first|exact .intro|refine G ?_|intro _|refine .mk ?_ ?_|refine H ?_|fail));all_goals conv=>whnf)
 refine ⟨{ σ:=Nat,fr:=fun n=>[(5,.c (.d (iD ((i+n:Nat):Int))))],ks:=[],L:=fun n=>[],ex:=0,I:=fun n=>1≤n∧n≤s.length - i+1∧litN (s.drop i) (s.length - i+1 - n) n=none,μ:=fun n=>s.length+1 - n },⟨1,⟨Nat.le_refl _,by omega,by rw[← hl];unfold litF;rw[List.length_drop];congr 1⟩,?_⟩,fun (n:Nat) hn=>?_⟩
 ·((repeat' first|exact rfl|((conv=>whnf);first|done|exact suL|refine And.intro ?_ ?_|fail));all_goals conv=>whnf)
  exact ceq (by rw[wrapI (by omega)];rfl)
 ·obtain ⟨hn1,hn2,hn3⟩:=hn
  by_cases hk:i+n≤s.length
  ·have hk':((i+n:Nat):Int)≤((s.length:Nat):Int):=by omega
   have e:=lit_slice s i n
   have c1:=FnP.moreG (Literal_d te pe ((s.drop i).take n)) hV
   rw[show s.length - i+1 - n=(s.length - i - n)+1 by omega] at hn3
   unfold litN at hn3
   cases hz:litZ ((s.drop i).take n) with
   | some q =>
    rw[hz] at hn3
    cases hn3
   | none =>
    rw[hz] at hn3 c1
    rw[← e] at c1
    change FnP Tryz.prog (gl) 119 _ (.tup [vlD 0 0 [],.v (.bool false)]) at c1
    ((repeat' ((conv=>whnf);first|exact .intro|refine G ?_|intro _|refine C1 c1 ?_|refine .mk ?_ ?_|refine H ?_|fail));all_goals conv=>whnf)
    refine ⟨⟨Int.natCast_nonneg _,(show ((i:Nat):Int)≤((i+n:Nat):Int) by omega),hk'⟩,?_⟩
    ((repeat' ((conv=>whnf);first|exact .intro|refine G ?_|intro _|refine C1 c1 ?_|refine .mk ?_ ?_|refine H ?_|fail));all_goals conv=>whnf)
    refine ⟨n+1,⟨⟨by omega,by omega,by rw[show s.length - i+1 - (n+1)=s.length - i - n by omega];exact hn3⟩,by show s.length+1 - (n+1)<s.length+1 - n;omega⟩,?_⟩
    ((repeat' first|exact rfl|((conv=>whnf);first|done|exact suL|refine And.intro ?_ ?_|fail));all_goals conv=>whnf)
    exact ceq (by rw[wrapI (by omega)];omega)
  ·have hk8:¬ ((i+n:Nat):Int)≤((s.length:Nat):Int):=by omega
   ((repeat' ((conv=>whnf);first|exact .intro|refine G ?_|intro _|refine C5 c2 [0] ?_|refine .mk ?_ ?_|refine H ?_|fail));all_goals conv=>whnf)
   ((repeat' first|exact rfl|((conv=>whnf);first|done|exact suL|refine And.intro ?_ ?_|fail));all_goals conv=>whnf)
end
section
theorem wd_len {s:List UInt8} {i:Nat} (hs:s.length≤200):(wdAt s i).length≤200:=by
 unfold wdAt
 rw[List.length_take,List.length_drop]
 omega
theorem nw {s:List UInt8} {i:Nat} (_hi:i<s.length) (hw:wordlyP (s.getD ((i:Nat):Int).toNat 0)) (x:UInt8) (hx:¬ wordlyP x):¬ (((s.getD ((i:Nat):Int).toNat 0).toNat:Nat):Int)=((x.toNat:Nat):Int):=fun e=>hx (by
 have:s.getD ((i:Nat):Int).toNat 0=x:=UInt8.toNat_inj.1 (by omega)
 rw[← this];exact hw)
theorem getD_of {s:List UInt8} {i:Nat} {c:UInt8} (h:s[i]?=some c):s.getD ((i:Nat):Int).toNat 0=c:=by
 rw[List.getD,show ((i:Nat):Int).toNat=i by omega,h]
 rfl
theorem prim_other {gl:List (Nat×List D)} {s:List UInt8} {i d:Nat} {c:UInt8} (_hs:s.length≤200) (h:s[i]?=some c) (h40:c≠40) (h34:c≠34) (h35:c≠35) (hw:¬ wordlyP c):Gives1 gl 89 [.c (.ptr 0 0)] s i d (.no i 2):=by
 have hi:=lt_of_get h
 have hne:∀ x:UInt8,c≠x→¬ (((s.getD ((i:Nat):Int).toNat 0).toNat:Nat):Int)=((x.toNat:Nat):Int):=fun x hx e=>hx (by rw[getD_of h] at e;exact UInt8.toNat_inj.1 (by omega))
 have c2:=fail_d (gl:=gl) s i d i 2
 have c0:=wordly_n (gl:=gl) (fun hh=>hw ((wdly_iff c).1 hh))
 rw[← getD_of h] at c0
 have h2:¬ ((i:Nat):Int)=((s.length:Nat):Int):=by omega
 have h3:¬ (((s.getD ((i:Nat):Int).toNat 0).toNat:Nat):Int)=40:=hne 40 h40
 have h4:¬ (((s.getD ((i:Nat):Int).toNat 0).toNat:Nat):Int)=34:=hne 34 h34
 have h5:¬ (((s.getD ((i:Nat):Int).toNat 0).toNat:Nat):Int)=35:=hne 35 h35
 unfold Gives1
 refine S1 Tryz.func89 rfl ?_
 ((repeat' ((conv=>whnf);first|exact .intro|refine G ?_|intro _|refine C5 c2 [0] ?_|refine C1 c0 ?_|refine .mk ?_ ?_|refine H ?_|fail));all_goals conv=>whnf)
 ((repeat' first|exact rfl|((conv=>whnf);first|done|exact suL|refine And.intro ?_ ?_|fail));all_goals conv=>whnf)
theorem prim_plain {gl:List (Nat×List D)} (te:TypeId) (pe:Value) (hV:Has gl (glV te pe)) {rf:List UInt8→Option Rf} (hR:RefsOk rf) {s:List UInt8} {i d:Nat} {c:UInt8} (hs:s.length≤200) (h:s[i]?=some c) (hw:wordlyP c) (hq:¬ (s[wdE s i]?=some 40∧clZ (wdAt s i)=true)) {n:Nd} (hn:plZ rf (wdAt s i)=some n) :
 Gives1 gl 89 [.c (.ptr 0 0)] s i d (.ok n (wdE s i)):=by
 have hi:=lt_of_get h
 have hwl:=wd_len (i:=i) hs
 have he:=wdE_le (show i≤s.length by omega)
 rw[← getD_of h] at hw
 have c0:=wordly_y (gl:=gl) ((wdly_iff _).2 hw)
 have h2:¬ ((i:Nat):Int)=((s.length:Nat):Int):=by omega
 have h3:¬ (((s.getD ((i:Nat):Int).toNat 0).toNat:Nat):Int)=40:=nw hi hw 40 (by decide)
 have h4:¬ (((s.getD ((i:Nat):Int).toNat 0).toNat:Nat):Int)=34:=nw hi hw 34 (by decide)
 have h5:¬ (((s.getD ((i:Nat):Int).toNat 0).toNat:Nat):Int)=35:=nw hi hw 35 (by decide)
 have c1:=word_d (gl:=gl) s i d (by omega) hs
 have c2:=FnP.moreG (plain_s te pe hR hwl hn) hV
 obtain ⟨k,m,t,a,b,ks⟩:=n
 change FnP Tryz.prog (gl) 125 _ (.tup [.agg [iD k,iD m,.str t,iD a.c,iD a.r,tD a.fc,tD a.fr,iD b.c,iD b.r,tD b.fc,tD b.fr,.lst 12 (Nd.csL ks)],.v (.bool true)]) at c2
 unfold Gives1
 rcases Nat.lt_or_ge (wdE s i) s.length with hl2|hl2
 ·have h6:((wdE s i:Nat):Int)<((s.length:Nat):Int):=by omega
  by_cases h7:(((s.getD ((wdE s i:Nat):Int).toNat 0).toNat:Nat):Int)=40
  ·have c3:=called_n (gl:=gl) hwl (by
    cases hc:clZ (wdAt s i) with
    | false=>rfl
    | true=>exact absurd ⟨(byt 40 hl2).1 h7,hc⟩ hq)
   generalize wdE s i=j at *
   generalize wdAt s i=w at *
   refine S1 Tryz.func89 rfl ?_
   ((repeat' ((conv=>whnf);first|exact .intro|refine G ?_|intro _|refine C5 c1 [0] ?_|refine C1 c0 ?_|refine C1 c2 ?_|refine C1 c3 ?_|refine .mk ?_ ?_|refine H ?_|fail));all_goals conv=>whnf)
   ((repeat' first|exact rfl|((conv=>whnf);first|done|exact suL|refine And.intro ?_ ?_|fail));all_goals conv=>whnf)
  ·generalize wdE s i=j at *
   generalize wdAt s i=w at *
   refine S1 Tryz.func89 rfl ?_
   ((repeat' ((conv=>whnf);first|exact .intro|refine G ?_|intro _|refine C5 c1 [0] ?_|refine C1 c0 ?_|refine C1 c2 ?_|refine .mk ?_ ?_|refine H ?_|fail));all_goals conv=>whnf)
   ((repeat' first|exact rfl|((conv=>whnf);first|done|exact suL|refine And.intro ?_ ?_|fail));all_goals conv=>whnf)
 ·have h6:¬ ((wdE s i:Nat):Int)<((s.length:Nat):Int):=by omega
  generalize wdE s i=j at *
  generalize wdAt s i=w at *
  refine S1 Tryz.func89 rfl ?_
  ((repeat' ((conv=>whnf);first|exact .intro|refine G ?_|intro _|refine C5 c1 [0] ?_|refine C1 c0 ?_|refine C1 c2 ?_|refine .mk ?_ ?_|refine H ?_|fail));all_goals conv=>whnf)
  ((repeat' first|exact rfl|((conv=>whnf);first|done|exact suL|refine And.intro ?_ ?_|fail));all_goals conv=>whnf)
theorem prim_plainn {gl:List (Nat×List D)} (te:TypeId) (pe:Value) (hV:Has gl (glV te pe)) {rf:List UInt8→Option Rf} (hR:RefsOk rf) {s:List UInt8} {i d:Nat} {c:UInt8} (hs:s.length≤200) (h:s[i]?=some c) (hw:wordlyP c) (hq:¬ (s[wdE s i]?=some 40∧clZ (wdAt s i)=true)) (hn:plZ rf (wdAt s i)=none) :
 Gives1 gl 89 [.c (.ptr 0 0)] s i d (.no i 2):=by
 have hi:=lt_of_get h
 have hwl:=wd_len (i:=i) hs
 have he:=wdE_le (show i≤s.length by omega)
 rw[← getD_of h] at hw
 have c0:=wordly_y (gl:=gl) ((wdly_iff _).2 hw)
 have h2:¬ ((i:Nat):Int)=((s.length:Nat):Int):=by omega
 have h3:¬ (((s.getD ((i:Nat):Int).toNat 0).toNat:Nat):Int)=40:=nw hi hw 40 (by decide)
 have h4:¬ (((s.getD ((i:Nat):Int).toNat 0).toNat:Nat):Int)=34:=nw hi hw 34 (by decide)
 have h5:¬ (((s.getD ((i:Nat):Int).toNat 0).toNat:Nat):Int)=35:=nw hi hw 35 (by decide)
 have c1:=word_d (gl:=gl) s i d (by omega) hs
 have c2:=FnP.moreG (plain_n te pe hR hwl hn) hV
 have c4:=fail_d (gl:=gl) s (wdE s i) d i 2
 unfold Gives1
 rcases Nat.lt_or_ge (wdE s i) s.length with hl2|hl2
 ·have h6:((wdE s i:Nat):Int)<((s.length:Nat):Int):=by omega
  by_cases h7:(((s.getD ((wdE s i:Nat):Int).toNat 0).toNat:Nat):Int)=40
  ·have c3:=called_n (gl:=gl) hwl (by
    cases hc:clZ (wdAt s i) with
    | false=>rfl
    | true=>exact absurd ⟨(byt 40 hl2).1 h7,hc⟩ hq)
   generalize wdE s i=j at *
   generalize wdAt s i=w at *
   refine S1 Tryz.func89 rfl ?_
   ((repeat' ((conv=>whnf);first|exact .intro|refine G ?_|intro _|refine C5 c1 [0] ?_|refine C5 c4 [0] ?_|refine C1 c0 ?_|refine C1 c2 ?_|refine C1 c3 ?_|refine .mk ?_ ?_|refine H ?_|fail));all_goals conv=>whnf)
   ((repeat' first|exact rfl|((conv=>whnf);first|done|exact suL|refine And.intro ?_ ?_|fail));all_goals conv=>whnf)
  ·generalize wdE s i=j at *
   generalize wdAt s i=w at *
   refine S1 Tryz.func89 rfl ?_
   ((repeat' ((conv=>whnf);first|exact .intro|refine G ?_|intro _|refine C5 c1 [0] ?_|refine C5 c4 [0] ?_|refine C1 c0 ?_|refine C1 c2 ?_|refine .mk ?_ ?_|refine H ?_|fail));all_goals conv=>whnf)
   ((repeat' first|exact rfl|((conv=>whnf);first|done|exact suL|refine And.intro ?_ ?_|fail));all_goals conv=>whnf)
 ·have h6:¬ ((wdE s i:Nat):Int)<((s.length:Nat):Int):=by omega
  generalize wdE s i=j at *
  generalize wdAt s i=w at *
  refine S1 Tryz.func89 rfl ?_
  ((repeat' ((conv=>whnf);first|exact .intro|refine G ?_|intro _|refine C5 c1 [0] ?_|refine C5 c4 [0] ?_|refine C1 c0 ?_|refine C1 c2 ?_|refine .mk ?_ ?_|refine H ?_|fail));all_goals conv=>whnf)
  ((repeat' first|exact rfl|((conv=>whnf);first|done|exact suL|refine And.intro ?_ ?_|fail));all_goals conv=>whnf)
end
end Go.Proofs.YtfcmhmglpcimiaaGreatDoor
