/- Proved: a part of what the law is proved with (the reckoner, contracts of functions, plain laws). Conditions: as each says. -/
import Derived.Test.YtfkjhfdpphfjhaaGreatDoorXBa
import Derived.Test.YtfkjhfdpphfjhaaGreatDoorXGg
namespace Go.Proofs.YtfkjhfdpphfjhaaGreatDoor
open Go Go.EYtfkjhfdpphfjhaaGreatDoor
set_option maxRecDepth 100000
section
variable {gl:List (Nat×List D)}
theorem HasPrefix_d (s p:List UInt8) {b:Bool} (hb:b=(decide (p.length≤s.length) && decide (s.take p.length=p))):FnP Tryz.prog gl 55 [.str s,.str p] (.v (.bool b)):=by
 have c1:FnP Tryz.prog gl 97 [.str s,.str p] (.v (.bool b)):=by
  by_cases h1:(s.length:Int)≥(p.length:Int)
  ·have h1':p.length≤s.length:=by omega
   refine S0 Tryz.func97 rfl ?_
   ((repeat' ((conv=>whnf);first|exact .intro|refine G ?_|intro _|refine .mk ?_ ?_|refine H ?_|fail));all_goals conv=>whnf)
   refine ⟨⟨Int.le_refl 0,(show (0:Int)≤((p.length:Nat):Int) by omega),(show ((p.length:Nat):Int)≤((s.length:Nat):Int) by omega)⟩,?_⟩
   subst hb
   by_cases h2:s.take p.length=p
   ·simp only[h1',h2,decide_true,Bool.and_self]
    ((repeat' ((conv=>whnf);first|exact .intro|refine G ?_|intro _|refine .mk ?_ ?_|refine H ?_|fail));all_goals conv=>whnf)
    all_goals first|exact LeD.rfl|exact LeD.vt (show (s.take ((p.length:Nat):Int).toNat).drop 0=p by rw[Int.toNat_natCast];exact h2)
   ·simp only[h1',h2,decide_true,decide_false,Bool.and_false]
    ((repeat' ((conv=>whnf);first|exact .intro|refine G ?_|intro _|refine .mk ?_ ?_|refine H ?_|fail));all_goals conv=>whnf)
    all_goals first|exact LeD.rfl|exact LeD.vf (fun h=>h2 (by have h:(s.take ((p.length:Nat):Int).toNat).drop 0=p:=h;rw[Int.toNat_natCast] at h;exact h))
  ·have h1':¬ p.length≤s.length:=by omega
   subst hb
   simp only[h1',decide_false,Bool.false_and]
   refine S0 Tryz.func97 rfl ?_
   ((repeat' ((conv=>whnf);first|exact .intro|refine G ?_|intro _|refine .mk ?_ ?_|refine H ?_|fail));all_goals conv=>whnf)
   all_goals exact LeD.rfl
 refine S0 Tryz.func55 rfl ?_
 ((repeat' ((conv=>whnf);first|exact .intro|refine G ?_|intro _|refine C1 c1 ?_|refine .mk ?_ ?_|refine H ?_|fail));all_goals conv=>whnf)
 exact LeD.rfl
theorem opOf_d (op:Nat) (t:List UInt8) (h:(op,t) ∈ [(1,[61]),(2,[60,62]),(3,[60]),(4,[60,61]),(5,[62]),(6,[62,61]),(7,[38]),(8,[43]),(9,[45]),(10,[42]),(11,[47])]):FnP Tryz.prog gl 57 [.str t] (iD (op:Int)):=by
 simp only[List.mem_cons,Prod.mk.injEq,List.not_mem_nil,or_false] at h
 rcases h with ⟨rfl,rfl⟩|⟨rfl,rfl⟩|⟨rfl,rfl⟩|⟨rfl,rfl⟩|⟨rfl,rfl⟩|⟨rfl,rfl⟩|⟨rfl,rfl⟩|⟨rfl,rfl⟩|⟨rfl,rfl⟩|⟨rfl,rfl⟩|⟨rfl,rfl⟩
 all_goals
  refine S0 Tryz.func57 rfl ?_
  ((repeat' ((conv=>whnf);first|exact .intro|refine G ?_|intro _|refine .mk ?_ ?_|refine H ?_|fail));all_goals conv=>whnf)
  all_goals first|exact LeD.rfl|(exfalso;simp_all;done)
end
section
variable {gl:List (Nat×List D)}
def litN (t:List UInt8):Nat→Nat→Option (Int×Nat)
 | 0,_=>none
 | f+1,n=>match litZ (t.take n) with
  | some q=>some (q.2,n)
  | none=>litN t f (n+1)
theorem litN_len (t:List UInt8):∀ (f n:Nat) (m:Int) (l:Nat),litN t f n=some (m,l)→n≤l∧l<n+f
 | 0,n,m,l,h=>by cases h
 | f+1,n,m,l,h=>by
  unfold litN at h
  split at h
  ·cases h;omega
  ·have:=litN_len t f (n+1) m l h;omega
def litF (t:List UInt8):Option (Int×Nat):=litN t t.length 1
theorem litF_len (t:List UInt8) (m:Int) (l:Nat) (h:litF t=some (m,l)):1≤l∧l≤t.length:=by
 have:=litN_len t _ _ _ _ h
 omega
def parZ (rf:List UInt8→Option Rf):Par:=⟨plZ rf,clZ,rf,litF,litF_len⟩
end
section
variable {gl:List (Nat×List D)}
theorem digsTab:∀ n:Fin 100,1≤n.val→digs n.val≠[]∧(digs n.val).head?≠some 48∧(digs n.val).head?≠some 36∧(∀ d ∈ digs n.val,isDig d)∧rv (digs n.val) (digs n.val).length=n.val:=by decide +kernel
theorem chTab:∀ n:Fin 27,1≤n.val→(UInt8.ofNat (64+n.val)).toNat=64+n.val:=by decide +kernel
theorem dl_n {b:UInt8} {s:List UInt8} (h:b≠36):dl (b::s)=(false,b::s):=by simp[dl,h]
theorem dl_y (s:List UInt8):dl (36::s)=(true,s):=by simp[dl]
theorem dl_if (f:Bool) {b:UInt8} {s:List UInt8} (h:b≠36):dl ((if f=true then [36] else [])++b::s)=(f,b::s):=by
 cases f
 ·exact dl_n h
 ·exact dl_y _
end
section
theorem txI_at {s:List UInt8}:∀ {n i:Nat},txI s n=some i→n≤6→tx.getD i []=s∧1≤i∧i≤6
 | 0,i,h,_=>by cases h
 | n+1,i,h,hn=>by
  unfold txI at h
  split at h
  ·rename_i e;cases h;exact ⟨e,by omega,by omega⟩
  ·exact txI_at h (by omega)
end
section
variable {gl:List (Nat×List D)}
theorem within_1f (s:List UInt8) (i p g:Nat):Go.EYtfkjhfdpphfjhaaGreatDoor.Fn Tryz.prog gl 98 [.c (.ptr 0 0),.c (.d (iD (p:Int))),.c (.fn g [(1,0)])] [(0,rdB s i 30),(1,rpB)] 2 (.panic (.d (fltD p 4))) [] 2 []:=by
 have c1:=fail_d (gl:=gl) s i 30 p 4
 refine S1 Tryz.func98 rfl ?_
 ((repeat' ((conv=>whnf);first|exact .intro|refine G ?_|intro _|refine C5 c1 [0] ?_|refine .mk ?_ ?_|refine H ?_|fail));all_goals conv=>whnf)
 ((repeat' first|exact rfl|((conv=>whnf);first|done|exact suL|refine And.intro ?_ ?_|fail));all_goals conv=>whnf)
theorem prim_end {s:List UInt8} {d:Nat} (_hs:s.length≤200):Gives1 gl 100 [.c (.ptr 0 0)] s s.length d (.no s.length 2):=by
 have c1:=fail_d (gl:=gl) s s.length d s.length 2
 unfold Gives1
 refine S1 Tryz.func100 rfl ?_
 ((repeat' ((conv=>whnf);first|exact .intro|refine G ?_|intro _|refine C5 c1 [0] ?_|refine .mk ?_ ?_|refine H ?_|fail));all_goals conv=>whnf)
 ((repeat' first|exact rfl|((conv=>whnf);first|done|exact suL|refine And.intro ?_ ?_|fail));all_goals conv=>whnf)
theorem prim_text {s:List UInt8} {i d:Nat} (hs:s.length≤200) (h:s[i]?=some 34) {b:List UInt8} {l:Nat} (ht:txtF (s.drop (i+1))=some (b,l)):Gives1 gl 100 [.c (.ptr 0 0)] s i d (.ok (.mk 2 0 b z0 z0 []) (i+1+l)):=by
 have hl:=lt_of_get h
 have c1:=text_d (gl:=gl) s i d hs h ht
 have h1:=(byt 34 hl).2 h
 have h2:¬ ((i:Nat):Int)=((s.length:Nat):Int):=by omega
 have h3:¬ (((s.getD ((i:Nat):Int).toNat 0).toNat:Nat):Int)=40:=fun e=>by rw[h1] at e;exact absurd e (by decide)
 unfold Gives1
 refine S1 Tryz.func100 rfl ?_
 ((repeat' ((conv=>whnf);first|exact .intro|refine G ?_|intro _|refine C5 c1 [0] ?_|refine .mk ?_ ?_|refine H ?_|fail));all_goals conv=>whnf)
 ((repeat' first|exact rfl|((conv=>whnf);first|done|exact suL|refine And.intro ?_ ?_|fail));all_goals conv=>whnf)
theorem prim_textn {s:List UInt8} {i d:Nat} (hs:s.length≤200) (h:s[i]?=some 34) (ht:txtF (s.drop (i+1))=none):Gives1 gl 100 [.c (.ptr 0 0)] s i d (.no i 2):=by
 have hl:=lt_of_get h
 have c1:=text_n (gl:=gl) s i d hs h ht
 have h1:=(byt 34 hl).2 h
 have h2:¬ ((i:Nat):Int)=((s.length:Nat):Int):=by omega
 have h3:¬ (((s.getD ((i:Nat):Int).toNat 0).toNat:Nat):Int)=40:=fun e=>by rw[h1] at e;exact absurd e (by decide)
 unfold Gives1
 refine S1 Tryz.func100 rfl ?_
 ((repeat' ((conv=>whnf);first|exact .intro|refine G ?_|intro _|refine C5 c1 [0] ?_|refine .mk ?_ ?_|refine H ?_|fail));all_goals conv=>whnf)
 ((repeat' first|exact rfl|((conv=>whnf);first|done|exact suL|refine And.intro ?_ ?_|fail));all_goals conv=>whnf)
theorem prim_full {s:List UInt8} {i:Nat} (_hs:s.length≤200) (h:s[i]?=some 40):Gives1 gl 100 [.c (.ptr 0 0)] s i 30 (.no i 4):=by
 have hl:=lt_of_get h
 have c1:=within_1f (gl:=gl) s i i 142
 have h1:=(byt 40 hl).2 h
 have h2:¬ ((i:Nat):Int)=((s.length:Nat):Int):=by omega
 unfold Gives1
 refine S1 Tryz.func100 rfl ?_
 ((repeat' ((conv=>whnf);first|exact .intro|refine G ?_|intro _|refine C5 c1 [0,1] ?_|refine .mk ?_ ?_|refine H ?_|fail));all_goals conv=>whnf)
 ((repeat' first|exact rfl|((conv=>whnf);first|done|exact suL|refine And.intro ?_ ?_|fail));all_goals conv=>whnf)
theorem prim_par {s:List UInt8} {i j d:Nat} {n:Nd} (hs:s.length≤200) (hd:d<30) (h:s[i]?=some 40) (hj:j≤s.length) (ht:Gives1 gl 34 [.c (.ptr 0 0),.c (.d (iD 0))] s (i+1) (d+1) (.ok n j)) (hq:s[skp s j]?=some 41) :
 Gives1 gl 100 [.c (.ptr 0 0)] s i d (.ok n (skp s j+1)):=by
 have hl:=lt_of_get h
 have c1:=within_1 (gl:=gl) (p:=i) hd (prim1_ok hl hj hs ht hq)
 have h1:=(byt 40 hl).2 h
 have h2:¬ ((i:Nat):Int)=((s.length:Nat):Int):=by omega
 obtain ⟨k,m,t,a,b,ks⟩:=n
 unfold Gives1
 refine S1 Tryz.func100 rfl ?_
 ((repeat' ((conv=>whnf);first|exact .intro|refine G ?_|intro _|refine C5 c1 [0,1] ?_|refine .mk ?_ ?_|refine H ?_|fail));all_goals conv=>whnf)
 ((repeat' first|exact rfl|((conv=>whnf);first|done|exact suL|refine And.intro ?_ ?_|fail));all_goals conv=>whnf)
theorem prim_parn {s:List UInt8} {i j d:Nat} {n:Nd} (hs:s.length≤200) (hd:d<30) (h:s[i]?=some 40) (hj:j≤s.length) (ht:Gives1 gl 34 [.c (.ptr 0 0),.c (.d (iD 0))] s (i+1) (d+1) (.ok n j)) (hq:s[skp s j]?≠some 41) :
 Gives1 gl 100 [.c (.ptr 0 0)] s i d (.no (skp s j) 2):=by
 have hl:=lt_of_get h
 have c1:=within_1n (gl:=gl) (p:=i) hd (prim1_n hl hj hs ht hq)
 have h1:=(byt 40 hl).2 h
 have h2:¬ ((i:Nat):Int)=((s.length:Nat):Int):=by omega
 unfold Gives1
 refine S1 Tryz.func100 rfl ?_
 ((repeat' ((conv=>whnf);first|exact .intro|refine G ?_|intro _|refine C5 c1 [0,1] ?_|refine .mk ?_ ?_|refine H ?_|fail));all_goals conv=>whnf)
 ((repeat' first|exact rfl|((conv=>whnf);first|done|exact suL|refine And.intro ?_ ?_|fail));all_goals conv=>whnf)
theorem prim_pare {s:List UInt8} {i q d:Nat} {e:Int} (hs:s.length≤200) (hd:d<30) (h:s[i]?=some 40) (ht:Gives1 gl 34 [.c (.ptr 0 0),.c (.d (iD 0))] s (i+1) (d+1) (.no q e)) :
 Gives1 gl 100 [.c (.ptr 0 0)] s i d (.no q e):=by
 have hl:=lt_of_get h
 have c1:=within_1n (gl:=gl) (p:=i) hd (prim1_no hl hs ht)
 have h1:=(byt 40 hl).2 h
 have h2:¬ ((i:Nat):Int)=((s.length:Nat):Int):=by omega
 unfold Gives1
 refine S1 Tryz.func100 rfl ?_
 ((repeat' ((conv=>whnf);first|exact .intro|refine G ?_|intro _|refine C5 c1 [0,1] ?_|refine .mk ?_ ?_|refine H ?_|fail));all_goals conv=>whnf)
 ((repeat' first|exact rfl|((conv=>whnf);first|done|exact suL|refine And.intro ?_ ?_|fail));all_goals conv=>whnf)
end
section
variable {gl:List (Nat×List D)}
theorem neg_full {s:List UInt8} {i:Nat} (hi:i≤s.length) (hs:s.length≤200) (h:s[skp s i]?=some 45):Gives1 gl 56 [.c (.ptr 0 0)] s i 30 (.no (skp s i) 4):=by
 have hl:=lt_of_get h
 have h1:=(byt 45 hl).2 h
 have h2:((skp s i:Nat):Int)<((s.length:Nat):Int):=by omega
 have c0:=blanks_d (gl:=gl) s i 30 hi hs
 have c1:=within_1f (gl:=gl) s (skp s i) (skp s i) 99
 generalize skp s i=j at *
 unfold Gives1
 refine S1 Tryz.func56 rfl ?_
 ((repeat' ((conv=>whnf);first|exact .intro|refine G ?_|intro _|refine C5 c0 [0] ?_|refine C5 c1 [0,1] ?_|refine .mk ?_ ?_|refine H ?_|fail));all_goals conv=>whnf)
 ((repeat' first|exact rfl|((conv=>whnf);first|done|exact suL|refine And.intro ?_ ?_|fail));all_goals conv=>whnf)
theorem neg_in {s:List UInt8} {i k d:Nat} {n:Nd} (hi:i≤s.length) (hs:s.length≤200) (hd:d<30) (h:s[skp s i]?=some 45) (hn:Gives1 gl 56 [.c (.ptr 0 0)] s (skp s i+1) (d+1) (.ok n k)):Gives1 gl 56 [.c (.ptr 0 0)] s i d (.ok (negN n) k):=by
 have hl:=lt_of_get h
 have h1:=(byt 45 hl).2 h
 have h2:((skp s i:Nat):Int)<((s.length:Nat):Int):=by omega
 have c0:=blanks_d (gl:=gl) s i d hi hs
 have c1:=within_1 (gl:=gl) (p:=skp s i) hd (neg1_ok hl hs hn)
 generalize skp s i=j at *
 unfold Gives1
 refine S1 Tryz.func56 rfl ?_
 ((repeat' ((conv=>whnf);first|exact .intro|refine G ?_|intro _|refine C5 c0 [0] ?_|refine C5 c1 [0,1] ?_|refine .mk ?_ ?_|refine H ?_|fail));all_goals conv=>whnf)
 ((repeat' first|exact rfl|((conv=>whnf);first|done|exact suL|refine And.intro ?_ ?_|fail));all_goals conv=>whnf)
theorem neg_ine {s:List UInt8} {i q d:Nat} {e:Int} (hi:i≤s.length) (hs:s.length≤200) (hd:d<30) (h:s[skp s i]?=some 45) (hn:Gives1 gl 56 [.c (.ptr 0 0)] s (skp s i+1) (d+1) (.no q e)):Gives1 gl 56 [.c (.ptr 0 0)] s i d (.no q e):=by
 have hl:=lt_of_get h
 have h1:=(byt 45 hl).2 h
 have h2:((skp s i:Nat):Int)<((s.length:Nat):Int):=by omega
 have c0:=blanks_d (gl:=gl) s i d hi hs
 have c1:=within_1n (gl:=gl) (p:=skp s i) hd (neg1_no hl hs hn)
 generalize skp s i=j at *
 unfold Gives1
 refine S1 Tryz.func56 rfl ?_
 ((repeat' ((conv=>whnf);first|exact .intro|refine G ?_|intro _|refine C5 c0 [0] ?_|refine C5 c1 [0,1] ?_|refine .mk ?_ ?_|refine H ?_|fail));all_goals conv=>whnf)
 ((repeat' first|exact rfl|((conv=>whnf);first|done|exact suL|refine And.intro ?_ ?_|fail));all_goals conv=>whnf)
theorem neg_prim {s:List UInt8} {i d:Nat} (hi:i≤s.length) (hs:s.length≤200) (h:s[skp s i]?≠some 45) {r:Rs Nd} (hp:Gives1 gl 100 [.c (.ptr 0 0)] s (skp s i) d r):Gives1 gl 56 [.c (.ptr 0 0)] s i d r:=by
 have c0:=blanks_d (gl:=gl) s i d hi hs
 cases r with
 | ok n k =>
  obtain ⟨k0,m,t,a,b,ks⟩:=n
  unfold Gives1 at hp ⊢
  rcases Nat.lt_or_ge (skp s i) s.length with hl|hl
  ·have h2:((skp s i:Nat):Int)<((s.length:Nat):Int):=by omega
   have h1:¬ (((s.getD ((skp s i:Nat):Int).toNat 0).toNat:Nat):Int)=45:=fun e=>h ((byt 45 hl).1 e)
   generalize skp s i=j at *
   refine S1 Tryz.func56 rfl ?_
   ((repeat' ((conv=>whnf);first|exact .intro|refine G ?_|intro _|refine C5 c0 [0] ?_|refine C5 hp [0] ?_|refine .mk ?_ ?_|refine H ?_|fail));all_goals conv=>whnf)
   ((repeat' first|exact rfl|((conv=>whnf);first|done|exact suL|refine And.intro ?_ ?_|fail));all_goals conv=>whnf)
  ·have h2:¬ ((skp s i:Nat):Int)<((s.length:Nat):Int):=by omega
   generalize skp s i=j at *
   refine S1 Tryz.func56 rfl ?_
   ((repeat' ((conv=>whnf);first|exact .intro|refine G ?_|intro _|refine C5 c0 [0] ?_|refine C5 hp [0] ?_|refine .mk ?_ ?_|refine H ?_|fail));all_goals conv=>whnf)
   ((repeat' first|exact rfl|((conv=>whnf);first|done|exact suL|refine And.intro ?_ ?_|fail));all_goals conv=>whnf)
 | no q e =>
  unfold Gives1 at hp ⊢
  rcases Nat.lt_or_ge (skp s i) s.length with hl|hl
  ·have h2:((skp s i:Nat):Int)<((s.length:Nat):Int):=by omega
   have h1:¬ (((s.getD ((skp s i:Nat):Int).toNat 0).toNat:Nat):Int)=45:=fun e=>h ((byt 45 hl).1 e)
   generalize skp s i=j at *
   refine S1 Tryz.func56 rfl ?_
   ((repeat' ((conv=>whnf);first|exact .intro|refine G ?_|intro _|refine C5 c0 [0] ?_|refine C5 hp [0] ?_|refine .mk ?_ ?_|refine H ?_|fail));all_goals conv=>whnf)
   ((repeat' first|exact rfl|((conv=>whnf);first|done|exact suL|refine And.intro ?_ ?_|fail));all_goals conv=>whnf)
  ·have h2:¬ ((skp s i:Nat):Int)<((s.length:Nat):Int):=by omega
   generalize skp s i=j at *
   refine S1 Tryz.func56 rfl ?_
   ((repeat' ((conv=>whnf);first|exact .intro|refine G ?_|intro _|refine C5 c0 [0] ?_|refine C5 hp [0] ?_|refine .mk ?_ ?_|refine H ?_|fail));all_goals conv=>whnf)
   ((repeat' first|exact rfl|((conv=>whnf);first|done|exact suL|refine And.intro ?_ ?_|fail));all_goals conv=>whnf)
end
section
def Has (gl' gl:List (Nat×List D)):Prop:=∀ g l,Go.EYtfkjhfdpphfjhaaGreatDoor.look gl g=some l→Go.EYtfkjhfdpphfjhaaGreatDoor.look gl' g=some l
theorem Has.glob {gl' gl:List (Nat×List D)} {M:Nat→Prop} {w:World} (h:Has gl' gl) (hg:Glob gl' M w):Glob gl M w:=fun g l hl=>hg g l (h g l hl)
theorem FnP.moreG {P:Program} {gl' gl:List (Nat×List D)} {f:Nat} {ds:List D} {r:D} (h:FnP P gl f ds r) (hh:Has gl' gl):FnP P gl' f ds r:=fun w M xs hM hg hd=>h w M xs hM (hh.glob hg) hd
theorem lit_slice (s:List UInt8) (i n:Nat):List.drop ((some ((i:Nat):Int)).getD 0).toNat (List.take ((some ((i+n:Nat):Int)).getD ((s.length:Nat):Int)).toNat s)=(s.drop i).take n:=by
 simp only[Option.getD_some,Int.toNat_natCast]
 rw[List.drop_take]
 congr 1
 omega
theorem prim_lit {gl:List (Nat×List D)} (te:TypeId) (pe:Value) (hV:Has gl (glV te pe)) {s:List UInt8} {i d:Nat} (hs:s.length≤200) (h:s[i]?=some 35) {m:Int} {l:Nat} (hl:litF (s.drop i)=some (m,l)):Gives1 gl 100 [.c (.ptr 0 0)] s i d (.ok (.mk 4 m [] z0 z0 []) (i+l)):=by
 have hi:=lt_of_get h
 have h1:=(byt 35 hi).2 h
 have h2:¬ ((i:Nat):Int)=((s.length:Nat):Int):=by omega
 have h3:¬ (((s.getD ((i:Nat):Int).toNat 0).toNat:Nat):Int)=40:=fun e=>by rw[h1] at e;exact absurd e (by decide)
 have h4:¬ (((s.getD ((i:Nat):Int).toNat 0).toNat:Nat):Int)=34:=fun e=>by rw[h1] at e;exact absurd e (by decide)
 unfold Gives1
 refine S1 Tryz.func100 rfl ?_
 ((repeat' ((conv=>whnf);first|exact .intro|refine G ?_|intro _|refine .mk ?_ ?_|refine H ?_|fail));all_goals conv=>whnf)
 refine ⟨{ σ:=Nat,fr:=fun n=>[(5,.c (.d (iD ((i+n:Nat):Int))))],ks:=[],L:=fun n=>[],ex:=0,I:=fun n=>1≤n∧n≤s.length - i+1∧litN (s.drop i) (s.length - i+1 - n) n=some (m,l),μ:=fun n=>s.length+1 - n },⟨1,⟨Nat.le_refl _,by omega,by rw[← hl];unfold litF;rw[List.length_drop];congr 1⟩,?_⟩,fun (n:Nat) hn=>?_⟩
 ·((repeat' first|exact rfl|((conv=>whnf);first|done|exact suL|refine And.intro ?_ ?_|fail));all_goals conv=>whnf)
  exact ceq (by rw[wrapI (by omega)];rfl)
 ·obtain ⟨hn1,hn2,hn3⟩:=hn
  by_cases hk:i+n≤s.length
  ·have hk':((i+n:Nat):Int)≤((s.length:Nat):Int):=by omega
   have e:=lit_slice s i n
   have c1:=FnP.moreG (Literal_d te pe ((s.drop i).take n)) hV
   rw[show s.length - i+1 - n=(s.length - i - n)+1 by omega] at hn3
   unfold litN at hn3
   cases hz:litZ ((s.drop i).take n) with
   | some q =>
    obtain ⟨k,m'⟩:=q
    rw[hz] at hn3 c1
    simp only[Option.some.injEq,Prod.mk.injEq] at hn3
    obtain ⟨rfl,rfl⟩:=hn3
    rw[← e] at c1
    change FnP Tryz.prog (gl) 145 _ (.tup [vlD k m' [],.v (.bool true)]) at c1
    ((repeat' ((conv=>whnf);first|exact .intro|refine G ?_|intro _|refine C1 c1 ?_|refine .mk ?_ ?_|refine H ?_|fail));all_goals conv=>whnf)
    refine ⟨⟨Int.natCast_nonneg _,(show ((i:Nat):Int)≤((i+n:Nat):Int) by omega),hk'⟩,?_⟩
    ((repeat' ((conv=>whnf);first|exact .intro|refine G ?_|intro _|refine C1 c1 ?_|refine .mk ?_ ?_|refine H ?_|fail));all_goals conv=>whnf)
    ((repeat' first|exact rfl|((conv=>whnf);first|done|exact suL|refine And.intro ?_ ?_|fail));all_goals conv=>whnf)
    (refine .inr ?_;repeat' first|exact .intro|exact .inr (.inl rfl)|exact lf0|exact ln0|((conv=>whnf);first|exact .intro|exact .inr (.inl rfl)|exact lf0|exact ln0|refine And.intro ?_ ?_|fail))
   | none =>
    rw[hz] at hn3 c1
    rw[← e] at c1
    change FnP Tryz.prog (gl) 145 _ (.tup [vlD 0 0 [],.v (.bool false)]) at c1
    ((repeat' ((conv=>whnf);first|exact .intro|refine G ?_|intro _|refine C1 c1 ?_|refine .mk ?_ ?_|refine H ?_|fail));all_goals conv=>whnf)
    refine ⟨⟨Int.natCast_nonneg _,(show ((i:Nat):Int)≤((i+n:Nat):Int) by omega),hk'⟩,?_⟩
    ((repeat' ((conv=>whnf);first|exact .intro|refine G ?_|intro _|refine C1 c1 ?_|refine .mk ?_ ?_|refine H ?_|fail));all_goals conv=>whnf)
    refine ⟨n+1,⟨⟨by omega,by omega,by rw[show s.length - i+1 - (n+1)=s.length - i - n by omega];exact hn3⟩,by show s.length+1 - (n+1)<s.length+1 - n;omega⟩,?_⟩
    ((repeat' first|exact rfl|((conv=>whnf);first|done|exact suL|refine And.intro ?_ ?_|fail));all_goals conv=>whnf)
    exact ceq (by rw[wrapI (by omega)];omega)
  ·rw[show s.length - i+1 - n=0 by omega] at hn3
   cases hn3
theorem prim_litn {gl:List (Nat×List D)} (te:TypeId) (pe:Value) (hV:Has gl (glV te pe)) {s:List UInt8} {i d:Nat} (hs:s.length≤200) (h:s[i]?=some 35) (hl:litF (s.drop i)=none):Gives1 gl 100 [.c (.ptr 0 0)] s i d (.no i 2):=by
 have hi:=lt_of_get h
 have h1:=(byt 35 hi).2 h
 have c2:=fail_d (gl:=gl) s i d i 2
 have h2:¬ ((i:Nat):Int)=((s.length:Nat):Int):=by omega
 have h3:¬ (((s.getD ((i:Nat):Int).toNat 0).toNat:Nat):Int)=40:=fun e=>by rw[h1] at e;exact absurd e (by decide)
 have h4:¬ (((s.getD ((i:Nat):Int).toNat 0).toNat:Nat):Int)=34:=fun e=>by rw[h1] at e;exact absurd e (by decide)
 unfold Gives1
 refine S1 Tryz.func100 rfl ?_
 ((repeat' ((conv=>whnf);first|exact .intro|refine G ?_|intro _|refine .mk ?_ ?_|refine H ?_|fail));all_goals conv=>whnf)
 refine ⟨{ σ:=Nat,fr:=fun n=>[(5,.c (.d (iD ((i+n:Nat):Int))))],ks:=[],L:=fun n=>[],ex:=0,I:=fun n=>1≤n∧n≤s.length - i+1∧litN (s.drop i) (s.length - i+1 - n) n=none,μ:=fun n=>s.length+1 - n },⟨1,⟨Nat.le_refl _,by omega,by rw[← hl];unfold litF;rw[List.length_drop];congr 1⟩,?_⟩,fun (n:Nat) hn=>?_⟩
 ·((repeat' first|exact rfl|((conv=>whnf);first|done|exact suL|refine And.intro ?_ ?_|fail));all_goals conv=>whnf)
  exact ceq (by rw[wrapI (by omega)];rfl)
 ·obtain ⟨hn1,hn2,hn3⟩:=hn
  by_cases hk:i+n≤s.length
  ·have hk':((i+n:Nat):Int)≤((s.length:Nat):Int):=by omega
   have e:=lit_slice s i n
   have c1:=FnP.moreG (Literal_d te pe ((s.drop i).take n)) hV
   rw[show s.length - i+1 - n=(s.length - i - n)+1 by omega] at hn3
   unfold litN at hn3
   cases hz:litZ ((s.drop i).take n) with
   | some q =>
    rw[hz] at hn3
    cases hn3
   | none =>
    rw[hz] at hn3 c1
    rw[← e] at c1
    change FnP Tryz.prog (gl) 145 _ (.tup [vlD 0 0 [],.v (.bool false)]) at c1
    ((repeat' ((conv=>whnf);first|exact .intro|refine G ?_|intro _|refine C1 c1 ?_|refine .mk ?_ ?_|refine H ?_|fail));all_goals conv=>whnf)
    refine ⟨⟨Int.natCast_nonneg _,(show ((i:Nat):Int)≤((i+n:Nat):Int) by omega),hk'⟩,?_⟩
    ((repeat' ((conv=>whnf);first|exact .intro|refine G ?_|intro _|refine C1 c1 ?_|refine .mk ?_ ?_|refine H ?_|fail));all_goals conv=>whnf)
    refine ⟨n+1,⟨⟨by omega,by omega,by rw[show s.length - i+1 - (n+1)=s.length - i - n by omega];exact hn3⟩,by show s.length+1 - (n+1)<s.length+1 - n;omega⟩,?_⟩
    ((repeat' first|exact rfl|((conv=>whnf);first|done|exact suL|refine And.intro ?_ ?_|fail));all_goals conv=>whnf)
    exact ceq (by rw[wrapI (by omega)];omega)
  ·have hk8:¬ ((i+n:Nat):Int)≤((s.length:Nat):Int):=by omega
   ((repeat' ((conv=>whnf);first|exact .intro|refine G ?_|intro _|refine C5 c2 [0] ?_|refine .mk ?_ ?_|refine H ?_|fail));all_goals conv=>whnf)
   ((repeat' first|exact rfl|((conv=>whnf);first|done|exact suL|refine And.intro ?_ ?_|fail));all_goals conv=>whnf)
end
end Go.Proofs.YtfkjhfdpphfjhaaGreatDoor
