/- Proved: a part of what the law is proved with (the reckoner, contracts of functions, plain laws). Conditions: as each says. -/
import Derived.Test.YtfkjhfdpphfjhaaGreatDoorYBa
import Derived.Test.YtfkjhfdpphfjhaaGreatDoorYDa
import Derived.Test.YtfkjhfdpphfjhaaGreatDoorYOc
section
namespace Go.Proofs.YtfkjhfdpphfjhaaGreatDoor
open Go Go.EYtfkjhfdpphfjhaaGreatDoor
set_option maxRecDepth 100000
def Pd (n:Nd) (g:Int) (c d:Nat):Prop:=(brN (wrN n) (tgtN n<g)).length≤c∧brD n g (depN n)≤d
theorem Pd.mono {n:Nd} {g g':Int} {c c' d d':Nat} (h:Pd n g' c d) (hg:g≤g') (hc:c≤c') (hd:d≤d'):Pd n g c' d':=by
 unfold Pd brN brD at *
 by_cases h1:tgtN n<g
 ·rw[if_pos h1,if_pos h1]
  rw[if_pos (by omega),if_pos (by omega)] at h
  omega
 ·rw[if_neg h1,if_neg h1]
  split at h
  ·simp at h;omega
  ·omega
section
variable {p:Par} {s:List UInt8}
theorem frm_more {n:Nd} {box:Prop} (h:frmN n False):frmN n box:=by
 obtain ⟨k,m,t,a,b,ks⟩:=n
 unfold frmN at h ⊢
 rcases h with h|h|h|h|h|h|h
 ·exact .inl h
 ·exact .inr (.inl h)
 ·exact .inr (.inr (.inl h))
 ·exact .inr (.inr (.inr (.inl h)))
 ·exact .inr (.inr (.inr (.inr (.inl h))))
 ·exact h.2.1.elim
 ·exact .inr (.inr (.inr (.inr (.inr (.inr h)))))
theorem noR_z0:noR z0:=by simp[noR,z0]
end
end Go.Proofs.YtfkjhfdpphfjhaaGreatDoor
end
section
namespace Go.Proofs.YtfkjhfdpphfjhaaGreatDoor
open Go Go.EYtfkjhfdpphfjhaaGreatDoor
set_option maxRecDepth 100000
variable {gl:List (Nat×List D)}
def Gives1 (gl:List (Nat×List D)) (f:Nat) (vs:List V) (s:List UInt8) (i d:Nat):Rs Nd→Prop
 | .ok n j=>Go.EYtfkjhfdpphfjhaaGreatDoor.Fn Tryz.prog gl f vs [(0,rdB s i d)] 1 (.ret (.agg (ndC n))) [(0,rdB s j d)] 1 []
 | .no a e=>Go.EYtfkjhfdpphfjhaaGreatDoor.Fn Tryz.prog gl f vs [(0,rdB s i d)] 1 (.panic (.d (fltD a e))) [] 1 []
theorem neg1_ok {s:List UInt8} {i j d:Nat} {n:Nd} (hi:i<s.length) (hs:s.length≤200) (h:Gives1 gl 56 [.c (.ptr 0 0)] s (i+1) d (.ok n j)) :
 Go.EYtfkjhfdpphfjhaaGreatDoor.Fn Tryz.prog gl 99 [.c (.ptr 1 0)] [(0,rdB s i d),(1,rpB)] 2 (.ret (.agg (ndC (negN n)))) [(0,rdB s j d),(1,rpB)] 2 []:=by
 obtain ⟨k,m,t,a,b,ks⟩:=n
 have e1:IntKind.i64.wrap (((i:Nat):Int)+1)=((i+1:Nat):Int):=by rw[wrapI (by omega)];rfl
 unfold Gives1 at h
 refine fn_of_vc (nv:=9999) (cu:=[]) fits mixed Tryz.func99 rfl hoB rfl rfl rfl rfl ?_
 ((repeat' ((conv=>whnf);first|exact .intro|refine G ?_|intro _|refine C5 h [0] ?_|(rw[e1])|refine .mk ?_ ?_|refine H ?_|fail));all_goals conv=>whnf)
 ((repeat' first|exact rfl|((conv=>whnf);first|done|exact suL|refine And.intro ?_ ?_|fail));all_goals conv=>whnf)
 (refine .inr ?_;repeat' first|exact .intro|exact .inr (.inl rfl)|exact lf0|exact ln0|((conv=>whnf);first|exact .intro|exact .inr (.inl rfl)|exact lf0|exact ln0|refine And.intro ?_ ?_|fail))
theorem neg1_no {s:List UInt8} {i p d:Nat} {e:Int} (hi:i<s.length) (hs:s.length≤200) (h:Gives1 gl 56 [.c (.ptr 0 0)] s (i+1) d (.no p e)) :
 Go.EYtfkjhfdpphfjhaaGreatDoor.Fn Tryz.prog gl 99 [.c (.ptr 1 0)] [(0,rdB s i d),(1,rpB)] 2 (.panic (.d (fltD p e))) [] 2 []:=by
 have e1:IntKind.i64.wrap (((i:Nat):Int)+1)=((i+1:Nat):Int):=by rw[wrapI (by omega)];rfl
 unfold Gives1 at h
 refine fn_of_vc (nv:=9999) (cu:=[]) fits mixed Tryz.func99 rfl hoB rfl rfl rfl rfl ?_
 ((repeat' ((conv=>whnf);first|exact .intro|refine G ?_|intro _|refine C5 h [0] ?_|(rw[e1])|refine .mk ?_ ?_|refine H ?_|fail));all_goals conv=>whnf)
 ((repeat' first|exact rfl|((conv=>whnf);first|done|exact suL|refine And.intro ?_ ?_|fail));all_goals conv=>whnf)
theorem prim1_ok {s:List UInt8} {i j d:Nat} {n:Nd} (hi:i<s.length) (hj:j≤s.length) (hs:s.length≤200) (h:Gives1 gl 34 [.c (.ptr 0 0),.c (.d (iD 0))] s (i+1) d (.ok n j)) (hq:s[skp s j]?=some 41) :
 Go.EYtfkjhfdpphfjhaaGreatDoor.Fn Tryz.prog gl 142 [.c (.ptr 1 0)] [(0,rdB s i d),(1,rpB)] 2 (.ret (.agg (ndC n))) [(0,rdB s (skp s j+1) d),(1,rpB)] 2 []:=by
 obtain ⟨k,m,t,a,b,ks⟩:=n
 have e1:IntKind.i64.wrap (((i:Nat):Int)+1)=((i+1:Nat):Int):=by rw[wrapI (by omega)];rfl
 have c2:=want_y (gl:=gl) (d:=d) hj hs hq
 unfold Gives1 at h
 refine fn_of_vc (nv:=9999) (cu:=[]) fits mixed Tryz.func142 rfl hoB rfl rfl rfl rfl ?_
 ((repeat' ((conv=>whnf);first|exact .intro|refine G ?_|intro _|refine C5 h [0] ?_|refine C5 c2 [0] ?_|(rw[e1])|refine .mk ?_ ?_|refine H ?_|fail));all_goals conv=>whnf)
 ((repeat' first|exact rfl|((conv=>whnf);first|done|exact suL|refine And.intro ?_ ?_|fail));all_goals conv=>whnf)
theorem prim1_n {s:List UInt8} {i j d:Nat} {n:Nd} (hi:i<s.length) (hj:j≤s.length) (hs:s.length≤200) (h:Gives1 gl 34 [.c (.ptr 0 0),.c (.d (iD 0))] s (i+1) d (.ok n j)) (hq:s[skp s j]?≠some 41) :
 Go.EYtfkjhfdpphfjhaaGreatDoor.Fn Tryz.prog gl 142 [.c (.ptr 1 0)] [(0,rdB s i d),(1,rpB)] 2 (.panic (.d (fltD (skp s j) 2))) [] 2 []:=by
 obtain ⟨k,m,t,a,b,ks⟩:=n
 have e1:IntKind.i64.wrap (((i:Nat):Int)+1)=((i+1:Nat):Int):=by rw[wrapI (by omega)];rfl
 have c2:=want_n (gl:=gl) (d:=d) hj hs hq
 unfold Gives1 at h
 refine fn_of_vc (nv:=9999) (cu:=[]) fits mixed Tryz.func142 rfl hoB rfl rfl rfl rfl ?_
 ((repeat' ((conv=>whnf);first|exact .intro|refine G ?_|intro _|refine C5 h [0] ?_|refine C5 c2 [0] ?_|(rw[e1])|refine .mk ?_ ?_|refine H ?_|fail));all_goals conv=>whnf)
 ((repeat' first|exact rfl|((conv=>whnf);first|done|exact suL|refine And.intro ?_ ?_|fail));all_goals conv=>whnf)
theorem prim1_no {s:List UInt8} {i p d:Nat} {e:Int} (hi:i<s.length) (hs:s.length≤200) (h:Gives1 gl 34 [.c (.ptr 0 0),.c (.d (iD 0))] s (i+1) d (.no p e)) :
 Go.EYtfkjhfdpphfjhaaGreatDoor.Fn Tryz.prog gl 142 [.c (.ptr 1 0)] [(0,rdB s i d),(1,rpB)] 2 (.panic (.d (fltD p e))) [] 2 []:=by
 have e1:IntKind.i64.wrap (((i:Nat):Int)+1)=((i+1:Nat):Int):=by rw[wrapI (by omega)];rfl
 unfold Gives1 at h
 refine fn_of_vc (nv:=9999) (cu:=[]) fits mixed Tryz.func142 rfl hoB rfl rfl rfl rfl ?_
 ((repeat' ((conv=>whnf);first|exact .intro|refine G ?_|intro _|refine C5 h [0] ?_|(rw[e1])|refine .mk ?_ ?_|refine H ?_|fail));all_goals conv=>whnf)
 ((repeat' first|exact rfl|((conv=>whnf);first|done|exact suL|refine And.intro ?_ ?_|fail));all_goals conv=>whnf)
theorem prim2_ok {s w:List UInt8} {i j d:Nat} {n:Nd} (h:Gives1 gl 150 [.c (.ptr 0 0),.c (.d (.str w))] s i d (.ok n j)) :
 Go.EYtfkjhfdpphfjhaaGreatDoor.Fn Tryz.prog gl 149 [.c (.ptr 1 0),.c (.ptr 2 0)] [(0,rdB s i d),(1,rpB),(2,txB w)] 3 (.ret (.agg (ndC n))) [(0,rdB s j d),(1,rpB),(2,txB w)] 3 []:=by
 obtain ⟨k,m,t,a,b,ks⟩:=n
 unfold Gives1 at h
 refine fn_of_vc (nv:=9999) (cu:=[]) fits mixed Tryz.func149 rfl hoB rfl rfl rfl rfl ?_
 ((repeat' ((conv=>whnf);first|exact .intro|refine G ?_|intro _|refine C5 h [0] ?_|refine .mk ?_ ?_|refine H ?_|fail));all_goals conv=>whnf)
 ((repeat' first|exact rfl|((conv=>whnf);first|done|exact suL|refine And.intro ?_ ?_|fail));all_goals conv=>whnf)
theorem prim2_no {s w:List UInt8} {i p d:Nat} {e:Int} (h:Gives1 gl 150 [.c (.ptr 0 0),.c (.d (.str w))] s i d (.no p e)) :
 Go.EYtfkjhfdpphfjhaaGreatDoor.Fn Tryz.prog gl 149 [.c (.ptr 1 0),.c (.ptr 2 0)] [(0,rdB s i d),(1,rpB),(2,txB w)] 3 (.panic (.d (fltD p e))) [] 3 []:=by
 unfold Gives1 at h
 refine fn_of_vc (nv:=9999) (cu:=[]) fits mixed Tryz.func149 rfl hoB rfl rfl rfl rfl ?_
 ((repeat' ((conv=>whnf);first|exact .intro|refine G ?_|intro _|refine C5 h [0] ?_|refine .mk ?_ ?_|refine H ?_|fail));all_goals conv=>whnf)
 ((repeat' first|exact rfl|((conv=>whnf);first|done|exact suL|refine And.intro ?_ ?_|fail));all_goals conv=>whnf)
end Go.Proofs.YtfkjhfdpphfjhaaGreatDoor
end
section
namespace Go.Proofs.YtfkjhfdpphfjhaaGreatDoor
open Go Go.EYtfkjhfdpphfjhaaGreatDoor
set_option maxRecDepth 100000
variable {gl:List (Nat×List D)}
theorem HasPrefix_d (s p:List UInt8) {b:Bool} (hb:b=(decide (p.length≤s.length) && decide (s.take p.length=p))):FnP Tryz.prog gl 55 [.str s,.str p] (.v (.bool b)):=by
 have c1:FnP Tryz.prog gl 97 [.str s,.str p] (.v (.bool b)):=by
  by_cases h1:(s.length:Int)≥(p.length:Int)
  ·have h1':p.length≤s.length:=by omega
   refine fnP_of_vc (nv:=9999) (cu:=[]) fits mixed Tryz.func97 rfl hoB rfl ?_
   ((repeat' ((conv=>whnf);first|exact .intro|refine G ?_|intro _|refine .mk ?_ ?_|refine H ?_|fail));all_goals conv=>whnf)
   refine ⟨⟨Int.le_refl 0,(show (0:Int)≤((p.length:Nat):Int) by omega),(show ((p.length:Nat):Int)≤((s.length:Nat):Int) by omega)⟩,?_⟩
   subst hb
   by_cases h2:s.take p.length=p
   ·simp only[h1',h2,decide_true,Bool.and_self]
    ((repeat' ((conv=>whnf);first|exact .intro|refine G ?_|intro _|refine .mk ?_ ?_|refine H ?_|fail));all_goals conv=>whnf)
    all_goals first|exact LeD.rfl|exact LeD.vt (show (s.take ((p.length:Nat):Int).toNat).drop 0=p by rw[Int.toNat_natCast];exact h2)
   ·simp only[h1',h2,decide_true,decide_false,Bool.and_false]
    ((repeat' ((conv=>whnf);first|exact .intro|refine G ?_|intro _|refine .mk ?_ ?_|refine H ?_|fail));all_goals conv=>whnf)
    all_goals first|exact LeD.rfl|exact LeD.vf (fun h=>h2 (by have h:(s.take ((p.length:Nat):Int).toNat).drop 0=p:=h;rw[Int.toNat_natCast] at h;exact h))
  ·have h1':¬ p.length≤s.length:=by omega
   subst hb
   simp only[h1',decide_false,Bool.false_and]
   refine fnP_of_vc (nv:=9999) (cu:=[]) fits mixed Tryz.func97 rfl hoB rfl ?_
   ((repeat' ((conv=>whnf);first|exact .intro|refine G ?_|intro _|refine .mk ?_ ?_|refine H ?_|fail));all_goals conv=>whnf)
   all_goals exact LeD.rfl
 refine fnP_of_vc (nv:=9999) (cu:=[]) fits mixed Tryz.func55 rfl hoB rfl ?_
 ((repeat' ((conv=>whnf);first|exact .intro|refine G ?_|intro _|refine C1 c1 ?_|refine .mk ?_ ?_|refine H ?_|fail));all_goals conv=>whnf)
 exact LeD.rfl
theorem opOf_d (op:Nat) (t:List UInt8) (h:(op,t) ∈ [(1,[61]),(2,[60,62]),(3,[60]),(4,[60,61]),(5,[62]),(6,[62,61]),(7,[38]),(8,[43]),(9,[45]),(10,[42]),(11,[47])]):FnP Tryz.prog gl 57 [.str t] (iD (op:Int)):=by
 simp only[List.mem_cons,Prod.mk.injEq,List.not_mem_nil,or_false] at h
 rcases h with ⟨rfl,rfl⟩|⟨rfl,rfl⟩|⟨rfl,rfl⟩|⟨rfl,rfl⟩|⟨rfl,rfl⟩|⟨rfl,rfl⟩|⟨rfl,rfl⟩|⟨rfl,rfl⟩|⟨rfl,rfl⟩|⟨rfl,rfl⟩|⟨rfl,rfl⟩
 all_goals
  refine fnP_of_vc (nv:=9999) (cu:=[]) fits mixed Tryz.func57 rfl hoB rfl ?_
  ((repeat' ((conv=>whnf);first|exact .intro|refine G ?_|intro _|refine .mk ?_ ?_|refine H ?_|fail));all_goals conv=>whnf)
  all_goals first|exact LeD.rfl|(exfalso;simp_all;done)
end Go.Proofs.YtfkjhfdpphfjhaaGreatDoor
end
section
namespace Go.Proofs.YtfkjhfdpphfjhaaGreatDoor
open Go Go.EYtfkjhfdpphfjhaaGreatDoor
set_option maxRecDepth 100000
variable {gl:List (Nat×List D)}
def litN (t:List UInt8):Nat→Nat→Option (Int×Nat)
 | 0,_=>none
 | f+1,n=>match litZ (t.take n) with
  | some q=>some (q.2,n)
  | none=>litN t f (n+1)
theorem litN_len (t:List UInt8):∀ (f n:Nat) (m:Int) (l:Nat),litN t f n=some (m,l)→n≤l∧l<n+f
 | 0,n,m,l,h=>by cases h
 | f+1,n,m,l,h=>by
  unfold litN at h
  split at h
  ·cases h;omega
  ·have:=litN_len t f (n+1) m l h;omega
def litF (t:List UInt8):Option (Int×Nat):=litN t t.length 1
theorem litF_len (t:List UInt8) (m:Int) (l:Nat) (h:litF t=some (m,l)):1≤l∧l≤t.length:=by
 have:=litN_len t _ _ _ _ h
 omega
def parZ (rf:List UInt8→Option Rf):Par:=⟨plZ rf,clZ,rf,litF,litF_len⟩
end Go.Proofs.YtfkjhfdpphfjhaaGreatDoor
end
section
namespace Go.Proofs.YtfkjhfdpphfjhaaGreatDoor
open Go Go.EYtfkjhfdpphfjhaaGreatDoor
set_option maxRecDepth 100000
variable {gl:List (Nat×List D)}
theorem digsTab:∀ n:Fin 100,1≤n.val→digs n.val≠[]∧(digs n.val).head?≠some 48∧(digs n.val).head?≠some 36∧(∀ d ∈ digs n.val,isDig d)∧rv (digs n.val) (digs n.val).length=n.val:=by decide +kernel
theorem chTab:∀ n:Fin 27,1≤n.val→(UInt8.ofNat (64+n.val)).toNat=64+n.val:=by decide +kernel
theorem dl_n {b:UInt8} {s:List UInt8} (h:b≠36):dl (b::s)=(false,b::s):=by simp[dl,h]
theorem dl_y (s:List UInt8):dl (36::s)=(true,s):=by simp[dl]
theorem dl_if (f:Bool) {b:UInt8} {s:List UInt8} (h:b≠36):dl ((if f=true then [36] else [])++b::s)=(f,b::s):=by
 cases f
 ·exact dl_n h
 ·exact dl_y _
end Go.Proofs.YtfkjhfdpphfjhaaGreatDoor
end
section
namespace Go.Proofs.YtfkjhfdpphfjhaaGreatDoor
open Go Go.EYtfkjhfdpphfjhaaGreatDoor
set_option maxRecDepth 100000
theorem txI_at {s:List UInt8}:∀ {n i:Nat},txI s n=some i→n≤6→tx.getD i []=s∧1≤i∧i≤6
 | 0,i,h,_=>by cases h
 | n+1,i,h,hn=>by
  unfold txI at h
  split at h
  ·rename_i e;cases h;exact ⟨e,by omega,by omega⟩
  ·exact txI_at h (by omega)
end Go.Proofs.YtfkjhfdpphfjhaaGreatDoor
end
