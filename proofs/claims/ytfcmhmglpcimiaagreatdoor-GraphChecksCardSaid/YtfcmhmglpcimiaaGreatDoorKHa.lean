/- Proved: a part of what the law is proved with (the reckoner, contracts of functions, plain laws). Conditions: as each says. -/
import Derived.Test.YtfcmhmglpcimiaaGreatDoorKGe
namespace Go.Proofs.YtfcmhmglpcimiaaGreatDoor
open Go Go.EYtfcmhmglpcimiaaGreatDoor
set_option maxRecDepth 100000
section
variable {gl:List (Nat×List D)}
abbrev AZ:List UInt8:=[65,66,67,68,69,70,71,72,73,74,75,76,77,78,79,80,81,82,83,84,85,86,87,88,89,90]
theorem TrimAZ_d (s:List UInt8) (hs:s.length≤9223372036854775807):FnP Tryz.prog gl 143 [.str s,.str AZ] (.str (Lib.trimS s AZ)) :=
 FnP.of_below (xs:=[.string ⟨s.toArray⟩,.string ⟨AZ.toArray⟩]) (v:=.string ⟨(Lib.trimS s AZ).toArray⟩) hoB (fun M w ys hd=>str2 hd) (fun _ _=>.str _) (fun M w hg=>by
  have h:=Any.strings_Trim_laid Tryz.lays160 (by kernel_rfl) ⟨s.toArray⟩ ⟨AZ.toArray⟩ w (by simpa[ByteArray.size] using hs) (by decide) (ascii_of_all (by decide))
  refine h.mono ?_
  rintro e w' ⟨rfl,hb⟩
  exact ⟨rfl,hb⟩)
def clZ (s:List UInt8):Bool:=decide (2≤s.length) && decide (s.length≤10) && s.all fun c=>decide (65≤c.toNat) && decide (c.toNat≤90)
theorem azTab:∀ k:Fin 256,AZ.contains (UInt8.ofNat k.val)=(decide (65≤k.val) && decide (k.val≤90)):=by decide
theorem az_contains (c:UInt8):AZ.contains c=(decide (65≤c.toNat) && decide (c.toNat≤90)):=by
 have h:=azTab ⟨c.toNat,c.toNat_lt⟩
 simpa using h
theorem clZ_iff (s:List UInt8):clZ s=true↔2≤s.length∧s.length≤10∧Lib.trimS s AZ=[]:=by
 unfold clZ
 rw[trimS_nil]
 simp only[Bool.and_eq_true,decide_eq_true_eq,List.all_eq_true,az_contains,and_assoc]
theorem called_y {s:List UInt8} (hs:s.length≤200) (h:clZ s=true):FnP Tryz.prog gl 122 [.str s] (.v (.bool true)):=by
 obtain ⟨h1,h2,h3⟩:=(clZ_iff s).1 h
 have c1:=TrimAZ_d (gl:=gl) s (by omega)
 rw[h3] at c1
 have h1':(s.length:Int)≥2:=by omega
 have h2':(s.length:Int)≤10:=by omega
 refine S0 Tryz.func122 rfl ?_
 ((repeat' ((conv=>whnf);first|exact .intro|refine G ?_|intro _|refine C1 c1 ?_|refine .mk ?_ ?_|refine H ?_|fail));all_goals conv=>whnf)
 all_goals first|exact LeD.rfl|exact LeD.vt rfl|exact LeD.vt (by simp)
theorem called_n {s:List UInt8} (hs:s.length≤200) (h:clZ s=false):FnP Tryz.prog gl 122 [.str s] (.v (.bool false)):=by
 have h':¬ (2≤s.length∧s.length≤10∧Lib.trimS s AZ=[]):=fun hh=>by rw[(clZ_iff s).2 hh] at h;cases h
 have c1:=TrimAZ_d (gl:=gl) s (by omega)
 by_cases h1:(s.length:Int)≥2
 ·by_cases h2:(s.length:Int)≤10
  ·have h3:¬ Lib.trimS s AZ=[]:=fun e=>h' ⟨by omega,by omega,e⟩
   generalize Lib.trimS s AZ=t at *
   refine S0 Tryz.func122 rfl ?_
   ((repeat' ((conv=>whnf);first|exact .intro|refine G ?_|intro _|refine C1 c1 ?_|refine .mk ?_ ?_|refine H ?_|fail));all_goals conv=>whnf)
   all_goals first|exact LeD.rfl|exact LeD.vf h3|exact LeD.vf (by omega)
  ·refine S0 Tryz.func122 rfl ?_
   ((repeat' ((conv=>whnf);first|exact .intro|refine G ?_|intro _|refine C1 c1 ?_|refine .mk ?_ ?_|refine H ?_|fail));all_goals conv=>whnf)
   all_goals first|exact LeD.rfl|exact LeD.vf (by omega)
 ·refine S0 Tryz.func122 rfl ?_
  ((repeat' ((conv=>whnf);first|exact .intro|refine G ?_|intro _|refine C1 c1 ?_|refine .mk ?_ ?_|refine H ?_|fail));all_goals conv=>whnf)
  all_goals first|exact LeD.rfl|exact LeD.vf (by omega)
abbrev rpB:Blk:=.var [.ptr 0 0] 104
theorem within_1 {s:List UInt8} {i j d p g:Nat} (hd:d<30) {n:Nd} (hg:Go.EYtfcmhmglpcimiaaGreatDoor.Fn Tryz.prog gl g [.c (.ptr 1 0)] [(0,rdB s i (d+1)),(1,rpB)] 2 (.ret (.agg (ndC n))) [(0,rdB s j (d+1)),(1,rpB)] 2 []) :
 Go.EYtfcmhmglpcimiaaGreatDoor.Fn Tryz.prog gl 87 [.c (.ptr 0 0),.c (.d (iD (p:Int))),.c (.fn g [(1,0)])] [(0,rdB s i d),(1,rpB)] 2 (.ret (.agg (ndC n))) [(0,rdB s j d),(1,rpB)] 2 []:=by
 obtain ⟨k,m,t,a,b,ks⟩:=n
 have h30:¬ ((d:Nat):Int)=30:=by omega
 have e1:IntKind.i64.wrap (((d:Nat):Int)+1)=((d+1:Nat):Int):=by rw[wrapI (by omega)];rfl
 refine S1 Tryz.func87 rfl ?_
 ((repeat' ((conv=>whnf);first|exact .intro|refine G ?_|intro _|refine C5 hg [0,1] ?_|(rw[e1])|refine .mk ?_ ?_|refine H ?_|fail));all_goals conv=>whnf)
 ((repeat' first|exact rfl|((conv=>whnf);first|done|exact suL|refine And.intro ?_ ?_|fail));all_goals conv=>whnf)
 exact ceq (by rw[wrapI (by omega)];omega)
theorem within_1n {s:List UInt8} {i d p g q:Nat} {e:Int} (hd:d<30) (hg:Go.EYtfcmhmglpcimiaaGreatDoor.Fn Tryz.prog gl g [.c (.ptr 1 0)] [(0,rdB s i (d+1)),(1,rpB)] 2 (.panic (.d (fltD q e))) [] 2 []) :
 Go.EYtfcmhmglpcimiaaGreatDoor.Fn Tryz.prog gl 87 [.c (.ptr 0 0),.c (.d (iD (p:Int))),.c (.fn g [(1,0)])] [(0,rdB s i d),(1,rpB)] 2 (.panic (.d (fltD q e))) [] 2 []:=by
 have h30:¬ ((d:Nat):Int)=30:=by omega
 have e1:IntKind.i64.wrap (((d:Nat):Int)+1)=((d+1:Nat):Int):=by rw[wrapI (by omega)];rfl
 refine S1 Tryz.func87 rfl ?_
 ((repeat' ((conv=>whnf);first|exact .intro|refine G ?_|intro _|refine C5 hg [0,1] ?_|(rw[e1])|refine .mk ?_ ?_|refine H ?_|fail));all_goals conv=>whnf)
 ((repeat' first|exact rfl|((conv=>whnf);first|done|exact suL|refine And.intro ?_ ?_|fail));all_goals conv=>whnf)
abbrev txB (w:List UInt8):Blk:=.var [.d (.str w)] 9
theorem within_2 {s w:List UInt8} {i j d p g:Nat} (hd:d<30) {n:Nd} (hg:Go.EYtfcmhmglpcimiaaGreatDoor.Fn Tryz.prog gl g [.c (.ptr 1 0),.c (.ptr 2 0)] [(0,rdB s i (d+1)),(1,rpB),(2,txB w)] 3 (.ret (.agg (ndC n))) [(0,rdB s j (d+1)),(1,rpB),(2,txB w)] 3 []) :
 Go.EYtfcmhmglpcimiaaGreatDoor.Fn Tryz.prog gl 87 [.c (.ptr 0 0),.c (.d (iD (p:Int))),.c (.fn g [(1,0),(2,0)])] [(0,rdB s i d),(1,rpB),(2,txB w)] 3 (.ret (.agg (ndC n))) [(0,rdB s j d),(1,rpB),(2,txB w)] 3 []:=by
 obtain ⟨k,m,t,a,b,ks⟩:=n
 have h30:¬ ((d:Nat):Int)=30:=by omega
 have e1:IntKind.i64.wrap (((d:Nat):Int)+1)=((d+1:Nat):Int):=by rw[wrapI (by omega)];rfl
 refine S1 Tryz.func87 rfl ?_
 ((repeat' ((conv=>whnf);first|exact .intro|refine G ?_|intro _|refine C5 hg [0,1,2] ?_|(rw[e1])|refine .mk ?_ ?_|refine H ?_|fail));all_goals conv=>whnf)
 ((repeat' first|exact rfl|((conv=>whnf);first|done|exact suL|refine And.intro ?_ ?_|fail));all_goals conv=>whnf)
 exact ceq (by rw[wrapI (by omega)];omega)
theorem within_2n {s w:List UInt8} {i d p g q:Nat} {e:Int} (hd:d<30) (hg:Go.EYtfcmhmglpcimiaaGreatDoor.Fn Tryz.prog gl g [.c (.ptr 1 0),.c (.ptr 2 0)] [(0,rdB s i (d+1)),(1,rpB),(2,txB w)] 3 (.panic (.d (fltD q e))) [] 3 []) :
 Go.EYtfcmhmglpcimiaaGreatDoor.Fn Tryz.prog gl 87 [.c (.ptr 0 0),.c (.d (iD (p:Int))),.c (.fn g [(1,0),(2,0)])] [(0,rdB s i d),(1,rpB),(2,txB w)] 3 (.panic (.d (fltD q e))) [] 3 []:=by
 have h30:¬ ((d:Nat):Int)=30:=by omega
 have e1:IntKind.i64.wrap (((d:Nat):Int)+1)=((d+1:Nat):Int):=by rw[wrapI (by omega)];rfl
 refine S1 Tryz.func87 rfl ?_
 ((repeat' ((conv=>whnf);first|exact .intro|refine G ?_|intro _|refine C5 hg [0,1,2] ?_|(rw[e1])|refine .mk ?_ ?_|refine H ?_|fail));all_goals conv=>whnf)
 ((repeat' first|exact rfl|((conv=>whnf);first|done|exact suL|refine And.intro ?_ ?_|fail));all_goals conv=>whnf)
end
section
variable {gl:List (Nat×List D)}
def Gives1 (gl:List (Nat×List D)) (f:Nat) (vs:List V) (s:List UInt8) (i d:Nat):Rs Nd→Prop
 | .ok n j=>Go.EYtfcmhmglpcimiaaGreatDoor.Fn Tryz.prog gl f vs [(0,rdB s i d)] 1 (.ret (.agg (ndC n))) [(0,rdB s j d)] 1 []
 | .no a e=>Go.EYtfcmhmglpcimiaaGreatDoor.Fn Tryz.prog gl f vs [(0,rdB s i d)] 1 (.panic (.d (fltD a e))) [] 1 []
theorem neg1_ok {s:List UInt8} {i j d:Nat} {n:Nd} (hi:i<s.length) (hs:s.length≤200) (h:Gives1 gl 71 [.c (.ptr 0 0)] s (i+1) d (.ok n j)) :
 Go.EYtfcmhmglpcimiaaGreatDoor.Fn Tryz.prog gl 88 [.c (.ptr 1 0)] [(0,rdB s i d),(1,rpB)] 2 (.ret (.agg (ndC (negN n)))) [(0,rdB s j d),(1,rpB)] 2 []:=by
 obtain ⟨k,m,t,a,b,ks⟩:=n
 have e1:IntKind.i64.wrap (((i:Nat):Int)+1)=((i+1:Nat):Int):=by rw[wrapI (by omega)];rfl
 unfold Gives1 at h
 refine S1 Tryz.func88 rfl ?_
 ((repeat' ((conv=>whnf);first|exact .intro|refine G ?_|intro _|refine C5 h [0] ?_|(rw[e1])|refine .mk ?_ ?_|refine H ?_|fail));all_goals conv=>whnf)
 ((repeat' first|exact rfl|((conv=>whnf);first|done|exact suL|refine And.intro ?_ ?_|fail));all_goals conv=>whnf)
 (refine .inr ?_;repeat' first|exact .intro|exact .inr (.inl rfl)|exact lf0|exact ln0|((conv=>whnf);first|exact .intro|exact .inr (.inl rfl)|exact lf0|exact ln0|refine And.intro ?_ ?_|fail))
theorem neg1_no {s:List UInt8} {i p d:Nat} {e:Int} (hi:i<s.length) (hs:s.length≤200) (h:Gives1 gl 71 [.c (.ptr 0 0)] s (i+1) d (.no p e)) :
 Go.EYtfcmhmglpcimiaaGreatDoor.Fn Tryz.prog gl 88 [.c (.ptr 1 0)] [(0,rdB s i d),(1,rpB)] 2 (.panic (.d (fltD p e))) [] 2 []:=by
 have e1:IntKind.i64.wrap (((i:Nat):Int)+1)=((i+1:Nat):Int):=by rw[wrapI (by omega)];rfl
 unfold Gives1 at h
 refine S1 Tryz.func88 rfl ?_
 ((repeat' ((conv=>whnf);first|exact .intro|refine G ?_|intro _|refine C5 h [0] ?_|(rw[e1])|refine .mk ?_ ?_|refine H ?_|fail));all_goals conv=>whnf)
 ((repeat' first|exact rfl|((conv=>whnf);first|done|exact suL|refine And.intro ?_ ?_|fail));all_goals conv=>whnf)
theorem prim1_ok {s:List UInt8} {i j d:Nat} {n:Nd} (hi:i<s.length) (hj:j≤s.length) (hs:s.length≤200) (h:Gives1 gl 46 [.c (.ptr 0 0),.c (.d (iD 0))] s (i+1) d (.ok n j)) (hq:s[skp s j]?=some 41) :
 Go.EYtfcmhmglpcimiaaGreatDoor.Fn Tryz.prog gl 116 [.c (.ptr 1 0)] [(0,rdB s i d),(1,rpB)] 2 (.ret (.agg (ndC n))) [(0,rdB s (skp s j+1) d),(1,rpB)] 2 []:=by
 obtain ⟨k,m,t,a,b,ks⟩:=n
 have e1:IntKind.i64.wrap (((i:Nat):Int)+1)=((i+1:Nat):Int):=by rw[wrapI (by omega)];rfl
 have c2:=want_y (gl:=gl) (d:=d) hj hs hq
 unfold Gives1 at h
 refine S1 Tryz.func116 rfl ?_
 ((repeat' ((conv=>whnf);first|exact .intro|refine G ?_|intro _|refine C5 h [0] ?_|refine C5 c2 [0] ?_|(rw[e1])|refine .mk ?_ ?_|refine H ?_|fail));all_goals conv=>whnf)
 ((repeat' first|exact rfl|((conv=>whnf);first|done|exact suL|refine And.intro ?_ ?_|fail));all_goals conv=>whnf)
theorem prim1_n {s:List UInt8} {i j d:Nat} {n:Nd} (hi:i<s.length) (hj:j≤s.length) (hs:s.length≤200) (h:Gives1 gl 46 [.c (.ptr 0 0),.c (.d (iD 0))] s (i+1) d (.ok n j)) (hq:s[skp s j]?≠some 41) :
 Go.EYtfcmhmglpcimiaaGreatDoor.Fn Tryz.prog gl 116 [.c (.ptr 1 0)] [(0,rdB s i d),(1,rpB)] 2 (.panic (.d (fltD (skp s j) 2))) [] 2 []:=by
 obtain ⟨k,m,t,a,b,ks⟩:=n
 have e1:IntKind.i64.wrap (((i:Nat):Int)+1)=((i+1:Nat):Int):=by rw[wrapI (by omega)];rfl
 have c2:=want_n (gl:=gl) (d:=d) hj hs hq
 unfold Gives1 at h
 refine S1 Tryz.func116 rfl ?_
 ((repeat' ((conv=>whnf);first|exact .intro|refine G ?_|intro _|refine C5 h [0] ?_|refine C5 c2 [0] ?_|(rw[e1])|refine .mk ?_ ?_|refine H ?_|fail));all_goals conv=>whnf)
 ((repeat' first|exact rfl|((conv=>whnf);first|done|exact suL|refine And.intro ?_ ?_|fail));all_goals conv=>whnf)
theorem prim1_no {s:List UInt8} {i p d:Nat} {e:Int} (hi:i<s.length) (hs:s.length≤200) (h:Gives1 gl 46 [.c (.ptr 0 0),.c (.d (iD 0))] s (i+1) d (.no p e)) :
 Go.EYtfcmhmglpcimiaaGreatDoor.Fn Tryz.prog gl 116 [.c (.ptr 1 0)] [(0,rdB s i d),(1,rpB)] 2 (.panic (.d (fltD p e))) [] 2 []:=by
 have e1:IntKind.i64.wrap (((i:Nat):Int)+1)=((i+1:Nat):Int):=by rw[wrapI (by omega)];rfl
 unfold Gives1 at h
 refine S1 Tryz.func116 rfl ?_
 ((repeat' ((conv=>whnf);first|exact .intro|refine G ?_|intro _|refine C5 h [0] ?_|(rw[e1])|refine .mk ?_ ?_|refine H ?_|fail));all_goals conv=>whnf)
 ((repeat' first|exact rfl|((conv=>whnf);first|done|exact suL|refine And.intro ?_ ?_|fail));all_goals conv=>whnf)
theorem prim2_ok {s w:List UInt8} {i j d:Nat} {n:Nd} (h:Gives1 gl 124 [.c (.ptr 0 0),.c (.d (.str w))] s i d (.ok n j)) :
 Go.EYtfcmhmglpcimiaaGreatDoor.Fn Tryz.prog gl 123 [.c (.ptr 1 0),.c (.ptr 2 0)] [(0,rdB s i d),(1,rpB),(2,txB w)] 3 (.ret (.agg (ndC n))) [(0,rdB s j d),(1,rpB),(2,txB w)] 3 []:=by
 obtain ⟨k,m,t,a,b,ks⟩:=n
 unfold Gives1 at h
 refine S1 Tryz.func123 rfl ?_
 ((repeat' ((conv=>whnf);first|exact .intro|refine G ?_|intro _|refine C5 h [0] ?_|refine .mk ?_ ?_|refine H ?_|fail));all_goals conv=>whnf)
 ((repeat' first|exact rfl|((conv=>whnf);first|done|exact suL|refine And.intro ?_ ?_|fail));all_goals conv=>whnf)
theorem prim2_no {s w:List UInt8} {i p d:Nat} {e:Int} (h:Gives1 gl 124 [.c (.ptr 0 0),.c (.d (.str w))] s i d (.no p e)) :
 Go.EYtfcmhmglpcimiaaGreatDoor.Fn Tryz.prog gl 123 [.c (.ptr 1 0),.c (.ptr 2 0)] [(0,rdB s i d),(1,rpB),(2,txB w)] 3 (.panic (.d (fltD p e))) [] 3 []:=by
 unfold Gives1 at h
 refine S1 Tryz.func123 rfl ?_
 ((repeat' ((conv=>whnf);first|exact .intro|refine G ?_|intro _|refine C5 h [0] ?_|refine .mk ?_ ?_|refine H ?_|fail));all_goals conv=>whnf)
 ((repeat' first|exact rfl|((conv=>whnf);first|done|exact suL|refine And.intro ?_ ?_|fail));all_goals conv=>whnf)
end
section
variable {gl:List (Nat×List D)}
theorem HasPrefix_d (s p:List UInt8) {b:Bool} (hb:b=(decide (p.length≤s.length) && decide (s.take p.length=p))):FnP Tryz.prog gl 43 [.str s,.str p] (.v (.bool b)):=by
 have c1:FnP Tryz.prog gl 70 [.str s,.str p] (.v (.bool b)):=by
  by_cases h1:(s.length:Int)≥(p.length:Int)
  ·have h1':p.length≤s.length:=by omega
   refine S0 Tryz.func70 rfl ?_
   ((repeat' ((conv=>whnf);first|exact .intro|refine G ?_|intro _|refine .mk ?_ ?_|refine H ?_|fail));all_goals conv=>whnf)
   refine ⟨⟨Int.le_refl 0,(show (0:Int)≤((p.length:Nat):Int) by omega),(show ((p.length:Nat):Int)≤((s.length:Nat):Int) by omega)⟩,?_⟩
   subst hb
   by_cases h2:s.take p.length=p
   ·simp only[h1',h2,decide_true,Bool.and_self]
    ((repeat' ((conv=>whnf);first|exact .intro|refine G ?_|intro _|refine .mk ?_ ?_|refine H ?_|fail));all_goals conv=>whnf)
    all_goals first|exact LeD.rfl|exact LeD.vt (show (s.take ((p.length:Nat):Int).toNat).drop 0=p by rw[Int.toNat_natCast];exact h2)
   ·simp only[h1',h2,decide_true,decide_false,Bool.and_false]
    ((repeat' ((conv=>whnf);first|exact .intro|refine G ?_|intro _|refine .mk ?_ ?_|refine H ?_|fail));all_goals conv=>whnf)
    all_goals first|exact LeD.rfl|exact LeD.vf (fun h=>h2 (by have h:(s.take ((p.length:Nat):Int).toNat).drop 0=p:=h;rw[Int.toNat_natCast] at h;exact h))
  ·have h1':¬ p.length≤s.length:=by omega
   subst hb
   simp only[h1',decide_false,Bool.false_and]
   refine S0 Tryz.func70 rfl ?_
   ((repeat' ((conv=>whnf);first|exact .intro|refine G ?_|intro _|refine .mk ?_ ?_|refine H ?_|fail));all_goals conv=>whnf)
   all_goals exact LeD.rfl
 refine S0 Tryz.func43 rfl ?_
 ((repeat' ((conv=>whnf);first|exact .intro|refine G ?_|intro _|refine C1 c1 ?_|refine .mk ?_ ?_|refine H ?_|fail));all_goals conv=>whnf)
 exact LeD.rfl
theorem opOf_d (op:Nat) (t:List UInt8) (h:(op,t) ∈ [(1,[61]),(2,[60,62]),(3,[60]),(4,[60,61]),(5,[62]),(6,[62,61]),(7,[38]),(8,[43]),(9,[45]),(10,[42]),(11,[47])]):FnP Tryz.prog gl 72 [.str t] (iD (op:Int)):=by
 simp only[List.mem_cons,Prod.mk.injEq,List.not_mem_nil,or_false] at h
 rcases h with ⟨rfl,rfl⟩|⟨rfl,rfl⟩|⟨rfl,rfl⟩|⟨rfl,rfl⟩|⟨rfl,rfl⟩|⟨rfl,rfl⟩|⟨rfl,rfl⟩|⟨rfl,rfl⟩|⟨rfl,rfl⟩|⟨rfl,rfl⟩|⟨rfl,rfl⟩
 all_goals
  refine S0 Tryz.func72 rfl ?_
  ((repeat' ((conv=>whnf);first|exact .intro|refine G ?_|intro _|refine .mk ?_ ?_|refine H ?_|fail));all_goals conv=>whnf)
  all_goals first|exact LeD.rfl|(exfalso;simp_all;done)
end
section
variable {gl:List (Nat×List D)}
def litN (t:List UInt8):Nat→Nat→Option (Int×Nat)
 | 0,_=>none
 | f+1,n=>match litZ (t.take n) with
  | some q=>some (q.2,n)
  | none=>litN t f (n+1)
theorem litN_len (t:List UInt8):∀ (f n:Nat) (m:Int) (l:Nat),litN t f n=some (m,l)→n≤l∧l<n+f
 | 0,n,m,l,h=>by cases h
 | f+1,n,m,l,h=>by
  unfold litN at h
  split at h
  ·cases h;omega
  ·have:=litN_len t f (n+1) m l h;omega
def litF (t:List UInt8):Option (Int×Nat):=litN t t.length 1
theorem litF_len (t:List UInt8) (m:Int) (l:Nat) (h:litF t=some (m,l)):1≤l∧l≤t.length:=by
 have:=litN_len t _ _ _ _ h
 omega
def parZ (rf:List UInt8→Option Rf):Par:=⟨plZ rf,clZ,rf,litF,litF_len⟩
end
section
structure Tk where
 k:Nat
 a:Nat
 e:Nat
 t:List UInt8
def bdI (t:List UInt8):Nat→Option Nat
 | 0=>none
 | n+1=>if t.take (tx.getD (6 - n) []).length=tx.getD (6 - n) [] then some (6 - n) else bdI t n
abbrev two3 (t:List UInt8):Prop:=t.take 2=[60,62]∨t.take 2=[60,61]∨t.take 2=[62,61]
def tokU (j:Nat):List UInt8→Tk
 | []=>⟨0,j,j,[]⟩
 | c::r =>
  if wordlyP c then ⟨1,j,j+wdl (c::r),(c::r).take (wdl (c::r))⟩ else
  if c=34 then (match txtF r with
   | some (b,l)=>⟨2,j,j+1+l,b⟩
   | none=>⟨9,j,j,[]⟩) else
  if c=35 then (match bdI (c::r) 6 with
   | some m=>⟨3,j,j+(tx.getD m []).length,tx.getD m []⟩
   | none=>⟨9,j,j,[]⟩) else
  if two3 (c::r) then ⟨4,j,j+2,(c::r).take 2⟩ else ⟨4,j,j+1,[c]⟩
theorem tokU_cons (j:Nat) (c:UInt8) (r:List UInt8):tokU j (c::r) =
 if wordlyP c then ⟨1,j,j+wdl (c::r),(c::r).take (wdl (c::r))⟩ else
 if c=34 then (match txtF r with
  | some (b,l)=>⟨2,j,j+1+l,b⟩
  | none=>⟨9,j,j,[]⟩) else
 if c=35 then (match bdI (c::r) 6 with
  | some m=>⟨3,j,j+(tx.getD m []).length,tx.getD m []⟩
  | none=>⟨9,j,j,[]⟩) else
 if two3 (c::r) then ⟨4,j,j+2,(c::r).take 2⟩ else ⟨4,j,j+1,[c]⟩:=rfl
def tokZ (s:List UInt8) (i:Nat):Tk:=tokU (skp s i) (s.drop (skp s i))
theorem drop_get {s:List UInt8} {j:Nat} {c:UInt8} (h:s[j]?=some c):s.drop j=c::s.drop (j+1):=by
 obtain ⟨hl,he⟩:=List.getElem?_eq_some_iff.1 h
 rw[List.drop_eq_getElem_cons hl,he]
theorem litN_no {t:List UInt8} (h:∀ m,1≤m→litZ (t.take m)=none):∀ f n,1≤n→litN t f n=none
 | 0,n,hn=>rfl
 | f+1,n,hn=>by
  unfold litN
  rw[h n hn]
  exact litN_no h f (n+1) (by omega)
theorem txI_at {s:List UInt8}:∀ {n i:Nat},txI s n=some i→n≤6→tx.getD i []=s∧1≤i∧i≤6
 | 0,i,h,_=>by cases h
 | n+1,i,h,hn=>by
  unfold txI at h
  split at h
  ·rename_i e;cases h;exact ⟨e,by omega,by omega⟩
  ·exact txI_at h (by omega)
theorem bdI_some {t:List UInt8}:∀ {n i:Nat},bdI t n=some i→n≤6→t.take (tx.getD i []).length=tx.getD i []∧1≤i∧i≤6
 | 0,i,h,_=>by cases h
 | n+1,i,h,hn=>by
  unfold bdI at h
  split at h
  ·rename_i e;cases h;exact ⟨e,by omega,by omega⟩
  ·exact bdI_some h (by omega)
theorem bdI_none {t:List UInt8}:∀ {n:Nat},bdI t n=none→n≤6→∀ i,7 - n≤i→i≤6→t.take (tx.getD i []).length≠tx.getD i []
 | 0,h,_,i,h1,h2=>by omega
 | n+1,h,hn,i,h1,h2=>by
  unfold bdI at h
  split at h
  ·cases h
  ·rename_i hne
   rcases Nat.lt_or_ge i (7 - n) with h3|h3
   ·have:i=6 - n:=by omega
    subst this
    exact hne
   ·exact bdI_none h (by omega) i h3 h2
theorem take_self {t x:List UInt8} {m:Nat} (h:t.take m=x):t.take x.length=x:=by
 subst h
 rw[List.length_take]
 rcases Nat.le_total m t.length with h|h
 ·rw[Nat.min_eq_left h]
 ·rw[Nat.min_eq_right h,List.take_of_length_le h,List.take_length]
theorem beg {t x:List UInt8} (h:t.take x.length=x):∃ r,t=x++r:=⟨t.drop x.length,by
 have:=List.take_append_drop x.length t
 rw[h] at this
 exact this.symm⟩
theorem lit_bd {t:List UInt8} (h:t.head?=some 35):litF t=(bdI t 6).map fun (m:Nat)=>((m:Int),(tx.getD m []).length):=by
 cases hb:bdI t 6 with
 | none =>
  have hn:=bdI_none hb (Nat.le_refl _)
  show litN t t.length 1=none
  refine litN_no (fun m hm=>?_) _ _ (Nat.le_refl _)
  have hh:(t.take m).head?=some 35:=by rw[List.head?_take,if_neg (by omega),h]
  unfold litZ
  rw[if_neg (fun e=>by rw[e] at hh;cases hh),if_neg (fun e=>by rw[e] at hh;cases hh)]
  cases hx:txI (t.take m) 6 with
  | none=>rfl
  | some i =>
   obtain ⟨h1,h2,h3⟩:=txI_at hx (Nat.le_refl _)
   exact absurd (take_self h1.symm) (hn i h2 h3)
 | some i =>
  obtain ⟨h1,h2,h3⟩:=bdI_some hb (Nat.le_refl _)
  clear hb
  obtain ⟨r,rfl⟩:=beg h1
  clear h1 h
  match i,h2,h3 with
  | 1,_,_=>rfl
  | 2,_,_=>rfl
  | 3,_,_=>rfl
  | 4,_,_=>rfl
  | 5,_,_=>rfl
  | 6,_,_=>rfl
theorem lit_tx {i:Nat} (h1:1≤i) (h2:i≤6):litZ (tx.getD i [])=some (4,(i:Int)):=by
 match i,h1,h2 with
 | 1,_,_=>decide
 | 2,_,_=>decide
 | 3,_,_=>decide
 | 4,_,_=>decide
 | 5,_,_=>decide
 | 6,_,_=>decide
def sg:List (List UInt8):=[[],[61],[60,62],[60],[60,61],[62],[62,61],[38],[43],[45],[42],[47]]
def sgI (s:List UInt8):Nat→Nat
 | 0=>0
 | n+1=>if sg.getD (11 - n) []=s then 11 - n else sgI s n
def signZ (s:List UInt8):Nat:=sgI s 11
theorem op_some {u:List UInt8} {j op len:Nat} (h:opT u=some (op,len)):∃ t,tokU j u=⟨4,j,j+len,t⟩∧signZ t=op∧1≤op∧op≤11:=by
 unfold opT at h
 split at h
 all_goals first
  | (cases h;done)
  | (cases h
     first
      | exact ⟨[60,62],by simp[tokU,wordlyP,two3],by decide,by decide,by decide⟩
      | exact ⟨[60,61],by simp[tokU,wordlyP,two3],by decide,by decide,by decide⟩
      | exact ⟨[62,61],by simp[tokU,wordlyP,two3],by decide,by decide,by decide⟩
      | exact ⟨[61],by simp[tokU,wordlyP,two3],by decide,by decide,by decide⟩
      | exact ⟨[38],by simp[tokU,wordlyP,two3],by decide,by decide,by decide⟩
      | exact ⟨[43],by simp[tokU,wordlyP,two3],by decide,by decide,by decide⟩
      | exact ⟨[45],by simp[tokU,wordlyP,two3],by decide,by decide,by decide⟩
      | exact ⟨[42],by simp[tokU,wordlyP,two3],by decide,by decide,by decide⟩
      | exact ⟨[47],by simp[tokU,wordlyP,two3],by decide,by decide,by decide⟩)
  | (rename_i r h1 h2
     cases h
     refine ⟨[60],?_,by decide,by decide,by decide⟩
     cases r with
     | nil=>simp[tokU,wordlyP,two3]
     | cons d r =>
      have e1:d≠62:=fun e=>h1 r (by rw[e])
      have e2:d≠61:=fun e=>h2 r (by rw[e])
      simp[tokU,wordlyP,two3,e1,e2])
  | (rename_i r h1
     cases h
     refine ⟨[62],?_,by decide,by decide,by decide⟩
     cases r with
     | nil=>simp[tokU,wordlyP,two3]
     | cons d r =>
      have e2:d≠61:=fun e=>h1 r (by rw[e])
      simp[tokU,wordlyP,two3,e2])
theorem op_none {u:List UInt8} {j:Nat} (h:opT u=none) (hk:(tokU j u).k=4):signZ (tokU j u).t=0:=by
 cases u with
 | nil=>simp[tokU] at hk
 | cons c r =>
  rw[tokU_cons] at hk ⊢
  split at hk
  ·simp at hk
  split at hk
  ·split at hk <;> simp at hk
  split at hk
  ·split at hk <;> simp at hk
  rename_i hw h34 h35
  rw[if_neg hw,if_neg h34,if_neg h35]
  clear hk
  have hc:c≠61∧c≠60∧c≠62∧c≠38∧c≠43∧c≠45∧c≠42∧c≠47:=by
   refine ⟨?_,?_,?_,?_,?_,?_,?_,?_⟩ <;> (rintro rfl;revert h;unfold opT;split <;> simp_all)
  obtain ⟨c1,c2,c3,c4,c5,c6,c7,c8⟩:=hc
  rw[if_neg (by
   cases r with
   | nil=>simp[two3]
   | cons d r=>simp[two3,c2,c3])]
  simp only[signZ,sgI,sg]
  simp[c1.symm,c2.symm,c3.symm,c4.symm,c5.symm,c6.symm,c7.symm,c8.symm,Ne.symm]
theorem tok_mark {s:List UInt8} {i:Nat} {c:UInt8} (hc:c=40∨c=41∨c=44∨c=45∨c=58) (h:s[skp s i]?=some c):tokZ s i=⟨4,skp s i,skp s i+1,[c]⟩:=by
 unfold tokZ
 rw[drop_get h]
 rcases hc with rfl|rfl|rfl|rfl|rfl <;> simp[tokU,wordlyP,two3]
theorem tok_mark_of {s:List UInt8} {i:Nat} {c:UInt8} (hk:(tokZ s i).k=4) (ht:(tokZ s i).t=[c]):s[skp s i]?=some c:=by
 unfold tokZ at hk ht
 cases hu:s.drop (skp s i) with
 | nil=>rw[hu] at hk;simp[tokU] at hk
 | cons d r =>
  have hd:s[skp s i]?=some d:=by
   have:=congrArg List.head? hu
   rwa [List.head?_drop] at this
  rw[hu] at hk ht
  rw[tokU_cons] at hk ht
  split at hk
  ·simp at hk
  split at hk
  ·split at hk <;> simp at hk
  split at hk
  ·split at hk <;> simp at hk
  rename_i hw h34 h35
  rw[if_neg hw,if_neg h34,if_neg h35] at ht
  split at ht
  ·rename_i h2
   rcases h2 with h2|h2|h2 <;> (simp only at ht;rw[h2] at ht;simp at ht)
  ·simp only[List.cons.injEq,and_true] at ht
   rw[hd,ht]
theorem tok_end {s:List UInt8} {i:Nat} (hi:i≤s.length):(tokZ s i).k=0↔skp s i=s.length:=by
 have h1:=skp_le hi
 unfold tokZ
 cases hu:s.drop (skp s i) with
 | nil =>
  have:=List.drop_eq_nil_iff.1 hu
  simp[tokU];omega
 | cons d r =>
  have:skp s i<s.length:=by
   rcases Nat.lt_or_ge (skp s i) s.length with h|h
   ·exact h
   ·rw[List.drop_eq_nil_of_le h] at hu;cases hu
  constructor
  ·intro hk
   rw[tokU_cons] at hk
   repeat' split at hk
   all_goals simp at hk
  ·intro h;omega
theorem tok_a (s:List UInt8) (i:Nat):(tokZ s i).a=skp s i:=by
 unfold tokZ
 cases s.drop (skp s i) with
 | nil=>rfl
 | cons c r =>
  rw[tokU_cons]
  repeat' split
  all_goals rfl
theorem tok_e {s:List UInt8} {i:Nat} (hi:i≤s.length):skp s i≤(tokZ s i).e∧(tokZ s i).e≤s.length:=by
 have h1:=skp_le hi
 have hl:(s.drop (skp s i)).length=s.length - skp s i:=List.length_drop
 unfold tokZ
 revert hl
 cases s.drop (skp s i) with
 | nil=>intro hl;simp[tokU];exact h1
 | cons d r =>
  intro hl
  rw[tokU_cons]
  simp only[List.length_cons] at hl
  repeat' split
  ·have:=wdl_le (d::r)
   simp only[List.length_cons] at this
   simp only;omega
  ·rename_i b l hq
   have:=txtF_len _ _ _ hq
   simp only;omega
  ·simp only;omega
  ·rename_i m hq
   have:=congrArg List.length (bdI_some hq (Nat.le_refl _)).1
   rw[List.length_take,List.length_cons] at this
   simp only;omega
  ·simp only;omega
  ·rename_i h2
   have:2≤(d::r).length:=by
    rcases h2 with h2|h2|h2 <;>
    ·have:=congrArg List.length h2
     rw[List.length_take] at this
     simp only[List.length_cons,List.length_nil] at this ⊢
     omega
   simp only[List.length_cons] at this
   simp only;omega
  ·simp only;omega
theorem tok_t {s:List UInt8} (hs:s.length≤200) {i:Nat}:(tokZ s i).t.length≤200:=by
 have hl:(s.drop (skp s i)).length≤200:=by rw[List.length_drop];omega
 unfold tokZ
 revert hl
 cases s.drop (skp s i) with
 | nil=>intro hl;simp[tokU]
 | cons d r =>
  intro hl
  rw[tokU_cons]
  simp only[List.length_cons] at hl
  repeat' split
  ·rw[List.length_take];simp only[List.length_cons];omega
  ·rename_i b l hq
   have:=txtF_short _ _ _ hq
   simp only;omega
  ·simp
  ·rename_i m hq
   obtain ⟨_,h1,h2⟩:=bdI_some hq (Nat.le_refl _)
   have key:∀ n:Fin 7,(tx.getD n.val []).length≤200:=by decide
   exact key ⟨m,by omega⟩
  ·simp
  ·simp only[List.length_take];omega
  ·simp
where txtF_short:∀ (t:List UInt8) (b:List UInt8) (l:Nat),txtF t=some (b,l)→b.length≤t.length
 | [],b,l,h=>by cases h
 | [c],b,l,h=>by
  unfold txtF at h
  split at h
  ·cases h;simp
  ·cases h
 | c::d::r,b,l,h=>by
  unfold txtF at h
  split at h
  ·split at h
   ·obtain ⟨q,hq,h2⟩:=Option.map_eq_some_iff.1 h
    have:=txtF_short r q.1 q.2 hq
    cases h2
    simp;omega
   ·cases h;simp
  ·obtain ⟨q,hq,h2⟩:=Option.map_eq_some_iff.1 h
   have:=txtF_short (d::r) q.1 q.2 hq
   cases h2
   simp at this ⊢;omega
theorem tok_word {s:List UInt8} {i:Nat} {c:UInt8} (h:s[skp s i]?=some c) (hw:wordlyP c):tokZ s i=⟨1,skp s i,wdE s (skp s i),wdAt s (skp s i)⟩:=by
 unfold tokZ wdE wdAt
 rw[drop_get h,tokU,if_pos hw]
theorem tok_word_of {s:List UInt8} {i:Nat} (hk:(tokZ s i).k=1):∃ c,s[skp s i]?=some c∧wordlyP c:=by
 unfold tokZ at hk
 cases hu:s.drop (skp s i) with
 | nil=>rw[hu] at hk;simp[tokU] at hk
 | cons d r =>
  have hd:s[skp s i]?=some d:=by
   have:=congrArg List.head? hu
   rwa [List.head?_drop] at this
  rw[hu,tokU_cons] at hk
  split at hk
  ·rename_i hw;exact ⟨d,hd,hw⟩
  ·repeat' split at hk
   all_goals simp at hk
theorem wd_none {s:List UInt8} {j:Nat} (h:∀ c,s[j]?=some c→¬ wordlyP c):wdAt s j=[]:=by
 unfold wdAt
 cases hu:s.drop j with
 | nil=>rfl
 | cons d r =>
  have hd:s[j]?=some d:=by
   have:=congrArg List.head? hu
   rwa [List.head?_drop] at this
  rw[wdl,if_neg (h d hd)]
  rfl
end
end Go.Proofs.YtfcmhmglpcimiaaGreatDoor
