/- Proved: a part of what the law is proved with (the reckoner, contracts of functions, plain laws). Conditions: as each says. -/
import Derived.Lib.Mul64
import Derived.Laws.Bits64b
import Derived.Test.YtaheflnnigocgaaGreatDoorHBa
section
namespace Go.Proofs.YtaheflnnigocgaaGreatDoor
open Go Go.EYtaheflnnigocgaaGreatDoor
set_option maxRecDepth 100000
variable {gl:List (Nat×List D)}
abbrev fD:D:=.v (.bool false)
end Go.Proofs.YtaheflnnigocgaaGreatDoor
end
section
namespace Go.Proofs.YtaheflnnigocgaaGreatDoor
open Go Go.EYtaheflnnigocgaaGreatDoor
set_option maxRecDepth 100000
variable {gl:List (Nat×List D)}
def bD (l:List UInt8):List (List D):=l.map u8D
theorem bD_len (l:List UInt8):(bD l).length=l.length:=List.length_map ..
theorem bD_app (l:List UInt8) (x:UInt8):bD (l++[x])=bD l++[u8D x]:=List.map_append ..
def Turned (l p:List UInt8) (k:Nat):Prop:=p.length=l.length∧2 * k≤l.length∧∀ x,x<l.length→p[x]?=if x<k∨l.length≤x+k then l[l.length - 1 - x]? else l[x]?
theorem Turned.zero (l:List UInt8):Turned l l 0:=⟨rfl,Nat.zero_le _,fun x hx=>by rw[if_neg (by omega)]⟩
theorem Turned.step {l p:List UInt8} {k:Nat} (h:Turned l p k) (hk:k<l.length - 1 - k) (h1:k<p.length) (h2:l.length - 1 - k<p.length):Turned l ((p.set k p[l.length - 1 - k]).set (l.length - 1 - k) p[k]) (k+1):=by
 obtain ⟨a,b,c⟩:=h
 refine ⟨by simpa using a,by omega,fun x hx=>?_⟩
 have ck:=c k (by omega)
 have cj:=c (l.length - 1 - k) (by omega)
 rw[if_neg (by omega),List.getElem?_eq_getElem h1] at ck
 rw[if_neg (by omega),List.getElem?_eq_getElem h2] at cj
 rw[List.getElem?_set,List.getElem?_set]
 by_cases e1:l.length - 1 - k=x
 ·rw[if_pos e1,if_pos (by simp;omega),if_pos (by omega),ck,show l.length - 1 - x=k by omega]
 ·rw[if_neg e1]
  by_cases e2:k=x
  ·subst e2
   rw[if_pos rfl,if_pos h1,if_pos (by omega),cj]
  ·rw[if_neg e2,c x hx]
   by_cases e3:x<k∨l.length≤x+k
   ·rw[if_pos e3,if_pos (by omega)]
   ·rw[if_neg e3,if_neg (by omega)]
theorem Turned.done {l p:List UInt8} {k:Nat} (h:Turned l p k) (hk:¬ k<l.length - 1 - k):p=l.reverse:=by
 obtain ⟨a,b,c⟩:=h
 refine List.ext_getElem? fun x=>?_
 rcases Nat.lt_or_ge x l.length with hx|hx
 ·rw[c x hx,List.getElem?_reverse hx]
  split
  ·rfl
  ·rw[show l.length - 1 - x=x by omega]
 ·rw[List.getElem?_eq_none (by omega),List.getElem?_eq_none (by simpa using hx)]
end Go.Proofs.YtaheflnnigocgaaGreatDoor
end
section
namespace Go.Proofs.YtaheflnnigocgaaGreatDoor
open Go Go.EYtaheflnnigocgaaGreatDoor
set_option maxRecDepth 100000
variable {gl:List (Nat×List D)}
theorem rv_lt {l:List UInt8}:∀ {k:Nat},k≤l.length→(∀ d ∈ l.take k,isDig d)→rv l k<10 ^ k
 | 0,_,_=>by show 0<1;omega
 | k+1,h,hd=>by
  have hk:k<l.length:=h
  have h1:=rv_lt (l:=l) (k:=k) (by omega) fun d hx=>hd d (by rw[List.take_succ_eq_append_getElem hk];exact List.mem_append_left _ hx)
  have h2:isDig l[k]:=hd _ (by rw[List.take_succ_eq_append_getElem hk];exact List.mem_append_right _ (List.mem_singleton_self _))
  rw[rv_succ hk,Nat.pow_succ]
  obtain ⟨h3,h4⟩:=h2
  omega
end Go.Proofs.YtaheflnnigocgaaGreatDoor
end
section
namespace Go.Proofs.YtaheflnnigocgaaGreatDoor
open Go Go.EYtaheflnnigocgaaGreatDoor
set_option maxRecDepth 100000
variable {gl:List (Nat×List D)}
abbrev okI (n:Int):Prop:=-9223372036854775808≤n∧n≤9223372036854775807
namespace M64
end M64
end Go.Proofs.YtaheflnnigocgaaGreatDoor
end
