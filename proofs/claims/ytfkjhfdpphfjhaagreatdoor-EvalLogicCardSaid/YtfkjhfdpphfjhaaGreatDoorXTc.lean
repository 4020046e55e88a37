/- Proved: a part of what the law is proved with (the reckoner, contracts of functions, plain laws). Conditions: as each says. -/
import Derived.Test.YtfkjhfdpphfjhaaGreatDoorXSd
import Derived.Test.YtfkjhfdpphfjhaaGreatDoorXSg
namespace Go.Proofs.YtfkjhfdpphfjhaaGreatDoor
open Go Go.EYtfkjhfdpphfjhaaGreatDoor
set_option maxRecDepth 100000
variable {gl:List (Nat×List D)}
abbrev Vl.ok (v:Vl):Prop:=isV v.k v.n v.s∧okI v.n
def numV (v:Vl):Vl:=if v.k=1∨v.k=4 then v else if v.k=2 then (match wholeZ v.s with|some n=>⟨1,n,[]⟩|none=>⟨4,2,[]⟩) else ⟨1,v.n,[]⟩
theorem wholeZ_okI {s:List UInt8} {n:Int} (h:wholeZ s=some n):okI n:=by
 unfold wholeZ at h
 split at h
 ·rename_i hh;cases h;exact hh.2
 ·cases h
theorem numV_ok {v:Vl} (h:v.ok):(numV v).ok∧((numV v).k=1∨(numV v).k=4):=by
 obtain ⟨k,n,s⟩:=v
 obtain ⟨h1,h2⟩:=h
 unfold numV
 split
 ·rename_i hk;exact ⟨⟨h1,h2⟩,hk⟩
 ·split
  ·split
   ·rename_i m hm;exact ⟨⟨.inr (.inl ⟨rfl,rfl⟩),wholeZ_okI hm⟩,.inl rfl⟩
   ·exact ⟨⟨.inr (.inr (.inr (.inr ⟨rfl,by decide,by decide,rfl⟩))),by show okI 2;decide⟩,.inr rfl⟩
  ·exact ⟨⟨.inr (.inl ⟨rfl,rfl⟩),h2⟩,.inl rfl⟩
theorem Number_d (te:TypeId) (pe:Value) (k n:Int) (s:List UInt8) (hs:s.length≤140737488355328):FnP Tryz.prog (glV te pe) 106 [vlD k n s] (numV ⟨k,n,s⟩).d:=by
 by_cases h1:k=1
 ·subst h1
  refine S0 Tryz.func106 rfl ?_
  ((repeat' ((conv=>whnf);first|exact .intro|refine G ?_|intro _|refine .mk ?_ ?_|refine H ?_|fail));all_goals conv=>whnf)
  exact LeD.rfl
 by_cases h4:k=4
 ·subst h4
  refine S0 Tryz.func106 rfl ?_
  ((repeat' ((conv=>whnf);first|exact .intro|refine G ?_|intro _|refine .mk ?_ ?_|refine H ?_|fail));all_goals conv=>whnf)
  exact LeD.rfl
 by_cases h2:k=2
 ·subst h2
  cases hw:wholeZ s with
  | some m =>
   have c:=Whole_some (gl:=glV te pe) hs hw
   refine S0 Tryz.func106 rfl ?_
   ((repeat' ((conv=>whnf);first|exact .intro|refine G ?_|intro _|refine C1 c ?_|refine C1 (Num_d _) ?_|refine .mk ?_ ?_|refine H ?_|fail));all_goals conv=>whnf)
   exact LeD.of (by simp only[numV,hw];rfl)
  | none =>
   obtain ⟨m,c⟩:=Whole_none (gl:=glV te pe) hs (errR_V te pe) hw
   refine S0 Tryz.func106 rfl ?_
   ((repeat' ((conv=>whnf);first|exact .intro|refine G ?_|intro _|refine C1 c ?_|refine C1 (Wrong_d _) ?_|refine .mk ?_ ?_|refine H ?_|fail));all_goals conv=>whnf)
   exact LeD.of (by simp only[numV,hw];rfl)
 ·refine S0 Tryz.func106 rfl ?_
  ((repeat' ((conv=>whnf);first|exact .intro|refine G ?_|intro _|refine C1 (Num_d _) ?_|refine .mk ?_ ?_|refine H ?_|fail));all_goals conv=>whnf)
  all_goals first|(exfalso;omega)|exact LeD.of (by simp only[numV,h1,h2,h4,or_self,if_false];rfl)
def rg (z:Int):Vl:=if okI z then ⟨1,z,[]⟩ else ⟨4,5,[]⟩
def rkV (op x y:Int):Vl:=if op=8 then rg (x+y) else if op=9 then rg (x - y) else if op=10 then rg (x * y) else if y=0 then ⟨4,1,[]⟩ else rg (x.tdiv y)
theorem rg_d (z:Int):(if okI z then vlD 1 z [] else vlD 4 5 [])=(rg z).d:=by unfold rg;split <;> rfl
theorem reckon_d {op x y:Int} (h8:8≤op) (h11:op≤11) (hx:okI x) (hy:okI y):FnP Tryz.prog gl 108 [iD op,iD x,iD y] (rkV op x y).d:=by
 have e:op=8∨op=9∨op=10∨op=11:=by omega
 rcases e with rfl|rfl|rfl|rfl
 ·show FnP Tryz.prog gl 108 _ (rg (x+y)).d
  rw[← rg_d];split
  ·exact rk8_s hx hy (by assumption)
  ·exact rk8_n hx hy (by assumption)
 ·show FnP Tryz.prog gl 108 _ (rg (x - y)).d
  rw[← rg_d];split
  ·exact rk9_s hx hy (by assumption)
  ·exact rk9_n hx hy (by assumption)
 ·show FnP Tryz.prog gl 108 _ (rg (x * y)).d
  rw[← rg_d];split
  ·exact rk10_s hx hy (by assumption)
  ·exact rk10_n hx hy (by assumption)
 ·by_cases h0:y=0
  ·subst h0;exact rk11_0 x
  ·have e:rkV 11 x y=rg (x.tdiv y):=by unfold rkV;rw[if_neg (by decide),if_neg (by decide),if_neg (by decide),if_neg h0]
   rw[e,← rg_d];split
   ·exact rk11_s hx h0 (by assumption)
   ·exact rk11_n hx (by assumption)
theorem showV_len {v:Vl} (hv:v.ok):(showV v).length≤200:=by
 obtain ⟨k,n,s⟩:=v
 obtain ⟨hv,hn⟩:=hv
 have htx:∀ m:Nat,(tx.getD m []).length≤7:=fun m=>by
  rcases Nat.lt_or_ge m 7 with h|h
  ·have key:∀ m:Fin 7,(tx.getD m.val []).length≤7:=by decide
   exact key ⟨m,h⟩
  ·have:tx.getD m []=[]:=by rw[List.getD,List.getElem?_eq_none (show tx.length≤m from h)];rfl
   rw[this];decide
 have h1:=itoa_len hn
 have h3:=htx n.toNat
 have h4:tF.length≤200:=by decide
 have h5:tT.length≤200:=by decide
 have h6:([]:List UInt8).length≤200:=by decide
 have h7:k=2→s.length≤200:=fun h=>by rcases hv with hv|hv|hv|hv|hv <;> simp only at hv <;> omega
 show (show3 k n s).length≤_
 simp only at h1 h3
 unfold show3
 repeat' split
 all_goals first|omega|assumption|(exact h7 (by assumption))
end Go.Proofs.YtfkjhfdpphfjhaaGreatDoor
