/- Proved: a part of what the law is proved with (the reckoner, contracts of functions, plain laws). Conditions: as each says. -/
import Derived.Test.YtfkjhfdpphfjhaaGreatDoorXBd
namespace Go.Proofs.YtfkjhfdpphfjhaaGreatDoor
open Go Go.EYtfkjhfdpphfjhaaGreatDoor
set_option maxRecDepth 100000
section
variable {gl:List (Nat×List D)}
def bD (l:List UInt8):List (List D):=l.map u8D
theorem bD_len (l:List UInt8):(bD l).length=l.length:=List.length_map ..
theorem bD_app (l:List UInt8) (x:UInt8):bD (l++[x])=bD l++[u8D x]:=List.map_append ..
def Turned (l p:List UInt8) (k:Nat):Prop:=p.length=l.length∧2 * k≤l.length∧∀ x,x<l.length→p[x]?=if x<k∨l.length≤x+k then l[l.length - 1 - x]? else l[x]?
theorem Turned.zero (l:List UInt8):Turned l l 0:=⟨rfl,Nat.zero_le _,fun x hx=>by rw[if_neg (by omega)]⟩
theorem Turned.step {l p:List UInt8} {k:Nat} (h:Turned l p k) (hk:k<l.length - 1 - k) (h1:k<p.length) (h2:l.length - 1 - k<p.length):Turned l ((p.set k p[l.length - 1 - k]).set (l.length - 1 - k) p[k]) (k+1):=by
 obtain ⟨a,b,c⟩:=h
 refine ⟨by simpa using a,by omega,fun x hx=>?_⟩
 have ck:=c k (by omega)
 have cj:=c (l.length - 1 - k) (by omega)
 rw[if_neg (by omega),List.getElem?_eq_getElem h1] at ck
 rw[if_neg (by omega),List.getElem?_eq_getElem h2] at cj
 rw[List.getElem?_set,List.getElem?_set]
 by_cases e1:l.length - 1 - k=x
 ·rw[if_pos e1,if_pos (by simp;omega),if_pos (by omega),ck,show l.length - 1 - x=k by omega]
 ·rw[if_neg e1]
  by_cases e2:k=x
  ·subst e2
   rw[if_pos rfl,if_pos h1,if_pos (by omega),cj]
  ·rw[if_neg e2,c x hx]
   by_cases e3:x<k∨l.length≤x+k
   ·rw[if_pos e3,if_pos (by omega)]
   ·rw[if_neg e3,if_neg (by omega)]
theorem Turned.done {l p:List UInt8} {k:Nat} (h:Turned l p k) (hk:¬ k<l.length - 1 - k):p=l.reverse:=by
 obtain ⟨a,b,c⟩:=h
 refine List.ext_getElem? fun x=>?_
 rcases Nat.lt_or_ge x l.length with hx|hx
 ·rw[c x hx,List.getElem?_reverse hx]
  split
  ·rfl
  ·rw[show l.length - 1 - x=x by omega]
 ·rw[List.getElem?_eq_none (by omega),List.getElem?_eq_none (by simpa using hx)]
end
section
variable {gl:List (Nat×List D)}
theorem rv_lt {l:List UInt8}:∀ {k:Nat},k≤l.length→(∀ d ∈ l.take k,isDig d)→rv l k<10 ^ k
 | 0,_,_=>by show 0<1;omega
 | k+1,h,hd=>by
  have hk:k<l.length:=h
  have h1:=rv_lt (l:=l) (k:=k) (by omega) fun d hx=>hd d (by rw[List.take_succ_eq_append_getElem hk];exact List.mem_append_left _ hx)
  have h2:isDig l[k]:=hd _ (by rw[List.take_succ_eq_append_getElem hk];exact List.mem_append_right _ (List.mem_singleton_self _))
  rw[rv_succ hk,Nat.pow_succ]
  obtain ⟨h3,h4⟩:=h2
  omega
theorem ws_rv {l:List UInt8} {k:Nat} (hk:k≤l.length) (hd:∀ d ∈ l.take k,isDig d):(ws (rv l k)).length≤(k+7) / 8:=by
 refine ws_len_le (Nat.lt_of_lt_of_le (rv_lt hk hd) ?_)
 have h1:10 ^ k≤16 ^ k:=Nat.pow_le_pow_left (by decide) _
 have h2:16 ^ k≤16 ^ (8 * ((k+7) / 8)):=Nat.pow_le_pow_right (by decide) (by omega)
 rw[Nat.pow_mul] at h2
 exact Nat.le_trans h1 h2
theorem nilW0:LeC (.d (.v (.slice none 0 0))) (.d (W 0)):=by
 show LeD _ _
 rw[W,ws_zero];exact nilW_le 1
theorem ws10 {n k:Nat} (h:n<10 ^ k):(ws n).length≤(k+7) / 8:=by
 refine ws_len_le (Nat.lt_of_lt_of_le h ?_)
 have h1:10 ^ k≤16 ^ k:=Nat.pow_le_pow_left (by decide) _
 have h2:16 ^ k≤16 ^ (8 * ((k+7) / 8)):=Nat.pow_le_pow_right (by decide) (by omega)
 rw[Nat.pow_mul] at h2
 exact Nat.le_trans h1 h2
abbrev wholeC (s:List UInt8):Prop:=(∀ d ∈ s,isDig d)∧rv s s.length<9223372036854775808
theorem Whole_p (s:List UInt8) (h0:s≠[]) (h1:¬ (s.head?=some 48∧s≠[48])) (hs:s.length≤140737488355328):FnP Tryz.prog gl 79 [.str s,fD] (if wholeC s then .tup [iD (rv s s.length),.v (.bool true)] else .tup [iD 0,fD]):=by
 obtain ⟨a,l,rfl⟩:=List.exists_cons_of_ne_nil h0
 have h10:=NewInt_p (gl:=gl) 10 (by decide)
 have hw10:(ws 10).length≤35184372088832:=Nat.le_trans (ws_len_le (k:=1) (by decide)) (by decide)
 have hmax:(a::l).length≤maxLen:=by unfold maxLen;omega
 have key:((((a::l).getD (Int.toNat 0) 0).toNat:Int)=48∧a::l=(⟨#[48]⟩:ByteArray).data.toList)∨¬ (((a::l).getD (Int.toNat 0) 0).toNat:Int)=48:=by
  by_cases ha:a=48
  ·left
   subst ha
   refine ⟨rfl,?_⟩
   by_cases hl:l=[]
   ·rw[hl]
   ·exact absurd ⟨rfl,fun e=>hl (List.cons.inj e).2⟩ h1
  ·right
   intro e
   exact ha (UInt8.toNat_inj.1 (show a.toNat=(48:UInt8).toNat from Int.ofNat.inj e))
 have fin:∀ hA:True,True:=fun _=>trivial
 rcases key with ⟨hA,hB⟩|hA
 all_goals
  refine S0 Tryz.func79 rfl ?_
  ((repeat' ((conv=>whnf);first|exact .intro|refine G ?_|intro _|refine C1 h10 ?_|refine .mk ?_ ?_|refine H ?_|fail));all_goals conv=>whnf)
  refine ⟨{ σ:=Nat,fr:=fun k=>[(8,.c (.d (iD k)))],ks:=[0],L:=fun k=>[(0,.var [.d fD,.d (W (rv (a::l) k))] 118)],ex:=0,I:=fun k=>k≤(a::l).length∧∀ d ∈ (a::l).take k,isDig d,μ:=fun k=>(a::l).length - k },⟨0,⟨Nat.zero_le _,by simp⟩,?_⟩,fun (k:Nat) hk=>?_⟩
  ·((repeat' first|exact rfl|((conv=>whnf);first|done|exact suL|refine And.intro ?_ ?_|fail));all_goals conv=>whnf)
   exact .inr (.inr (.inr nilW0))
  ·obtain ⟨hk1,hk2⟩:=hk
   have hwk:=ws_rv hk1 hk2
   by_cases hlt:k<(a::l).length
   ·have hkl:(k:Int)<(((a::l).length:Nat):Int):=Int.ofNat_lt.2 hlt
    have eg:(a::l).getD ((k:Int)).toNat 0=(a::l)[k]:=by rw[Int.toNat_natCast,List.getD,List.getElem?_eq_getElem hlt];rfl
    have hmem:=List.getElem_mem hlt
    by_cases hlo:(((a::l).getD ((k:Int)).toNat 0).toNat:Int)<48
    ·((repeat' ((conv=>whnf);first|exact .intro|refine G ?_|intro _|refine C1 h10 ?_|refine .mk ?_ ?_|refine H ?_|fail));all_goals conv=>whnf)
     exact LeD.ite_neg (fun hh=>by have:=(hh.1 _ hmem).1;rw[← eg] at this;omega) LeD.rfl
    by_cases hhi:57<(((a::l).getD ((k:Int)).toNat 0).toNat:Int)
    ·((repeat' ((conv=>whnf);first|exact .intro|refine G ?_|intro _|refine C1 h10 ?_|refine .mk ?_ ?_|refine H ?_|fail));all_goals conv=>whnf)
     exact LeD.ite_neg (fun hh=>by have:=(hh.1 _ hmem).2;rw[← eg] at this;omega) LeD.rfl
    have hdig:isDig (a::l)[k]:=by rw[← eg];exact ⟨by omega,by omega⟩
    have hd2:∀ d ∈ (a::l).take (k+1),isDig d:=fun d hd=>by
     rw[List.take_succ_eq_append_getElem hlt] at hd
     rcases List.mem_append.1 hd with hd|hd
     ·exact hk2 d hd
     ·rw[List.mem_singleton.1 hd];exact hdig
    have hM:=Mul_p (gl:=gl) (rv (a::l) k) 10 (by omega) hw10
    have hA2:=Add_p (gl:=gl) (rv (a::l) k * 10) ((a::l)[k].toNat - 48) (by
     have h1:=rv_lt hk1 hk2
     have:=ws10 (n:=rv (a::l) k * 10) (k:=k+1) (by rw[Nat.pow_succ];omega)
     omega) (Nat.le_trans (ws_len_le (k:=1) (by have:=hdig.2;simp only[B32];omega)) (by decide))
    have hNI:FnP Tryz.prog gl 69 [.v (.int .i64 (IntKind.i64.wrap (IntKind.i64.wrap (((a::l).getD ((k:Int)).toNat 0).toNat:Int) - 48)))] (.imm [fD,W ((a::l)[k].toNat - 48)]):=by
     rw[wrapI (n:=(((a::l).getD ((k:Int)).toNat 0).toNat:Int)) (by omega),wrapI (by omega),show ((((a::l).getD ((k:Int)).toNat 0).toNat:Int) - 48)=(((a::l)[k].toNat - 48:Nat):Int) by rw[← eg];omega]
     exact NewInt_p _ (by have:=hdig.2;omega)
    ((repeat' ((conv=>whnf);first|exact .intro|refine G ?_|intro _|refine C5 hM [0] ?_|refine C5 hA2 [0] ?_|refine C1 h10 ?_|refine C1 hNI ?_|refine .mk ?_ ?_|refine H ?_|fail));all_goals conv=>whnf)
    refine ⟨k+1,⟨⟨hlt,hd2⟩,by show (a::l).length - (k+1)<(a::l).length - k;omega⟩,?_⟩
    ((repeat' first|exact rfl|((conv=>whnf);first|done|exact suL|refine And.intro ?_ ?_|fail));all_goals conv=>whnf)
    ·exact ceq (show IntKind.i64.wrap ((k:Int)+1)=((k+1:Nat):Int) by rw[wrapI (by omega)];rfl)
    ·exact .inr (.inl (by rw[rv_succ hlt]))
   ·have hkl:¬ (k:Int)<(((a::l).length:Nat):Int):=fun h=>hlt (Int.ofNat_lt.1 h)
    have hke:k=(a::l).length:=by omega
    rw[hke,List.take_length] at hk2
    have hwk2:(ws (rv (a::l) k)).length≤35184372088832:=by omega
    have hF:=Fits_p (gl:=gl) (rv (a::l) k) hwk2
    by_cases hfit:rv (a::l) k<9223372036854775808
    ·have hI:=Int64_p (gl:=gl) (rv (a::l) k) hfit
     ((repeat' ((conv=>whnf);first|exact .intro|refine G ?_|intro _|refine C1 hF ?_|refine C1 hI ?_|refine .mk ?_ ?_|refine H ?_|fail));all_goals conv=>whnf)
     rw[hke]
     exact LeD.ite_pos ⟨hk2,hke ▸ hfit⟩ LeD.rfl
    ·((repeat' ((conv=>whnf);first|exact .intro|refine G ?_|intro _|refine C1 hF ?_|refine .mk ?_ ?_|refine H ?_|fail));all_goals conv=>whnf)
     exact LeD.ite_neg (fun hh=>hfit (hke ▸ hh.2)) LeD.rfl
end
end Go.Proofs.YtfkjhfdpphfjhaaGreatDoor
