/- Proved: a part of what the law is proved with (the reckoner, contracts of functions, plain laws). Conditions: as each says. -/
import Derived.Test.YtfcmhmglpcimiaaGreatDoorKJk
namespace Go.Proofs.YtfcmhmglpcimiaaGreatDoor
open Go Go.EYtfcmhmglpcimiaaGreatDoor
set_option maxRecDepth 100000
section
variable {gl:List (Nat×List D)}
theorem w1:IntKind.i64.wrap 1=1:=by decide
theorem w2:IntKind.i64.wrap 2=2:=by decide
theorem w3:IntKind.i64.wrap 3=3:=by decide
theorem rRef_le {x n:Int} {ch:UInt8} {b b':Bool} (hx:x=((ch.toNat - 64:Nat):Int)):LeD (retD [D.agg [iD x,iD n,.v (.bool b),.v (.bool b')],.v (.bool true)]) (.tup [refD ((ch.toNat - 64:Nat):Int) n b b',tD true]):=by
 subst hx
 exact LeD.tup ⟨LeD.agg ⟨LeD.rfl,LeD.rfl,tD_le _,tD_le _,trivial⟩,tD_le _,trivial⟩
theorem drop_some {s l:List UInt8} {i:Int} {k:Nat} (hi:i=k) (h:s.drop k=l):List.drop ((some i).getD 0).toNat (List.take ((none:Option Int).getD ((s.length:Nat):Int)).toNat s)=l:=by
 subst hi
 show List.drop ((k:Int)).toNat (List.take ((s.length:Nat):Int).toNat s)=l
 rw[Int.toNat_natCast,Int.toNat_natCast,List.take_length];exact h
theorem rRef_As {l:List UInt8} {ch:UInt8} {n:Int} (hc:65≤ch.toNat∧ch.toNat≤90)   (hW:FnP Tryz.prog gl 79 [.str l,fD] (.tup [iD n,.v (.bool true)])) (hn:1≤n∧n≤99):FnP Tryz.prog gl 80 [.str (36::ch::36::l)] (.tup [refD ((ch.toNat - 64:Nat):Int) n true true,tD true]):=by
 have hW2:FnP Tryz.prog gl 79 [.str (List.drop ((some (IntKind.i64.wrap (IntKind.i64.wrap (IntKind.i64.wrap (0+1)+1)+1))).getD 0).toNat (List.take ((none:Option Int).getD (((36::ch::36::l).length:Nat):Int)).toNat (36::ch::36::l))),fD] (.tup [iD n,.v (.bool true)]):=by
  rw[drop_some (k:=3) (by rw[w0111];rfl) rfl];exact hW
 have f36:(((36::ch::36::l).getD (Int.toNat 0) 0).toNat:Int)=36:=rfl
 have f1:¬ (((36::ch::36::l).length:Nat):Int)≤IntKind.i64.wrap (0+1):=by rw[w01];simp;try omega
 have fe:(36::ch::36::l).getD (IntKind.i64.wrap (0+1)).toNat 0=ch:=by rw[w01];rfl
 have g0:(0:Int)<(((36::ch::36::l).length:Nat):Int):=by simp;try omega
 have hlo:¬ (((36::ch::36::l).getD (IntKind.i64.wrap (0+1)).toNat 0).toNat:Int)<65:=by rw[fe];omega
 have hhi:¬ 90<(((36::ch::36::l).getD (IntKind.i64.wrap (0+1)).toNat 0).toNat:Int):=by rw[fe];omega
 have n1:¬ n<1:=by omega
 have n2:¬ 99<n:=by omega
 have g1:IntKind.i64.wrap (IntKind.i64.wrap (0+1)+1)<(((36::ch::36::l).length:Nat):Int):=by rw[w011];simp;try omega
 have g2:(((36::ch::36::l).getD (IntKind.i64.wrap (IntKind.i64.wrap (0+1)+1)).toNat 0).toNat:Int)=36:=by rw[w011];rfl
 refine S0 Tryz.func80 rfl ?_
 ((repeat' ((conv=>whnf);first|exact .intro|refine G ?_|intro _|refine C1 hW2 ?_|refine .mk ?_ ?_|refine AK ?_|refine And.intro (by first|(first|assumption|omega|(simp;done)|(simp[w1,w2,w3];done)|(simp[w1,w2,w3];omega);done)|fail) ?_|fail));all_goals conv=>whnf)
 exact rRef_le (by rw[fe,wrapI (n:=(ch.toNat:Int)) (by omega),wrapI (by omega)];omega)
theorem rRef_An {l:List UInt8} {ch:UInt8} {n:Int} (hc:65≤ch.toNat∧ch.toNat≤90)   (hW:FnP Tryz.prog gl 79 [.str l,fD] (.tup [iD n,.v (.bool true)])) (hn:n<1∨99<n):FnP Tryz.prog gl 80 [.str (36::ch::36::l)] (rrBad):=by
 have hW2:FnP Tryz.prog gl 79 [.str (List.drop ((some (IntKind.i64.wrap (IntKind.i64.wrap (IntKind.i64.wrap (0+1)+1)+1))).getD 0).toNat (List.take ((none:Option Int).getD (((36::ch::36::l).length:Nat):Int)).toNat (36::ch::36::l))),fD] (.tup [iD n,.v (.bool true)]):=by
  rw[drop_some (k:=3) (by rw[w0111];rfl) rfl];exact hW
 have f36:(((36::ch::36::l).getD (Int.toNat 0) 0).toNat:Int)=36:=rfl
 have f1:¬ (((36::ch::36::l).length:Nat):Int)≤IntKind.i64.wrap (0+1):=by rw[w01];simp;try omega
 have fe:(36::ch::36::l).getD (IntKind.i64.wrap (0+1)).toNat 0=ch:=by rw[w01];rfl
 have g0:(0:Int)<(((36::ch::36::l).length:Nat):Int):=by simp;try omega
 have hlo:¬ (((36::ch::36::l).getD (IntKind.i64.wrap (0+1)).toNat 0).toNat:Int)<65:=by rw[fe];omega
 have hhi:¬ 90<(((36::ch::36::l).getD (IntKind.i64.wrap (0+1)).toNat 0).toNat:Int):=by rw[fe];omega
 have g1:IntKind.i64.wrap (IntKind.i64.wrap (0+1)+1)<(((36::ch::36::l).length:Nat):Int):=by rw[w011];simp;try omega
 have g2:(((36::ch::36::l).getD (IntKind.i64.wrap (IntKind.i64.wrap (0+1)+1)).toNat 0).toNat:Int)=36:=by rw[w011];rfl
 by_cases n1:n<1
 ·refine S0 Tryz.func80 rfl ?_
  ((repeat' ((conv=>whnf);first|exact .intro|refine G ?_|intro _|refine C1 hW2 ?_|refine .mk ?_ ?_|refine AK ?_|refine And.intro (by first|(first|assumption|omega|(simp;done)|(simp[w1,w2,w3];done)|(simp[w1,w2,w3];omega);done)|fail) ?_|fail));all_goals conv=>whnf)
  exact rrBad_le
 ·have n2:99<n:=by omega
  refine S0 Tryz.func80 rfl ?_
  ((repeat' ((conv=>whnf);first|exact .intro|refine G ?_|intro _|refine C1 hW2 ?_|refine .mk ?_ ?_|refine AK ?_|refine And.intro (by first|(first|assumption|omega|(simp;done)|(simp[w1,w2,w3];done)|(simp[w1,w2,w3];omega);done)|fail) ?_|fail));all_goals conv=>whnf)
  exact rrBad_le
theorem rRef_Af {l:List UInt8} {ch:UInt8} (hc:65≤ch.toNat∧ch.toNat≤90)   (hW:FnP Tryz.prog gl 79 [.str l,fD] (.tup [iD 0,fD]))  : FnP Tryz.prog gl 80 [.str (36::ch::36::l)] (rrBad):=by
 have hW2:FnP Tryz.prog gl 79 [.str (List.drop ((some (IntKind.i64.wrap (IntKind.i64.wrap (IntKind.i64.wrap (0+1)+1)+1))).getD 0).toNat (List.take ((none:Option Int).getD (((36::ch::36::l).length:Nat):Int)).toNat (36::ch::36::l))),fD] (.tup [iD 0,fD]):=by
  rw[drop_some (k:=3) (by rw[w0111];rfl) rfl];exact hW
 have f36:(((36::ch::36::l).getD (Int.toNat 0) 0).toNat:Int)=36:=rfl
 have f1:¬ (((36::ch::36::l).length:Nat):Int)≤IntKind.i64.wrap (0+1):=by rw[w01];simp;try omega
 have fe:(36::ch::36::l).getD (IntKind.i64.wrap (0+1)).toNat 0=ch:=by rw[w01];rfl
 have g0:(0:Int)<(((36::ch::36::l).length:Nat):Int):=by simp;try omega
 have hlo:¬ (((36::ch::36::l).getD (IntKind.i64.wrap (0+1)).toNat 0).toNat:Int)<65:=by rw[fe];omega
 have hhi:¬ 90<(((36::ch::36::l).getD (IntKind.i64.wrap (0+1)).toNat 0).toNat:Int):=by rw[fe];omega
 have g1:IntKind.i64.wrap (IntKind.i64.wrap (0+1)+1)<(((36::ch::36::l).length:Nat):Int):=by rw[w011];simp;try omega
 have g2:(((36::ch::36::l).getD (IntKind.i64.wrap (IntKind.i64.wrap (0+1)+1)).toNat 0).toNat:Int)=36:=by rw[w011];rfl
 refine S0 Tryz.func80 rfl ?_
 ((repeat' ((conv=>whnf);first|exact .intro|refine G ?_|intro _|refine C1 hW2 ?_|refine .mk ?_ ?_|refine AK ?_|refine And.intro (by first|(first|assumption|omega|(simp;done)|(simp[w1,w2,w3];done)|(simp[w1,w2,w3];omega);done)|fail) ?_|fail));all_goals conv=>whnf)
 exact rrBad_le
theorem rRef_Bs {l:List UInt8} {ch:UInt8} {n:Int} (hc:65≤ch.toNat∧ch.toNat≤90)  (hl36:l.head?≠some 36) (hW:FnP Tryz.prog gl 79 [.str l,fD] (.tup [iD n,.v (.bool true)])) (hn:1≤n∧n≤99):FnP Tryz.prog gl 80 [.str (36::ch::l)] (.tup [refD ((ch.toNat - 64:Nat):Int) n true false,tD true]):=by
 have hW2:FnP Tryz.prog gl 79 [.str (List.drop ((some (IntKind.i64.wrap (IntKind.i64.wrap (0+1)+1))).getD 0).toNat (List.take ((none:Option Int).getD (((36::ch::l).length:Nat):Int)).toNat (36::ch::l))),fD] (.tup [iD n,.v (.bool true)]):=by
  rw[drop_some (k:=2) (by rw[w011];rfl) rfl];exact hW
 have f36:(((36::ch::l).getD (Int.toNat 0) 0).toNat:Int)=36:=rfl
 have f1:¬ (((36::ch::l).length:Nat):Int)≤IntKind.i64.wrap (0+1):=by rw[w01];simp;try omega
 have fe:(36::ch::l).getD (IntKind.i64.wrap (0+1)).toNat 0=ch:=by rw[w01];rfl
 have g0:(0:Int)<(((36::ch::l).length:Nat):Int):=by simp;try omega
 have hlo:¬ (((36::ch::l).getD (IntKind.i64.wrap (0+1)).toNat 0).toNat:Int)<65:=by rw[fe];omega
 have hhi:¬ 90<(((36::ch::l).getD (IntKind.i64.wrap (0+1)).toNat 0).toNat:Int):=by rw[fe];omega
 have n1:¬ n<1:=by omega
 have n2:¬ 99<n:=by omega
 rcases l with _|⟨c,l⟩
 ·have g1:¬ IntKind.i64.wrap (IntKind.i64.wrap (0+1)+1)<(((36::ch::[]).length:Nat):Int):=by rw[w011];simp
  refine S0 Tryz.func80 rfl ?_
  ((repeat' ((conv=>whnf);first|exact .intro|refine G ?_|intro _|refine C1 hW2 ?_|refine .mk ?_ ?_|refine AK ?_|refine And.intro (by first|(first|assumption|omega|(simp;done)|(simp[w1,w2];done)|(simp[w1,w2,w3];omega);done)|fail) ?_|fail));all_goals conv=>whnf)
  exact rRef_le (by rw[fe,wrapI (n:=(ch.toNat:Int)) (by omega),wrapI (by omega)];omega)
 ·have g1:IntKind.i64.wrap (IntKind.i64.wrap (0+1)+1)<(((36::ch::c::l).length:Nat):Int):=by rw[w011];simp;try omega
  have g2:¬ (((36::ch::c::l).getD (IntKind.i64.wrap (IntKind.i64.wrap (0+1)+1)).toNat 0).toNat:Int)=36:=by rw[w011];exact ne36 (c:=c) fun e=>hl36 (congrArg some e)
  refine S0 Tryz.func80 rfl ?_
  ((repeat' ((conv=>whnf);first|exact .intro|refine G ?_|intro _|refine C1 hW2 ?_|refine .mk ?_ ?_|refine AK ?_|refine And.intro (by first|(first|assumption|omega|(simp;done)|(simp[w1,w2];done)|(simp[w1,w2];omega);done)|fail) ?_|fail));all_goals conv=>whnf)
  exact rRef_le (by rw[fe,wrapI (n:=(ch.toNat:Int)) (by omega),wrapI (by omega)];omega)
theorem rRef_Bn {l:List UInt8} {ch:UInt8} {n:Int} (hc:65≤ch.toNat∧ch.toNat≤90)  (hl36:l.head?≠some 36) (hW:FnP Tryz.prog gl 79 [.str l,fD] (.tup [iD n,.v (.bool true)])) (hn:n<1∨99<n):FnP Tryz.prog gl 80 [.str (36::ch::l)] (rrBad):=by
 have hW2:FnP Tryz.prog gl 79 [.str (List.drop ((some (IntKind.i64.wrap (IntKind.i64.wrap (0+1)+1))).getD 0).toNat (List.take ((none:Option Int).getD (((36::ch::l).length:Nat):Int)).toNat (36::ch::l))),fD] (.tup [iD n,.v (.bool true)]):=by
  rw[drop_some (k:=2) (by rw[w011];rfl) rfl];exact hW
 have f36:(((36::ch::l).getD (Int.toNat 0) 0).toNat:Int)=36:=rfl
 have f1:¬ (((36::ch::l).length:Nat):Int)≤IntKind.i64.wrap (0+1):=by rw[w01];simp;try omega
 have fe:(36::ch::l).getD (IntKind.i64.wrap (0+1)).toNat 0=ch:=by rw[w01];rfl
 have g0:(0:Int)<(((36::ch::l).length:Nat):Int):=by simp;try omega
 have hlo:¬ (((36::ch::l).getD (IntKind.i64.wrap (0+1)).toNat 0).toNat:Int)<65:=by rw[fe];omega
 have hhi:¬ 90<(((36::ch::l).getD (IntKind.i64.wrap (0+1)).toNat 0).toNat:Int):=by rw[fe];omega
 rcases l with _|⟨c,l⟩
 ·have g1:¬ IntKind.i64.wrap (IntKind.i64.wrap (0+1)+1)<(((36::ch::[]).length:Nat):Int):=by rw[w011];simp
  by_cases n1:n<1
  ·refine S0 Tryz.func80 rfl ?_
   ((repeat' ((conv=>whnf);first|exact .intro|refine G ?_|intro _|refine C1 hW2 ?_|refine .mk ?_ ?_|refine AK ?_|refine And.intro (by first|(first|assumption|omega|(simp;done)|(simp[w1,w2];done)|(simp[w1,w2,w3];omega);done)|fail) ?_|fail));all_goals conv=>whnf)
   exact rrBad_le
  ·have n2:99<n:=by omega
   refine S0 Tryz.func80 rfl ?_
   ((repeat' ((conv=>whnf);first|exact .intro|refine G ?_|intro _|refine C1 hW2 ?_|refine .mk ?_ ?_|refine AK ?_|refine And.intro (by first|(first|assumption|omega|(simp;done)|(simp[w1,w2];done)|(simp[w1,w2,w3];omega);done)|fail) ?_|fail));all_goals conv=>whnf)
   exact rrBad_le
 ·have g1:IntKind.i64.wrap (IntKind.i64.wrap (0+1)+1)<(((36::ch::c::l).length:Nat):Int):=by rw[w011];simp;try omega
  have g2:¬ (((36::ch::c::l).getD (IntKind.i64.wrap (IntKind.i64.wrap (0+1)+1)).toNat 0).toNat:Int)=36:=by rw[w011];exact ne36 (c:=c) fun e=>hl36 (congrArg some e)
  by_cases n1:n<1
  ·refine S0 Tryz.func80 rfl ?_
   ((repeat' ((conv=>whnf);first|exact .intro|refine G ?_|intro _|refine C1 hW2 ?_|refine .mk ?_ ?_|refine AK ?_|refine And.intro (by first|(first|assumption|omega|(simp;done)|(simp[w1,w2];done)|(simp[w1,w2];omega);done)|fail) ?_|fail));all_goals conv=>whnf)
   exact rrBad_le
  ·have n2:99<n:=by omega
   refine S0 Tryz.func80 rfl ?_
   ((repeat' ((conv=>whnf);first|exact .intro|refine G ?_|intro _|refine C1 hW2 ?_|refine .mk ?_ ?_|refine AK ?_|refine And.intro (by first|(first|assumption|omega|(simp;done)|(simp[w1,w2];done)|(simp[w1,w2];omega);done)|fail) ?_|fail));all_goals conv=>whnf)
   exact rrBad_le
theorem rRef_Bf {l:List UInt8} {ch:UInt8} (hc:65≤ch.toNat∧ch.toNat≤90)  (hl36:l.head?≠some 36) (hW:FnP Tryz.prog gl 79 [.str l,fD] (.tup [iD 0,fD]))  : FnP Tryz.prog gl 80 [.str (36::ch::l)] (rrBad):=by
 have hW2:FnP Tryz.prog gl 79 [.str (List.drop ((some (IntKind.i64.wrap (IntKind.i64.wrap (0+1)+1))).getD 0).toNat (List.take ((none:Option Int).getD (((36::ch::l).length:Nat):Int)).toNat (36::ch::l))),fD] (.tup [iD 0,fD]):=by
  rw[drop_some (k:=2) (by rw[w011];rfl) rfl];exact hW
 have f36:(((36::ch::l).getD (Int.toNat 0) 0).toNat:Int)=36:=rfl
 have f1:¬ (((36::ch::l).length:Nat):Int)≤IntKind.i64.wrap (0+1):=by rw[w01];simp;try omega
 have fe:(36::ch::l).getD (IntKind.i64.wrap (0+1)).toNat 0=ch:=by rw[w01];rfl
 have g0:(0:Int)<(((36::ch::l).length:Nat):Int):=by simp;try omega
 have hlo:¬ (((36::ch::l).getD (IntKind.i64.wrap (0+1)).toNat 0).toNat:Int)<65:=by rw[fe];omega
 have hhi:¬ 90<(((36::ch::l).getD (IntKind.i64.wrap (0+1)).toNat 0).toNat:Int):=by rw[fe];omega
 rcases l with _|⟨c,l⟩
 ·have g1:¬ IntKind.i64.wrap (IntKind.i64.wrap (0+1)+1)<(((36::ch::[]).length:Nat):Int):=by rw[w011];simp
  refine S0 Tryz.func80 rfl ?_
  ((repeat' ((conv=>whnf);first|exact .intro|refine G ?_|intro _|refine C1 hW2 ?_|refine .mk ?_ ?_|refine AK ?_|refine And.intro (by first|(first|assumption|omega|(simp;done)|(simp[w1,w2];done)|(simp[w1,w2,w3];omega);done)|fail) ?_|fail));all_goals conv=>whnf)
  exact rrBad_le
 ·have g1:IntKind.i64.wrap (IntKind.i64.wrap (0+1)+1)<(((36::ch::c::l).length:Nat):Int):=by rw[w011];simp;try omega
  have g2:¬ (((36::ch::c::l).getD (IntKind.i64.wrap (IntKind.i64.wrap (0+1)+1)).toNat 0).toNat:Int)=36:=by rw[w011];exact ne36 (c:=c) fun e=>hl36 (congrArg some e)
  refine S0 Tryz.func80 rfl ?_
  ((repeat' ((conv=>whnf);first|exact .intro|refine G ?_|intro _|refine C1 hW2 ?_|refine .mk ?_ ?_|refine AK ?_|refine And.intro (by first|(first|assumption|omega|(simp;done)|(simp[w1,w2];done)|(simp[w1,w2];omega);done)|fail) ?_|fail));all_goals conv=>whnf)
  exact rrBad_le
theorem rRef_Cs {l:List UInt8} {ch:UInt8} {n:Int} (hc:65≤ch.toNat∧ch.toNat≤90) (h36:ch≠36)  (hW:FnP Tryz.prog gl 79 [.str l,fD] (.tup [iD n,.v (.bool true)])) (hn:1≤n∧n≤99):FnP Tryz.prog gl 80 [.str (ch::36::l)] (.tup [refD ((ch.toNat - 64:Nat):Int) n false true,tD true]):=by
 have hW2:FnP Tryz.prog gl 79 [.str (List.drop ((some (IntKind.i64.wrap (IntKind.i64.wrap (0+1)+1))).getD 0).toNat (List.take ((none:Option Int).getD (((ch::36::l).length:Nat):Int)).toNat (ch::36::l))),fD] (.tup [iD n,.v (.bool true)]):=by
  rw[drop_some (k:=2) (by rw[w011];rfl) rfl];exact hW
 have f0:¬ (((ch::36::l).getD (Int.toNat 0) 0).toNat:Int)=36:=ne36 h36
 have f1:¬ (((ch::36::l).length:Nat):Int)≤0:=by simp;try omega
 have fe:(ch::36::l).getD (Int.toNat 0) 0=ch:=rfl
 have g0:(0:Int)<(((ch::36::l).length:Nat):Int):=by simp;try omega
 have hlo:¬ (((ch::36::l).getD (Int.toNat 0) 0).toNat:Int)<65:=by rw[fe];omega
 have hhi:¬ 90<(((ch::36::l).getD (Int.toNat 0) 0).toNat:Int):=by rw[fe];omega
 have n1:¬ n<1:=by omega
 have n2:¬ 99<n:=by omega
 have g1:IntKind.i64.wrap (0+1)<(((ch::36::l).length:Nat):Int):=by rw[w01];simp;try omega
 have g2:(((ch::36::l).getD (IntKind.i64.wrap (0+1)).toNat 0).toNat:Int)=36:=by rw[w01];rfl
 refine S0 Tryz.func80 rfl ?_
 ((repeat' ((conv=>whnf);first|exact .intro|refine G ?_|intro _|refine C1 hW2 ?_|refine .mk ?_ ?_|refine AK ?_|refine And.intro (by first|(first|assumption|omega|(simp;done)|(simp[w1,w2];done)|(simp[w1,w2];omega);done)|fail) ?_|fail));all_goals conv=>whnf)
 exact rRef_le (by rw[fe,wrapI (n:=(ch.toNat:Int)) (by omega),wrapI (by omega)];omega)
theorem rRef_Cn {l:List UInt8} {ch:UInt8} {n:Int} (hc:65≤ch.toNat∧ch.toNat≤90) (h36:ch≠36)  (hW:FnP Tryz.prog gl 79 [.str l,fD] (.tup [iD n,.v (.bool true)])) (hn:n<1∨99<n):FnP Tryz.prog gl 80 [.str (ch::36::l)] (rrBad):=by
 have hW2:FnP Tryz.prog gl 79 [.str (List.drop ((some (IntKind.i64.wrap (IntKind.i64.wrap (0+1)+1))).getD 0).toNat (List.take ((none:Option Int).getD (((ch::36::l).length:Nat):Int)).toNat (ch::36::l))),fD] (.tup [iD n,.v (.bool true)]):=by
  rw[drop_some (k:=2) (by rw[w011];rfl) rfl];exact hW
 have f0:¬ (((ch::36::l).getD (Int.toNat 0) 0).toNat:Int)=36:=ne36 h36
 have f1:¬ (((ch::36::l).length:Nat):Int)≤0:=by simp;try omega
 have fe:(ch::36::l).getD (Int.toNat 0) 0=ch:=rfl
 have g0:(0:Int)<(((ch::36::l).length:Nat):Int):=by simp;try omega
 have hlo:¬ (((ch::36::l).getD (Int.toNat 0) 0).toNat:Int)<65:=by rw[fe];omega
 have hhi:¬ 90<(((ch::36::l).getD (Int.toNat 0) 0).toNat:Int):=by rw[fe];omega
 have g1:IntKind.i64.wrap (0+1)<(((ch::36::l).length:Nat):Int):=by rw[w01];simp;try omega
 have g2:(((ch::36::l).getD (IntKind.i64.wrap (0+1)).toNat 0).toNat:Int)=36:=by rw[w01];rfl
 by_cases n1:n<1
 ·refine S0 Tryz.func80 rfl ?_
  ((repeat' ((conv=>whnf);first|exact .intro|refine G ?_|intro _|refine C1 hW2 ?_|refine .mk ?_ ?_|refine AK ?_|refine And.intro (by first|(first|assumption|omega|(simp;done)|(simp[w1,w2];done)|(simp[w1,w2];omega);done)|fail) ?_|fail));all_goals conv=>whnf)
  exact rrBad_le
 ·have n2:99<n:=by omega
  refine S0 Tryz.func80 rfl ?_
  ((repeat' ((conv=>whnf);first|exact .intro|refine G ?_|intro _|refine C1 hW2 ?_|refine .mk ?_ ?_|refine AK ?_|refine And.intro (by first|(first|assumption|omega|(simp;done)|(simp[w1,w2];done)|(simp[w1,w2];omega);done)|fail) ?_|fail));all_goals conv=>whnf)
  exact rrBad_le
theorem rRef_Cf {l:List UInt8} {ch:UInt8} (hc:65≤ch.toNat∧ch.toNat≤90) (h36:ch≠36)  (hW:FnP Tryz.prog gl 79 [.str l,fD] (.tup [iD 0,fD]))  : FnP Tryz.prog gl 80 [.str (ch::36::l)] (rrBad):=by
 have hW2:FnP Tryz.prog gl 79 [.str (List.drop ((some (IntKind.i64.wrap (IntKind.i64.wrap (0+1)+1))).getD 0).toNat (List.take ((none:Option Int).getD (((ch::36::l).length:Nat):Int)).toNat (ch::36::l))),fD] (.tup [iD 0,fD]):=by
  rw[drop_some (k:=2) (by rw[w011];rfl) rfl];exact hW
 have f0:¬ (((ch::36::l).getD (Int.toNat 0) 0).toNat:Int)=36:=ne36 h36
 have f1:¬ (((ch::36::l).length:Nat):Int)≤0:=by simp;try omega
 have fe:(ch::36::l).getD (Int.toNat 0) 0=ch:=rfl
 have g0:(0:Int)<(((ch::36::l).length:Nat):Int):=by simp;try omega
 have hlo:¬ (((ch::36::l).getD (Int.toNat 0) 0).toNat:Int)<65:=by rw[fe];omega
 have hhi:¬ 90<(((ch::36::l).getD (Int.toNat 0) 0).toNat:Int):=by rw[fe];omega
 have g1:IntKind.i64.wrap (0+1)<(((ch::36::l).length:Nat):Int):=by rw[w01];simp;try omega
 have g2:(((ch::36::l).getD (IntKind.i64.wrap (0+1)).toNat 0).toNat:Int)=36:=by rw[w01];rfl
 refine S0 Tryz.func80 rfl ?_
 ((repeat' ((conv=>whnf);first|exact .intro|refine G ?_|intro _|refine C1 hW2 ?_|refine .mk ?_ ?_|refine AK ?_|refine And.intro (by first|(first|assumption|omega|(simp;done)|(simp[w1,w2];done)|(simp[w1,w2];omega);done)|fail) ?_|fail));all_goals conv=>whnf)
 exact rrBad_le
theorem rRef_Ds {l:List UInt8} {ch:UInt8} {n:Int} (hc:65≤ch.toNat∧ch.toNat≤90) (h36:ch≠36) (hl36:l.head?≠some 36) (hW:FnP Tryz.prog gl 79 [.str l,fD] (.tup [iD n,.v (.bool true)])) (hn:1≤n∧n≤99):FnP Tryz.prog gl 80 [.str (ch::l)] (.tup [refD ((ch.toNat - 64:Nat):Int) n false false,tD true]):=by
 have hW2:FnP Tryz.prog gl 79 [.str (List.drop ((some (IntKind.i64.wrap (0+1))).getD 0).toNat (List.take ((none:Option Int).getD (((ch::l).length:Nat):Int)).toNat (ch::l))),fD] (.tup [iD n,.v (.bool true)]):=by
  rw[drop_some (k:=1) (by rw[w01];rfl) rfl];exact hW
 have f0:¬ (((ch::l).getD (Int.toNat 0) 0).toNat:Int)=36:=ne36 h36
 have f1:¬ (((ch::l).length:Nat):Int)≤0:=by simp;try omega
 have fe:(ch::l).getD (Int.toNat 0) 0=ch:=rfl
 have g0:(0:Int)<(((ch::l).length:Nat):Int):=by simp;try omega
 have hlo:¬ (((ch::l).getD (Int.toNat 0) 0).toNat:Int)<65:=by rw[fe];omega
 have hhi:¬ 90<(((ch::l).getD (Int.toNat 0) 0).toNat:Int):=by rw[fe];omega
 have n1:¬ n<1:=by omega
 have n2:¬ 99<n:=by omega
 rcases l with _|⟨c,l⟩
 ·have g1:¬ IntKind.i64.wrap (0+1)<(((ch::[]).length:Nat):Int):=by rw[w01];simp
  refine S0 Tryz.func80 rfl ?_
  ((repeat' ((conv=>whnf);first|exact .intro|refine G ?_|intro _|refine C1 hW2 ?_|refine .mk ?_ ?_|refine AK ?_|refine And.intro (by first|(first|assumption|omega|(simp;done)|(simp[w1];done)|(simp[w1,w2,w3];omega);done)|fail) ?_|fail));all_goals conv=>whnf)
  exact rRef_le (by rw[fe,wrapI (n:=(ch.toNat:Int)) (by omega),wrapI (by omega)];omega)
 ·have g1:IntKind.i64.wrap (0+1)<(((ch::c::l).length:Nat):Int):=by rw[w01];simp;try omega
  have g2:¬ (((ch::c::l).getD (IntKind.i64.wrap (0+1)).toNat 0).toNat:Int)=36:=by rw[w01];exact ne36 (c:=c) fun e=>hl36 (congrArg some e)
  refine S0 Tryz.func80 rfl ?_
  ((repeat' ((conv=>whnf);first|exact .intro|refine G ?_|intro _|refine C1 hW2 ?_|refine .mk ?_ ?_|refine AK ?_|refine And.intro (by first|(first|assumption|omega|(simp;done)|(simp[w1];done)|(simp[w1];omega);done)|fail) ?_|fail));all_goals conv=>whnf)
  exact rRef_le (by rw[fe,wrapI (n:=(ch.toNat:Int)) (by omega),wrapI (by omega)];omega)
theorem rRef_Dn {l:List UInt8} {ch:UInt8} {n:Int} (hc:65≤ch.toNat∧ch.toNat≤90) (h36:ch≠36) (hl36:l.head?≠some 36) (hW:FnP Tryz.prog gl 79 [.str l,fD] (.tup [iD n,.v (.bool true)])) (hn:n<1∨99<n):FnP Tryz.prog gl 80 [.str (ch::l)] (rrBad):=by
 have hW2:FnP Tryz.prog gl 79 [.str (List.drop ((some (IntKind.i64.wrap (0+1))).getD 0).toNat (List.take ((none:Option Int).getD (((ch::l).length:Nat):Int)).toNat (ch::l))),fD] (.tup [iD n,.v (.bool true)]):=by
  rw[drop_some (k:=1) (by rw[w01];rfl) rfl];exact hW
 have f0:¬ (((ch::l).getD (Int.toNat 0) 0).toNat:Int)=36:=ne36 h36
 have f1:¬ (((ch::l).length:Nat):Int)≤0:=by simp;try omega
 have fe:(ch::l).getD (Int.toNat 0) 0=ch:=rfl
 have g0:(0:Int)<(((ch::l).length:Nat):Int):=by simp;try omega
 have hlo:¬ (((ch::l).getD (Int.toNat 0) 0).toNat:Int)<65:=by rw[fe];omega
 have hhi:¬ 90<(((ch::l).getD (Int.toNat 0) 0).toNat:Int):=by rw[fe];omega
 rcases l with _|⟨c,l⟩
 ·have g1:¬ IntKind.i64.wrap (0+1)<(((ch::[]).length:Nat):Int):=by rw[w01];simp
  by_cases n1:n<1
  ·refine S0 Tryz.func80 rfl ?_
   ((repeat' ((conv=>whnf);first|exact .intro|refine G ?_|intro _|refine C1 hW2 ?_|refine .mk ?_ ?_|refine AK ?_|refine And.intro (by first|(first|assumption|omega|(simp;done)|(simp[w1];done)|(simp[w1,w2,w3];omega);done)|fail) ?_|fail));all_goals conv=>whnf)
   exact rrBad_le
  ·have n2:99<n:=by omega
   refine S0 Tryz.func80 rfl ?_
   ((repeat' ((conv=>whnf);first|exact .intro|refine G ?_|intro _|refine C1 hW2 ?_|refine .mk ?_ ?_|refine AK ?_|refine And.intro (by first|(first|assumption|omega|(simp;done)|(simp[w1];done)|(simp[w1,w2,w3];omega);done)|fail) ?_|fail));all_goals conv=>whnf)
   exact rrBad_le
 ·have g1:IntKind.i64.wrap (0+1)<(((ch::c::l).length:Nat):Int):=by rw[w01];simp;try omega
  have g2:¬ (((ch::c::l).getD (IntKind.i64.wrap (0+1)).toNat 0).toNat:Int)=36:=by rw[w01];exact ne36 (c:=c) fun e=>hl36 (congrArg some e)
  by_cases n1:n<1
  ·refine S0 Tryz.func80 rfl ?_
   ((repeat' ((conv=>whnf);first|exact .intro|refine G ?_|intro _|refine C1 hW2 ?_|refine .mk ?_ ?_|refine AK ?_|refine And.intro (by first|(first|assumption|omega|(simp;done)|(simp[w1];done)|(simp[w1];omega);done)|fail) ?_|fail));all_goals conv=>whnf)
   exact rrBad_le
  ·have n2:99<n:=by omega
   refine S0 Tryz.func80 rfl ?_
   ((repeat' ((conv=>whnf);first|exact .intro|refine G ?_|intro _|refine C1 hW2 ?_|refine .mk ?_ ?_|refine AK ?_|refine And.intro (by first|(first|assumption|omega|(simp;done)|(simp[w1];done)|(simp[w1];omega);done)|fail) ?_|fail));all_goals conv=>whnf)
   exact rrBad_le
theorem rRef_Df {l:List UInt8} {ch:UInt8} (hc:65≤ch.toNat∧ch.toNat≤90) (h36:ch≠36) (hl36:l.head?≠some 36) (hW:FnP Tryz.prog gl 79 [.str l,fD] (.tup [iD 0,fD]))  : FnP Tryz.prog gl 80 [.str (ch::l)] (rrBad):=by
 have hW2:FnP Tryz.prog gl 79 [.str (List.drop ((some (IntKind.i64.wrap (0+1))).getD 0).toNat (List.take ((none:Option Int).getD (((ch::l).length:Nat):Int)).toNat (ch::l))),fD] (.tup [iD 0,fD]):=by
  rw[drop_some (k:=1) (by rw[w01];rfl) rfl];exact hW
 have f0:¬ (((ch::l).getD (Int.toNat 0) 0).toNat:Int)=36:=ne36 h36
 have f1:¬ (((ch::l).length:Nat):Int)≤0:=by simp;try omega
 have fe:(ch::l).getD (Int.toNat 0) 0=ch:=rfl
 have g0:(0:Int)<(((ch::l).length:Nat):Int):=by simp;try omega
 have hlo:¬ (((ch::l).getD (Int.toNat 0) 0).toNat:Int)<65:=by rw[fe];omega
 have hhi:¬ 90<(((ch::l).getD (Int.toNat 0) 0).toNat:Int):=by rw[fe];omega
 rcases l with _|⟨c,l⟩
 ·have g1:¬ IntKind.i64.wrap (0+1)<(((ch::[]).length:Nat):Int):=by rw[w01];simp
  refine S0 Tryz.func80 rfl ?_
  ((repeat' ((conv=>whnf);first|exact .intro|refine G ?_|intro _|refine C1 hW2 ?_|refine .mk ?_ ?_|refine AK ?_|refine And.intro (by first|(first|assumption|omega|(simp;done)|(simp[w1];done)|(simp[w1,w2,w3];omega);done)|fail) ?_|fail));all_goals conv=>whnf)
  exact rrBad_le
 ·have g1:IntKind.i64.wrap (0+1)<(((ch::c::l).length:Nat):Int):=by rw[w01];simp;try omega
  have g2:¬ (((ch::c::l).getD (IntKind.i64.wrap (0+1)).toNat 0).toNat:Int)=36:=by rw[w01];exact ne36 (c:=c) fun e=>hl36 (congrArg some e)
  refine S0 Tryz.func80 rfl ?_
  ((repeat' ((conv=>whnf);first|exact .intro|refine G ?_|intro _|refine C1 hW2 ?_|refine .mk ?_ ?_|refine AK ?_|refine And.intro (by first|(first|assumption|omega|(simp;done)|(simp[w1];done)|(simp[w1];omega);done)|fail) ?_|fail));all_goals conv=>whnf)
  exact rrBad_le
end
section
variable {gl:List (Nat×List D)}
theorem dl_inv3 {t l:List UInt8} {b:Bool} (h:dl t=(b,l)):(t=36::l∧b=true)∨(t=l∧l.head?≠some 36∧b=false):=by
 cases t with
 | nil=>cases h;exact .inr ⟨rfl,by simp,rfl⟩
 | cons a s =>
  by_cases ha:a=36
  ·simp only[dl,if_pos ha,Prod.mk.injEq] at h;left;rw[ha,h.2];exact ⟨rfl,h.1.symm⟩
  ·simp only[dl,if_neg ha,Prod.mk.injEq] at h;right;obtain ⟨h1,h2⟩:=h;subst h2;exact ⟨rfl,fun e=>ha (Option.some.inj e),h1.symm⟩
theorem rRef_s {s t l:List UInt8} {b b':Bool} {ch:UInt8} {n:Int} (h:dl s=(b,ch::t)) (hc:65≤ch.toNat∧ch.toNat≤90) (h':dl t=(b',l)) (hW:FnP Tryz.prog gl 79 [.str l,fD] (.tup [iD n,.v (.bool true)])) (hn:1≤n∧n≤99) :
 FnP Tryz.prog gl 80 [.str s] (.tup [refD ((ch.toNat - 64:Nat):Int) n b b',tD true]):=by
 rcases dl_inv2 h with ⟨rfl,rfl⟩|⟨rfl,h36,rfl⟩ <;> rcases dl_inv3 h' with ⟨rfl,rfl⟩|⟨rfl,hl,rfl⟩
 ·exact rRef_As hc hW hn
 ·exact rRef_Bs hc hl hW hn
 ·exact rRef_Cs hc h36 hW hn
 ·exact rRef_Ds hc h36 hl hW hn
theorem rRef_n {s t l:List UInt8} {b b':Bool} {ch:UInt8} {n:Int} (h:dl s=(b,ch::t)) (hc:65≤ch.toNat∧ch.toNat≤90) (h':dl t=(b',l)) (hW:FnP Tryz.prog gl 79 [.str l,fD] (.tup [iD n,.v (.bool true)])) (hn:n<1∨99<n) :
 FnP Tryz.prog gl 80 [.str s] rrBad:=by
 rcases dl_inv2 h with ⟨rfl,rfl⟩|⟨rfl,h36,rfl⟩ <;> rcases dl_inv3 h' with ⟨rfl,rfl⟩|⟨rfl,hl,rfl⟩
 ·exact rRef_An hc hW hn
 ·exact rRef_Bn hc hl hW hn
 ·exact rRef_Cn hc h36 hW hn
 ·exact rRef_Dn hc h36 hl hW hn
theorem rRef_f {s t l:List UInt8} {b b':Bool} {ch:UInt8} (h:dl s=(b,ch::t)) (hc:65≤ch.toNat∧ch.toNat≤90) (h':dl t=(b',l)) (hW:FnP Tryz.prog gl 79 [.str l,fD] (.tup [iD 0,fD])) :
 FnP Tryz.prog gl 80 [.str s] rrBad:=by
 rcases dl_inv2 h with ⟨rfl,rfl⟩|⟨rfl,h36,rfl⟩ <;> rcases dl_inv3 h' with ⟨rfl,rfl⟩|⟨rfl,hl,rfl⟩
 ·exact rRef_Af hc hW
 ·exact rRef_Bf hc hl hW
 ·exact rRef_Cf hc h36 hW
 ·exact rRef_Df hc h36 hl hW
theorem refWhole_e:FnP Tryz.prog gl 79 [.str [],fD] (.tup [iD 0,fD]):=by
 refine S0 Tryz.func79 rfl ?_
 ((repeat' ((conv=>whnf);first|exact .intro|refine G ?_|intro _|refine .mk ?_ ?_|refine H ?_|fail));all_goals conv=>whnf)
 exact LeD.rfl
theorem refWhole_z {l:List UInt8} (h:l≠[]):FnP Tryz.prog gl 79 [.str (48::l),fD] (.tup [iD 0,fD]):=by
 have h1:(((48::l).getD (Int.toNat 0) 0).toNat:Int)=48:=rfl
 have h2:¬ 48::l=(⟨#[48]⟩:ByteArray).data.toList:=fun e=>h (List.cons.inj e).2
 refine S0 Tryz.func79 rfl ?_
 ((repeat' ((conv=>whnf);first|exact .intro|refine G ?_|intro _|refine .mk ?_ ?_|refine H ?_|fail));all_goals conv=>whnf)
 exact LeD.rfl
theorem rv_ge {l:List UInt8} (h0:l≠[]) (h48:l.head?≠some 48) (hd:∀ d ∈ l,isDig d):∀ k,k<l.length→10 ^ k≤rv l (k+1)
 | 0,h=>by
  obtain ⟨a,l,rfl⟩:=List.exists_cons_of_ne_nil h0
  rw[rv_succ h]
  have h1:a≠48:=fun e=>h48 (congrArg some e)
  have h2:=hd a (List.mem_cons_self ..)
  have h3:a.toNat≠48:=fun e=>h1 (UInt8.toNat_inj.1 e)
  show 1≤0 * 10+(a.toNat - 48)
  obtain ⟨h4,h5⟩:=h2
  omega
 | k+1,h=>by
  have:=rv_ge h0 h48 hd k (by omega)
  rw[rv_succ h,Nat.pow_succ];omega
end
end Go.Proofs.YtfcmhmglpcimiaaGreatDoor
