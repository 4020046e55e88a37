/- Proved: a part of what the law is proved with (the reckoner, contracts of functions, plain laws). Conditions: as each says. -/
import Derived.Test.YtcdjjjokniinkaaGreatDoorYBh
section
namespace Go.Proofs.YtcdjjjokniinkaaGreatDoor
open Go Go.EYtcdjjjokniinkaaGreatDoor
set_option maxRecDepth 100000
variable {gl:List (Nat×List D)}
theorem w1:IntKind.i64.wrap 1=1:=by decide
theorem w2:IntKind.i64.wrap 2=2:=by decide
theorem w3:IntKind.i64.wrap 3=3:=by decide
theorem rRef_le {x n:Int} {ch:UInt8} {b b':Bool} (hx:x=((ch.toNat - 64:Nat):Int)):LeD (retD [D.agg [iD x,iD n,.v (.bool b),.v (.bool b')],.v (.bool true)]) (.tup [refD ((ch.toNat - 64:Nat):Int) n b b',tD true]):=by
 subst hx
 exact LeD.tup ⟨LeD.agg ⟨LeD.rfl,LeD.rfl,tD_le _,tD_le _,trivial⟩,tD_le _,trivial⟩
theorem drop_some {s l:List UInt8} {i:Int} {k:Nat} (hi:i=k) (h:s.drop k=l):List.drop ((some i).getD 0).toNat (List.take ((none:Option Int).getD ((s.length:Nat):Int)).toNat s)=l:=by
 subst hi
 show List.drop ((k:Int)).toNat (List.take ((s.length:Nat):Int).toNat s)=l
 rw[Int.toNat_natCast,Int.toNat_natCast,List.take_length];exact h
theorem rRef_As {l:List UInt8} {ch:UInt8} {n:Int} (hc:65≤ch.toNat∧ch.toNat≤90)   (hW:FnP Tryz.prog gl 108 [.str l,fD] (.tup [iD n,.v (.bool true)])) (hn:1≤n∧n≤99):FnP Tryz.prog gl 109 [.str (36::ch::36::l)] (.tup [refD ((ch.toNat - 64:Nat):Int) n true true,tD true]):=by
 have hW2:FnP Tryz.prog gl 108 [.str (List.drop ((some (IntKind.i64.wrap (IntKind.i64.wrap (IntKind.i64.wrap (0+1)+1)+1))).getD 0).toNat (List.take ((none:Option Int).getD (((36::ch::36::l).length:Nat):Int)).toNat (36::ch::36::l))),fD] (.tup [iD n,.v (.bool true)]):=by
  rw[drop_some (k:=3) (by rw[w0111];rfl) rfl];exact hW
 have f36:(((36::ch::36::l).getD (Int.toNat 0) 0).toNat:Int)=36:=rfl
 have f1:¬ (((36::ch::36::l).length:Nat):Int)≤IntKind.i64.wrap (0+1):=by rw[w01];simp;try omega
 have fe:(36::ch::36::l).getD (IntKind.i64.wrap (0+1)).toNat 0=ch:=by rw[w01];rfl
 have g0:(0:Int)<(((36::ch::36::l).length:Nat):Int):=by simp;try omega
 have hlo:¬ (((36::ch::36::l).getD (IntKind.i64.wrap (0+1)).toNat 0).toNat:Int)<65:=by rw[fe];omega
 have hhi:¬ 90<(((36::ch::36::l).getD (IntKind.i64.wrap (0+1)).toNat 0).toNat:Int):=by rw[fe];omega
 have n1:¬ n<1:=by omega
 have n2:¬ 99<n:=by omega
 have g1:IntKind.i64.wrap (IntKind.i64.wrap (0+1)+1)<(((36::ch::36::l).length:Nat):Int):=by rw[w011];simp;try omega
 have g2:(((36::ch::36::l).getD (IntKind.i64.wrap (IntKind.i64.wrap (0+1)+1)).toNat 0).toNat:Int)=36:=by rw[w011];rfl
 refine fnP_of_vc (nv:=9999) (cu:=[]) fits mixed Tryz.func109 rfl hoB rfl ?_
 ((repeat' ((conv=>whnf);first|exact .intro|refine .ya ?_|refine .na ?_|refine .ys ?_|refine .ns ?_|refine .neg (fun _=>?_) (fun _=>?_)|refine .mk (fun _=>?_) (fun _=>?_)|refine .inl (.inl (X1 (hW2) ?_))|refine .inl (X1 (hW2) ?_)|refine X1 (hW2) ?_|refine .mk ?_ ?_|refine AK ?_|refine And.intro (by first|(first|assumption|omega|(simp;done)|(simp[w1,w2,w3];done)|(simp[w1,w2,w3];omega);done)|fail) ?_|fail));all_goals conv=>whnf)
 exact rRef_le (by rw[fe,wrapI (n:=(ch.toNat:Int)) (by omega),wrapI (by omega)];omega)
theorem rRef_An {l:List UInt8} {ch:UInt8} {n:Int} (hc:65≤ch.toNat∧ch.toNat≤90)   (hW:FnP Tryz.prog gl 108 [.str l,fD] (.tup [iD n,.v (.bool true)])) (hn:n<1∨99<n):FnP Tryz.prog gl 109 [.str (36::ch::36::l)] (rrBad):=by
 have hW2:FnP Tryz.prog gl 108 [.str (List.drop ((some (IntKind.i64.wrap (IntKind.i64.wrap (IntKind.i64.wrap (0+1)+1)+1))).getD 0).toNat (List.take ((none:Option Int).getD (((36::ch::36::l).length:Nat):Int)).toNat (36::ch::36::l))),fD] (.tup [iD n,.v (.bool true)]):=by
  rw[drop_some (k:=3) (by rw[w0111];rfl) rfl];exact hW
 have f36:(((36::ch::36::l).getD (Int.toNat 0) 0).toNat:Int)=36:=rfl
 have f1:¬ (((36::ch::36::l).length:Nat):Int)≤IntKind.i64.wrap (0+1):=by rw[w01];simp;try omega
 have fe:(36::ch::36::l).getD (IntKind.i64.wrap (0+1)).toNat 0=ch:=by rw[w01];rfl
 have g0:(0:Int)<(((36::ch::36::l).length:Nat):Int):=by simp;try omega
 have hlo:¬ (((36::ch::36::l).getD (IntKind.i64.wrap (0+1)).toNat 0).toNat:Int)<65:=by rw[fe];omega
 have hhi:¬ 90<(((36::ch::36::l).getD (IntKind.i64.wrap (0+1)).toNat 0).toNat:Int):=by rw[fe];omega
 have g1:IntKind.i64.wrap (IntKind.i64.wrap (0+1)+1)<(((36::ch::36::l).length:Nat):Int):=by rw[w011];simp;try omega
 have g2:(((36::ch::36::l).getD (IntKind.i64.wrap (IntKind.i64.wrap (0+1)+1)).toNat 0).toNat:Int)=36:=by rw[w011];rfl
 by_cases n1:n<1
 ·refine fnP_of_vc (nv:=9999) (cu:=[]) fits mixed Tryz.func109 rfl hoB rfl ?_
  ((repeat' ((conv=>whnf);first|exact .intro|refine .ya ?_|refine .na ?_|refine .ys ?_|refine .ns ?_|refine .neg (fun _=>?_) (fun _=>?_)|refine .mk (fun _=>?_) (fun _=>?_)|refine .inl (.inl (X1 (hW2) ?_))|refine .inl (X1 (hW2) ?_)|refine X1 (hW2) ?_|refine .mk ?_ ?_|refine AK ?_|refine And.intro (by first|(first|assumption|omega|(simp;done)|(simp[w1,w2,w3];done)|(simp[w1,w2,w3];omega);done)|fail) ?_|fail));all_goals conv=>whnf)
  exact rrBad_le
 ·have n2:99<n:=by omega
  refine fnP_of_vc (nv:=9999) (cu:=[]) fits mixed Tryz.func109 rfl hoB rfl ?_
  ((repeat' ((conv=>whnf);first|exact .intro|refine .ya ?_|refine .na ?_|refine .ys ?_|refine .ns ?_|refine .neg (fun _=>?_) (fun _=>?_)|refine .mk (fun _=>?_) (fun _=>?_)|refine .inl (.inl (X1 (hW2) ?_))|refine .inl (X1 (hW2) ?_)|refine X1 (hW2) ?_|refine .mk ?_ ?_|refine AK ?_|refine And.intro (by first|(first|assumption|omega|(simp;done)|(simp[w1,w2,w3];done)|(simp[w1,w2,w3];omega);done)|fail) ?_|fail));all_goals conv=>whnf)
  exact rrBad_le
theorem rRef_Af {l:List UInt8} {ch:UInt8} (hc:65≤ch.toNat∧ch.toNat≤90)   (hW:FnP Tryz.prog gl 108 [.str l,fD] (.tup [iD 0,fD]))  : FnP Tryz.prog gl 109 [.str (36::ch::36::l)] (rrBad):=by
 have hW2:FnP Tryz.prog gl 108 [.str (List.drop ((some (IntKind.i64.wrap (IntKind.i64.wrap (IntKind.i64.wrap (0+1)+1)+1))).getD 0).toNat (List.take ((none:Option Int).getD (((36::ch::36::l).length:Nat):Int)).toNat (36::ch::36::l))),fD] (.tup [iD 0,fD]):=by
  rw[drop_some (k:=3) (by rw[w0111];rfl) rfl];exact hW
 have f36:(((36::ch::36::l).getD (Int.toNat 0) 0).toNat:Int)=36:=rfl
 have f1:¬ (((36::ch::36::l).length:Nat):Int)≤IntKind.i64.wrap (0+1):=by rw[w01];simp;try omega
 have fe:(36::ch::36::l).getD (IntKind.i64.wrap (0+1)).toNat 0=ch:=by rw[w01];rfl
 have g0:(0:Int)<(((36::ch::36::l).length:Nat):Int):=by simp;try omega
 have hlo:¬ (((36::ch::36::l).getD (IntKind.i64.wrap (0+1)).toNat 0).toNat:Int)<65:=by rw[fe];omega
 have hhi:¬ 90<(((36::ch::36::l).getD (IntKind.i64.wrap (0+1)).toNat 0).toNat:Int):=by rw[fe];omega
 have g1:IntKind.i64.wrap (IntKind.i64.wrap (0+1)+1)<(((36::ch::36::l).length:Nat):Int):=by rw[w011];simp;try omega
 have g2:(((36::ch::36::l).getD (IntKind.i64.wrap (IntKind.i64.wrap (0+1)+1)).toNat 0).toNat:Int)=36:=by rw[w011];rfl
 refine fnP_of_vc (nv:=9999) (cu:=[]) fits mixed Tryz.func109 rfl hoB rfl ?_
 ((repeat' ((conv=>whnf);first|exact .intro|refine .ya ?_|refine .na ?_|refine .ys ?_|refine .ns ?_|refine .neg (fun _=>?_) (fun _=>?_)|refine .mk (fun _=>?_) (fun _=>?_)|refine .inl (.inl (X1 (hW2) ?_))|refine .inl (X1 (hW2) ?_)|refine X1 (hW2) ?_|refine .mk ?_ ?_|refine AK ?_|refine And.intro (by first|(first|assumption|omega|(simp;done)|(simp[w1,w2,w3];done)|(simp[w1,w2,w3];omega);done)|fail) ?_|fail));all_goals conv=>whnf)
 exact rrBad_le
theorem rRef_Bs {l:List UInt8} {ch:UInt8} {n:Int} (hc:65≤ch.toNat∧ch.toNat≤90)  (hl36:l.head?≠some 36) (hW:FnP Tryz.prog gl 108 [.str l,fD] (.tup [iD n,.v (.bool true)])) (hn:1≤n∧n≤99):FnP Tryz.prog gl 109 [.str (36::ch::l)] (.tup [refD ((ch.toNat - 64:Nat):Int) n true false,tD true]):=by
 have hW2:FnP Tryz.prog gl 108 [.str (List.drop ((some (IntKind.i64.wrap (IntKind.i64.wrap (0+1)+1))).getD 0).toNat (List.take ((none:Option Int).getD (((36::ch::l).length:Nat):Int)).toNat (36::ch::l))),fD] (.tup [iD n,.v (.bool true)]):=by
  rw[drop_some (k:=2) (by rw[w011];rfl) rfl];exact hW
 have f36:(((36::ch::l).getD (Int.toNat 0) 0).toNat:Int)=36:=rfl
 have f1:¬ (((36::ch::l).length:Nat):Int)≤IntKind.i64.wrap (0+1):=by rw[w01];simp;try omega
 have fe:(36::ch::l).getD (IntKind.i64.wrap (0+1)).toNat 0=ch:=by rw[w01];rfl
 have g0:(0:Int)<(((36::ch::l).length:Nat):Int):=by simp;try omega
 have hlo:¬ (((36::ch::l).getD (IntKind.i64.wrap (0+1)).toNat 0).toNat:Int)<65:=by rw[fe];omega
 have hhi:¬ 90<(((36::ch::l).getD (IntKind.i64.wrap (0+1)).toNat 0).toNat:Int):=by rw[fe];omega
 have n1:¬ n<1:=by omega
 have n2:¬ 99<n:=by omega
 rcases l with _|⟨c,l⟩
 ·have g1:¬ IntKind.i64.wrap (IntKind.i64.wrap (0+1)+1)<(((36::ch::[]).length:Nat):Int):=by rw[w011];simp
  refine fnP_of_vc (nv:=9999) (cu:=[]) fits mixed Tryz.func109 rfl hoB rfl ?_
  ((repeat' ((conv=>whnf);first|exact .intro|refine .ya ?_|refine .na ?_|refine .ys ?_|refine .ns ?_|refine .neg (fun _=>?_) (fun _=>?_)|refine .mk (fun _=>?_) (fun _=>?_)|refine .inl (.inl (X1 (hW2) ?_))|refine .inl (X1 (hW2) ?_)|refine X1 (hW2) ?_|refine .mk ?_ ?_|refine AK ?_|refine And.intro (by first|(first|assumption|omega|(simp;done)|(simp[w1,w2];done)|(simp[w1,w2,w3];omega);done)|fail) ?_|fail));all_goals conv=>whnf)
  exact rRef_le (by rw[fe,wrapI (n:=(ch.toNat:Int)) (by omega),wrapI (by omega)];omega)
 ·have g1:IntKind.i64.wrap (IntKind.i64.wrap (0+1)+1)<(((36::ch::c::l).length:Nat):Int):=by rw[w011];simp;try omega
  have g2:¬ (((36::ch::c::l).getD (IntKind.i64.wrap (IntKind.i64.wrap (0+1)+1)).toNat 0).toNat:Int)=36:=by rw[w011];exact ne36 (c:=c) fun e=>hl36 (congrArg some e)
  refine fnP_of_vc (nv:=9999) (cu:=[]) fits mixed Tryz.func109 rfl hoB rfl ?_
  ((repeat' ((conv=>whnf);first|exact .intro|refine .ya ?_|refine .na ?_|refine .ys ?_|refine .ns ?_|refine .neg (fun _=>?_) (fun _=>?_)|refine .mk (fun _=>?_) (fun _=>?_)|refine .inl (.inl (X1 (hW2) ?_))|refine .inl (X1 (hW2) ?_)|refine X1 (hW2) ?_|refine .mk ?_ ?_|refine AK ?_|refine And.intro (by first|(first|assumption|omega|(simp;done)|(simp[w1,w2];done)|(simp[w1,w2];omega);done)|fail) ?_|fail));all_goals conv=>whnf)
  exact rRef_le (by rw[fe,wrapI (n:=(ch.toNat:Int)) (by omega),wrapI (by omega)];omega)
theorem rRef_Bn {l:List UInt8} {ch:UInt8} {n:Int} (hc:65≤ch.toNat∧ch.toNat≤90)  (hl36:l.head?≠some 36) (hW:FnP Tryz.prog gl 108 [.str l,fD] (.tup [iD n,.v (.bool true)])) (hn:n<1∨99<n):FnP Tryz.prog gl 109 [.str (36::ch::l)] (rrBad):=by
 have hW2:FnP Tryz.prog gl 108 [.str (List.drop ((some (IntKind.i64.wrap (IntKind.i64.wrap (0+1)+1))).getD 0).toNat (List.take ((none:Option Int).getD (((36::ch::l).length:Nat):Int)).toNat (36::ch::l))),fD] (.tup [iD n,.v (.bool true)]):=by
  rw[drop_some (k:=2) (by rw[w011];rfl) rfl];exact hW
 have f36:(((36::ch::l).getD (Int.toNat 0) 0).toNat:Int)=36:=rfl
 have f1:¬ (((36::ch::l).length:Nat):Int)≤IntKind.i64.wrap (0+1):=by rw[w01];simp;try omega
 have fe:(36::ch::l).getD (IntKind.i64.wrap (0+1)).toNat 0=ch:=by rw[w01];rfl
 have g0:(0:Int)<(((36::ch::l).length:Nat):Int):=by simp;try omega
 have hlo:¬ (((36::ch::l).getD (IntKind.i64.wrap (0+1)).toNat 0).toNat:Int)<65:=by rw[fe];omega
 have hhi:¬ 90<(((36::ch::l).getD (IntKind.i64.wrap (0+1)).toNat 0).toNat:Int):=by rw[fe];omega
 rcases l with _|⟨c,l⟩
 ·have g1:¬ IntKind.i64.wrap (IntKind.i64.wrap (0+1)+1)<(((36::ch::[]).length:Nat):Int):=by rw[w011];simp
  by_cases n1:n<1
  ·refine fnP_of_vc (nv:=9999) (cu:=[]) fits mixed Tryz.func109 rfl hoB rfl ?_
   ((repeat' ((conv=>whnf);first|exact .intro|refine .ya ?_|refine .na ?_|refine .ys ?_|refine .ns ?_|refine .neg (fun _=>?_) (fun _=>?_)|refine .mk (fun _=>?_) (fun _=>?_)|refine .inl (.inl (X1 (hW2) ?_))|refine .inl (X1 (hW2) ?_)|refine X1 (hW2) ?_|refine .mk ?_ ?_|refine AK ?_|refine And.intro (by first|(first|assumption|omega|(simp;done)|(simp[w1,w2];done)|(simp[w1,w2,w3];omega);done)|fail) ?_|fail));all_goals conv=>whnf)
   exact rrBad_le
  ·have n2:99<n:=by omega
   refine fnP_of_vc (nv:=9999) (cu:=[]) fits mixed Tryz.func109 rfl hoB rfl ?_
   ((repeat' ((conv=>whnf);first|exact .intro|refine .ya ?_|refine .na ?_|refine .ys ?_|refine .ns ?_|refine .neg (fun _=>?_) (fun _=>?_)|refine .mk (fun _=>?_) (fun _=>?_)|refine .inl (.inl (X1 (hW2) ?_))|refine .inl (X1 (hW2) ?_)|refine X1 (hW2) ?_|refine .mk ?_ ?_|refine AK ?_|refine And.intro (by first|(first|assumption|omega|(simp;done)|(simp[w1,w2];done)|(simp[w1,w2,w3];omega);done)|fail) ?_|fail));all_goals conv=>whnf)
   exact rrBad_le
 ·have g1:IntKind.i64.wrap (IntKind.i64.wrap (0+1)+1)<(((36::ch::c::l).length:Nat):Int):=by rw[w011];simp;try omega
  have g2:¬ (((36::ch::c::l).getD (IntKind.i64.wrap (IntKind.i64.wrap (0+1)+1)).toNat 0).toNat:Int)=36:=by rw[w011];exact ne36 (c:=c) fun e=>hl36 (congrArg some e)
  by_cases n1:n<1
  ·refine fnP_of_vc (nv:=9999) (cu:=[]) fits mixed Tryz.func109 rfl hoB rfl ?_
   ((repeat' ((conv=>whnf);first|exact .intro|refine .ya ?_|refine .na ?_|refine .ys ?_|refine .ns ?_|refine .neg (fun _=>?_) (fun _=>?_)|refine .mk (fun _=>?_) (fun _=>?_)|refine .inl (.inl (X1 (hW2) ?_))|refine .inl (X1 (hW2) ?_)|refine X1 (hW2) ?_|refine .mk ?_ ?_|refine AK ?_|refine And.intro (by first|(first|assumption|omega|(simp;done)|(simp[w1,w2];done)|(simp[w1,w2];omega);done)|fail) ?_|fail));all_goals conv=>whnf)
   exact rrBad_le
  ·have n2:99<n:=by omega
   refine fnP_of_vc (nv:=9999) (cu:=[]) fits mixed Tryz.func109 rfl hoB rfl ?_
   ((repeat' ((conv=>whnf);first|exact .intro|refine .ya ?_|refine .na ?_|refine .ys ?_|refine .ns ?_|refine .neg (fun _=>?_) (fun _=>?_)|refine .mk (fun _=>?_) (fun _=>?_)|refine .inl (.inl (X1 (hW2) ?_))|refine .inl (X1 (hW2) ?_)|refine X1 (hW2) ?_|refine .mk ?_ ?_|refine AK ?_|refine And.intro (by first|(first|assumption|omega|(simp;done)|(simp[w1,w2];done)|(simp[w1,w2];omega);done)|fail) ?_|fail));all_goals conv=>whnf)
   exact rrBad_le
theorem rRef_Bf {l:List UInt8} {ch:UInt8} (hc:65≤ch.toNat∧ch.toNat≤90)  (hl36:l.head?≠some 36) (hW:FnP Tryz.prog gl 108 [.str l,fD] (.tup [iD 0,fD]))  : FnP Tryz.prog gl 109 [.str (36::ch::l)] (rrBad):=by
 have hW2:FnP Tryz.prog gl 108 [.str (List.drop ((some (IntKind.i64.wrap (IntKind.i64.wrap (0+1)+1))).getD 0).toNat (List.take ((none:Option Int).getD (((36::ch::l).length:Nat):Int)).toNat (36::ch::l))),fD] (.tup [iD 0,fD]):=by
  rw[drop_some (k:=2) (by rw[w011];rfl) rfl];exact hW
 have f36:(((36::ch::l).getD (Int.toNat 0) 0).toNat:Int)=36:=rfl
 have f1:¬ (((36::ch::l).length:Nat):Int)≤IntKind.i64.wrap (0+1):=by rw[w01];simp;try omega
 have fe:(36::ch::l).getD (IntKind.i64.wrap (0+1)).toNat 0=ch:=by rw[w01];rfl
 have g0:(0:Int)<(((36::ch::l).length:Nat):Int):=by simp;try omega
 have hlo:¬ (((36::ch::l).getD (IntKind.i64.wrap (0+1)).toNat 0).toNat:Int)<65:=by rw[fe];omega
 have hhi:¬ 90<(((36::ch::l).getD (IntKind.i64.wrap (0+1)).toNat 0).toNat:Int):=by rw[fe];omega
 rcases l with _|⟨c,l⟩
 ·have g1:¬ IntKind.i64.wrap (IntKind.i64.wrap (0+1)+1)<(((36::ch::[]).length:Nat):Int):=by rw[w011];simp
  refine fnP_of_vc (nv:=9999) (cu:=[]) fits mixed Tryz.func109 rfl hoB rfl ?_
  ((repeat' ((conv=>whnf);first|exact .intro|refine .ya ?_|refine .na ?_|refine .ys ?_|refine .ns ?_|refine .neg (fun _=>?_) (fun _=>?_)|refine .mk (fun _=>?_) (fun _=>?_)|refine .inl (.inl (X1 (hW2) ?_))|refine .inl (X1 (hW2) ?_)|refine X1 (hW2) ?_|refine .mk ?_ ?_|refine AK ?_|refine And.intro (by first|(first|assumption|omega|(simp;done)|(simp[w1,w2];done)|(simp[w1,w2,w3];omega);done)|fail) ?_|fail));all_goals conv=>whnf)
  exact rrBad_le
 ·have g1:IntKind.i64.wrap (IntKind.i64.wrap (0+1)+1)<(((36::ch::c::l).length:Nat):Int):=by rw[w011];simp;try omega
  have g2:¬ (((36::ch::c::l).getD (IntKind.i64.wrap (IntKind.i64.wrap (0+1)+1)).toNat 0).toNat:Int)=36:=by rw[w011];exact ne36 (c:=c) fun e=>hl36 (congrArg some e)
  refine fnP_of_vc (nv:=9999) (cu:=[]) fits mixed Tryz.func109 rfl hoB rfl ?_
  ((repeat' ((conv=>whnf);first|exact .intro|refine .ya ?_|refine .na ?_|refine .ys ?_|refine .ns ?_|refine .neg (fun _=>?_) (fun _=>?_)|refine .mk (fun _=>?_) (fun _=>?_)|refine .inl (.inl (X1 (hW2) ?_))|refine .inl (X1 (hW2) ?_)|refine X1 (hW2) ?_|refine .mk ?_ ?_|refine AK ?_|refine And.intro (by first|(first|assumption|omega|(simp;done)|(simp[w1,w2];done)|(simp[w1,w2];omega);done)|fail) ?_|fail));all_goals conv=>whnf)
  exact rrBad_le
theorem rRef_Cs {l:List UInt8} {ch:UInt8} {n:Int} (hc:65≤ch.toNat∧ch.toNat≤90) (h36:ch≠36)  (hW:FnP Tryz.prog gl 108 [.str l,fD] (.tup [iD n,.v (.bool true)])) (hn:1≤n∧n≤99):FnP Tryz.prog gl 109 [.str (ch::36::l)] (.tup [refD ((ch.toNat - 64:Nat):Int) n false true,tD true]):=by
 have hW2:FnP Tryz.prog gl 108 [.str (List.drop ((some (IntKind.i64.wrap (IntKind.i64.wrap (0+1)+1))).getD 0).toNat (List.take ((none:Option Int).getD (((ch::36::l).length:Nat):Int)).toNat (ch::36::l))),fD] (.tup [iD n,.v (.bool true)]):=by
  rw[drop_some (k:=2) (by rw[w011];rfl) rfl];exact hW
 have f0:¬ (((ch::36::l).getD (Int.toNat 0) 0).toNat:Int)=36:=ne36 h36
 have f1:¬ (((ch::36::l).length:Nat):Int)≤0:=by simp;try omega
 have fe:(ch::36::l).getD (Int.toNat 0) 0=ch:=rfl
 have g0:(0:Int)<(((ch::36::l).length:Nat):Int):=by simp;try omega
 have hlo:¬ (((ch::36::l).getD (Int.toNat 0) 0).toNat:Int)<65:=by rw[fe];omega
 have hhi:¬ 90<(((ch::36::l).getD (Int.toNat 0) 0).toNat:Int):=by rw[fe];omega
 have n1:¬ n<1:=by omega
 have n2:¬ 99<n:=by omega
 have g1:IntKind.i64.wrap (0+1)<(((ch::36::l).length:Nat):Int):=by rw[w01];simp;try omega
 have g2:(((ch::36::l).getD (IntKind.i64.wrap (0+1)).toNat 0).toNat:Int)=36:=by rw[w01];rfl
 refine fnP_of_vc (nv:=9999) (cu:=[]) fits mixed Tryz.func109 rfl hoB rfl ?_
 ((repeat' ((conv=>whnf);first|exact .intro|refine .ya ?_|refine .na ?_|refine .ys ?_|refine .ns ?_|refine .neg (fun _=>?_) (fun _=>?_)|refine .mk (fun _=>?_) (fun _=>?_)|refine .inl (.inl (X1 (hW2) ?_))|refine .inl (X1 (hW2) ?_)|refine X1 (hW2) ?_|refine .mk ?_ ?_|refine AK ?_|refine And.intro (by first|(first|assumption|omega|(simp;done)|(simp[w1,w2];done)|(simp[w1,w2];omega);done)|fail) ?_|fail));all_goals conv=>whnf)
 exact rRef_le (by rw[fe,wrapI (n:=(ch.toNat:Int)) (by omega),wrapI (by omega)];omega)
theorem rRef_Cn {l:List UInt8} {ch:UInt8} {n:Int} (hc:65≤ch.toNat∧ch.toNat≤90) (h36:ch≠36)  (hW:FnP Tryz.prog gl 108 [.str l,fD] (.tup [iD n,.v (.bool true)])) (hn:n<1∨99<n):FnP Tryz.prog gl 109 [.str (ch::36::l)] (rrBad):=by
 have hW2:FnP Tryz.prog gl 108 [.str (List.drop ((some (IntKind.i64.wrap (IntKind.i64.wrap (0+1)+1))).getD 0).toNat (List.take ((none:Option Int).getD (((ch::36::l).length:Nat):Int)).toNat (ch::36::l))),fD] (.tup [iD n,.v (.bool true)]):=by
  rw[drop_some (k:=2) (by rw[w011];rfl) rfl];exact hW
 have f0:¬ (((ch::36::l).getD (Int.toNat 0) 0).toNat:Int)=36:=ne36 h36
 have f1:¬ (((ch::36::l).length:Nat):Int)≤0:=by simp;try omega
 have fe:(ch::36::l).getD (Int.toNat 0) 0=ch:=rfl
 have g0:(0:Int)<(((ch::36::l).length:Nat):Int):=by simp;try omega
 have hlo:¬ (((ch::36::l).getD (Int.toNat 0) 0).toNat:Int)<65:=by rw[fe];omega
 have hhi:¬ 90<(((ch::36::l).getD (Int.toNat 0) 0).toNat:Int):=by rw[fe];omega
 have g1:IntKind.i64.wrap (0+1)<(((ch::36::l).length:Nat):Int):=by rw[w01];simp;try omega
 have g2:(((ch::36::l).getD (IntKind.i64.wrap (0+1)).toNat 0).toNat:Int)=36:=by rw[w01];rfl
 by_cases n1:n<1
 ·refine fnP_of_vc (nv:=9999) (cu:=[]) fits mixed Tryz.func109 rfl hoB rfl ?_
  ((repeat' ((conv=>whnf);first|exact .intro|refine .ya ?_|refine .na ?_|refine .ys ?_|refine .ns ?_|refine .neg (fun _=>?_) (fun _=>?_)|refine .mk (fun _=>?_) (fun _=>?_)|refine .inl (.inl (X1 (hW2) ?_))|refine .inl (X1 (hW2) ?_)|refine X1 (hW2) ?_|refine .mk ?_ ?_|refine AK ?_|refine And.intro (by first|(first|assumption|omega|(simp;done)|(simp[w1,w2];done)|(simp[w1,w2];omega);done)|fail) ?_|fail));all_goals conv=>whnf)
  exact rrBad_le
 ·have n2:99<n:=by omega
  refine fnP_of_vc (nv:=9999) (cu:=[]) fits mixed Tryz.func109 rfl hoB rfl ?_
  ((repeat' ((conv=>whnf);first|exact .intro|refine .ya ?_|refine .na ?_|refine .ys ?_|refine .ns ?_|refine .neg (fun _=>?_) (fun _=>?_)|refine .mk (fun _=>?_) (fun _=>?_)|refine .inl (.inl (X1 (hW2) ?_))|refine .inl (X1 (hW2) ?_)|refine X1 (hW2) ?_|refine .mk ?_ ?_|refine AK ?_|refine And.intro (by first|(first|assumption|omega|(simp;done)|(simp[w1,w2];done)|(simp[w1,w2];omega);done)|fail) ?_|fail));all_goals conv=>whnf)
  exact rrBad_le
theorem rRef_Cf {l:List UInt8} {ch:UInt8} (hc:65≤ch.toNat∧ch.toNat≤90) (h36:ch≠36)  (hW:FnP Tryz.prog gl 108 [.str l,fD] (.tup [iD 0,fD]))  : FnP Tryz.prog gl 109 [.str (ch::36::l)] (rrBad):=by
 have hW2:FnP Tryz.prog gl 108 [.str (List.drop ((some (IntKind.i64.wrap (IntKind.i64.wrap (0+1)+1))).getD 0).toNat (List.take ((none:Option Int).getD (((ch::36::l).length:Nat):Int)).toNat (ch::36::l))),fD] (.tup [iD 0,fD]):=by
  rw[drop_some (k:=2) (by rw[w011];rfl) rfl];exact hW
 have f0:¬ (((ch::36::l).getD (Int.toNat 0) 0).toNat:Int)=36:=ne36 h36
 have f1:¬ (((ch::36::l).length:Nat):Int)≤0:=by simp;try omega
 have fe:(ch::36::l).getD (Int.toNat 0) 0=ch:=rfl
 have g0:(0:Int)<(((ch::36::l).length:Nat):Int):=by simp;try omega
 have hlo:¬ (((ch::36::l).getD (Int.toNat 0) 0).toNat:Int)<65:=by rw[fe];omega
 have hhi:¬ 90<(((ch::36::l).getD (Int.toNat 0) 0).toNat:Int):=by rw[fe];omega
 have g1:IntKind.i64.wrap (0+1)<(((ch::36::l).length:Nat):Int):=by rw[w01];simp;try omega
 have g2:(((ch::36::l).getD (IntKind.i64.wrap (0+1)).toNat 0).toNat:Int)=36:=by rw[w01];rfl
 refine fnP_of_vc (nv:=9999) (cu:=[]) fits mixed Tryz.func109 rfl hoB rfl ?_
 ((repeat' ((conv=>whnf);first|exact .intro|refine .ya ?_|refine .na ?_|refine .ys ?_|refine .ns ?_|refine .neg (fun _=>?_) (fun _=>?_)|refine .mk (fun _=>?_) (fun _=>?_)|refine .inl (.inl (X1 (hW2) ?_))|refine .inl (X1 (hW2) ?_)|refine X1 (hW2) ?_|refine .mk ?_ ?_|refine AK ?_|refine And.intro (by first|(first|assumption|omega|(simp;done)|(simp[w1,w2];done)|(simp[w1,w2];omega);done)|fail) ?_|fail));all_goals conv=>whnf)
 exact rrBad_le
theorem rRef_Ds {l:List UInt8} {ch:UInt8} {n:Int} (hc:65≤ch.toNat∧ch.toNat≤90) (h36:ch≠36) (hl36:l.head?≠some 36) (hW:FnP Tryz.prog gl 108 [.str l,fD] (.tup [iD n,.v (.bool true)])) (hn:1≤n∧n≤99):FnP Tryz.prog gl 109 [.str (ch::l)] (.tup [refD ((ch.toNat - 64:Nat):Int) n false false,tD true]):=by
 have hW2:FnP Tryz.prog gl 108 [.str (List.drop ((some (IntKind.i64.wrap (0+1))).getD 0).toNat (List.take ((none:Option Int).getD (((ch::l).length:Nat):Int)).toNat (ch::l))),fD] (.tup [iD n,.v (.bool true)]):=by
  rw[drop_some (k:=1) (by rw[w01];rfl) rfl];exact hW
 have f0:¬ (((ch::l).getD (Int.toNat 0) 0).toNat:Int)=36:=ne36 h36
 have f1:¬ (((ch::l).length:Nat):Int)≤0:=by simp;try omega
 have fe:(ch::l).getD (Int.toNat 0) 0=ch:=rfl
 have g0:(0:Int)<(((ch::l).length:Nat):Int):=by simp;try omega
 have hlo:¬ (((ch::l).getD (Int.toNat 0) 0).toNat:Int)<65:=by rw[fe];omega
 have hhi:¬ 90<(((ch::l).getD (Int.toNat 0) 0).toNat:Int):=by rw[fe];omega
 have n1:¬ n<1:=by omega
 have n2:¬ 99<n:=by omega
 rcases l with _|⟨c,l⟩
 ·have g1:¬ IntKind.i64.wrap (0+1)<(((ch::[]).length:Nat):Int):=by rw[w01];simp
  refine fnP_of_vc (nv:=9999) (cu:=[]) fits mixed Tryz.func109 rfl hoB rfl ?_
  ((repeat' ((conv=>whnf);first|exact .intro|refine .ya ?_|refine .na ?_|refine .ys ?_|refine .ns ?_|refine .neg (fun _=>?_) (fun _=>?_)|refine .mk (fun _=>?_) (fun _=>?_)|refine .inl (.inl (X1 (hW2) ?_))|refine .inl (X1 (hW2) ?_)|refine X1 (hW2) ?_|refine .mk ?_ ?_|refine AK ?_|refine And.intro (by first|(first|assumption|omega|(simp;done)|(simp[w1];done)|(simp[w1,w2,w3];omega);done)|fail) ?_|fail));all_goals conv=>whnf)
  exact rRef_le (by rw[fe,wrapI (n:=(ch.toNat:Int)) (by omega),wrapI (by omega)];omega)
 ·have g1:IntKind.i64.wrap (0+1)<(((ch::c::l).length:Nat):Int):=by rw[w01];simp;try omega
  have g2:¬ (((ch::c::l).getD (IntKind.i64.wrap (0+1)).toNat 0).toNat:Int)=36:=by rw[w01];exact ne36 (c:=c) fun e=>hl36 (congrArg some e)
  refine fnP_of_vc (nv:=9999) (cu:=[]) fits mixed Tryz.func109 rfl hoB rfl ?_
  ((repeat' ((conv=>whnf);first|exact .intro|refine .ya ?_|refine .na ?_|refine .ys ?_|refine .ns ?_|refine .neg (fun _=>?_) (fun _=>?_)|refine .mk (fun _=>?_) (fun _=>?_)|refine .inl (.inl (X1 (hW2) ?_))|refine .inl (X1 (hW2) ?_)|refine X1 (hW2) ?_|refine .mk ?_ ?_|refine AK ?_|refine And.intro (by first|(first|assumption|omega|(simp;done)|(simp[w1];done)|(simp[w1];omega);done)|fail) ?_|fail));all_goals conv=>whnf)
  exact rRef_le (by rw[fe,wrapI (n:=(ch.toNat:Int)) (by omega),wrapI (by omega)];omega)
theorem rRef_Dn {l:List UInt8} {ch:UInt8} {n:Int} (hc:65≤ch.toNat∧ch.toNat≤90) (h36:ch≠36) (hl36:l.head?≠some 36) (hW:FnP Tryz.prog gl 108 [.str l,fD] (.tup [iD n,.v (.bool true)])) (hn:n<1∨99<n):FnP Tryz.prog gl 109 [.str (ch::l)] (rrBad):=by
 have hW2:FnP Tryz.prog gl 108 [.str (List.drop ((some (IntKind.i64.wrap (0+1))).getD 0).toNat (List.take ((none:Option Int).getD (((ch::l).length:Nat):Int)).toNat (ch::l))),fD] (.tup [iD n,.v (.bool true)]):=by
  rw[drop_some (k:=1) (by rw[w01];rfl) rfl];exact hW
 have f0:¬ (((ch::l).getD (Int.toNat 0) 0).toNat:Int)=36:=ne36 h36
 have f1:¬ (((ch::l).length:Nat):Int)≤0:=by simp;try omega
 have fe:(ch::l).getD (Int.toNat 0) 0=ch:=rfl
 have g0:(0:Int)<(((ch::l).length:Nat):Int):=by simp;try omega
 have hlo:¬ (((ch::l).getD (Int.toNat 0) 0).toNat:Int)<65:=by rw[fe];omega
 have hhi:¬ 90<(((ch::l).getD (Int.toNat 0) 0).toNat:Int):=by rw[fe];omega
 rcases l with _|⟨c,l⟩
 ·have g1:¬ IntKind.i64.wrap (0+1)<(((ch::[]).length:Nat):Int):=by rw[w01];simp
  by_cases n1:n<1
  ·refine fnP_of_vc (nv:=9999) (cu:=[]) fits mixed Tryz.func109 rfl hoB rfl ?_
   ((repeat' ((conv=>whnf);first|exact .intro|refine .ya ?_|refine .na ?_|refine .ys ?_|refine .ns ?_|refine .neg (fun _=>?_) (fun _=>?_)|refine .mk (fun _=>?_) (fun _=>?_)|refine .inl (.inl (X1 (hW2) ?_))|refine .inl (X1 (hW2) ?_)|refine X1 (hW2) ?_|refine .mk ?_ ?_|refine AK ?_|refine And.intro (by first|(first|assumption|omega|(simp;done)|(simp[w1];done)|(simp[w1,w2,w3];omega);done)|fail) ?_|fail));all_goals conv=>whnf)
   exact rrBad_le
  ·have n2:99<n:=by omega
   refine fnP_of_vc (nv:=9999) (cu:=[]) fits mixed Tryz.func109 rfl hoB rfl ?_
   ((repeat' ((conv=>whnf);first|exact .intro|refine .ya ?_|refine .na ?_|refine .ys ?_|refine .ns ?_|refine .neg (fun _=>?_) (fun _=>?_)|refine .mk (fun _=>?_) (fun _=>?_)|refine .inl (.inl (X1 (hW2) ?_))|refine .inl (X1 (hW2) ?_)|refine X1 (hW2) ?_|refine .mk ?_ ?_|refine AK ?_|refine And.intro (by first|(first|assumption|omega|(simp;done)|(simp[w1];done)|(simp[w1,w2,w3];omega);done)|fail) ?_|fail));all_goals conv=>whnf)
   exact rrBad_le
 ·have g1:IntKind.i64.wrap (0+1)<(((ch::c::l).length:Nat):Int):=by rw[w01];simp;try omega
  have g2:¬ (((ch::c::l).getD (IntKind.i64.wrap (0+1)).toNat 0).toNat:Int)=36:=by rw[w01];exact ne36 (c:=c) fun e=>hl36 (congrArg some e)
  by_cases n1:n<1
  ·refine fnP_of_vc (nv:=9999) (cu:=[]) fits mixed Tryz.func109 rfl hoB rfl ?_
   ((repeat' ((conv=>whnf);first|exact .intro|refine .ya ?_|refine .na ?_|refine .ys ?_|refine .ns ?_|refine .neg (fun _=>?_) (fun _=>?_)|refine .mk (fun _=>?_) (fun _=>?_)|refine .inl (.inl (X1 (hW2) ?_))|refine .inl (X1 (hW2) ?_)|refine X1 (hW2) ?_|refine .mk ?_ ?_|refine AK ?_|refine And.intro (by first|(first|assumption|omega|(simp;done)|(simp[w1];done)|(simp[w1];omega);done)|fail) ?_|fail));all_goals conv=>whnf)
   exact rrBad_le
  ·have n2:99<n:=by omega
   refine fnP_of_vc (nv:=9999) (cu:=[]) fits mixed Tryz.func109 rfl hoB rfl ?_
   ((repeat' ((conv=>whnf);first|exact .intro|refine .ya ?_|refine .na ?_|refine .ys ?_|refine .ns ?_|refine .neg (fun _=>?_) (fun _=>?_)|refine .mk (fun _=>?_) (fun _=>?_)|refine .inl (.inl (X1 (hW2) ?_))|refine .inl (X1 (hW2) ?_)|refine X1 (hW2) ?_|refine .mk ?_ ?_|refine AK ?_|refine And.intro (by first|(first|assumption|omega|(simp;done)|(simp[w1];done)|(simp[w1];omega);done)|fail) ?_|fail));all_goals conv=>whnf)
   exact rrBad_le
theorem rRef_Df {l:List UInt8} {ch:UInt8} (hc:65≤ch.toNat∧ch.toNat≤90) (h36:ch≠36) (hl36:l.head?≠some 36) (hW:FnP Tryz.prog gl 108 [.str l,fD] (.tup [iD 0,fD]))  : FnP Tryz.prog gl 109 [.str (ch::l)] (rrBad):=by
 have hW2:FnP Tryz.prog gl 108 [.str (List.drop ((some (IntKind.i64.wrap (0+1))).getD 0).toNat (List.take ((none:Option Int).getD (((ch::l).length:Nat):Int)).toNat (ch::l))),fD] (.tup [iD 0,fD]):=by
  rw[drop_some (k:=1) (by rw[w01];rfl) rfl];exact hW
 have f0:¬ (((ch::l).getD (Int.toNat 0) 0).toNat:Int)=36:=ne36 h36
 have f1:¬ (((ch::l).length:Nat):Int)≤0:=by simp;try omega
 have fe:(ch::l).getD (Int.toNat 0) 0=ch:=rfl
 have g0:(0:Int)<(((ch::l).length:Nat):Int):=by simp;try omega
 have hlo:¬ (((ch::l).getD (Int.toNat 0) 0).toNat:Int)<65:=by rw[fe];omega
 have hhi:¬ 90<(((ch::l).getD (Int.toNat 0) 0).toNat:Int):=by rw[fe];omega
 rcases l with _|⟨c,l⟩
 ·have g1:¬ IntKind.i64.wrap (0+1)<(((ch::[]).length:Nat):Int):=by rw[w01];simp
  refine fnP_of_vc (nv:=9999) (cu:=[]) fits mixed Tryz.func109 rfl hoB rfl ?_
  ((repeat' ((conv=>whnf);first|exact .intro|refine .ya ?_|refine .na ?_|refine .ys ?_|refine .ns ?_|refine .neg (fun _=>?_) (fun _=>?_)|refine .mk (fun _=>?_) (fun _=>?_)|refine .inl (.inl (X1 (hW2) ?_))|refine .inl (X1 (hW2) ?_)|refine X1 (hW2) ?_|refine .mk ?_ ?_|refine AK ?_|refine And.intro (by first|(first|assumption|omega|(simp;done)|(simp[w1];done)|(simp[w1,w2,w3];omega);done)|fail) ?_|fail));all_goals conv=>whnf)
  exact rrBad_le
 ·have g1:IntKind.i64.wrap (0+1)<(((ch::c::l).length:Nat):Int):=by rw[w01];simp;try omega
  have g2:¬ (((ch::c::l).getD (IntKind.i64.wrap (0+1)).toNat 0).toNat:Int)=36:=by rw[w01];exact ne36 (c:=c) fun e=>hl36 (congrArg some e)
  refine fnP_of_vc (nv:=9999) (cu:=[]) fits mixed Tryz.func109 rfl hoB rfl ?_
  ((repeat' ((conv=>whnf);first|exact .intro|refine .ya ?_|refine .na ?_|refine .ys ?_|refine .ns ?_|refine .neg (fun _=>?_) (fun _=>?_)|refine .mk (fun _=>?_) (fun _=>?_)|refine .inl (.inl (X1 (hW2) ?_))|refine .inl (X1 (hW2) ?_)|refine X1 (hW2) ?_|refine .mk ?_ ?_|refine AK ?_|refine And.intro (by first|(first|assumption|omega|(simp;done)|(simp[w1];done)|(simp[w1];omega);done)|fail) ?_|fail));all_goals conv=>whnf)
  exact rrBad_le
end Go.Proofs.YtcdjjjokniinkaaGreatDoor
end
section
namespace Go.Proofs.YtcdjjjokniinkaaGreatDoor
open Go Go.EYtcdjjjokniinkaaGreatDoor
set_option maxRecDepth 100000
variable {gl:List (Nat×List D)}
theorem dl_inv3 {t l:List UInt8} {b:Bool} (h:dl t=(b,l)):(t=36::l∧b=true)∨(t=l∧l.head?≠some 36∧b=false):=by
 cases t with
 | nil=>cases h;exact .inr ⟨rfl,by simp,rfl⟩
 | cons a s =>
  by_cases ha:a=36
  ·simp only[dl,if_pos ha,Prod.mk.injEq] at h;left;rw[ha,h.2];exact ⟨rfl,h.1.symm⟩
  ·simp only[dl,if_neg ha,Prod.mk.injEq] at h;right;obtain ⟨h1,h2⟩:=h;subst h2;exact ⟨rfl,fun e=>ha (Option.some.inj e),h1.symm⟩
theorem rRef_s {s t l:List UInt8} {b b':Bool} {ch:UInt8} {n:Int} (h:dl s=(b,ch::t)) (hc:65≤ch.toNat∧ch.toNat≤90) (h':dl t=(b',l)) (hW:FnP Tryz.prog gl 108 [.str l,fD] (.tup [iD n,.v (.bool true)])) (hn:1≤n∧n≤99) :
 FnP Tryz.prog gl 109 [.str s] (.tup [refD ((ch.toNat - 64:Nat):Int) n b b',tD true]):=by
 rcases dl_inv2 h with ⟨rfl,rfl⟩|⟨rfl,h36,rfl⟩ <;> rcases dl_inv3 h' with ⟨rfl,rfl⟩|⟨rfl,hl,rfl⟩
 ·exact rRef_As hc hW hn
 ·exact rRef_Bs hc hl hW hn
 ·exact rRef_Cs hc h36 hW hn
 ·exact rRef_Ds hc h36 hl hW hn
theorem rRef_n {s t l:List UInt8} {b b':Bool} {ch:UInt8} {n:Int} (h:dl s=(b,ch::t)) (hc:65≤ch.toNat∧ch.toNat≤90) (h':dl t=(b',l)) (hW:FnP Tryz.prog gl 108 [.str l,fD] (.tup [iD n,.v (.bool true)])) (hn:n<1∨99<n) :
 FnP Tryz.prog gl 109 [.str s] rrBad:=by
 rcases dl_inv2 h with ⟨rfl,rfl⟩|⟨rfl,h36,rfl⟩ <;> rcases dl_inv3 h' with ⟨rfl,rfl⟩|⟨rfl,hl,rfl⟩
 ·exact rRef_An hc hW hn
 ·exact rRef_Bn hc hl hW hn
 ·exact rRef_Cn hc h36 hW hn
 ·exact rRef_Dn hc h36 hl hW hn
theorem rRef_f {s t l:List UInt8} {b b':Bool} {ch:UInt8} (h:dl s=(b,ch::t)) (hc:65≤ch.toNat∧ch.toNat≤90) (h':dl t=(b',l)) (hW:FnP Tryz.prog gl 108 [.str l,fD] (.tup [iD 0,fD])) :
 FnP Tryz.prog gl 109 [.str s] rrBad:=by
 rcases dl_inv2 h with ⟨rfl,rfl⟩|⟨rfl,h36,rfl⟩ <;> rcases dl_inv3 h' with ⟨rfl,rfl⟩|⟨rfl,hl,rfl⟩
 ·exact rRef_Af hc hW
 ·exact rRef_Bf hc hl hW
 ·exact rRef_Cf hc h36 hW
 ·exact rRef_Df hc h36 hl hW
theorem refWhole_e:FnP Tryz.prog gl 108 [.str [],fD] (.tup [iD 0,fD]):=by
 refine fnP_of_vc (nv:=9999) (cu:=[]) fits mixed Tryz.func108 rfl hoB rfl ?_
 ((repeat' ((conv=>whnf);first|exact .intro|refine .ya ?_|refine .na ?_|refine .ys ?_|refine .ns ?_|refine .neg (fun _=>?_) (fun _=>?_)|refine .mk (fun _=>?_) (fun _=>?_)|refine .mk ?_ ?_|refine AK ?_|refine AT ?_|fail));all_goals conv=>whnf)
 exact LeD.rfl
theorem refWhole_z {l:List UInt8} (h:l≠[]):FnP Tryz.prog gl 108 [.str (48::l),fD] (.tup [iD 0,fD]):=by
 have h1:(((48::l).getD (Int.toNat 0) 0).toNat:Int)=48:=rfl
 have h2:¬ 48::l=(⟨#[48]⟩:ByteArray).data.toList:=fun e=>h (List.cons.inj e).2
 refine fnP_of_vc (nv:=9999) (cu:=[]) fits mixed Tryz.func108 rfl hoB rfl ?_
 ((repeat' ((conv=>whnf);first|exact .intro|refine .ya ?_|refine .na ?_|refine .ys ?_|refine .ns ?_|refine .neg (fun _=>?_) (fun _=>?_)|refine .mk (fun _=>?_) (fun _=>?_)|refine .mk ?_ ?_|refine AK ?_|refine AT ?_|fail));all_goals conv=>whnf)
 exact LeD.rfl
theorem rv_ge {l:List UInt8} (h0:l≠[]) (h48:l.head?≠some 48) (hd:∀ d ∈ l,isDig d):∀ k,k<l.length→10 ^ k≤rv l (k+1)
 | 0,h=>by
  obtain ⟨a,l,rfl⟩:=List.exists_cons_of_ne_nil h0
  rw[rv_succ h]
  have h1:a≠48:=fun e=>h48 (congrArg some e)
  have h2:=hd a (List.mem_cons_self ..)
  have h3:a.toNat≠48:=fun e=>h1 (UInt8.toNat_inj.1 e)
  show 1≤0 * 10+(a.toNat - 48)
  obtain ⟨h4,h5⟩:=h2
  omega
 | k+1,h=>by
  have:=rv_ge h0 h48 hd k (by omega)
  rw[rv_succ h,Nat.pow_succ];omega
theorem ref_both (s:List UInt8) (hs:s.length≤140737488355328) :
 (∃ (c r:Int) (fc fr:Bool),okP c r∧FnP Tryz.prog gl 109 [.str s] (.tup [refD c r fc fr,tD true])∧FnP Tryz.prog gl 179 [.str s] (.tup [refD c r fc fr,errD 0]))∨
 (FnP Tryz.prog gl 109 [.str s] rrBad∧FnP Tryz.prog gl 179 [.str s] refBad):=by
 obtain ⟨b,t0,h⟩:∃ b t0,dl s=(b,t0):=⟨_,_,rfl⟩
 cases t0 with
 | nil=>exact .inr ⟨rRef_1 h,Ref_1 h⟩
 | cons ch t =>
  by_cases hc:65≤ch.toNat∧ch.toNat≤90
  ·obtain ⟨b',l,h'⟩:∃ b' l,dl t=(b',l):=⟨_,_,rfl⟩
   have hll:l.length≤s.length:=by
    rcases dl_inv2 h with ⟨rfl,_⟩|⟨rfl,_,_⟩ <;> rcases dl_inv3 h' with ⟨rfl,_⟩|⟨rfl,_,_⟩ <;> simp <;> omega
   by_cases h0:l=[]
   ·subst h0
    exact .inr ⟨rRef_f h hc h' refWhole_e,Ref_3 h hc h' (.inl rfl)⟩
   by_cases hz:l.head?=some 48∧l≠[48]
   ·refine .inr ⟨rRef_f h hc h' ?_,Ref_3 h hc h' (.inr (.inr hz.1))⟩
    obtain ⟨a,l,rfl⟩:=List.exists_cons_of_ne_nil h0
    obtain rfl:a=48:=Option.some.inj hz.1
    exact refWhole_z fun e=>hz.2 (by rw[e])
   have hW:=Whole_p (gl:=gl) l h0 hz (by omega)
   by_cases hg:l.length≤2∧l.head?≠some 48
   ·have h4:=Ref_4 (gl:=gl) h hc h' h0 hg.1 hg.2
    by_cases hd:∀ d ∈ l,isDig d
    ·have hlt:=rv_lt (l:=l) (Nat.le_refl _) (fun d hx=>hd d (List.mem_of_mem_take hx))
     have hlen:0<l.length:=List.length_pos_iff.2 h0
     have hge:=rv_ge h0 hg.2 hd (l.length - 1) (by omega)
     rw[Nat.sub_add_cancel hlen] at hge
     have h99:rv l l.length<100:=Nat.lt_of_lt_of_le hlt (Nat.pow_le_pow_right (n:=10) (by decide) hg.1)
     have h01:1≤rv l l.length:=by have:=Nat.pow_le_pow_right (n:=10) (by decide) (Nat.zero_le (l.length - 1));omega
     rw[if_pos hd] at h4
     rw[if_pos ⟨hd,by omega⟩] at hW
     exact .inl ⟨_,_,b,b',by unfold okP;omega,rRef_s h hc h' hW (by omega),h4⟩
    ·rw[if_neg hd] at h4
     rw[if_neg fun hh=>hd hh.1] at hW
     exact .inr ⟨rRef_f h hc h' hW,h4⟩
   ·have hb:2<l.length∨l.head?=some 48:=by
     by_cases e:l.head?=some 48
     ·exact .inr e
     ·exact .inl (Nat.lt_of_not_le fun h=>hg ⟨h,e⟩)
    have h3:=Ref_3 (gl:=gl) h hc h' (.inr hb)
    by_cases hw:wholeC l
    ·rw[if_pos hw] at hW
     refine .inr ⟨rRef_n h hc h' hW ?_,h3⟩
     by_cases e:l.head?=some 48
     ·have:l=[48]:=Classical.byContradiction fun hn=>hz ⟨e,hn⟩
      subst this
      left;show ((0 * 10+(48 - 48):Nat):Int)<1;decide
     ·right
      have h2:2<l.length:=by rcases hb with hb|hb;exact hb;exact absurd hb e
      have hge:=rv_ge h0 e hw.1 (l.length - 1) (by omega)
      rw[Nat.sub_add_cancel (by omega)] at hge
      have:10 ^ 2≤10 ^ (l.length - 1):=Nat.pow_le_pow_right (by decide) (by omega)
      omega
    ·rw[if_neg hw] at hW
     exact .inr ⟨rRef_f h hc h' hW,h3⟩
  ·exact .inr ⟨rRef_2 h hc,Ref_2 h hc⟩
end Go.Proofs.YtcdjjjokniinkaaGreatDoor
end
