/- Proved: a part of what the law is proved with (the reckoner, contracts of functions, plain laws). Conditions: as each says. -/
import Derived.Test.YtdpigpahfiachaaGreatDoorZBg
section
namespace Go.Proofs.YtdpigpahfiachaaGreatDoor
open Go Go.EYtdpigpahfiachaaGreatDoor
set_option maxRecDepth 100000
variable {gl:List (Nat×List D)}
theorem Check_s {c r:Int} (h:okP c r):FnP Tryz.prog gl 75 [cellD c r] (errD 0):=by
 refine fnP_of_vc (nv:=9999) (cu:=[]) fits mixed Tryz.func75 rfl hoB rfl ?_
 ((repeat' ((conv=>whnf);first|exact .intro|refine .ya ?_|refine .na ?_|refine .ys ?_|refine .ns ?_|refine .neg (fun _=>?_) (fun _=>?_)|refine .mk (fun _=>?_) (fun _=>?_)|refine .inl (.inl (X1 (ok_d _ _) ?_))|refine .inl (X1 (ok_d _ _) ?_)|refine X1 (ok_d _ _) ?_|refine .mk ?_ ?_|refine AK ?_|refine AT ?_|fail));all_goals conv=>whnf)
 exact LeD.rfl
theorem Check_n {c r:Int} (h:¬ okP c r):FnP Tryz.prog gl 75 [cellD c r] (errD 1):=by
 refine fnP_of_vc (nv:=9999) (cu:=[]) fits mixed Tryz.func75 rfl hoB rfl ?_
 ((repeat' ((conv=>whnf);first|exact .intro|refine .ya ?_|refine .na ?_|refine .ys ?_|refine .ns ?_|refine .neg (fun _=>?_) (fun _=>?_)|refine .mk (fun _=>?_) (fun _=>?_)|refine .inl (.inl (X1 (ok_d _ _) ?_))|refine .inl (X1 (ok_d _ _) ?_)|refine X1 (ok_d _ _) ?_|refine .mk ?_ ?_|refine AK ?_|refine AT ?_|fail));all_goals conv=>whnf)
 exact LeD.rfl
abbrev rrBad:D:=.tup [refD 0 0 false false,tD false]
theorem rrBad_le:LeD (retD [D.agg [iD 0,iD 0,.v (.bool false),.v (.bool false)],.v (.bool false)]) rrBad:=noneR_le
theorem w01:IntKind.i64.wrap (0+1)=1:=by decide
theorem w011:IntKind.i64.wrap (IntKind.i64.wrap (0+1)+1)=2:=by decide
theorem w0111:IntKind.i64.wrap (IntKind.i64.wrap (IntKind.i64.wrap (0+1)+1)+1)=3:=by decide
theorem dl_inv1 {s:List UInt8} {b:Bool} (h:dl s=(b,[])):s=[]∨s=[36]:=by
 cases s with
 | nil=>exact .inl rfl
 | cons a s =>
  right
  by_cases ha:a=36
  ·simp only[dl,if_pos ha,Prod.mk.injEq] at h;rw[ha,h.2]
  ·simp only[dl,if_neg ha,Prod.mk.injEq] at h;cases h.2
theorem dl_inv2 {s t:List UInt8} {b:Bool} {ch:UInt8} (h:dl s=(b,ch::t)):(s=36::ch::t∧b=true)∨(s=ch::t∧ch≠36∧b=false):=by
 cases s with
 | nil=>cases h
 | cons a s =>
  by_cases ha:a=36
  ·simp only[dl,if_pos ha,Prod.mk.injEq] at h;left;rw[ha,h.2];exact ⟨rfl,h.1.symm⟩
  ·simp only[dl,if_neg ha,Prod.mk.injEq] at h;right;cases h.2;exact ⟨rfl,ha,h.1.symm⟩
theorem ne36 {c:UInt8} (h:c≠36):¬ ((c.toNat:Nat):Int)=36:=fun e=>h (UInt8.toNat_inj.1 (Int.ofNat.inj e))
theorem rRef_1 {s:List UInt8} {b:Bool} (h:dl s=(b,[])):FnP Tryz.prog gl 140 [.str s] rrBad:=by
 rcases dl_inv1 h with rfl|rfl
 ·refine fnP_of_vc (nv:=9999) (cu:=[]) fits mixed Tryz.func140 rfl hoB rfl ?_
  ((repeat' ((conv=>whnf);first|exact .intro|refine .ya ?_|refine .na ?_|refine .ys ?_|refine .ns ?_|refine .neg (fun _=>?_) (fun _=>?_)|refine .mk (fun _=>?_) (fun _=>?_)|refine .mk ?_ ?_|refine AK ?_|refine And.intro (by first|(first|assumption|omega|(simp;done)|(rw[w01];simp;done)|(rw[w01];simp;omega);done)|fail) ?_|fail));all_goals conv=>whnf)
  exact rrBad_le
 ·have f1:((([36]:List UInt8).length:Nat):Int)≤IntKind.i64.wrap (0+1):=by decide
  refine fnP_of_vc (nv:=9999) (cu:=[]) fits mixed Tryz.func140 rfl hoB rfl ?_
  ((repeat' ((conv=>whnf);first|exact .intro|refine .ya ?_|refine .na ?_|refine .ys ?_|refine .ns ?_|refine .neg (fun _=>?_) (fun _=>?_)|refine .mk (fun _=>?_) (fun _=>?_)|refine .mk ?_ ?_|refine AK ?_|refine And.intro (by first|(first|assumption|omega|(simp;done)|(rw[w01];simp;done)|(rw[w01];simp;omega);done)|fail) ?_|fail));all_goals conv=>whnf)
  all_goals first|exact rrBad_le
theorem rRef_2 {s t:List UInt8} {b:Bool} {ch:UInt8} (h:dl s=(b,ch::t)) (hc:¬ (65≤ch.toNat∧ch.toNat≤90)):FnP Tryz.prog gl 140 [.str s] rrBad:=by
 rcases dl_inv2 h with ⟨rfl,_⟩|⟨rfl,h36,_⟩
 ·have f1:¬ (((36::ch::t).length:Nat):Int)≤IntKind.i64.wrap (0+1):=by rw[w01];simp;try omega
  have fe:(36::ch::t).getD (IntKind.i64.wrap (0+1)).toNat 0=ch:=by rw[w01];rfl
  by_cases hlo:(((36::ch::t).getD (IntKind.i64.wrap (0+1)).toNat 0).toNat:Int)<65
  ·refine fnP_of_vc (nv:=9999) (cu:=[]) fits mixed Tryz.func140 rfl hoB rfl ?_
   ((repeat' ((conv=>whnf);first|exact .intro|refine .ya ?_|refine .na ?_|refine .ys ?_|refine .ns ?_|refine .neg (fun _=>?_) (fun _=>?_)|refine .mk (fun _=>?_) (fun _=>?_)|refine .mk ?_ ?_|refine AK ?_|refine And.intro (by first|(first|assumption|omega|(simp;done)|(rw[w01];simp;done)|(rw[w01];simp;omega);done)|fail) ?_|fail));all_goals conv=>whnf)
   all_goals first|exact rrBad_le
  ·have hhi:90<(((36::ch::t).getD (IntKind.i64.wrap (0+1)).toNat 0).toNat:Int):=by rw[fe] at hlo ⊢;omega
   refine fnP_of_vc (nv:=9999) (cu:=[]) fits mixed Tryz.func140 rfl hoB rfl ?_
   ((repeat' ((conv=>whnf);first|exact .intro|refine .ya ?_|refine .na ?_|refine .ys ?_|refine .ns ?_|refine .neg (fun _=>?_) (fun _=>?_)|refine .mk (fun _=>?_) (fun _=>?_)|refine .mk ?_ ?_|refine AK ?_|refine And.intro (by first|(first|assumption|omega|(simp;done)|(rw[w01];simp;done)|(rw[w01];simp;omega);done)|fail) ?_|fail));all_goals conv=>whnf)
   all_goals first|exact rrBad_le
 ·have f0:¬ (((ch::t).getD (Int.toNat 0) 0).toNat:Int)=36:=ne36 h36
  have f1:¬ (((ch::t).length:Nat):Int)≤0:=by simp;try omega
  by_cases hlo:(((ch::t).getD (Int.toNat 0) 0).toNat:Int)<65
  ·refine fnP_of_vc (nv:=9999) (cu:=[]) fits mixed Tryz.func140 rfl hoB rfl ?_
   ((repeat' ((conv=>whnf);first|exact .intro|refine .ya ?_|refine .na ?_|refine .ys ?_|refine .ns ?_|refine .neg (fun _=>?_) (fun _=>?_)|refine .mk (fun _=>?_) (fun _=>?_)|refine .mk ?_ ?_|refine AK ?_|refine And.intro (by first|(first|assumption|omega|(simp;done)|(rw[w01];simp;done)|(rw[w01];simp;omega);done)|fail) ?_|fail));all_goals conv=>whnf)
   all_goals first|exact rrBad_le
  ·have hhi:90<(((ch::t).getD (Int.toNat 0) 0).toNat:Int):=by
    have hlo':¬ ((ch.toNat:Nat):Int)<65:=hlo
    show 90<((ch.toNat:Nat):Int)
    omega
   refine fnP_of_vc (nv:=9999) (cu:=[]) fits mixed Tryz.func140 rfl hoB rfl ?_
   ((repeat' ((conv=>whnf);first|exact .intro|refine .ya ?_|refine .na ?_|refine .ys ?_|refine .ns ?_|refine .neg (fun _=>?_) (fun _=>?_)|refine .mk (fun _=>?_) (fun _=>?_)|refine .mk ?_ ?_|refine AK ?_|refine And.intro (by first|(first|assumption|omega|(simp;done)|(rw[w01];simp;done)|(rw[w01];simp;omega);done)|fail) ?_|fail));all_goals conv=>whnf)
   all_goals first|exact rrBad_le
end Go.Proofs.YtdpigpahfiachaaGreatDoor
end
section
namespace Go.Proofs.YtdpigpahfiachaaGreatDoor
open Go Go.EYtdpigpahfiachaaGreatDoor
set_option maxRecDepth 100000
variable {gl:List (Nat×List D)}
theorem w1:IntKind.i64.wrap 1=1:=by decide
theorem w2:IntKind.i64.wrap 2=2:=by decide
theorem w3:IntKind.i64.wrap 3=3:=by decide
theorem rRef_le {x n:Int} {ch:UInt8} {b b':Bool} (hx:x=((ch.toNat - 64:Nat):Int)):LeD (retD [D.agg [iD x,iD n,.v (.bool b),.v (.bool b')],.v (.bool true)]) (.tup [refD ((ch.toNat - 64:Nat):Int) n b b',tD true]):=by
 subst hx
 exact LeD.tup ⟨LeD.agg ⟨LeD.rfl,LeD.rfl,tD_le _,tD_le _,trivial⟩,tD_le _,trivial⟩
theorem drop_some {s l:List UInt8} {i:Int} {k:Nat} (hi:i=k) (h:s.drop k=l):List.drop ((some i).getD 0).toNat (List.take ((none:Option Int).getD ((s.length:Nat):Int)).toNat s)=l:=by
 subst hi
 show List.drop ((k:Int)).toNat (List.take ((s.length:Nat):Int).toNat s)=l
 rw[Int.toNat_natCast,Int.toNat_natCast,List.take_length];exact h
theorem rRef_As {l:List UInt8} {ch:UInt8} {n:Int} (hc:65≤ch.toNat∧ch.toNat≤90)   (hW:FnP Tryz.prog gl 139 [.str l,fD] (.tup [iD n,.v (.bool true)])) (hn:1≤n∧n≤99):FnP Tryz.prog gl 140 [.str (36::ch::36::l)] (.tup [refD ((ch.toNat - 64:Nat):Int) n true true,tD true]):=by
 have hW2:FnP Tryz.prog gl 139 [.str (List.drop ((some (IntKind.i64.wrap (IntKind.i64.wrap (IntKind.i64.wrap (0+1)+1)+1))).getD 0).toNat (List.take ((none:Option Int).getD (((36::ch::36::l).length:Nat):Int)).toNat (36::ch::36::l))),fD] (.tup [iD n,.v (.bool true)]):=by
  rw[drop_some (k:=3) (by rw[w0111];rfl) rfl];exact hW
 have f36:(((36::ch::36::l).getD (Int.toNat 0) 0).toNat:Int)=36:=rfl
 have f1:¬ (((36::ch::36::l).length:Nat):Int)≤IntKind.i64.wrap (0+1):=by rw[w01];simp;try omega
 have fe:(36::ch::36::l).getD (IntKind.i64.wrap (0+1)).toNat 0=ch:=by rw[w01];rfl
 have g0:(0:Int)<(((36::ch::36::l).length:Nat):Int):=by simp;try omega
 have hlo:¬ (((36::ch::36::l).getD (IntKind.i64.wrap (0+1)).toNat 0).toNat:Int)<65:=by rw[fe];omega
 have hhi:¬ 90<(((36::ch::36::l).getD (IntKind.i64.wrap (0+1)).toNat 0).toNat:Int):=by rw[fe];omega
 have n1:¬ n<1:=by omega
 have n2:¬ 99<n:=by omega
 have g1:IntKind.i64.wrap (IntKind.i64.wrap (0+1)+1)<(((36::ch::36::l).length:Nat):Int):=by rw[w011];simp;try omega
 have g2:(((36::ch::36::l).getD (IntKind.i64.wrap (IntKind.i64.wrap (0+1)+1)).toNat 0).toNat:Int)=36:=by rw[w011];rfl
 refine fnP_of_vc (nv:=9999) (cu:=[]) fits mixed Tryz.func140 rfl hoB rfl ?_
 ((repeat' ((conv=>whnf);first|exact .intro|refine .ya ?_|refine .na ?_|refine .ys ?_|refine .ns ?_|refine .neg (fun _=>?_) (fun _=>?_)|refine .mk (fun _=>?_) (fun _=>?_)|refine .inl (.inl (X1 (hW2) ?_))|refine .inl (X1 (hW2) ?_)|refine X1 (hW2) ?_|refine .mk ?_ ?_|refine AK ?_|refine And.intro (by first|(first|assumption|omega|(simp;done)|(simp[w1,w2,w3];done)|(simp[w1,w2,w3];omega);done)|fail) ?_|fail));all_goals conv=>whnf)
 exact rRef_le (by rw[fe,wrapI (n:=(ch.toNat:Int)) (by omega),wrapI (by omega)];omega)
theorem rRef_An {l:List UInt8} {ch:UInt8} {n:Int} (hc:65≤ch.toNat∧ch.toNat≤90)   (hW:FnP Tryz.prog gl 139 [.str l,fD] (.tup [iD n,.v (.bool true)])) (hn:n<1∨99<n):FnP Tryz.prog gl 140 [.str (36::ch::36::l)] (rrBad):=by
 have hW2:FnP Tryz.prog gl 139 [.str (List.drop ((some (IntKind.i64.wrap (IntKind.i64.wrap (IntKind.i64.wrap (0+1)+1)+1))).getD 0).toNat (List.take ((none:Option Int).getD (((36::ch::36::l).length:Nat):Int)).toNat (36::ch::36::l))),fD] (.tup [iD n,.v (.bool true)]):=by
  rw[drop_some (k:=3) (by rw[w0111];rfl) rfl];exact hW
 have f36:(((36::ch::36::l).getD (Int.toNat 0) 0).toNat:Int)=36:=rfl
 have f1:¬ (((36::ch::36::l).length:Nat):Int)≤IntKind.i64.wrap (0+1):=by rw[w01];simp;try omega
 have fe:(36::ch::36::l).getD (IntKind.i64.wrap (0+1)).toNat 0=ch:=by rw[w01];rfl
 have g0:(0:Int)<(((36::ch::36::l).length:Nat):Int):=by simp;try omega
 have hlo:¬ (((36::ch::36::l).getD (IntKind.i64.wrap (0+1)).toNat 0).toNat:Int)<65:=by rw[fe];omega
 have hhi:¬ 90<(((36::ch::36::l).getD (IntKind.i64.wrap (0+1)).toNat 0).toNat:Int):=by rw[fe];omega
 have g1:IntKind.i64.wrap (IntKind.i64.wrap (0+1)+1)<(((36::ch::36::l).length:Nat):Int):=by rw[w011];simp;try omega
 have g2:(((36::ch::36::l).getD (IntKind.i64.wrap (IntKind.i64.wrap (0+1)+1)).toNat 0).toNat:Int)=36:=by rw[w011];rfl
 by_cases n1:n<1
 ·refine fnP_of_vc (nv:=9999) (cu:=[]) fits mixed Tryz.func140 rfl hoB rfl ?_
  ((repeat' ((conv=>whnf);first|exact .intro|refine .ya ?_|refine .na ?_|refine .ys ?_|refine .ns ?_|refine .neg (fun _=>?_) (fun _=>?_)|refine .mk (fun _=>?_) (fun _=>?_)|refine .inl (.inl (X1 (hW2) ?_))|refine .inl (X1 (hW2) ?_)|refine X1 (hW2) ?_|refine .mk ?_ ?_|refine AK ?_|refine And.intro (by first|(first|assumption|omega|(simp;done)|(simp[w1,w2,w3];done)|(simp[w1,w2,w3];omega);done)|fail) ?_|fail));all_goals conv=>whnf)
  exact rrBad_le
 ·have n2:99<n:=by omega
  refine fnP_of_vc (nv:=9999) (cu:=[]) fits mixed Tryz.func140 rfl hoB rfl ?_
  ((repeat' ((conv=>whnf);first|exact .intro|refine .ya ?_|refine .na ?_|refine .ys ?_|refine .ns ?_|refine .neg (fun _=>?_) (fun _=>?_)|refine .mk (fun _=>?_) (fun _=>?_)|refine .inl (.inl (X1 (hW2) ?_))|refine .inl (X1 (hW2) ?_)|refine X1 (hW2) ?_|refine .mk ?_ ?_|refine AK ?_|refine And.intro (by first|(first|assumption|omega|(simp;done)|(simp[w1,w2,w3];done)|(simp[w1,w2,w3];omega);done)|fail) ?_|fail));all_goals conv=>whnf)
  exact rrBad_le
theorem rRef_Af {l:List UInt8} {ch:UInt8} (hc:65≤ch.toNat∧ch.toNat≤90)   (hW:FnP Tryz.prog gl 139 [.str l,fD] (.tup [iD 0,fD]))  : FnP Tryz.prog gl 140 [.str (36::ch::36::l)] (rrBad):=by
 have hW2:FnP Tryz.prog gl 139 [.str (List.drop ((some (IntKind.i64.wrap (IntKind.i64.wrap (IntKind.i64.wrap (0+1)+1)+1))).getD 0).toNat (List.take ((none:Option Int).getD (((36::ch::36::l).length:Nat):Int)).toNat (36::ch::36::l))),fD] (.tup [iD 0,fD]):=by
  rw[drop_some (k:=3) (by rw[w0111];rfl) rfl];exact hW
 have f36:(((36::ch::36::l).getD (Int.toNat 0) 0).toNat:Int)=36:=rfl
 have f1:¬ (((36::ch::36::l).length:Nat):Int)≤IntKind.i64.wrap (0+1):=by rw[w01];simp;try omega
 have fe:(36::ch::36::l).getD (IntKind.i64.wrap (0+1)).toNat 0=ch:=by rw[w01];rfl
 have g0:(0:Int)<(((36::ch::36::l).length:Nat):Int):=by simp;try omega
 have hlo:¬ (((36::ch::36::l).getD (IntKind.i64.wrap (0+1)).toNat 0).toNat:Int)<65:=by rw[fe];omega
 have hhi:¬ 90<(((36::ch::36::l).getD (IntKind.i64.wrap (0+1)).toNat 0).toNat:Int):=by rw[fe];omega
 have g1:IntKind.i64.wrap (IntKind.i64.wrap (0+1)+1)<(((36::ch::36::l).length:Nat):Int):=by rw[w011];simp;try omega
 have g2:(((36::ch::36::l).getD (IntKind.i64.wrap (IntKind.i64.wrap (0+1)+1)).toNat 0).toNat:Int)=36:=by rw[w011];rfl
 refine fnP_of_vc (nv:=9999) (cu:=[]) fits mixed Tryz.func140 rfl hoB rfl ?_
 ((repeat' ((conv=>whnf);first|exact .intro|refine .ya ?_|refine .na ?_|refine .ys ?_|refine .ns ?_|refine .neg (fun _=>?_) (fun _=>?_)|refine .mk (fun _=>?_) (fun _=>?_)|refine .inl (.inl (X1 (hW2) ?_))|refine .inl (X1 (hW2) ?_)|refine X1 (hW2) ?_|refine .mk ?_ ?_|refine AK ?_|refine And.intro (by first|(first|assumption|omega|(simp;done)|(simp[w1,w2,w3];done)|(simp[w1,w2,w3];omega);done)|fail) ?_|fail));all_goals conv=>whnf)
 exact rrBad_le
theorem rRef_Bs {l:List UInt8} {ch:UInt8} {n:Int} (hc:65≤ch.toNat∧ch.toNat≤90)  (hl36:l.head?≠some 36) (hW:FnP Tryz.prog gl 139 [.str l,fD] (.tup [iD n,.v (.bool true)])) (hn:1≤n∧n≤99):FnP Tryz.prog gl 140 [.str (36::ch::l)] (.tup [refD ((ch.toNat - 64:Nat):Int) n true false,tD true]):=by
 have hW2:FnP Tryz.prog gl 139 [.str (List.drop ((some (IntKind.i64.wrap (IntKind.i64.wrap (0+1)+1))).getD 0).toNat (List.take ((none:Option Int).getD (((36::ch::l).length:Nat):Int)).toNat (36::ch::l))),fD] (.tup [iD n,.v (.bool true)]):=by
  rw[drop_some (k:=2) (by rw[w011];rfl) rfl];exact hW
 have f36:(((36::ch::l).getD (Int.toNat 0) 0).toNat:Int)=36:=rfl
 have f1:¬ (((36::ch::l).length:Nat):Int)≤IntKind.i64.wrap (0+1):=by rw[w01];simp;try omega
 have fe:(36::ch::l).getD (IntKind.i64.wrap (0+1)).toNat 0=ch:=by rw[w01];rfl
 have g0:(0:Int)<(((36::ch::l).length:Nat):Int):=by simp;try omega
 have hlo:¬ (((36::ch::l).getD (IntKind.i64.wrap (0+1)).toNat 0).toNat:Int)<65:=by rw[fe];omega
 have hhi:¬ 90<(((36::ch::l).getD (IntKind.i64.wrap (0+1)).toNat 0).toNat:Int):=by rw[fe];omega
 have n1:¬ n<1:=by omega
 have n2:¬ 99<n:=by omega
 rcases l with _|⟨c,l⟩
 ·have g1:¬ IntKind.i64.wrap (IntKind.i64.wrap (0+1)+1)<(((36::ch::[]).length:Nat):Int):=by rw[w011];simp
  refine fnP_of_vc (nv:=9999) (cu:=[]) fits mixed Tryz.func140 rfl hoB rfl ?_
  ((repeat' ((conv=>whnf);first|exact .intro|refine .ya ?_|refine .na ?_|refine .ys ?_|refine .ns ?_|refine .neg (fun _=>?_) (fun _=>?_)|refine .mk (fun _=>?_) (fun _=>?_)|refine .inl (.inl (X1 (hW2) ?_))|refine .inl (X1 (hW2) ?_)|refine X1 (hW2) ?_|refine .mk ?_ ?_|refine AK ?_|refine And.intro (by first|(first|assumption|omega|(simp;done)|(simp[w1,w2];done)|(simp[w1,w2,w3];omega);done)|fail) ?_|fail));all_goals conv=>whnf)
  exact rRef_le (by rw[fe,wrapI (n:=(ch.toNat:Int)) (by omega),wrapI (by omega)];omega)
 ·have g1:IntKind.i64.wrap (IntKind.i64.wrap (0+1)+1)<(((36::ch::c::l).length:Nat):Int):=by rw[w011];simp;try omega
  have g2:¬ (((36::ch::c::l).getD (IntKind.i64.wrap (IntKind.i64.wrap (0+1)+1)).toNat 0).toNat:Int)=36:=by rw[w011];exact ne36 (c:=c) fun e=>hl36 (congrArg some e)
  refine fnP_of_vc (nv:=9999) (cu:=[]) fits mixed Tryz.func140 rfl hoB rfl ?_
  ((repeat' ((conv=>whnf);first|exact .intro|refine .ya ?_|refine .na ?_|refine .ys ?_|refine .ns ?_|refine .neg (fun _=>?_) (fun _=>?_)|refine .mk (fun _=>?_) (fun _=>?_)|refine .inl (.inl (X1 (hW2) ?_))|refine .inl (X1 (hW2) ?_)|refine X1 (hW2) ?_|refine .mk ?_ ?_|refine AK ?_|refine And.intro (by first|(first|assumption|omega|(simp;done)|(simp[w1,w2];done)|(simp[w1,w2];omega);done)|fail) ?_|fail));all_goals conv=>whnf)
  exact rRef_le (by rw[fe,wrapI (n:=(ch.toNat:Int)) (by omega),wrapI (by omega)];omega)
theorem rRef_Bn {l:List UInt8} {ch:UInt8} {n:Int} (hc:65≤ch.toNat∧ch.toNat≤90)  (hl36:l.head?≠some 36) (hW:FnP Tryz.prog gl 139 [.str l,fD] (.tup [iD n,.v (.bool true)])) (hn:n<1∨99<n):FnP Tryz.prog gl 140 [.str (36::ch::l)] (rrBad):=by
 have hW2:FnP Tryz.prog gl 139 [.str (List.drop ((some (IntKind.i64.wrap (IntKind.i64.wrap (0+1)+1))).getD 0).toNat (List.take ((none:Option Int).getD (((36::ch::l).length:Nat):Int)).toNat (36::ch::l))),fD] (.tup [iD n,.v (.bool true)]):=by
  rw[drop_some (k:=2) (by rw[w011];rfl) rfl];exact hW
 have f36:(((36::ch::l).getD (Int.toNat 0) 0).toNat:Int)=36:=rfl
 have f1:¬ (((36::ch::l).length:Nat):Int)≤IntKind.i64.wrap (0+1):=by rw[w01];simp;try omega
 have fe:(36::ch::l).getD (IntKind.i64.wrap (0+1)).toNat 0=ch:=by rw[w01];rfl
 have g0:(0:Int)<(((36::ch::l).length:Nat):Int):=by simp;try omega
 have hlo:¬ (((36::ch::l).getD (IntKind.i64.wrap (0+1)).toNat 0).toNat:Int)<65:=by rw[fe];omega
 have hhi:¬ 90<(((36::ch::l).getD (IntKind.i64.wrap (0+1)).toNat 0).toNat:Int):=by rw[fe];omega
 rcases l with _|⟨c,l⟩
 ·have g1:¬ IntKind.i64.wrap (IntKind.i64.wrap (0+1)+1)<(((36::ch::[]).length:Nat):Int):=by rw[w011];simp
  by_cases n1:n<1
  ·refine fnP_of_vc (nv:=9999) (cu:=[]) fits mixed Tryz.func140 rfl hoB rfl ?_
   ((repeat' ((conv=>whnf);first|exact .intro|refine .ya ?_|refine .na ?_|refine .ys ?_|refine .ns ?_|refine .neg (fun _=>?_) (fun _=>?_)|refine .mk (fun _=>?_) (fun _=>?_)|refine .inl (.inl (X1 (hW2) ?_))|refine .inl (X1 (hW2) ?_)|refine X1 (hW2) ?_|refine .mk ?_ ?_|refine AK ?_|refine And.intro (by first|(first|assumption|omega|(simp;done)|(simp[w1,w2];done)|(simp[w1,w2,w3];omega);done)|fail) ?_|fail));all_goals conv=>whnf)
   exact rrBad_le
  ·have n2:99<n:=by omega
   refine fnP_of_vc (nv:=9999) (cu:=[]) fits mixed Tryz.func140 rfl hoB rfl ?_
   ((repeat' ((conv=>whnf);first|exact .intro|refine .ya ?_|refine .na ?_|refine .ys ?_|refine .ns ?_|refine .neg (fun _=>?_) (fun _=>?_)|refine .mk (fun _=>?_) (fun _=>?_)|refine .inl (.inl (X1 (hW2) ?_))|refine .inl (X1 (hW2) ?_)|refine X1 (hW2) ?_|refine .mk ?_ ?_|refine AK ?_|refine And.intro (by first|(first|assumption|omega|(simp;done)|(simp[w1,w2];done)|(simp[w1,w2,w3];omega);done)|fail) ?_|fail));all_goals conv=>whnf)
   exact rrBad_le
 ·have g1:IntKind.i64.wrap (IntKind.i64.wrap (0+1)+1)<(((36::ch::c::l).length:Nat):Int):=by rw[w011];simp;try omega
  have g2:¬ (((36::ch::c::l).getD (IntKind.i64.wrap (IntKind.i64.wrap (0+1)+1)).toNat 0).toNat:Int)=36:=by rw[w011];exact ne36 (c:=c) fun e=>hl36 (congrArg some e)
  by_cases n1:n<1
  ·refine fnP_of_vc (nv:=9999) (cu:=[]) fits mixed Tryz.func140 rfl hoB rfl ?_
   ((repeat' ((conv=>whnf);first|exact .intro|refine .ya ?_|refine .na ?_|refine .ys ?_|refine .ns ?_|refine .neg (fun _=>?_) (fun _=>?_)|refine .mk (fun _=>?_) (fun _=>?_)|refine .inl (.inl (X1 (hW2) ?_))|refine .inl (X1 (hW2) ?_)|refine X1 (hW2) ?_|refine .mk ?_ ?_|refine AK ?_|refine And.intro (by first|(first|assumption|omega|(simp;done)|(simp[w1,w2];done)|(simp[w1,w2];omega);done)|fail) ?_|fail));all_goals conv=>whnf)
   exact rrBad_le
  ·have n2:99<n:=by omega
   refine fnP_of_vc (nv:=9999) (cu:=[]) fits mixed Tryz.func140 rfl hoB rfl ?_
   ((repeat' ((conv=>whnf);first|exact .intro|refine .ya ?_|refine .na ?_|refine .ys ?_|refine .ns ?_|refine .neg (fun _=>?_) (fun _=>?_)|refine .mk (fun _=>?_) (fun _=>?_)|refine .inl (.inl (X1 (hW2) ?_))|refine .inl (X1 (hW2) ?_)|refine X1 (hW2) ?_|refine .mk ?_ ?_|refine AK ?_|refine And.intro (by first|(first|assumption|omega|(simp;done)|(simp[w1,w2];done)|(simp[w1,w2];omega);done)|fail) ?_|fail));all_goals conv=>whnf)
   exact rrBad_le
theorem rRef_Bf {l:List UInt8} {ch:UInt8} (hc:65≤ch.toNat∧ch.toNat≤90)  (hl36:l.head?≠some 36) (hW:FnP Tryz.prog gl 139 [.str l,fD] (.tup [iD 0,fD]))  : FnP Tryz.prog gl 140 [.str (36::ch::l)] (rrBad):=by
 have hW2:FnP Tryz.prog gl 139 [.str (List.drop ((some (IntKind.i64.wrap (IntKind.i64.wrap (0+1)+1))).getD 0).toNat (List.take ((none:Option Int).getD (((36::ch::l).length:Nat):Int)).toNat (36::ch::l))),fD] (.tup [iD 0,fD]):=by
  rw[drop_some (k:=2) (by rw[w011];rfl) rfl];exact hW
 have f36:(((36::ch::l).getD (Int.toNat 0) 0).toNat:Int)=36:=rfl
 have f1:¬ (((36::ch::l).length:Nat):Int)≤IntKind.i64.wrap (0+1):=by rw[w01];simp;try omega
 have fe:(36::ch::l).getD (IntKind.i64.wrap (0+1)).toNat 0=ch:=by rw[w01];rfl
 have g0:(0:Int)<(((36::ch::l).length:Nat):Int):=by simp;try omega
 have hlo:¬ (((36::ch::l).getD (IntKind.i64.wrap (0+1)).toNat 0).toNat:Int)<65:=by rw[fe];omega
 have hhi:¬ 90<(((36::ch::l).getD (IntKind.i64.wrap (0+1)).toNat 0).toNat:Int):=by rw[fe];omega
 rcases l with _|⟨c,l⟩
 ·have g1:¬ IntKind.i64.wrap (IntKind.i64.wrap (0+1)+1)<(((36::ch::[]).length:Nat):Int):=by rw[w011];simp
  refine fnP_of_vc (nv:=9999) (cu:=[]) fits mixed Tryz.func140 rfl hoB rfl ?_
  ((repeat' ((conv=>whnf);first|exact .intro|refine .ya ?_|refine .na ?_|refine .ys ?_|refine .ns ?_|refine .neg (fun _=>?_) (fun _=>?_)|refine .mk (fun _=>?_) (fun _=>?_)|refine .inl (.inl (X1 (hW2) ?_))|refine .inl (X1 (hW2) ?_)|refine X1 (hW2) ?_|refine .mk ?_ ?_|refine AK ?_|refine And.intro (by first|(first|assumption|omega|(simp;done)|(simp[w1,w2];done)|(simp[w1,w2,w3];omega);done)|fail) ?_|fail));all_goals conv=>whnf)
  exact rrBad_le
 ·have g1:IntKind.i64.wrap (IntKind.i64.wrap (0+1)+1)<(((36::ch::c::l).length:Nat):Int):=by rw[w011];simp;try omega
  have g2:¬ (((36::ch::c::l).getD (IntKind.i64.wrap (IntKind.i64.wrap (0+1)+1)).toNat 0).toNat:Int)=36:=by rw[w011];exact ne36 (c:=c) fun e=>hl36 (congrArg some e)
  refine fnP_of_vc (nv:=9999) (cu:=[]) fits mixed Tryz.func140 rfl hoB rfl ?_
  ((repeat' ((conv=>whnf);first|exact .intro|refine .ya ?_|refine .na ?_|refine .ys ?_|refine .ns ?_|refine .neg (fun _=>?_) (fun _=>?_)|refine .mk (fun _=>?_) (fun _=>?_)|refine .inl (.inl (X1 (hW2) ?_))|refine .inl (X1 (hW2) ?_)|refine X1 (hW2) ?_|refine .mk ?_ ?_|refine AK ?_|refine And.intro (by first|(first|assumption|omega|(simp;done)|(simp[w1,w2];done)|(simp[w1,w2];omega);done)|fail) ?_|fail));all_goals conv=>whnf)
  exact rrBad_le
theorem rRef_Cs {l:List UInt8} {ch:UInt8} {n:Int} (hc:65≤ch.toNat∧ch.toNat≤90) (h36:ch≠36)  (hW:FnP Tryz.prog gl 139 [.str l,fD] (.tup [iD n,.v (.bool true)])) (hn:1≤n∧n≤99):FnP Tryz.prog gl 140 [.str (ch::36::l)] (.tup [refD ((ch.toNat - 64:Nat):Int) n false true,tD true]):=by
 have hW2:FnP Tryz.prog gl 139 [.str (List.drop ((some (IntKind.i64.wrap (IntKind.i64.wrap (0+1)+1))).getD 0).toNat (List.take ((none:Option Int).getD (((ch::36::l).length:Nat):Int)).toNat (ch::36::l))),fD] (.tup [iD n,.v (.bool true)]):=by
  rw[drop_some (k:=2) (by rw[w011];rfl) rfl];exact hW
 have f0:¬ (((ch::36::l).getD (Int.toNat 0) 0).toNat:Int)=36:=ne36 h36
 have f1:¬ (((ch::36::l).length:Nat):Int)≤0:=by simp;try omega
 have fe:(ch::36::l).getD (Int.toNat 0) 0=ch:=rfl
 have g0:(0:Int)<(((ch::36::l).length:Nat):Int):=by simp;try omega
 have hlo:¬ (((ch::36::l).getD (Int.toNat 0) 0).toNat:Int)<65:=by rw[fe];omega
 have hhi:¬ 90<(((ch::36::l).getD (Int.toNat 0) 0).toNat:Int):=by rw[fe];omega
 have n1:¬ n<1:=by omega
 have n2:¬ 99<n:=by omega
 have g1:IntKind.i64.wrap (0+1)<(((ch::36::l).length:Nat):Int):=by rw[w01];simp;try omega
 have g2:(((ch::36::l).getD (IntKind.i64.wrap (0+1)).toNat 0).toNat:Int)=36:=by rw[w01];rfl
 refine fnP_of_vc (nv:=9999) (cu:=[]) fits mixed Tryz.func140 rfl hoB rfl ?_
 ((repeat' ((conv=>whnf);first|exact .intro|refine .ya ?_|refine .na ?_|refine .ys ?_|refine .ns ?_|refine .neg (fun _=>?_) (fun _=>?_)|refine .mk (fun _=>?_) (fun _=>?_)|refine .inl (.inl (X1 (hW2) ?_))|refine .inl (X1 (hW2) ?_)|refine X1 (hW2) ?_|refine .mk ?_ ?_|refine AK ?_|refine And.intro (by first|(first|assumption|omega|(simp;done)|(simp[w1,w2];done)|(simp[w1,w2];omega);done)|fail) ?_|fail));all_goals conv=>whnf)
 exact rRef_le (by rw[fe,wrapI (n:=(ch.toNat:Int)) (by omega),wrapI (by omega)];omega)
theorem rRef_Cn {l:List UInt8} {ch:UInt8} {n:Int} (hc:65≤ch.toNat∧ch.toNat≤90) (h36:ch≠36)  (hW:FnP Tryz.prog gl 139 [.str l,fD] (.tup [iD n,.v (.bool true)])) (hn:n<1∨99<n):FnP Tryz.prog gl 140 [.str (ch::36::l)] (rrBad):=by
 have hW2:FnP Tryz.prog gl 139 [.str (List.drop ((some (IntKind.i64.wrap (IntKind.i64.wrap (0+1)+1))).getD 0).toNat (List.take ((none:Option Int).getD (((ch::36::l).length:Nat):Int)).toNat (ch::36::l))),fD] (.tup [iD n,.v (.bool true)]):=by
  rw[drop_some (k:=2) (by rw[w011];rfl) rfl];exact hW
 have f0:¬ (((ch::36::l).getD (Int.toNat 0) 0).toNat:Int)=36:=ne36 h36
 have f1:¬ (((ch::36::l).length:Nat):Int)≤0:=by simp;try omega
 have fe:(ch::36::l).getD (Int.toNat 0) 0=ch:=rfl
 have g0:(0:Int)<(((ch::36::l).length:Nat):Int):=by simp;try omega
 have hlo:¬ (((ch::36::l).getD (Int.toNat 0) 0).toNat:Int)<65:=by rw[fe];omega
 have hhi:¬ 90<(((ch::36::l).getD (Int.toNat 0) 0).toNat:Int):=by rw[fe];omega
 have g1:IntKind.i64.wrap (0+1)<(((ch::36::l).length:Nat):Int):=by rw[w01];simp;try omega
 have g2:(((ch::36::l).getD (IntKind.i64.wrap (0+1)).toNat 0).toNat:Int)=36:=by rw[w01];rfl
 by_cases n1:n<1
 ·refine fnP_of_vc (nv:=9999) (cu:=[]) fits mixed Tryz.func140 rfl hoB rfl ?_
  ((repeat' ((conv=>whnf);first|exact .intro|refine .ya ?_|refine .na ?_|refine .ys ?_|refine .ns ?_|refine .neg (fun _=>?_) (fun _=>?_)|refine .mk (fun _=>?_) (fun _=>?_)|refine .inl (.inl (X1 (hW2) ?_))|refine .inl (X1 (hW2) ?_)|refine X1 (hW2) ?_|refine .mk ?_ ?_|refine AK ?_|refine And.intro (by first|(first|assumption|omega|(simp;done)|(simp[w1,w2];done)|(simp[w1,w2];omega);done)|fail) ?_|fail));all_goals conv=>whnf)
  exact rrBad_le
 ·have n2:99<n:=by omega
  refine fnP_of_vc (nv:=9999) (cu:=[]) fits mixed Tryz.func140 rfl hoB rfl ?_
  ((repeat' ((conv=>whnf);first|exact .intro|refine .ya ?_|refine .na ?_|refine .ys ?_|refine .ns ?_|refine .neg (fun _=>?_) (fun _=>?_)|refine .mk (fun _=>?_) (fun _=>?_)|refine .inl (.inl (X1 (hW2) ?_))|refine .inl (X1 (hW2) ?_)|refine X1 (hW2) ?_|refine .mk ?_ ?_|refine AK ?_|refine And.intro (by first|(first|assumption|omega|(simp;done)|(simp[w1,w2];done)|(simp[w1,w2];omega);done)|fail) ?_|fail));all_goals conv=>whnf)
  exact rrBad_le
theorem rRef_Cf {l:List UInt8} {ch:UInt8} (hc:65≤ch.toNat∧ch.toNat≤90) (h36:ch≠36)  (hW:FnP Tryz.prog gl 139 [.str l,fD] (.tup [iD 0,fD]))  : FnP Tryz.prog gl 140 [.str (ch::36::l)] (rrBad):=by
 have hW2:FnP Tryz.prog gl 139 [.str (List.drop ((some (IntKind.i64.wrap (IntKind.i64.wrap (0+1)+1))).getD 0).toNat (List.take ((none:Option Int).getD (((ch::36::l).length:Nat):Int)).toNat (ch::36::l))),fD] (.tup [iD 0,fD]):=by
  rw[drop_some (k:=2) (by rw[w011];rfl) rfl];exact hW
 have f0:¬ (((ch::36::l).getD (Int.toNat 0) 0).toNat:Int)=36:=ne36 h36
 have f1:¬ (((ch::36::l).length:Nat):Int)≤0:=by simp;try omega
 have fe:(ch::36::l).getD (Int.toNat 0) 0=ch:=rfl
 have g0:(0:Int)<(((ch::36::l).length:Nat):Int):=by simp;try omega
 have hlo:¬ (((ch::36::l).getD (Int.toNat 0) 0).toNat:Int)<65:=by rw[fe];omega
 have hhi:¬ 90<(((ch::36::l).getD (Int.toNat 0) 0).toNat:Int):=by rw[fe];omega
 have g1:IntKind.i64.wrap (0+1)<(((ch::36::l).length:Nat):Int):=by rw[w01];simp;try omega
 have g2:(((ch::36::l).getD (IntKind.i64.wrap (0+1)).toNat 0).toNat:Int)=36:=by rw[w01];rfl
 refine fnP_of_vc (nv:=9999) (cu:=[]) fits mixed Tryz.func140 rfl hoB rfl ?_
 ((repeat' ((conv=>whnf);first|exact .intro|refine .ya ?_|refine .na ?_|refine .ys ?_|refine .ns ?_|refine .neg (fun _=>?_) (fun _=>?_)|refine .mk (fun _=>?_) (fun _=>?_)|refine .inl (.inl (X1 (hW2) ?_))|refine .inl (X1 (hW2) ?_)|refine X1 (hW2) ?_|refine .mk ?_ ?_|refine AK ?_|refine And.intro (by first|(first|assumption|omega|(simp;done)|(simp[w1,w2];done)|(simp[w1,w2];omega);done)|fail) ?_|fail));all_goals conv=>whnf)
 exact rrBad_le
theorem rRef_Ds {l:List UInt8} {ch:UInt8} {n:Int} (hc:65≤ch.toNat∧ch.toNat≤90) (h36:ch≠36) (hl36:l.head?≠some 36) (hW:FnP Tryz.prog gl 139 [.str l,fD] (.tup [iD n,.v (.bool true)])) (hn:1≤n∧n≤99):FnP Tryz.prog gl 140 [.str (ch::l)] (.tup [refD ((ch.toNat - 64:Nat):Int) n false false,tD true]):=by
 have hW2:FnP Tryz.prog gl 139 [.str (List.drop ((some (IntKind.i64.wrap (0+1))).getD 0).toNat (List.take ((none:Option Int).getD (((ch::l).length:Nat):Int)).toNat (ch::l))),fD] (.tup [iD n,.v (.bool true)]):=by
  rw[drop_some (k:=1) (by rw[w01];rfl) rfl];exact hW
 have f0:¬ (((ch::l).getD (Int.toNat 0) 0).toNat:Int)=36:=ne36 h36
 have f1:¬ (((ch::l).length:Nat):Int)≤0:=by simp;try omega
 have fe:(ch::l).getD (Int.toNat 0) 0=ch:=rfl
 have g0:(0:Int)<(((ch::l).length:Nat):Int):=by simp;try omega
 have hlo:¬ (((ch::l).getD (Int.toNat 0) 0).toNat:Int)<65:=by rw[fe];omega
 have hhi:¬ 90<(((ch::l).getD (Int.toNat 0) 0).toNat:Int):=by rw[fe];omega
 have n1:¬ n<1:=by omega
 have n2:¬ 99<n:=by omega
 rcases l with _|⟨c,l⟩
 ·have g1:¬ IntKind.i64.wrap (0+1)<(((ch::[]).length:Nat):Int):=by rw[w01];simp
  refine fnP_of_vc (nv:=9999) (cu:=[]) fits mixed Tryz.func140 rfl hoB rfl ?_
  ((repeat' ((conv=>whnf);first|exact .intro|refine .ya ?_|refine .na ?_|refine .ys ?_|refine .ns ?_|refine .neg (fun _=>?_) (fun _=>?_)|refine .mk (fun _=>?_) (fun _=>?_)|refine .inl (.inl (X1 (hW2) ?_))|refine .inl (X1 (hW2) ?_)|refine X1 (hW2) ?_|refine .mk ?_ ?_|refine AK ?_|refine And.intro (by first|(first|assumption|omega|(simp;done)|(simp[w1];done)|(simp[w1,w2,w3];omega);done)|fail) ?_|fail));all_goals conv=>whnf)
  exact rRef_le (by rw[fe,wrapI (n:=(ch.toNat:Int)) (by omega),wrapI (by omega)];omega)
 ·have g1:IntKind.i64.wrap (0+1)<(((ch::c::l).length:Nat):Int):=by rw[w01];simp;try omega
  have g2:¬ (((ch::c::l).getD (IntKind.i64.wrap (0+1)).toNat 0).toNat:Int)=36:=by rw[w01];exact ne36 (c:=c) fun e=>hl36 (congrArg some e)
  refine fnP_of_vc (nv:=9999) (cu:=[]) fits mixed Tryz.func140 rfl hoB rfl ?_
  ((repeat' ((conv=>whnf);first|exact .intro|refine .ya ?_|refine .na ?_|refine .ys ?_|refine .ns ?_|refine .neg (fun _=>?_) (fun _=>?_)|refine .mk (fun _=>?_) (fun _=>?_)|refine .inl (.inl (X1 (hW2) ?_))|refine .inl (X1 (hW2) ?_)|refine X1 (hW2) ?_|refine .mk ?_ ?_|refine AK ?_|refine And.intro (by first|(first|assumption|omega|(simp;done)|(simp[w1];done)|(simp[w1];omega);done)|fail) ?_|fail));all_goals conv=>whnf)
  exact rRef_le (by rw[fe,wrapI (n:=(ch.toNat:Int)) (by omega),wrapI (by omega)];omega)
theorem rRef_Dn {l:List UInt8} {ch:UInt8} {n:Int} (hc:65≤ch.toNat∧ch.toNat≤90) (h36:ch≠36) (hl36:l.head?≠some 36) (hW:FnP Tryz.prog gl 139 [.str l,fD] (.tup [iD n,.v (.bool true)])) (hn:n<1∨99<n):FnP Tryz.prog gl 140 [.str (ch::l)] (rrBad):=by
 have hW2:FnP Tryz.prog gl 139 [.str (List.drop ((some (IntKind.i64.wrap (0+1))).getD 0).toNat (List.take ((none:Option Int).getD (((ch::l).length:Nat):Int)).toNat (ch::l))),fD] (.tup [iD n,.v (.bool true)]):=by
  rw[drop_some (k:=1) (by rw[w01];rfl) rfl];exact hW
 have f0:¬ (((ch::l).getD (Int.toNat 0) 0).toNat:Int)=36:=ne36 h36
 have f1:¬ (((ch::l).length:Nat):Int)≤0:=by simp;try omega
 have fe:(ch::l).getD (Int.toNat 0) 0=ch:=rfl
 have g0:(0:Int)<(((ch::l).length:Nat):Int):=by simp;try omega
 have hlo:¬ (((ch::l).getD (Int.toNat 0) 0).toNat:Int)<65:=by rw[fe];omega
 have hhi:¬ 90<(((ch::l).getD (Int.toNat 0) 0).toNat:Int):=by rw[fe];omega
 rcases l with _|⟨c,l⟩
 ·have g1:¬ IntKind.i64.wrap (0+1)<(((ch::[]).length:Nat):Int):=by rw[w01];simp
  by_cases n1:n<1
  ·refine fnP_of_vc (nv:=9999) (cu:=[]) fits mixed Tryz.func140 rfl hoB rfl ?_
   ((repeat' ((conv=>whnf);first|exact .intro|refine .ya ?_|refine .na ?_|refine .ys ?_|refine .ns ?_|refine .neg (fun _=>?_) (fun _=>?_)|refine .mk (fun _=>?_) (fun _=>?_)|refine .inl (.inl (X1 (hW2) ?_))|refine .inl (X1 (hW2) ?_)|refine X1 (hW2) ?_|refine .mk ?_ ?_|refine AK ?_|refine And.intro (by first|(first|assumption|omega|(simp;done)|(simp[w1];done)|(simp[w1,w2,w3];omega);done)|fail) ?_|fail));all_goals conv=>whnf)
   exact rrBad_le
  ·have n2:99<n:=by omega
   refine fnP_of_vc (nv:=9999) (cu:=[]) fits mixed Tryz.func140 rfl hoB rfl ?_
   ((repeat' ((conv=>whnf);first|exact .intro|refine .ya ?_|refine .na ?_|refine .ys ?_|refine .ns ?_|refine .neg (fun _=>?_) (fun _=>?_)|refine .mk (fun _=>?_) (fun _=>?_)|refine .inl (.inl (X1 (hW2) ?_))|refine .inl (X1 (hW2) ?_)|refine X1 (hW2) ?_|refine .mk ?_ ?_|refine AK ?_|refine And.intro (by first|(first|assumption|omega|(simp;done)|(simp[w1];done)|(simp[w1,w2,w3];omega);done)|fail) ?_|fail));all_goals conv=>whnf)
   exact rrBad_le
 ·have g1:IntKind.i64.wrap (0+1)<(((ch::c::l).length:Nat):Int):=by rw[w01];simp;try omega
  have g2:¬ (((ch::c::l).getD (IntKind.i64.wrap (0+1)).toNat 0).toNat:Int)=36:=by rw[w01];exact ne36 (c:=c) fun e=>hl36 (congrArg some e)
  by_cases n1:n<1
  ·refine fnP_of_vc (nv:=9999) (cu:=[]) fits mixed Tryz.func140 rfl hoB rfl ?_
   ((repeat' ((conv=>whnf);first|exact .intro|refine .ya ?_|refine .na ?_|refine .ys ?_|refine .ns ?_|refine .neg (fun _=>?_) (fun _=>?_)|refine .mk (fun _=>?_) (fun _=>?_)|refine .inl (.inl (X1 (hW2) ?_))|refine .inl (X1 (hW2) ?_)|refine X1 (hW2) ?_|refine .mk ?_ ?_|refine AK ?_|refine And.intro (by first|(first|assumption|omega|(simp;done)|(simp[w1];done)|(simp[w1];omega);done)|fail) ?_|fail));all_goals conv=>whnf)
   exact rrBad_le
  ·have n2:99<n:=by omega
   refine fnP_of_vc (nv:=9999) (cu:=[]) fits mixed Tryz.func140 rfl hoB rfl ?_
   ((repeat' ((conv=>whnf);first|exact .intro|refine .ya ?_|refine .na ?_|refine .ys ?_|refine .ns ?_|refine .neg (fun _=>?_) (fun _=>?_)|refine .mk (fun _=>?_) (fun _=>?_)|refine .inl (.inl (X1 (hW2) ?_))|refine .inl (X1 (hW2) ?_)|refine X1 (hW2) ?_|refine .mk ?_ ?_|refine AK ?_|refine And.intro (by first|(first|assumption|omega|(simp;done)|(simp[w1];done)|(simp[w1];omega);done)|fail) ?_|fail));all_goals conv=>whnf)
   exact rrBad_le
theorem rRef_Df {l:List UInt8} {ch:UInt8} (hc:65≤ch.toNat∧ch.toNat≤90) (h36:ch≠36) (hl36:l.head?≠some 36) (hW:FnP Tryz.prog gl 139 [.str l,fD] (.tup [iD 0,fD]))  : FnP Tryz.prog gl 140 [.str (ch::l)] (rrBad):=by
 have hW2:FnP Tryz.prog gl 139 [.str (List.drop ((some (IntKind.i64.wrap (0+1))).getD 0).toNat (List.take ((none:Option Int).getD (((ch::l).length:Nat):Int)).toNat (ch::l))),fD] (.tup [iD 0,fD]):=by
  rw[drop_some (k:=1) (by rw[w01];rfl) rfl];exact hW
 have f0:¬ (((ch::l).getD (Int.toNat 0) 0).toNat:Int)=36:=ne36 h36
 have f1:¬ (((ch::l).length:Nat):Int)≤0:=by simp;try omega
 have fe:(ch::l).getD (Int.toNat 0) 0=ch:=rfl
 have g0:(0:Int)<(((ch::l).length:Nat):Int):=by simp;try omega
 have hlo:¬ (((ch::l).getD (Int.toNat 0) 0).toNat:Int)<65:=by rw[fe];omega
 have hhi:¬ 90<(((ch::l).getD (Int.toNat 0) 0).toNat:Int):=by rw[fe];omega
 rcases l with _|⟨c,l⟩
 ·have g1:¬ IntKind.i64.wrap (0+1)<(((ch::[]).length:Nat):Int):=by rw[w01];simp
  refine fnP_of_vc (nv:=9999) (cu:=[]) fits mixed Tryz.func140 rfl hoB rfl ?_
  ((repeat' ((conv=>whnf);first|exact .intro|refine .ya ?_|refine .na ?_|refine .ys ?_|refine .ns ?_|refine .neg (fun _=>?_) (fun _=>?_)|refine .mk (fun _=>?_) (fun _=>?_)|refine .inl (.inl (X1 (hW2) ?_))|refine .inl (X1 (hW2) ?_)|refine X1 (hW2) ?_|refine .mk ?_ ?_|refine AK ?_|refine And.intro (by first|(first|assumption|omega|(simp;done)|(simp[w1];done)|(simp[w1,w2,w3];omega);done)|fail) ?_|fail));all_goals conv=>whnf)
  exact rrBad_le
 ·have g1:IntKind.i64.wrap (0+1)<(((ch::c::l).length:Nat):Int):=by rw[w01];simp;try omega
  have g2:¬ (((ch::c::l).getD (IntKind.i64.wrap (0+1)).toNat 0).toNat:Int)=36:=by rw[w01];exact ne36 (c:=c) fun e=>hl36 (congrArg some e)
  refine fnP_of_vc (nv:=9999) (cu:=[]) fits mixed Tryz.func140 rfl hoB rfl ?_
  ((repeat' ((conv=>whnf);first|exact .intro|refine .ya ?_|refine .na ?_|refine .ys ?_|refine .ns ?_|refine .neg (fun _=>?_) (fun _=>?_)|refine .mk (fun _=>?_) (fun _=>?_)|refine .inl (.inl (X1 (hW2) ?_))|refine .inl (X1 (hW2) ?_)|refine X1 (hW2) ?_|refine .mk ?_ ?_|refine AK ?_|refine And.intro (by first|(first|assumption|omega|(simp;done)|(simp[w1];done)|(simp[w1];omega);done)|fail) ?_|fail));all_goals conv=>whnf)
  exact rrBad_le
end Go.Proofs.YtdpigpahfiachaaGreatDoor
end
