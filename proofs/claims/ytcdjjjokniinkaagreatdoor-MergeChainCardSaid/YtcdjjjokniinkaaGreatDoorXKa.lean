/- Proved: a part of what the law is proved with (the reckoner, contracts of functions, plain laws). Conditions: as each says. -/
import Derived.Test.YtcdjjjokniinkaaGreatDoorXGb
import Derived.Test.YtcdjjjokniinkaaGreatDoorXGe
import Derived.Test.YtcdjjjokniinkaaGreatDoorXSf
section
namespace Go.Proofs.YtcdjjjokniinkaaGreatDoor
open Go Go.EYtcdjjjokniinkaaGreatDoor
set_option maxRecDepth 100000
variable {gl:List (Nat×List D)}
abbrev AZ:List UInt8:=[65,66,67,68,69,70,71,72,73,74,75,76,77,78,79,80,81,82,83,84,85,86,87,88,89,90]
theorem TrimAZ_d (s:List UInt8) (hs:s.length≤9223372036854775807):FnP Tryz.prog gl 146 [.str s,.str AZ] (.str (Lib.trimS s AZ)) :=
 FnP.of_below (xs:=[.string ⟨s.toArray⟩,.string ⟨AZ.toArray⟩]) (v:=.string ⟨(Lib.trimS s AZ).toArray⟩) hoB (fun M w ys hd=>str2 hd) (fun _ _=>.str _) (fun M w hg=>by
  have h:=Any.strings_Trim_laid Tryz.lays160 (by kernel_rfl) ⟨s.toArray⟩ ⟨AZ.toArray⟩ w (by simpa[ByteArray.size] using hs) (by decide) (ascii_of_all (by decide))
  refine h.mono ?_
  rintro e w' ⟨rfl,hb⟩
  exact ⟨rfl,hb⟩)
def clZ (s:List UInt8):Bool:=decide (2≤s.length) && decide (s.length≤10) && s.all fun c=>decide (65≤c.toNat) && decide (c.toNat≤90)
theorem azTab:∀ k:Fin 256,AZ.contains (UInt8.ofNat k.val)=(decide (65≤k.val) && decide (k.val≤90)):=by decide
theorem az_contains (c:UInt8):AZ.contains c=(decide (65≤c.toNat) && decide (c.toNat≤90)):=by
 have h:=azTab ⟨c.toNat,c.toNat_lt⟩
 simpa using h
theorem clZ_iff (s:List UInt8):clZ s=true↔2≤s.length∧s.length≤10∧Lib.trimS s AZ=[]:=by
 unfold clZ
 rw[trimS_nil]
 simp only[Bool.and_eq_true,decide_eq_true_eq,List.all_eq_true,az_contains,and_assoc]
theorem called_y {s:List UInt8} (hs:s.length≤200) (h:clZ s=true):FnP Tryz.prog gl 113 [.str s] (.v (.bool true)):=by
 obtain ⟨h1,h2,h3⟩:=(clZ_iff s).1 h
 have c1:=TrimAZ_d (gl:=gl) s (by omega)
 rw[h3] at c1
 have h1':(s.length:Int)≥2:=by omega
 have h2':(s.length:Int)≤10:=by omega
 refine fnP_of_vc (nv:=9999) (cu:=[]) fits mixed Tryz.func113 rfl hoB rfl ?_
 ((repeat' ((conv=>whnf);first|exact .intro|refine .ya ?_|refine .na ?_|refine .ys ?_|refine .ns ?_|refine .neg (fun _=>?_) (fun _=>?_)|refine .mk (fun _=>?_) (fun _=>?_)|refine .inl (.inl (X1 (c1) ?_))|refine .inl (X1 (c1) ?_)|refine X1 (c1) ?_|refine .mk ?_ ?_|refine AK ?_|refine AT ?_|fail));all_goals conv=>whnf)
 all_goals first|exact LeD.rfl|exact LeD.vt rfl|exact LeD.vt (by simp)
theorem called_n {s:List UInt8} (hs:s.length≤200) (h:clZ s=false):FnP Tryz.prog gl 113 [.str s] (.v (.bool false)):=by
 have h':¬ (2≤s.length∧s.length≤10∧Lib.trimS s AZ=[]):=fun hh=>by rw[(clZ_iff s).2 hh] at h;cases h
 have c1:=TrimAZ_d (gl:=gl) s (by omega)
 by_cases h1:(s.length:Int)≥2
 ·by_cases h2:(s.length:Int)≤10
  ·have h3:¬ Lib.trimS s AZ=[]:=fun e=>h' ⟨by omega,by omega,e⟩
   generalize Lib.trimS s AZ=t at *
   refine fnP_of_vc (nv:=9999) (cu:=[]) fits mixed Tryz.func113 rfl hoB rfl ?_
   ((repeat' ((conv=>whnf);first|exact .intro|refine .ya ?_|refine .na ?_|refine .ys ?_|refine .ns ?_|refine .neg (fun _=>?_) (fun _=>?_)|refine .mk (fun _=>?_) (fun _=>?_)|refine .inl (.inl (X1 (c1) ?_))|refine .inl (X1 (c1) ?_)|refine X1 (c1) ?_|refine .mk ?_ ?_|refine AK ?_|refine AT ?_|fail));all_goals conv=>whnf)
   all_goals first|exact LeD.rfl|exact LeD.vf h3|exact LeD.vf (by omega)
  ·refine fnP_of_vc (nv:=9999) (cu:=[]) fits mixed Tryz.func113 rfl hoB rfl ?_
   ((repeat' ((conv=>whnf);first|exact .intro|refine .ya ?_|refine .na ?_|refine .ys ?_|refine .ns ?_|refine .neg (fun _=>?_) (fun _=>?_)|refine .mk (fun _=>?_) (fun _=>?_)|refine .inl (.inl (X1 (c1) ?_))|refine .inl (X1 (c1) ?_)|refine X1 (c1) ?_|refine .mk ?_ ?_|refine AK ?_|refine AT ?_|fail));all_goals conv=>whnf)
   all_goals first|exact LeD.rfl|exact LeD.vf (by omega)
 ·refine fnP_of_vc (nv:=9999) (cu:=[]) fits mixed Tryz.func113 rfl hoB rfl ?_
  ((repeat' ((conv=>whnf);first|exact .intro|refine .ya ?_|refine .na ?_|refine .ys ?_|refine .ns ?_|refine .neg (fun _=>?_) (fun _=>?_)|refine .mk (fun _=>?_) (fun _=>?_)|refine .inl (.inl (X1 (c1) ?_))|refine .inl (X1 (c1) ?_)|refine X1 (c1) ?_|refine .mk ?_ ?_|refine AK ?_|refine AT ?_|fail));all_goals conv=>whnf)
  all_goals first|exact LeD.rfl|exact LeD.vf (by omega)
abbrev rpB:Blk:=.var [.ptr 0 0] 119
theorem within_1 {s:List UInt8} {i j d p g:Nat} (hd:d<30) {n:Nd} (hg:Go.EYtcdjjjokniinkaaGreatDoor.Fn Tryz.prog gl g [.c (.ptr 1 0)] [(0,rdB s i (d+1)),(1,rpB)] 2 (.ret (.agg (ndC n))) [(0,rdB s j (d+1)),(1,rpB)] 2 []) :
 Go.EYtcdjjjokniinkaaGreatDoor.Fn Tryz.prog gl 128 [.c (.ptr 0 0),.c (.d (iD (p:Int))),.c (.fn g [(1,0)])] [(0,rdB s i d),(1,rpB)] 2 (.ret (.agg (ndC n))) [(0,rdB s j d),(1,rpB)] 2 []:=by
 obtain ⟨k,m,t,a,b,ks⟩:=n
 have h30:¬ ((d:Nat):Int)=30:=by omega
 have e1:IntKind.i64.wrap (((d:Nat):Int)+1)=((d+1:Nat):Int):=by rw[wrapI (by omega)];rfl
 refine fn_of_vc (nv:=9999) (cu:=[]) fits mixed Tryz.func128 rfl hoB rfl rfl rfl rfl ?_
 ((repeat' ((conv=>whnf);first|exact .intro|refine .ya ?_|refine .na ?_|refine .ys ?_|refine .ns ?_|refine .neg (fun _=>?_) (fun _=>?_)|refine .mk (fun _=>?_) (fun _=>?_)|refine .inr (X5 (hg.r [0,1] _) ?_)|refine .inl (.inr (X5 (hg.r [0,1] _) ?_))|refine .inl (X5 (hg.r [0,1] _) ?_)|(rw[e1])|refine .mk ?_ ?_|refine AK ?_|refine AT ?_|fail));all_goals conv=>whnf)
 ((repeat' first|exact rfl|((conv=>whnf);first|done|exact suL|refine And.intro ?_ ?_|fail));all_goals conv=>whnf)
 exact ceq (by rw[wrapI (by omega)];omega)
theorem within_1n {s:List UInt8} {i d p g q:Nat} {e:Int} (hd:d<30) (hg:Go.EYtcdjjjokniinkaaGreatDoor.Fn Tryz.prog gl g [.c (.ptr 1 0)] [(0,rdB s i (d+1)),(1,rpB)] 2 (.panic (.d (fltD q e))) [] 2 []) :
 Go.EYtcdjjjokniinkaaGreatDoor.Fn Tryz.prog gl 128 [.c (.ptr 0 0),.c (.d (iD (p:Int))),.c (.fn g [(1,0)])] [(0,rdB s i d),(1,rpB)] 2 (.panic (.d (fltD q e))) [] 2 []:=by
 have h30:¬ ((d:Nat):Int)=30:=by omega
 have e1:IntKind.i64.wrap (((d:Nat):Int)+1)=((d+1:Nat):Int):=by rw[wrapI (by omega)];rfl
 refine fn_of_vc (nv:=9999) (cu:=[]) fits mixed Tryz.func128 rfl hoB rfl rfl rfl rfl ?_
 ((repeat' ((conv=>whnf);first|exact .intro|refine .ya ?_|refine .na ?_|refine .ys ?_|refine .ns ?_|refine .neg (fun _=>?_) (fun _=>?_)|refine .mk (fun _=>?_) (fun _=>?_)|refine .inr (X5 (hg.r [0,1] _) ?_)|refine .inl (.inr (X5 (hg.r [0,1] _) ?_))|refine .inl (X5 (hg.r [0,1] _) ?_)|(rw[e1])|refine .mk ?_ ?_|refine AK ?_|refine AT ?_|fail));all_goals conv=>whnf)
 ((repeat' first|exact rfl|((conv=>whnf);first|done|exact suL|refine And.intro ?_ ?_|fail));all_goals conv=>whnf)
abbrev txB (w:List UInt8):Blk:=.var [.d (.str w)] 9
theorem within_2 {s w:List UInt8} {i j d p g:Nat} (hd:d<30) {n:Nd} (hg:Go.EYtcdjjjokniinkaaGreatDoor.Fn Tryz.prog gl g [.c (.ptr 1 0),.c (.ptr 2 0)] [(0,rdB s i (d+1)),(1,rpB),(2,txB w)] 3 (.ret (.agg (ndC n))) [(0,rdB s j (d+1)),(1,rpB),(2,txB w)] 3 []) :
 Go.EYtcdjjjokniinkaaGreatDoor.Fn Tryz.prog gl 128 [.c (.ptr 0 0),.c (.d (iD (p:Int))),.c (.fn g [(1,0),(2,0)])] [(0,rdB s i d),(1,rpB),(2,txB w)] 3 (.ret (.agg (ndC n))) [(0,rdB s j d),(1,rpB),(2,txB w)] 3 []:=by
 obtain ⟨k,m,t,a,b,ks⟩:=n
 have h30:¬ ((d:Nat):Int)=30:=by omega
 have e1:IntKind.i64.wrap (((d:Nat):Int)+1)=((d+1:Nat):Int):=by rw[wrapI (by omega)];rfl
 refine fn_of_vc (nv:=9999) (cu:=[]) fits mixed Tryz.func128 rfl hoB rfl rfl rfl rfl ?_
 ((repeat' ((conv=>whnf);first|exact .intro|refine .ya ?_|refine .na ?_|refine .ys ?_|refine .ns ?_|refine .neg (fun _=>?_) (fun _=>?_)|refine .mk (fun _=>?_) (fun _=>?_)|refine .inr (X5 (hg.r [0,1,2] _) ?_)|refine .inl (.inr (X5 (hg.r [0,1,2] _) ?_))|refine .inl (X5 (hg.r [0,1,2] _) ?_)|(rw[e1])|refine .mk ?_ ?_|refine AK ?_|refine AT ?_|fail));all_goals conv=>whnf)
 ((repeat' first|exact rfl|((conv=>whnf);first|done|exact suL|refine And.intro ?_ ?_|fail));all_goals conv=>whnf)
 exact ceq (by rw[wrapI (by omega)];omega)
theorem within_2n {s w:List UInt8} {i d p g q:Nat} {e:Int} (hd:d<30) (hg:Go.EYtcdjjjokniinkaaGreatDoor.Fn Tryz.prog gl g [.c (.ptr 1 0),.c (.ptr 2 0)] [(0,rdB s i (d+1)),(1,rpB),(2,txB w)] 3 (.panic (.d (fltD q e))) [] 3 []) :
 Go.EYtcdjjjokniinkaaGreatDoor.Fn Tryz.prog gl 128 [.c (.ptr 0 0),.c (.d (iD (p:Int))),.c (.fn g [(1,0),(2,0)])] [(0,rdB s i d),(1,rpB),(2,txB w)] 3 (.panic (.d (fltD q e))) [] 3 []:=by
 have h30:¬ ((d:Nat):Int)=30:=by omega
 have e1:IntKind.i64.wrap (((d:Nat):Int)+1)=((d+1:Nat):Int):=by rw[wrapI (by omega)];rfl
 refine fn_of_vc (nv:=9999) (cu:=[]) fits mixed Tryz.func128 rfl hoB rfl rfl rfl rfl ?_
 ((repeat' ((conv=>whnf);first|exact .intro|refine .ya ?_|refine .na ?_|refine .ys ?_|refine .ns ?_|refine .neg (fun _=>?_) (fun _=>?_)|refine .mk (fun _=>?_) (fun _=>?_)|refine .inr (X5 (hg.r [0,1,2] _) ?_)|refine .inl (.inr (X5 (hg.r [0,1,2] _) ?_))|refine .inl (X5 (hg.r [0,1,2] _) ?_)|(rw[e1])|refine .mk ?_ ?_|refine AK ?_|refine AT ?_|fail));all_goals conv=>whnf)
 ((repeat' first|exact rfl|((conv=>whnf);first|done|exact suL|refine And.intro ?_ ?_|fail));all_goals conv=>whnf)
end Go.Proofs.YtcdjjjokniinkaaGreatDoor
end
section
namespace Go.Proofs.YtcdjjjokniinkaaGreatDoor
open Go Go.EYtcdjjjokniinkaaGreatDoor
open Go
open Go
section
variable {m:Int} {t:List UInt8} {a b:Rf} {ks:List Nd} {box:Prop}
end
open Go
open Go
mutual
def okN:Nd→Prop
 | .mk _ m t _ _ ks=>okI m∧t.length≤1048576∧okL ks
def okL:List Nd→Prop
 | []=>True
 | x::r=>okN x∧okL r
end
end Go.Proofs.YtcdjjjokniinkaaGreatDoor
end
