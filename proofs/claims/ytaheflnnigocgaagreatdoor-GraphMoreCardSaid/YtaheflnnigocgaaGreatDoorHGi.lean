/- Proved: a part of what the law is proved with (the reckoner, contracts of functions, plain laws). Conditions: as each says. -/
import Derived.Test.YtaheflnnigocgaaGreatDoorHGd
section
namespace Go.Proofs.YtaheflnnigocgaaGreatDoor
open Go Go.EYtaheflnnigocgaaGreatDoor
set_option maxRecDepth 100000
variable {gl:List (Nat×List D)}
def RefsOk (rf:List UInt8→Option Rf):Prop:=∀ (gl:List (Nat×List D)) (s:List UInt8),s.length≤200→
 (∀ a,rf s=some a→FnP Tryz.prog gl 119 [.str s] (.tup [refD a.c a.r a.fc a.fr,errD 0])∧True)∧(rf s=none→FnP Tryz.prog gl 119 [.str s] refBad∧True)
def plZ (rf:List UInt8→Option Rf) (s:List UInt8):Option Nd:=match wholeZ s with
 | some n=>some (.mk 1 n [] z0 z0 [])
 | none=>match litZ s with
  | some (_,n)=>some (.mk 3 n [] z0 z0 [])
  | none=>(rf s).map fun a=>.mk 5 0 [] a z0 []
theorem plain_s (te:TypeId) (pe:Value) {rf:List UInt8→Option Rf} (hR:RefsOk rf) {s:List UInt8} (hs:s.length≤200) {n:Nd} (h:plZ rf s=some n):FnP Tryz.prog (glV te pe) 102 [.str s] (.tup [.agg n.cs,.v (.bool true)]):=by
 have hs':s.length≤140737488355328:=by omega
 have hr:errR (glV te pe):=⟨te,pe,rfl⟩
 have c2:=Literal_d te pe s
 unfold plZ at h
 cases hw:wholeZ s with
 | some v =>
  rw[hw] at h
  cases h
  have c1:=Whole_some (gl:=glV te pe) hs' hw
  refine fnP_of_vc (nv:=9999) (cu:=[]) fits mixed Tryz.func102 rfl hoB rfl ?_
  ((repeat' ((conv=>whnf);first|exact .intro|refine .ya ?_|refine .na ?_|refine .ys ?_|refine .ns ?_|refine .neg (fun _=>?_) (fun _=>?_)|refine .mk (fun _=>?_) (fun _=>?_)|refine .inl (.inl (X1 (c1) ?_))|refine .inl (X1 (c1) ?_)|refine X1 (c1) ?_|refine .mk ?_ ?_|refine AK ?_|refine AT ?_|fail));all_goals conv=>whnf)
  repeat' first|exact LeD.rfl|exact LeD.bf (by simp[z0])|exact LeD.nil0|refine LeD.tup ?_|refine LeD.agg ?_|refine LeD.cons ?_ ?_|exact LeD.nil
 | none =>
  rw[hw] at h
  obtain ⟨v,c1⟩:=Whole_none (gl:=glV te pe) hs' hr hw
  cases hl:litZ s with
  | some q =>
   obtain ⟨k,m⟩:=q
   rw[hl] at h c2
   cases h
   change FnP Tryz.prog (glV te pe) 96 [.str s] (.tup [vlD k m [],.v (.bool true)]) at c2
   refine fnP_of_vc (nv:=9999) (cu:=[]) fits mixed Tryz.func102 rfl hoB rfl ?_
   ((repeat' ((conv=>whnf);first|exact .intro|refine .ya ?_|refine .na ?_|refine .ys ?_|refine .ns ?_|refine .neg (fun _=>?_) (fun _=>?_)|refine .mk (fun _=>?_) (fun _=>?_)|refine .inl (.inl (X1 (by first|exact c1|exact c2) ?_))|refine .inl (X1 (by first|exact c1|exact c2) ?_)|refine X1 (by first|exact c1|exact c2) ?_|refine .mk ?_ ?_|refine AK ?_|refine AT ?_|fail));all_goals conv=>whnf)
   repeat' first|exact LeD.rfl|exact LeD.bf (by simp[z0])|exact LeD.nil0|refine LeD.tup ?_|refine LeD.agg ?_|refine LeD.cons ?_ ?_|exact LeD.nil
  | none =>
   rw[hl] at h c2
   simp only at h
   obtain ⟨a,ha,h⟩:=Option.map_eq_some_iff.1 h
   cases h
   have c3:=((hR (glV te pe) s hs).1 a ha).1
   change FnP Tryz.prog (glV te pe) 96 [.str s] _ at c2
   refine fnP_of_vc (nv:=9999) (cu:=[]) fits mixed Tryz.func102 rfl hoB rfl ?_
   ((repeat' ((conv=>whnf);first|exact .intro|refine .ya ?_|refine .na ?_|refine .ys ?_|refine .ns ?_|refine .neg (fun _=>?_) (fun _=>?_)|refine .mk (fun _=>?_) (fun _=>?_)|refine .inl (.inl (X1 (by first|exact c1|exact c2|exact c3) ?_))|refine .inl (X1 (by first|exact c1|exact c2|exact c3) ?_)|refine X1 (by first|exact c1|exact c2|exact c3) ?_|refine .mk ?_ ?_|refine AK ?_|refine AT ?_|fail));all_goals conv=>whnf)
   repeat' first|exact LeD.rfl|exact LeD.bf (by simp[z0])|exact LeD.nil0|refine LeD.tup ?_|refine LeD.agg ?_|refine LeD.cons ?_ ?_|exact LeD.nil
theorem plain_n (te:TypeId) (pe:Value) {rf:List UInt8→Option Rf} (hR:RefsOk rf) {s:List UInt8} (hs:s.length≤200) (h:plZ rf s=none):FnP Tryz.prog (glV te pe) 102 [.str s] (.tup [.agg (Nd.mk 0 0 [] z0 z0 []).cs,.v (.bool false)]):=by
 have hs':s.length≤140737488355328:=by omega
 have hr:errR (glV te pe):=⟨te,pe,rfl⟩
 have c2:=Literal_d te pe s
 unfold plZ at h
 cases hw:wholeZ s with
 | some v=>rw[hw] at h;cases h
 | none =>
  rw[hw] at h
  obtain ⟨v,c1⟩:=Whole_none (gl:=glV te pe) hs' hr hw
  cases hl:litZ s with
  | some q=>rw[hl] at h;cases h
  | none =>
   rw[hl] at h c2
   simp only[Option.map_eq_none_iff] at h
   have c3:=((hR (glV te pe) s hs).2 h).1
   refine fnP_of_vc (nv:=9999) (cu:=[]) fits mixed Tryz.func102 rfl hoB rfl ?_
   ((repeat' ((conv=>whnf);first|exact .intro|refine .ya ?_|refine .na ?_|refine .ys ?_|refine .ns ?_|refine .neg (fun _=>?_) (fun _=>?_)|refine .mk (fun _=>?_) (fun _=>?_)|refine .inl (.inl (X1 (by first|exact c1|exact c2|exact c3) ?_))|refine .inl (X1 (by first|exact c1|exact c2|exact c3) ?_)|refine X1 (by first|exact c1|exact c2|exact c3) ?_|refine .mk ?_ ?_|refine AK ?_|refine AT ?_|fail));all_goals conv=>whnf)
   repeat' first|exact LeD.rfl|exact LeD.bf (by simp[z0])|exact LeD.nil0|refine LeD.tup ?_|refine LeD.agg ?_|refine LeD.cons ?_ ?_|exact LeD.nil
end Go.Proofs.YtaheflnnigocgaaGreatDoor
end
section
namespace Go.Proofs.YtaheflnnigocgaaGreatDoor
open Go Go.EYtaheflnnigocgaaGreatDoor
set_option maxRecDepth 100000
variable {gl:List (Nat×List D)}
abbrev AZ:List UInt8:=[65,66,67,68,69,70,71,72,73,74,75,76,77,78,79,80,81,82,83,84,85,86,87,88,89,90]
theorem TrimAZ_d (s:List UInt8) (hs:s.length≤9223372036854775807):FnP Tryz.prog gl 116 [.str s,.str AZ] (.str (Lib.trimS s AZ)) :=
 FnP.of_below (xs:=[.string ⟨s.toArray⟩,.string ⟨AZ.toArray⟩]) (v:=.string ⟨(Lib.trimS s AZ).toArray⟩) hoB (fun M w ys hd=>str2 hd) (fun _ _=>.str _) (fun M w hg=>by
  have h:=Any.strings_Trim_laid Tryz.lays160 (by kernel_rfl) ⟨s.toArray⟩ ⟨AZ.toArray⟩ w (by simpa[ByteArray.size] using hs) (by decide) (ascii_of_all (by decide))
  refine h.mono ?_
  rintro e w' ⟨rfl,hb⟩
  exact ⟨rfl,hb⟩)
def clZ (s:List UInt8):Bool:=decide (2≤s.length) && decide (s.length≤10) && s.all fun c=>decide (65≤c.toNat) && decide (c.toNat≤90)
theorem azTab:∀ k:Fin 256,AZ.contains (UInt8.ofNat k.val)=(decide (65≤k.val) && decide (k.val≤90)):=by decide
theorem az_contains (c:UInt8):AZ.contains c=(decide (65≤c.toNat) && decide (c.toNat≤90)):=by
 have h:=azTab ⟨c.toNat,c.toNat_lt⟩
 simpa using h
theorem clZ_iff (s:List UInt8):clZ s=true↔2≤s.length∧s.length≤10∧Lib.trimS s AZ=[]:=by
 unfold clZ
 rw[trimS_nil]
 simp only[Bool.and_eq_true,decide_eq_true_eq,List.all_eq_true,az_contains,and_assoc]
theorem called_y {s:List UInt8} (hs:s.length≤200) (h:clZ s=true):FnP Tryz.prog gl 99 [.str s] (.v (.bool true)):=by
 obtain ⟨h1,h2,h3⟩:=(clZ_iff s).1 h
 have c1:=TrimAZ_d (gl:=gl) s (by omega)
 rw[h3] at c1
 have h1':(s.length:Int)≥2:=by omega
 have h2':(s.length:Int)≤10:=by omega
 refine fnP_of_vc (nv:=9999) (cu:=[]) fits mixed Tryz.func99 rfl hoB rfl ?_
 ((repeat' ((conv=>whnf);first|exact .intro|refine .ya ?_|refine .na ?_|refine .ys ?_|refine .ns ?_|refine .neg (fun _=>?_) (fun _=>?_)|refine .mk (fun _=>?_) (fun _=>?_)|refine .inl (.inl (X1 (c1) ?_))|refine .inl (X1 (c1) ?_)|refine X1 (c1) ?_|refine .mk ?_ ?_|refine AK ?_|refine AT ?_|fail));all_goals conv=>whnf)
 all_goals first|exact LeD.rfl|exact LeD.vt rfl|exact LeD.vt (by simp)
theorem called_n {s:List UInt8} (hs:s.length≤200) (h:clZ s=false):FnP Tryz.prog gl 99 [.str s] (.v (.bool false)):=by
 have h':¬ (2≤s.length∧s.length≤10∧Lib.trimS s AZ=[]):=fun hh=>by rw[(clZ_iff s).2 hh] at h;cases h
 have c1:=TrimAZ_d (gl:=gl) s (by omega)
 by_cases h1:(s.length:Int)≥2
 ·by_cases h2:(s.length:Int)≤10
  ·have h3:¬ Lib.trimS s AZ=[]:=fun e=>h' ⟨by omega,by omega,e⟩
   generalize Lib.trimS s AZ=t at *
   refine fnP_of_vc (nv:=9999) (cu:=[]) fits mixed Tryz.func99 rfl hoB rfl ?_
   ((repeat' ((conv=>whnf);first|exact .intro|refine .ya ?_|refine .na ?_|refine .ys ?_|refine .ns ?_|refine .neg (fun _=>?_) (fun _=>?_)|refine .mk (fun _=>?_) (fun _=>?_)|refine .inl (.inl (X1 (c1) ?_))|refine .inl (X1 (c1) ?_)|refine X1 (c1) ?_|refine .mk ?_ ?_|refine AK ?_|refine AT ?_|fail));all_goals conv=>whnf)
   all_goals first|exact LeD.rfl|exact LeD.vf h3|exact LeD.vf (by omega)
  ·refine fnP_of_vc (nv:=9999) (cu:=[]) fits mixed Tryz.func99 rfl hoB rfl ?_
   ((repeat' ((conv=>whnf);first|exact .intro|refine .ya ?_|refine .na ?_|refine .ys ?_|refine .ns ?_|refine .neg (fun _=>?_) (fun _=>?_)|refine .mk (fun _=>?_) (fun _=>?_)|refine .inl (.inl (X1 (c1) ?_))|refine .inl (X1 (c1) ?_)|refine X1 (c1) ?_|refine .mk ?_ ?_|refine AK ?_|refine AT ?_|fail));all_goals conv=>whnf)
   all_goals first|exact LeD.rfl|exact LeD.vf (by omega)
 ·refine fnP_of_vc (nv:=9999) (cu:=[]) fits mixed Tryz.func99 rfl hoB rfl ?_
  ((repeat' ((conv=>whnf);first|exact .intro|refine .ya ?_|refine .na ?_|refine .ys ?_|refine .ns ?_|refine .neg (fun _=>?_) (fun _=>?_)|refine .mk (fun _=>?_) (fun _=>?_)|refine .inl (.inl (X1 (c1) ?_))|refine .inl (X1 (c1) ?_)|refine X1 (c1) ?_|refine .mk ?_ ?_|refine AK ?_|refine AT ?_|fail));all_goals conv=>whnf)
  all_goals first|exact LeD.rfl|exact LeD.vf (by omega)
abbrev rpB:Blk:=.var [.ptr 0 0] 86
theorem within_1 {s:List UInt8} {i j d p g:Nat} (hd:d<30) {n:Nd} (hg:Go.EYtaheflnnigocgaaGreatDoor.Fn Tryz.prog gl g [.c (.ptr 1 0)] [(0,rdB s i (d+1)),(1,rpB)] 2 (.ret (.agg (ndC n))) [(0,rdB s j (d+1)),(1,rpB)] 2 []) :
 Go.EYtaheflnnigocgaaGreatDoor.Fn Tryz.prog gl 62 [.c (.ptr 0 0),.c (.d (iD (p:Int))),.c (.fn g [(1,0)])] [(0,rdB s i d),(1,rpB)] 2 (.ret (.agg (ndC n))) [(0,rdB s j d),(1,rpB)] 2 []:=by
 obtain ⟨k,m,t,a,b,ks⟩:=n
 have h30:¬ ((d:Nat):Int)=30:=by omega
 have e1:IntKind.i64.wrap (((d:Nat):Int)+1)=((d+1:Nat):Int):=by rw[wrapI (by omega)];rfl
 refine fn_of_vc (nv:=9999) (cu:=[]) fits mixed Tryz.func62 rfl hoB rfl rfl rfl rfl ?_
 ((repeat' ((conv=>whnf);first|exact .intro|refine .ya ?_|refine .na ?_|refine .ys ?_|refine .ns ?_|refine .neg (fun _=>?_) (fun _=>?_)|refine .mk (fun _=>?_) (fun _=>?_)|refine .inr (X5 (hg.r [0,1] _) ?_)|refine .inl (.inr (X5 (hg.r [0,1] _) ?_))|refine .inl (X5 (hg.r [0,1] _) ?_)|(rw[e1])|refine .mk ?_ ?_|refine AK ?_|refine AT ?_|fail));all_goals conv=>whnf)
 ((repeat' first|exact rfl|((conv=>whnf);first|done|exact suL|refine And.intro ?_ ?_|fail));all_goals conv=>whnf)
 exact ceq (by rw[wrapI (by omega)];omega)
theorem within_1n {s:List UInt8} {i d p g q:Nat} {e:Int} (hd:d<30) (hg:Go.EYtaheflnnigocgaaGreatDoor.Fn Tryz.prog gl g [.c (.ptr 1 0)] [(0,rdB s i (d+1)),(1,rpB)] 2 (.panic (.d (fltD q e))) [] 2 []) :
 Go.EYtaheflnnigocgaaGreatDoor.Fn Tryz.prog gl 62 [.c (.ptr 0 0),.c (.d (iD (p:Int))),.c (.fn g [(1,0)])] [(0,rdB s i d),(1,rpB)] 2 (.panic (.d (fltD q e))) [] 2 []:=by
 have h30:¬ ((d:Nat):Int)=30:=by omega
 have e1:IntKind.i64.wrap (((d:Nat):Int)+1)=((d+1:Nat):Int):=by rw[wrapI (by omega)];rfl
 refine fn_of_vc (nv:=9999) (cu:=[]) fits mixed Tryz.func62 rfl hoB rfl rfl rfl rfl ?_
 ((repeat' ((conv=>whnf);first|exact .intro|refine .ya ?_|refine .na ?_|refine .ys ?_|refine .ns ?_|refine .neg (fun _=>?_) (fun _=>?_)|refine .mk (fun _=>?_) (fun _=>?_)|refine .inr (X5 (hg.r [0,1] _) ?_)|refine .inl (.inr (X5 (hg.r [0,1] _) ?_))|refine .inl (X5 (hg.r [0,1] _) ?_)|(rw[e1])|refine .mk ?_ ?_|refine AK ?_|refine AT ?_|fail));all_goals conv=>whnf)
 ((repeat' first|exact rfl|((conv=>whnf);first|done|exact suL|refine And.intro ?_ ?_|fail));all_goals conv=>whnf)
abbrev txB (w:List UInt8):Blk:=.var [.d (.str w)] 9
theorem within_2 {s w:List UInt8} {i j d p g:Nat} (hd:d<30) {n:Nd} (hg:Go.EYtaheflnnigocgaaGreatDoor.Fn Tryz.prog gl g [.c (.ptr 1 0),.c (.ptr 2 0)] [(0,rdB s i (d+1)),(1,rpB),(2,txB w)] 3 (.ret (.agg (ndC n))) [(0,rdB s j (d+1)),(1,rpB),(2,txB w)] 3 []) :
 Go.EYtaheflnnigocgaaGreatDoor.Fn Tryz.prog gl 62 [.c (.ptr 0 0),.c (.d (iD (p:Int))),.c (.fn g [(1,0),(2,0)])] [(0,rdB s i d),(1,rpB),(2,txB w)] 3 (.ret (.agg (ndC n))) [(0,rdB s j d),(1,rpB),(2,txB w)] 3 []:=by
 obtain ⟨k,m,t,a,b,ks⟩:=n
 have h30:¬ ((d:Nat):Int)=30:=by omega
 have e1:IntKind.i64.wrap (((d:Nat):Int)+1)=((d+1:Nat):Int):=by rw[wrapI (by omega)];rfl
 refine fn_of_vc (nv:=9999) (cu:=[]) fits mixed Tryz.func62 rfl hoB rfl rfl rfl rfl ?_
 ((repeat' ((conv=>whnf);first|exact .intro|refine .ya ?_|refine .na ?_|refine .ys ?_|refine .ns ?_|refine .neg (fun _=>?_) (fun _=>?_)|refine .mk (fun _=>?_) (fun _=>?_)|refine .inr (X5 (hg.r [0,1,2] _) ?_)|refine .inl (.inr (X5 (hg.r [0,1,2] _) ?_))|refine .inl (X5 (hg.r [0,1,2] _) ?_)|(rw[e1])|refine .mk ?_ ?_|refine AK ?_|refine AT ?_|fail));all_goals conv=>whnf)
 ((repeat' first|exact rfl|((conv=>whnf);first|done|exact suL|refine And.intro ?_ ?_|fail));all_goals conv=>whnf)
 exact ceq (by rw[wrapI (by omega)];omega)
theorem within_2n {s w:List UInt8} {i d p g q:Nat} {e:Int} (hd:d<30) (hg:Go.EYtaheflnnigocgaaGreatDoor.Fn Tryz.prog gl g [.c (.ptr 1 0),.c (.ptr 2 0)] [(0,rdB s i (d+1)),(1,rpB),(2,txB w)] 3 (.panic (.d (fltD q e))) [] 3 []) :
 Go.EYtaheflnnigocgaaGreatDoor.Fn Tryz.prog gl 62 [.c (.ptr 0 0),.c (.d (iD (p:Int))),.c (.fn g [(1,0),(2,0)])] [(0,rdB s i d),(1,rpB),(2,txB w)] 3 (.panic (.d (fltD q e))) [] 3 []:=by
 have h30:¬ ((d:Nat):Int)=30:=by omega
 have e1:IntKind.i64.wrap (((d:Nat):Int)+1)=((d+1:Nat):Int):=by rw[wrapI (by omega)];rfl
 refine fn_of_vc (nv:=9999) (cu:=[]) fits mixed Tryz.func62 rfl hoB rfl rfl rfl rfl ?_
 ((repeat' ((conv=>whnf);first|exact .intro|refine .ya ?_|refine .na ?_|refine .ys ?_|refine .ns ?_|refine .neg (fun _=>?_) (fun _=>?_)|refine .mk (fun _=>?_) (fun _=>?_)|refine .inr (X5 (hg.r [0,1,2] _) ?_)|refine .inl (.inr (X5 (hg.r [0,1,2] _) ?_))|refine .inl (X5 (hg.r [0,1,2] _) ?_)|(rw[e1])|refine .mk ?_ ?_|refine AK ?_|refine AT ?_|fail));all_goals conv=>whnf)
 ((repeat' first|exact rfl|((conv=>whnf);first|done|exact suL|refine And.intro ?_ ?_|fail));all_goals conv=>whnf)
end Go.Proofs.YtaheflnnigocgaaGreatDoor
end
section
namespace Go.Proofs.YtaheflnnigocgaaGreatDoor
open Go Go.EYtaheflnnigocgaaGreatDoor
set_option maxRecDepth 100000
variable {gl:List (Nat×List D)}
def Gives1 (gl:List (Nat×List D)) (f:Nat) (vs:List V) (s:List UInt8) (i d:Nat):Rs Nd→Prop
 | .ok n j=>Go.EYtaheflnnigocgaaGreatDoor.Fn Tryz.prog gl f vs [(0,rdB s i d)] 1 (.ret (.agg (ndC n))) [(0,rdB s j d)] 1 []
 | .no a e=>Go.EYtaheflnnigocgaaGreatDoor.Fn Tryz.prog gl f vs [(0,rdB s i d)] 1 (.panic (.d (fltD a e))) [] 1 []
theorem neg1_ok {s:List UInt8} {i j d:Nat} {n:Nd} (hi:i<s.length) (hs:s.length≤200) (h:Gives1 gl 53 [.c (.ptr 0 0)] s (i+1) d (.ok n j)) :
 Go.EYtaheflnnigocgaaGreatDoor.Fn Tryz.prog gl 63 [.c (.ptr 1 0)] [(0,rdB s i d),(1,rpB)] 2 (.ret (.agg (ndC (negN n)))) [(0,rdB s j d),(1,rpB)] 2 []:=by
 obtain ⟨k,m,t,a,b,ks⟩:=n
 have e1:IntKind.i64.wrap (((i:Nat):Int)+1)=((i+1:Nat):Int):=by rw[wrapI (by omega)];rfl
 unfold Gives1 at h
 refine fn_of_vc (nv:=9999) (cu:=[]) fits mixed Tryz.func63 rfl hoB rfl rfl rfl rfl ?_
 ((repeat' ((conv=>whnf);first|exact .intro|refine .ya ?_|refine .na ?_|refine .ys ?_|refine .ns ?_|refine .neg (fun _=>?_) (fun _=>?_)|refine .mk (fun _=>?_) (fun _=>?_)|refine .inr (X5 (h.r [0] _) ?_)|refine .inl (.inr (X5 (h.r [0] _) ?_))|refine .inl (X5 (h.r [0] _) ?_)|(rw[e1])|refine .mk ?_ ?_|refine AK ?_|refine AT ?_|fail));all_goals conv=>whnf)
 ((repeat' first|exact rfl|((conv=>whnf);first|done|exact suL|refine And.intro ?_ ?_|fail));all_goals conv=>whnf)
 (refine .inr ?_;repeat' first|exact .intro|exact .inr (.inl rfl)|exact lf0|exact ln0|((conv=>whnf);first|exact .intro|exact .inr (.inl rfl)|exact lf0|exact ln0|refine And.intro ?_ ?_|fail))
theorem neg1_no {s:List UInt8} {i p d:Nat} {e:Int} (hi:i<s.length) (hs:s.length≤200) (h:Gives1 gl 53 [.c (.ptr 0 0)] s (i+1) d (.no p e)) :
 Go.EYtaheflnnigocgaaGreatDoor.Fn Tryz.prog gl 63 [.c (.ptr 1 0)] [(0,rdB s i d),(1,rpB)] 2 (.panic (.d (fltD p e))) [] 2 []:=by
 have e1:IntKind.i64.wrap (((i:Nat):Int)+1)=((i+1:Nat):Int):=by rw[wrapI (by omega)];rfl
 unfold Gives1 at h
 refine fn_of_vc (nv:=9999) (cu:=[]) fits mixed Tryz.func63 rfl hoB rfl rfl rfl rfl ?_
 ((repeat' ((conv=>whnf);first|exact .intro|refine .ya ?_|refine .na ?_|refine .ys ?_|refine .ns ?_|refine .neg (fun _=>?_) (fun _=>?_)|refine .mk (fun _=>?_) (fun _=>?_)|refine .inr (X5 (h.r [0] _) ?_)|refine .inl (.inr (X5 (h.r [0] _) ?_))|refine .inl (X5 (h.r [0] _) ?_)|(rw[e1])|refine .mk ?_ ?_|refine AK ?_|refine AT ?_|fail));all_goals conv=>whnf)
 ((repeat' first|exact rfl|((conv=>whnf);first|done|exact suL|refine And.intro ?_ ?_|fail));all_goals conv=>whnf)
theorem prim1_ok {s:List UInt8} {i j d:Nat} {n:Nd} (hi:i<s.length) (hj:j≤s.length) (hs:s.length≤200) (h:Gives1 gl 37 [.c (.ptr 0 0),.c (.d (iD 0))] s (i+1) d (.ok n j)) (hq:s[skp s j]?=some 41) :
 Go.EYtaheflnnigocgaaGreatDoor.Fn Tryz.prog gl 93 [.c (.ptr 1 0)] [(0,rdB s i d),(1,rpB)] 2 (.ret (.agg (ndC n))) [(0,rdB s (skp s j+1) d),(1,rpB)] 2 []:=by
 obtain ⟨k,m,t,a,b,ks⟩:=n
 have e1:IntKind.i64.wrap (((i:Nat):Int)+1)=((i+1:Nat):Int):=by rw[wrapI (by omega)];rfl
 have c2:=want_y (gl:=gl) (d:=d) hj hs hq
 unfold Gives1 at h
 refine fn_of_vc (nv:=9999) (cu:=[]) fits mixed Tryz.func93 rfl hoB rfl rfl rfl rfl ?_
 ((repeat' ((conv=>whnf);first|exact .intro|refine .ya ?_|refine .na ?_|refine .ys ?_|refine .ns ?_|refine .neg (fun _=>?_) (fun _=>?_)|refine .mk (fun _=>?_) (fun _=>?_)|refine .inr (X5 (h.r [0] _) ?_)|refine .inl (.inr (X5 (h.r [0] _) ?_))|refine .inl (X5 (h.r [0] _) ?_)|refine .inr (X5 (c2.r [0] _) ?_)|refine .inl (.inr (X5 (c2.r [0] _) ?_))|refine .inl (X5 (c2.r [0] _) ?_)|(rw[e1])|refine .mk ?_ ?_|refine AK ?_|refine AT ?_|fail));all_goals conv=>whnf)
 ((repeat' first|exact rfl|((conv=>whnf);first|done|exact suL|refine And.intro ?_ ?_|fail));all_goals conv=>whnf)
theorem prim1_n {s:List UInt8} {i j d:Nat} {n:Nd} (hi:i<s.length) (hj:j≤s.length) (hs:s.length≤200) (h:Gives1 gl 37 [.c (.ptr 0 0),.c (.d (iD 0))] s (i+1) d (.ok n j)) (hq:s[skp s j]?≠some 41) :
 Go.EYtaheflnnigocgaaGreatDoor.Fn Tryz.prog gl 93 [.c (.ptr 1 0)] [(0,rdB s i d),(1,rpB)] 2 (.panic (.d (fltD (skp s j) 2))) [] 2 []:=by
 obtain ⟨k,m,t,a,b,ks⟩:=n
 have e1:IntKind.i64.wrap (((i:Nat):Int)+1)=((i+1:Nat):Int):=by rw[wrapI (by omega)];rfl
 have c2:=want_n (gl:=gl) (d:=d) hj hs hq
 unfold Gives1 at h
 refine fn_of_vc (nv:=9999) (cu:=[]) fits mixed Tryz.func93 rfl hoB rfl rfl rfl rfl ?_
 ((repeat' ((conv=>whnf);first|exact .intro|refine .ya ?_|refine .na ?_|refine .ys ?_|refine .ns ?_|refine .neg (fun _=>?_) (fun _=>?_)|refine .mk (fun _=>?_) (fun _=>?_)|refine .inr (X5 (h.r [0] _) ?_)|refine .inl (.inr (X5 (h.r [0] _) ?_))|refine .inl (X5 (h.r [0] _) ?_)|refine .inr (X5 (c2.r [0] _) ?_)|refine .inl (.inr (X5 (c2.r [0] _) ?_))|refine .inl (X5 (c2.r [0] _) ?_)|(rw[e1])|refine .mk ?_ ?_|refine AK ?_|refine AT ?_|fail));all_goals conv=>whnf)
 ((repeat' first|exact rfl|((conv=>whnf);first|done|exact suL|refine And.intro ?_ ?_|fail));all_goals conv=>whnf)
theorem prim1_no {s:List UInt8} {i p d:Nat} {e:Int} (hi:i<s.length) (hs:s.length≤200) (h:Gives1 gl 37 [.c (.ptr 0 0),.c (.d (iD 0))] s (i+1) d (.no p e)) :
 Go.EYtaheflnnigocgaaGreatDoor.Fn Tryz.prog gl 93 [.c (.ptr 1 0)] [(0,rdB s i d),(1,rpB)] 2 (.panic (.d (fltD p e))) [] 2 []:=by
 have e1:IntKind.i64.wrap (((i:Nat):Int)+1)=((i+1:Nat):Int):=by rw[wrapI (by omega)];rfl
 unfold Gives1 at h
 refine fn_of_vc (nv:=9999) (cu:=[]) fits mixed Tryz.func93 rfl hoB rfl rfl rfl rfl ?_
 ((repeat' ((conv=>whnf);first|exact .intro|refine .ya ?_|refine .na ?_|refine .ys ?_|refine .ns ?_|refine .neg (fun _=>?_) (fun _=>?_)|refine .mk (fun _=>?_) (fun _=>?_)|refine .inr (X5 (h.r [0] _) ?_)|refine .inl (.inr (X5 (h.r [0] _) ?_))|refine .inl (X5 (h.r [0] _) ?_)|(rw[e1])|refine .mk ?_ ?_|refine AK ?_|refine AT ?_|fail));all_goals conv=>whnf)
 ((repeat' first|exact rfl|((conv=>whnf);first|done|exact suL|refine And.intro ?_ ?_|fail));all_goals conv=>whnf)
theorem prim2_ok {s w:List UInt8} {i j d:Nat} {n:Nd} (h:Gives1 gl 101 [.c (.ptr 0 0),.c (.d (.str w))] s i d (.ok n j)) :
 Go.EYtaheflnnigocgaaGreatDoor.Fn Tryz.prog gl 100 [.c (.ptr 1 0),.c (.ptr 2 0)] [(0,rdB s i d),(1,rpB),(2,txB w)] 3 (.ret (.agg (ndC n))) [(0,rdB s j d),(1,rpB),(2,txB w)] 3 []:=by
 obtain ⟨k,m,t,a,b,ks⟩:=n
 unfold Gives1 at h
 refine fn_of_vc (nv:=9999) (cu:=[]) fits mixed Tryz.func100 rfl hoB rfl rfl rfl rfl ?_
 ((repeat' ((conv=>whnf);first|exact .intro|refine .ya ?_|refine .na ?_|refine .ys ?_|refine .ns ?_|refine .neg (fun _=>?_) (fun _=>?_)|refine .mk (fun _=>?_) (fun _=>?_)|refine .inr (X5 (h.r [0] _) ?_)|refine .inl (.inr (X5 (h.r [0] _) ?_))|refine .inl (X5 (h.r [0] _) ?_)|refine .mk ?_ ?_|refine AK ?_|refine AT ?_|fail));all_goals conv=>whnf)
 ((repeat' first|exact rfl|((conv=>whnf);first|done|exact suL|refine And.intro ?_ ?_|fail));all_goals conv=>whnf)
theorem prim2_no {s w:List UInt8} {i p d:Nat} {e:Int} (h:Gives1 gl 101 [.c (.ptr 0 0),.c (.d (.str w))] s i d (.no p e)) :
 Go.EYtaheflnnigocgaaGreatDoor.Fn Tryz.prog gl 100 [.c (.ptr 1 0),.c (.ptr 2 0)] [(0,rdB s i d),(1,rpB),(2,txB w)] 3 (.panic (.d (fltD p e))) [] 3 []:=by
 unfold Gives1 at h
 refine fn_of_vc (nv:=9999) (cu:=[]) fits mixed Tryz.func100 rfl hoB rfl rfl rfl rfl ?_
 ((repeat' ((conv=>whnf);first|exact .intro|refine .ya ?_|refine .na ?_|refine .ys ?_|refine .ns ?_|refine .neg (fun _=>?_) (fun _=>?_)|refine .mk (fun _=>?_) (fun _=>?_)|refine .inr (X5 (h.r [0] _) ?_)|refine .inl (.inr (X5 (h.r [0] _) ?_))|refine .inl (X5 (h.r [0] _) ?_)|refine .mk ?_ ?_|refine AK ?_|refine AT ?_|fail));all_goals conv=>whnf)
 ((repeat' first|exact rfl|((conv=>whnf);first|done|exact suL|refine And.intro ?_ ?_|fail));all_goals conv=>whnf)
end Go.Proofs.YtaheflnnigocgaaGreatDoor
end
section
namespace Go.Proofs.YtaheflnnigocgaaGreatDoor
open Go Go.EYtaheflnnigocgaaGreatDoor
set_option maxRecDepth 100000
variable {gl:List (Nat×List D)}
theorem HasPrefix_d (s p:List UInt8) {b:Bool} (hb:b=(decide (p.length≤s.length) && decide (s.take p.length=p))):FnP Tryz.prog gl 34 [.str s,.str p] (.v (.bool b)):=by
 have c1:FnP Tryz.prog gl 52 [.str s,.str p] (.v (.bool b)):=by
  by_cases h1:(s.length:Int)≥(p.length:Int)
  ·have h1':p.length≤s.length:=by omega
   refine fnP_of_vc (nv:=9999) (cu:=[]) fits mixed Tryz.func52 rfl hoB rfl ?_
   ((repeat' ((conv=>whnf);first|exact .intro|refine .ya ?_|refine .na ?_|refine .ys ?_|refine .ns ?_|refine .neg (fun _=>?_) (fun _=>?_)|refine .mk (fun _=>?_) (fun _=>?_)|refine .mk ?_ ?_|refine AK ?_|refine AT ?_|fail));all_goals conv=>whnf)
   refine ⟨⟨Int.le_refl 0,(show (0:Int)≤((p.length:Nat):Int) by omega),(show ((p.length:Nat):Int)≤((s.length:Nat):Int) by omega)⟩,?_⟩
   subst hb
   by_cases h2:s.take p.length=p
   ·simp only[h1',h2,decide_true,Bool.and_self]
    ((repeat' ((conv=>whnf);first|exact .intro|refine .ya ?_|refine .na ?_|refine .ys ?_|refine .ns ?_|refine .neg (fun _=>?_) (fun _=>?_)|refine .mk (fun _=>?_) (fun _=>?_)|refine .mk ?_ ?_|refine AK ?_|refine AT ?_|fail));all_goals conv=>whnf)
    all_goals first|exact LeD.rfl|exact LeD.vt (show (s.take ((p.length:Nat):Int).toNat).drop 0=p by rw[Int.toNat_natCast];exact h2)
   ·simp only[h1',h2,decide_true,decide_false,Bool.and_false]
    ((repeat' ((conv=>whnf);first|exact .intro|refine .ya ?_|refine .na ?_|refine .ys ?_|refine .ns ?_|refine .neg (fun _=>?_) (fun _=>?_)|refine .mk (fun _=>?_) (fun _=>?_)|refine .mk ?_ ?_|refine AK ?_|refine AT ?_|fail));all_goals conv=>whnf)
    all_goals first|exact LeD.rfl|exact LeD.vf (fun h=>h2 (by have h:(s.take ((p.length:Nat):Int).toNat).drop 0=p:=h;rw[Int.toNat_natCast] at h;exact h))
  ·have h1':¬ p.length≤s.length:=by omega
   subst hb
   simp only[h1',decide_false,Bool.false_and]
   refine fnP_of_vc (nv:=9999) (cu:=[]) fits mixed Tryz.func52 rfl hoB rfl ?_
   ((repeat' ((conv=>whnf);first|exact .intro|refine .ya ?_|refine .na ?_|refine .ys ?_|refine .ns ?_|refine .neg (fun _=>?_) (fun _=>?_)|refine .mk (fun _=>?_) (fun _=>?_)|refine .mk ?_ ?_|refine AK ?_|refine AT ?_|fail));all_goals conv=>whnf)
   all_goals exact LeD.rfl
 refine fnP_of_vc (nv:=9999) (cu:=[]) fits mixed Tryz.func34 rfl hoB rfl ?_
 ((repeat' ((conv=>whnf);first|exact .intro|refine .ya ?_|refine .na ?_|refine .ys ?_|refine .ns ?_|refine .neg (fun _=>?_) (fun _=>?_)|refine .mk (fun _=>?_) (fun _=>?_)|refine .inl (.inl (X1 (c1) ?_))|refine .inl (X1 (c1) ?_)|refine X1 (c1) ?_|refine .mk ?_ ?_|refine AK ?_|refine AT ?_|fail));all_goals conv=>whnf)
 exact LeD.rfl
theorem opOf_d (op:Nat) (t:List UInt8) (h:(op,t) ∈ [(1,[61]),(2,[60,62]),(3,[60]),(4,[60,61]),(5,[62]),(6,[62,61]),(7,[38]),(8,[43]),(9,[45]),(10,[42]),(11,[47])]):FnP Tryz.prog gl 54 [.str t] (iD (op:Int)):=by
 simp only[List.mem_cons,Prod.mk.injEq,List.not_mem_nil,or_false] at h
 rcases h with ⟨rfl,rfl⟩|⟨rfl,rfl⟩|⟨rfl,rfl⟩|⟨rfl,rfl⟩|⟨rfl,rfl⟩|⟨rfl,rfl⟩|⟨rfl,rfl⟩|⟨rfl,rfl⟩|⟨rfl,rfl⟩|⟨rfl,rfl⟩|⟨rfl,rfl⟩
 all_goals
  refine fnP_of_vc (nv:=9999) (cu:=[]) fits mixed Tryz.func54 rfl hoB rfl ?_
  ((repeat' ((conv=>whnf);first|exact .intro|refine .ya ?_|refine .na ?_|refine .ys ?_|refine .ns ?_|refine .neg (fun _=>?_) (fun _=>?_)|refine .mk (fun _=>?_) (fun _=>?_)|refine .mk ?_ ?_|refine AK ?_|refine AT ?_|fail));all_goals conv=>whnf)
  all_goals first|exact LeD.rfl|(exfalso;simp_all;done)
end Go.Proofs.YtaheflnnigocgaaGreatDoor
end
section
namespace Go.Proofs.YtaheflnnigocgaaGreatDoor
open Go Go.EYtaheflnnigocgaaGreatDoor
set_option maxRecDepth 100000
variable {gl:List (Nat×List D)}
def litN (t:List UInt8):Nat→Nat→Option (Int×Nat)
 | 0,_=>none
 | f+1,n=>match litZ (t.take n) with
  | some q=>some (q.2,n)
  | none=>litN t f (n+1)
theorem litN_len (t:List UInt8):∀ (f n:Nat) (m:Int) (l:Nat),litN t f n=some (m,l)→n≤l∧l<n+f
 | 0,n,m,l,h=>by cases h
 | f+1,n,m,l,h=>by
  unfold litN at h
  split at h
  ·cases h;omega
  ·have:=litN_len t f (n+1) m l h;omega
def litF (t:List UInt8):Option (Int×Nat):=litN t t.length 1
theorem litF_len (t:List UInt8) (m:Int) (l:Nat) (h:litF t=some (m,l)):1≤l∧l≤t.length:=by
 have:=litN_len t _ _ _ _ h
 omega
def parZ (rf:List UInt8→Option Rf):Par:=⟨plZ rf,clZ,rf,litF,litF_len⟩
end Go.Proofs.YtaheflnnigocgaaGreatDoor
end
