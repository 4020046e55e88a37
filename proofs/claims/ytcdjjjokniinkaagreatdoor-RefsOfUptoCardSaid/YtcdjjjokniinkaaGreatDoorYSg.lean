/- Proved: a part of what the law is proved with (the reckoner, contracts of functions, plain laws). Conditions: as each says. -/
import Derived.Lib.AppendIntMem
import Derived.Test.YtcdjjjokniinkaaGreatDoorYBh
import Derived.Test.YtcdjjjokniinkaaGreatDoorYGd
section
namespace Go.Proofs.YtcdjjjokniinkaaGreatDoor
open Go Go.EYtcdjjjokniinkaaGreatDoor
set_option maxRecDepth 100000
variable {gl:List (Nat×List D)}
def RefsOk (rf:List UInt8→Option Rf):Prop:=∀ (gl:List (Nat×List D)) (s:List UInt8),s.length≤200→
 (∀ a,rf s=some a→FnP Tryz.prog gl 179 [.str s] (.tup [refD a.c a.r a.fc a.fr,errD 0])∧FnP Tryz.prog gl 109 [.str s] (.tup [refD a.c a.r a.fc a.fr,tD true]))∧
 (rf s=none→FnP Tryz.prog gl 179 [.str s] refBad∧FnP Tryz.prog gl 109 [.str s] rrBad)
theorem FnP.ofNil {P:Program} {f:Nat} {ds:List D} {r:D} (h:FnP P [] f ds r):FnP P gl f ds r:=fun w M xs hM _ hd=>h w M xs hM (fun g l hl=>by cases hl) hd
theorem refs_ok:∃ rf,RefsOk rf∧rf []=none:=by
 have key:∀ s:List UInt8,∃ o:Option Rf,s.length≤200→(∀ a,o=some a→FnP Tryz.prog [] 179 [.str s] (.tup [refD a.c a.r a.fc a.fr,errD 0])∧FnP Tryz.prog [] 109 [.str s] (.tup [refD a.c a.r a.fc a.fr,tD true]))∧
  (o=none→FnP Tryz.prog [] 179 [.str s] refBad∧FnP Tryz.prog [] 109 [.str s] rrBad)∧(s=[]→o=none):=fun s=>by
  by_cases h0:s=[]
  ·subst h0
   exact ⟨none,fun _=>⟨fun a ha=>(by cases ha),fun _=>⟨Ref_1 (s:=[]) rfl,rRef_1 (s:=[]) rfl⟩,fun _=>rfl⟩⟩
  by_cases hs:s.length≤200
  ·rcases ref_both (gl:=[]) s (by omega) with ⟨c,r,fc,fr,_,h1,h2⟩|⟨h1,h2⟩
   ·exact ⟨some ⟨c,r,fc,fr⟩,fun _=>⟨fun a ha=>by cases ha;exact ⟨h2,h1⟩,fun h=>(by cases h),fun h=>absurd h h0⟩⟩
   ·exact ⟨none,fun _=>⟨fun a ha=>(by cases ha),fun _=>⟨h2,h1⟩,fun _=>rfl⟩⟩
  ·exact ⟨none,fun h=>absurd h hs⟩
 refine ⟨fun s=>Classical.choose (key s),fun gl s hs=>?_,(Classical.choose_spec (key []) (by decide)).2.2 rfl⟩
 have h:=Classical.choose_spec (key s) hs
 exact ⟨fun a ha=>⟨FnP.ofNil (h.1 a ha).1,FnP.ofNil (h.1 a ha).2⟩,fun hn=>⟨FnP.ofNil (h.2.1 hn).1,FnP.ofNil (h.2.1 hn).2⟩⟩
def plZ (rf:List UInt8→Option Rf) (s:List UInt8):Option Nd:=match wholeZ s with
 | some n=>some (.mk 1 n [] z0 z0 [])
 | none=>match litZ s with
  | some (_,n)=>some (.mk 3 n [] z0 z0 [])
  | none=>(rf s).map fun a=>.mk 5 0 [] a z0 []
theorem plain_s (te:TypeId) (pe:Value) {rf:List UInt8→Option Rf} (hR:RefsOk rf) {s:List UInt8} (hs:s.length≤200) {n:Nd} (h:plZ rf s=some n):FnP Tryz.prog (glV te pe) 158 [.str s] (.tup [.agg n.cs,.v (.bool true)]):=by
 have hs':s.length≤140737488355328:=by omega
 have hr:errR (glV te pe):=⟨te,pe,rfl⟩
 have c2:=Literal_d te pe s
 unfold plZ at h
 cases hw:wholeZ s with
 | some v =>
  rw[hw] at h
  cases h
  have c1:=Whole_some (gl:=glV te pe) hs' hw
  refine fnP_of_vc (nv:=9999) (cu:=[]) fits mixed Tryz.func158 rfl hoB rfl ?_
  ((repeat' ((conv=>whnf);first|exact .intro|refine .ya ?_|refine .na ?_|refine .ys ?_|refine .ns ?_|refine .neg (fun _=>?_) (fun _=>?_)|refine .mk (fun _=>?_) (fun _=>?_)|refine .inl (.inl (X1 (c1) ?_))|refine .inl (X1 (c1) ?_)|refine X1 (c1) ?_|refine .mk ?_ ?_|refine AK ?_|refine AT ?_|fail));all_goals conv=>whnf)
  repeat' first|exact LeD.rfl|exact LeD.bf (by simp[z0])|exact LeD.nil0|refine LeD.tup ?_|refine LeD.agg ?_|refine LeD.cons ?_ ?_|exact LeD.nil
 | none =>
  rw[hw] at h
  obtain ⟨v,c1⟩:=Whole_none (gl:=glV te pe) hs' hr hw
  cases hl:litZ s with
  | some q =>
   obtain ⟨k,m⟩:=q
   rw[hl] at h c2
   cases h
   change FnP Tryz.prog (glV te pe) 153 [.str s] (.tup [vlD k m [],.v (.bool true)]) at c2
   refine fnP_of_vc (nv:=9999) (cu:=[]) fits mixed Tryz.func158 rfl hoB rfl ?_
   ((repeat' ((conv=>whnf);first|exact .intro|refine .ya ?_|refine .na ?_|refine .ys ?_|refine .ns ?_|refine .neg (fun _=>?_) (fun _=>?_)|refine .mk (fun _=>?_) (fun _=>?_)|refine .inl (.inl (X1 (by first|exact c1|exact c2) ?_))|refine .inl (X1 (by first|exact c1|exact c2) ?_)|refine X1 (by first|exact c1|exact c2) ?_|refine .mk ?_ ?_|refine AK ?_|refine AT ?_|fail));all_goals conv=>whnf)
   repeat' first|exact LeD.rfl|exact LeD.bf (by simp[z0])|exact LeD.nil0|refine LeD.tup ?_|refine LeD.agg ?_|refine LeD.cons ?_ ?_|exact LeD.nil
  | none =>
   rw[hl] at h c2
   simp only at h
   obtain ⟨a,ha,h⟩:=Option.map_eq_some_iff.1 h
   cases h
   have c3:=((hR (glV te pe) s hs).1 a ha).1
   change FnP Tryz.prog (glV te pe) 153 [.str s] _ at c2
   refine fnP_of_vc (nv:=9999) (cu:=[]) fits mixed Tryz.func158 rfl hoB rfl ?_
   ((repeat' ((conv=>whnf);first|exact .intro|refine .ya ?_|refine .na ?_|refine .ys ?_|refine .ns ?_|refine .neg (fun _=>?_) (fun _=>?_)|refine .mk (fun _=>?_) (fun _=>?_)|refine .inl (.inl (X1 (by first|exact c1|exact c2|exact c3) ?_))|refine .inl (X1 (by first|exact c1|exact c2|exact c3) ?_)|refine X1 (by first|exact c1|exact c2|exact c3) ?_|refine .mk ?_ ?_|refine AK ?_|refine AT ?_|fail));all_goals conv=>whnf)
   repeat' first|exact LeD.rfl|exact LeD.bf (by simp[z0])|exact LeD.nil0|refine LeD.tup ?_|refine LeD.agg ?_|refine LeD.cons ?_ ?_|exact LeD.nil
theorem plain_n (te:TypeId) (pe:Value) {rf:List UInt8→Option Rf} (hR:RefsOk rf) {s:List UInt8} (hs:s.length≤200) (h:plZ rf s=none):FnP Tryz.prog (glV te pe) 158 [.str s] (.tup [.agg (Nd.mk 0 0 [] z0 z0 []).cs,.v (.bool false)]):=by
 have hs':s.length≤140737488355328:=by omega
 have hr:errR (glV te pe):=⟨te,pe,rfl⟩
 have c2:=Literal_d te pe s
 unfold plZ at h
 cases hw:wholeZ s with
 | some v=>rw[hw] at h;cases h
 | none =>
  rw[hw] at h
  obtain ⟨v,c1⟩:=Whole_none (gl:=glV te pe) hs' hr hw
  cases hl:litZ s with
  | some q=>rw[hl] at h;cases h
  | none =>
   rw[hl] at h c2
   simp only[Option.map_eq_none_iff] at h
   have c3:=((hR (glV te pe) s hs).2 h).1
   refine fnP_of_vc (nv:=9999) (cu:=[]) fits mixed Tryz.func158 rfl hoB rfl ?_
   ((repeat' ((conv=>whnf);first|exact .intro|refine .ya ?_|refine .na ?_|refine .ys ?_|refine .ns ?_|refine .neg (fun _=>?_) (fun _=>?_)|refine .mk (fun _=>?_) (fun _=>?_)|refine .inl (.inl (X1 (by first|exact c1|exact c2|exact c3) ?_))|refine .inl (X1 (by first|exact c1|exact c2|exact c3) ?_)|refine X1 (by first|exact c1|exact c2|exact c3) ?_|refine .mk ?_ ?_|refine AK ?_|refine AT ?_|fail));all_goals conv=>whnf)
   repeat' first|exact LeD.rfl|exact LeD.bf (by simp[z0])|exact LeD.nil0|refine LeD.tup ?_|refine LeD.agg ?_|refine LeD.cons ?_ ?_|exact LeD.nil
end Go.Proofs.YtcdjjjokniinkaaGreatDoor
end
section
namespace Go.Proofs.YtcdjjjokniinkaaGreatDoor
open Go Go.EYtcdjjjokniinkaaGreatDoor
set_option maxRecDepth 100000
variable {gl:List (Nat×List D)}
abbrev AZ:List UInt8:=[65,66,67,68,69,70,71,72,73,74,75,76,77,78,79,80,81,82,83,84,85,86,87,88,89,90]
theorem TrimAZ_d (s:List UInt8) (hs:s.length≤9223372036854775807):FnP Tryz.prog gl 146 [.str s,.str AZ] (.str (Lib.trimS s AZ)) :=
 FnP.of_below (xs:=[.string ⟨s.toArray⟩,.string ⟨AZ.toArray⟩]) (v:=.string ⟨(Lib.trimS s AZ).toArray⟩) hoB (fun M w ys hd=>str2 hd) (fun _ _=>.str _) (fun M w hg=>by
  have h:=Any.strings_Trim_laid Tryz.lays160 (by kernel_rfl) ⟨s.toArray⟩ ⟨AZ.toArray⟩ w (by simpa[ByteArray.size] using hs) (by decide) (ascii_of_all (by decide))
  refine h.mono ?_
  rintro e w' ⟨rfl,hb⟩
  exact ⟨rfl,hb⟩)
def clZ (s:List UInt8):Bool:=decide (2≤s.length) && decide (s.length≤10) && s.all fun c=>decide (65≤c.toNat) && decide (c.toNat≤90)
theorem azTab:∀ k:Fin 256,AZ.contains (UInt8.ofNat k.val)=(decide (65≤k.val) && decide (k.val≤90)):=by decide
theorem az_contains (c:UInt8):AZ.contains c=(decide (65≤c.toNat) && decide (c.toNat≤90)):=by
 have h:=azTab ⟨c.toNat,c.toNat_lt⟩
 simpa using h
theorem clZ_iff (s:List UInt8):clZ s=true↔2≤s.length∧s.length≤10∧Lib.trimS s AZ=[]:=by
 unfold clZ
 rw[trimS_nil]
 simp only[Bool.and_eq_true,decide_eq_true_eq,List.all_eq_true,az_contains,and_assoc]
theorem called_y {s:List UInt8} (hs:s.length≤200) (h:clZ s=true):FnP Tryz.prog gl 113 [.str s] (.v (.bool true)):=by
 obtain ⟨h1,h2,h3⟩:=(clZ_iff s).1 h
 have c1:=TrimAZ_d (gl:=gl) s (by omega)
 rw[h3] at c1
 have h1':(s.length:Int)≥2:=by omega
 have h2':(s.length:Int)≤10:=by omega
 refine fnP_of_vc (nv:=9999) (cu:=[]) fits mixed Tryz.func113 rfl hoB rfl ?_
 ((repeat' ((conv=>whnf);first|exact .intro|refine .ya ?_|refine .na ?_|refine .ys ?_|refine .ns ?_|refine .neg (fun _=>?_) (fun _=>?_)|refine .mk (fun _=>?_) (fun _=>?_)|refine .inl (.inl (X1 (c1) ?_))|refine .inl (X1 (c1) ?_)|refine X1 (c1) ?_|refine .mk ?_ ?_|refine AK ?_|refine AT ?_|fail));all_goals conv=>whnf)
 all_goals first|exact LeD.rfl|exact LeD.vt rfl|exact LeD.vt (by simp)
theorem called_n {s:List UInt8} (hs:s.length≤200) (h:clZ s=false):FnP Tryz.prog gl 113 [.str s] (.v (.bool false)):=by
 have h':¬ (2≤s.length∧s.length≤10∧Lib.trimS s AZ=[]):=fun hh=>by rw[(clZ_iff s).2 hh] at h;cases h
 have c1:=TrimAZ_d (gl:=gl) s (by omega)
 by_cases h1:(s.length:Int)≥2
 ·by_cases h2:(s.length:Int)≤10
  ·have h3:¬ Lib.trimS s AZ=[]:=fun e=>h' ⟨by omega,by omega,e⟩
   generalize Lib.trimS s AZ=t at *
   refine fnP_of_vc (nv:=9999) (cu:=[]) fits mixed Tryz.func113 rfl hoB rfl ?_
   ((repeat' ((conv=>whnf);first|exact .intro|refine .ya ?_|refine .na ?_|refine .ys ?_|refine .ns ?_|refine .neg (fun _=>?_) (fun _=>?_)|refine .mk (fun _=>?_) (fun _=>?_)|refine .inl (.inl (X1 (c1) ?_))|refine .inl (X1 (c1) ?_)|refine X1 (c1) ?_|refine .mk ?_ ?_|refine AK ?_|refine AT ?_|fail));all_goals conv=>whnf)
   all_goals first|exact LeD.rfl|exact LeD.vf h3|exact LeD.vf (by omega)
  ·refine fnP_of_vc (nv:=9999) (cu:=[]) fits mixed Tryz.func113 rfl hoB rfl ?_
   ((repeat' ((conv=>whnf);first|exact .intro|refine .ya ?_|refine .na ?_|refine .ys ?_|refine .ns ?_|refine .neg (fun _=>?_) (fun _=>?_)|refine .mk (fun _=>?_) (fun _=>?_)|refine .inl (.inl (X1 (c1) ?_))|refine .inl (X1 (c1) ?_)|refine X1 (c1) ?_|refine .mk ?_ ?_|refine AK ?_|refine AT ?_|fail));all_goals conv=>whnf)
   all_goals first|exact LeD.rfl|exact LeD.vf (by omega)
 ·refine fnP_of_vc (nv:=9999) (cu:=[]) fits mixed Tryz.func113 rfl hoB rfl ?_
  ((repeat' ((conv=>whnf);first|exact .intro|refine .ya ?_|refine .na ?_|refine .ys ?_|refine .ns ?_|refine .neg (fun _=>?_) (fun _=>?_)|refine .mk (fun _=>?_) (fun _=>?_)|refine .inl (.inl (X1 (c1) ?_))|refine .inl (X1 (c1) ?_)|refine X1 (c1) ?_|refine .mk ?_ ?_|refine AK ?_|refine AT ?_|fail));all_goals conv=>whnf)
  all_goals first|exact LeD.rfl|exact LeD.vf (by omega)
abbrev rpB:Blk:=.var [.ptr 0 0] 119
theorem within_1 {s:List UInt8} {i j d p g:Nat} (hd:d<30) {n:Nd} (hg:Go.EYtcdjjjokniinkaaGreatDoor.Fn Tryz.prog gl g [.c (.ptr 1 0)] [(0,rdB s i (d+1)),(1,rpB)] 2 (.ret (.agg (ndC n))) [(0,rdB s j (d+1)),(1,rpB)] 2 []) :
 Go.EYtcdjjjokniinkaaGreatDoor.Fn Tryz.prog gl 128 [.c (.ptr 0 0),.c (.d (iD (p:Int))),.c (.fn g [(1,0)])] [(0,rdB s i d),(1,rpB)] 2 (.ret (.agg (ndC n))) [(0,rdB s j d),(1,rpB)] 2 []:=by
 obtain ⟨k,m,t,a,b,ks⟩:=n
 have h30:¬ ((d:Nat):Int)=30:=by omega
 have e1:IntKind.i64.wrap (((d:Nat):Int)+1)=((d+1:Nat):Int):=by rw[wrapI (by omega)];rfl
 refine fn_of_vc (nv:=9999) (cu:=[]) fits mixed Tryz.func128 rfl hoB rfl rfl rfl rfl ?_
 ((repeat' ((conv=>whnf);first|exact .intro|refine .ya ?_|refine .na ?_|refine .ys ?_|refine .ns ?_|refine .neg (fun _=>?_) (fun _=>?_)|refine .mk (fun _=>?_) (fun _=>?_)|refine .inr (X5 (hg.r [0,1] _) ?_)|refine .inl (.inr (X5 (hg.r [0,1] _) ?_))|refine .inl (X5 (hg.r [0,1] _) ?_)|(rw[e1])|refine .mk ?_ ?_|refine AK ?_|refine AT ?_|fail));all_goals conv=>whnf)
 ((repeat' first|exact rfl|((conv=>whnf);first|done|exact suL|refine And.intro ?_ ?_|fail));all_goals conv=>whnf)
 exact ceq (by rw[wrapI (by omega)];omega)
theorem within_1n {s:List UInt8} {i d p g q:Nat} {e:Int} (hd:d<30) (hg:Go.EYtcdjjjokniinkaaGreatDoor.Fn Tryz.prog gl g [.c (.ptr 1 0)] [(0,rdB s i (d+1)),(1,rpB)] 2 (.panic (.d (fltD q e))) [] 2 []) :
 Go.EYtcdjjjokniinkaaGreatDoor.Fn Tryz.prog gl 128 [.c (.ptr 0 0),.c (.d (iD (p:Int))),.c (.fn g [(1,0)])] [(0,rdB s i d),(1,rpB)] 2 (.panic (.d (fltD q e))) [] 2 []:=by
 have h30:¬ ((d:Nat):Int)=30:=by omega
 have e1:IntKind.i64.wrap (((d:Nat):Int)+1)=((d+1:Nat):Int):=by rw[wrapI (by omega)];rfl
 refine fn_of_vc (nv:=9999) (cu:=[]) fits mixed Tryz.func128 rfl hoB rfl rfl rfl rfl ?_
 ((repeat' ((conv=>whnf);first|exact .intro|refine .ya ?_|refine .na ?_|refine .ys ?_|refine .ns ?_|refine .neg (fun _=>?_) (fun _=>?_)|refine .mk (fun _=>?_) (fun _=>?_)|refine .inr (X5 (hg.r [0,1] _) ?_)|refine .inl (.inr (X5 (hg.r [0,1] _) ?_))|refine .inl (X5 (hg.r [0,1] _) ?_)|(rw[e1])|refine .mk ?_ ?_|refine AK ?_|refine AT ?_|fail));all_goals conv=>whnf)
 ((repeat' first|exact rfl|((conv=>whnf);first|done|exact suL|refine And.intro ?_ ?_|fail));all_goals conv=>whnf)
abbrev txB (w:List UInt8):Blk:=.var [.d (.str w)] 9
theorem within_2 {s w:List UInt8} {i j d p g:Nat} (hd:d<30) {n:Nd} (hg:Go.EYtcdjjjokniinkaaGreatDoor.Fn Tryz.prog gl g [.c (.ptr 1 0),.c (.ptr 2 0)] [(0,rdB s i (d+1)),(1,rpB),(2,txB w)] 3 (.ret (.agg (ndC n))) [(0,rdB s j (d+1)),(1,rpB),(2,txB w)] 3 []) :
 Go.EYtcdjjjokniinkaaGreatDoor.Fn Tryz.prog gl 128 [.c (.ptr 0 0),.c (.d (iD (p:Int))),.c (.fn g [(1,0),(2,0)])] [(0,rdB s i d),(1,rpB),(2,txB w)] 3 (.ret (.agg (ndC n))) [(0,rdB s j d),(1,rpB),(2,txB w)] 3 []:=by
 obtain ⟨k,m,t,a,b,ks⟩:=n
 have h30:¬ ((d:Nat):Int)=30:=by omega
 have e1:IntKind.i64.wrap (((d:Nat):Int)+1)=((d+1:Nat):Int):=by rw[wrapI (by omega)];rfl
 refine fn_of_vc (nv:=9999) (cu:=[]) fits mixed Tryz.func128 rfl hoB rfl rfl rfl rfl ?_
 ((repeat' ((conv=>whnf);first|exact .intro|refine .ya ?_|refine .na ?_|refine .ys ?_|refine .ns ?_|refine .neg (fun _=>?_) (fun _=>?_)|refine .mk (fun _=>?_) (fun _=>?_)|refine .inr (X5 (hg.r [0,1,2] _) ?_)|refine .inl (.inr (X5 (hg.r [0,1,2] _) ?_))|refine .inl (X5 (hg.r [0,1,2] _) ?_)|(rw[e1])|refine .mk ?_ ?_|refine AK ?_|refine AT ?_|fail));all_goals conv=>whnf)
 ((repeat' first|exact rfl|((conv=>whnf);first|done|exact suL|refine And.intro ?_ ?_|fail));all_goals conv=>whnf)
 exact ceq (by rw[wrapI (by omega)];omega)
theorem within_2n {s w:List UInt8} {i d p g q:Nat} {e:Int} (hd:d<30) (hg:Go.EYtcdjjjokniinkaaGreatDoor.Fn Tryz.prog gl g [.c (.ptr 1 0),.c (.ptr 2 0)] [(0,rdB s i (d+1)),(1,rpB),(2,txB w)] 3 (.panic (.d (fltD q e))) [] 3 []) :
 Go.EYtcdjjjokniinkaaGreatDoor.Fn Tryz.prog gl 128 [.c (.ptr 0 0),.c (.d (iD (p:Int))),.c (.fn g [(1,0),(2,0)])] [(0,rdB s i d),(1,rpB),(2,txB w)] 3 (.panic (.d (fltD q e))) [] 3 []:=by
 have h30:¬ ((d:Nat):Int)=30:=by omega
 have e1:IntKind.i64.wrap (((d:Nat):Int)+1)=((d+1:Nat):Int):=by rw[wrapI (by omega)];rfl
 refine fn_of_vc (nv:=9999) (cu:=[]) fits mixed Tryz.func128 rfl hoB rfl rfl rfl rfl ?_
 ((repeat' ((conv=>whnf);first|exact .intro|refine .ya ?_|refine .na ?_|refine .ys ?_|refine .ns ?_|refine .neg (fun _=>?_) (fun _=>?_)|refine .mk (fun _=>?_) (fun _=>?_)|refine .inr (X5 (hg.r [0,1,2] _) ?_)|refine .inl (.inr (X5 (hg.r [0,1,2] _) ?_))|refine .inl (X5 (hg.r [0,1,2] _) ?_)|(rw[e1])|refine .mk ?_ ?_|refine AK ?_|refine AT ?_|fail));all_goals conv=>whnf)
 ((repeat' first|exact rfl|((conv=>whnf);first|done|exact suL|refine And.intro ?_ ?_|fail));all_goals conv=>whnf)
end Go.Proofs.YtcdjjjokniinkaaGreatDoor
end
section
namespace Go.Proofs.YtcdjjjokniinkaaGreatDoor
open Go Go.EYtcdjjjokniinkaaGreatDoor
set_option maxRecDepth 100000
variable {gl:List (Nat×List D)}
theorem decDigits_small {u:Nat} (h:u<10):Lib.decDigits u=[UInt8.ofNat (48+u)]:=by rw[Lib.decDigits];simp[h]
theorem decDigits_big {u:Nat} (h:¬ u<10):Lib.decDigits u=Lib.decDigits (u / 10)++[UInt8.ofNat (48+u % 10)]:=by rw[Lib.decDigits];simp[h]
theorem Itoa_w (te:TypeId) (pe:Value) {n:Int} (h:okI n):FnP Tryz.prog (glV te pe) 148 [iD n] (.str (Lib.itoa n)) :=
 FnP.of_below (xs:=[.int .i64 n]) (v:=.string ⟨(Lib.itoa n).toArray⟩) hoB (fun M w ys hd=>by
  obtain ⟨y,rfl,h1⟩:=All2.one_iff.1 hd
  rw[DenD.v_inv h1]) (fun _ _=>.str _) (fun M w hg=>by
  obtain ⟨_,xs,⟨t,f,hx⟩,_,hd⟩:=hg 6 _ rfl
  have ex:xs=Lib.pow10Tab.map fun z=>Value.int .u64 z:=by
   have key:∀ (l:List Int) (xs:List Value),DenL M w (l.map fun z=>D.v (.int .u64 z)) xs→xs=l.map fun z=>Value.int .u64 z:=by
    intro l
    induction l with
    | nil=>intro xs h;cases xs with|nil=>rfl|cons _ _=>exact h.elim
    | cons a l ih=>intro xs h;cases xs with|nil=>exact h.elim|cons x xs=>rw[DenD.v_inv h.1,ih xs h.2];rfl
   exact key _ _ hd
  have ht:Lib.TabIs Tryz.prog w "internal/strconv.uint64pow10" .u64 Lib.pow10Tab:=by
   have hn:Tryz.prog.globalNamed "internal/strconv.uint64pow10" = some 6:=by kernel_rfl
   show World.var? _ _ _=_
   unfold World.var?
   rw[hn,← ex]
   show (match w.heap[6]? with|some (.cells cs _ _)=>some cs|_=>none)=_
   rw[hx]
  have h:=Any.strconv_Itoa Tryz.laysM171 n h.1 h.2 w ht
  refine h.mono ?_
  rintro e w' ⟨rfl,k,os,rfl⟩
  exact ⟨rfl,Lib.below_grow w.heap.size w (Nat.le_refl _) k os⟩)
def show3 (k n:Int) (s:List UInt8):List UInt8:=if k=1 then Lib.itoa n else if k=2 then s else if k=3 then (if n=1 then tT else tF) else if k=4 then (if 0<n∧n<7 then tx.getD n.toNat [] else []) else []
theorem tx_cut {k:Nat} (h:k<7):cut (tx.map D.str) (k * 1) 1=[.str (tx.getD k [])]:=by
 have h':k<(tx.map D.str).length:=h
 have h2:k<tx.length:=h
 unfold cut
 rw[Nat.mul_one,List.drop_eq_getElem_cons h',List.take_succ_cons,List.take_zero,List.getElem_map]
 simp[List.getD,List.getElem?_eq_getElem h2]
theorem Show_3 (te:TypeId) (pe:Value) (k n:Int) (s:List UInt8) (hn:okI n):FnP Tryz.prog (glV te pe) 116 [vlD k n s] (.str (show3 k n s)):=by
 unfold show3
 by_cases h1:k=1
 ·subst h1
  refine fnP_of_vc (nv:=9999) (cu:=[]) fits mixed Tryz.func116 rfl hoB rfl ?_
  ((repeat' ((conv=>whnf);first|exact .intro|refine .ya ?_|refine .na ?_|refine .ys ?_|refine .ns ?_|refine .neg (fun _=>?_) (fun _=>?_)|refine .mk (fun _=>?_) (fun _=>?_)|refine .inl (.inl (X1 (Itoa_w te pe hn) ?_))|refine .inl (X1 (Itoa_w te pe hn) ?_)|refine X1 (Itoa_w te pe hn) ?_|refine .mk ?_ ?_|refine AK ?_|refine AT ?_|fail));all_goals conv=>whnf)
  exact LeD.rfl
 ·by_cases h2:k=2
  ·subst h2
   refine fnP_of_vc (nv:=9999) (cu:=[]) fits mixed Tryz.func116 rfl hoB rfl ?_
   ((repeat' ((conv=>whnf);first|exact .intro|refine .ya ?_|refine .na ?_|refine .ys ?_|refine .ns ?_|refine .neg (fun _=>?_) (fun _=>?_)|refine .mk (fun _=>?_) (fun _=>?_)|refine .mk ?_ ?_|refine AK ?_|refine AT ?_|fail));all_goals conv=>whnf)
   exact LeD.rfl
  ·by_cases h3:k=3
   ·subst h3
    by_cases h4:n=1
    ·subst h4
     refine fnP_of_vc (nv:=9999) (cu:=[]) fits mixed Tryz.func116 rfl hoB rfl ?_
     ((repeat' ((conv=>whnf);first|exact .intro|refine .ya ?_|refine .na ?_|refine .ys ?_|refine .ns ?_|refine .neg (fun _=>?_) (fun _=>?_)|refine .mk (fun _=>?_) (fun _=>?_)|refine .mk ?_ ?_|refine AK ?_|refine AT ?_|fail));all_goals conv=>whnf)
     exact LeD.rfl
    ·refine fnP_of_vc (nv:=9999) (cu:=[]) fits mixed Tryz.func116 rfl hoB rfl ?_
     ((repeat' ((conv=>whnf);first|exact .intro|refine .ya ?_|refine .na ?_|refine .ys ?_|refine .ns ?_|refine .neg (fun _=>?_) (fun _=>?_)|refine .mk (fun _=>?_) (fun _=>?_)|refine .mk ?_ ?_|refine AK ?_|refine AT ?_|fail));all_goals conv=>whnf)
     simp only[h4,if_false]
     exact LeD.rfl
   ·by_cases h4:k=4
    ·subst h4
     by_cases h5:0<n∧n<7
     ·obtain ⟨h6,h7⟩:=h5
      refine fnP_of_vc (nv:=9999) (cu:=[]) fits mixed Tryz.func116 rfl hoB rfl ?_
      ((repeat' ((conv=>whnf);first|exact .intro|refine .ya ?_|refine .na ?_|refine .ys ?_|refine .ns ?_|refine .neg (fun _=>?_) (fun _=>?_)|refine .mk (fun _=>?_) (fun _=>?_)|refine .mk ?_ ?_|refine AK ?_|refine AT ?_|fail));all_goals conv=>whnf)
      refine ⟨_,tx_cut (k:=n.toNat) (by omega),?_⟩
      ((repeat' ((conv=>whnf);first|exact .intro|refine .ya ?_|refine .na ?_|refine .ys ?_|refine .ns ?_|refine .neg (fun _=>?_) (fun _=>?_)|refine .mk (fun _=>?_) (fun _=>?_)|refine .mk ?_ ?_|refine AK ?_|refine AT ?_|fail));all_goals conv=>whnf)
      simp only[h6,h7,and_self,if_true]
      exact LeD.rfl
     ·refine fnP_of_vc (nv:=9999) (cu:=[]) fits mixed Tryz.func116 rfl hoB rfl ?_
      ((repeat' ((conv=>whnf);first|exact .intro|refine .ya ?_|refine .na ?_|refine .ys ?_|refine .ns ?_|refine .neg (fun _=>?_) (fun _=>?_)|refine .mk (fun _=>?_) (fun _=>?_)|refine .mk ?_ ?_|refine AK ?_|refine AT ?_|fail));all_goals conv=>whnf)
      all_goals first
       | (exfalso;omega)
       | (simp only[h5,if_false];exact LeD.rfl)
    ·refine fnP_of_vc (nv:=9999) (cu:=[]) fits mixed Tryz.func116 rfl hoB rfl ?_
     ((repeat' ((conv=>whnf);first|exact .intro|refine .ya ?_|refine .na ?_|refine .ys ?_|refine .ns ?_|refine .neg (fun _=>?_) (fun _=>?_)|refine .mk (fun _=>?_) (fun _=>?_)|refine .mk ?_ ?_|refine AK ?_|refine AT ?_|fail));all_goals conv=>whnf)
     all_goals first
      | (exfalso;omega)
      | (simp only[h1,h2,h3,h4,if_false];exact LeD.rfl)
theorem dec_len:∀ (k u:Nat),u<10 ^ (k+1)→(Lib.decDigits u).length≤k+1
 | 0,u,h=>by rw[decDigits_small (by simpa using h)];exact Nat.le_refl _
 | k+1,u,h=>by
  by_cases hu:u<10
  ·rw[decDigits_small hu];simp
  ·have:=dec_len k (u / 10) (by rw[Nat.pow_succ] at h;omega)
   rw[decDigits_big hu];simp;omega
theorem itoa_len {n:Int} (h:okI n):(Lib.itoa n).length≤20:=by
 unfold Lib.itoa
 have h1:n.natAbs<10 ^ (18+1):=Nat.lt_of_le_of_lt (show n.natAbs≤9223372036854775808 by omega) (by decide)
 have h2:n.toNat<10 ^ (18+1):=Nat.lt_of_le_of_lt (show n.toNat≤9223372036854775808 by omega) (by decide)
 split
 ·have:=dec_len 18 n.natAbs h1;simp;omega
 ·have:=dec_len 18 n.toNat h2;omega
end Go.Proofs.YtcdjjjokniinkaaGreatDoor
end
