/- Proved: a part of what the law is proved with (the reckoner, contracts of functions, plain laws). Conditions: as each says. -/
import Derived.Test.YtfkjhfdpphfjhaaGreatDoorYFp
import Derived.Test.YtfkjhfdpphfjhaaGreatDoorYGa
import Derived.Test.YtfkjhfdpphfjhaaGreatDoorYGe
import Derived.Test.YtfkjhfdpphfjhaaGreatDoorYPe
section
namespace Go.Proofs.YtfkjhfdpphfjhaaGreatDoor
open Go Go.EYtfkjhfdpphfjhaaGreatDoor
set_option maxRecDepth 100000
variable {gl:List (Nat×List D)}
abbrev AZ:List UInt8:=[65,66,67,68,69,70,71,72,73,74,75,76,77,78,79,80,81,82,83,84,85,86,87,88,89,90]
theorem TrimAZ_d (s:List UInt8) (hs:s.length≤9223372036854775807):FnP Tryz.prog gl 203 [.str s,.str AZ] (.str (Lib.trimS s AZ)) :=
 FnP.of_below (xs:=[.string ⟨s.toArray⟩,.string ⟨AZ.toArray⟩]) (v:=.string ⟨(Lib.trimS s AZ).toArray⟩) hoB (fun M w ys hd=>str2 hd) (fun _ _=>.str _) (fun M w hg=>by
  have h:=Any.strings_Trim_laid Tryz.lays160 (by kernel_rfl) ⟨s.toArray⟩ ⟨AZ.toArray⟩ w (by simpa[ByteArray.size] using hs) (by decide) (ascii_of_all (by decide))
  refine h.mono ?_
  rintro e w' ⟨rfl,hb⟩
  exact ⟨rfl,hb⟩)
def clZ (s:List UInt8):Bool:=decide (2≤s.length) && decide (s.length≤10) && s.all fun c=>decide (65≤c.toNat) && decide (c.toNat≤90)
theorem azTab:∀ k:Fin 256,AZ.contains (UInt8.ofNat k.val)=(decide (65≤k.val) && decide (k.val≤90)):=by decide
theorem az_contains (c:UInt8):AZ.contains c=(decide (65≤c.toNat) && decide (c.toNat≤90)):=by
 have h:=azTab ⟨c.toNat,c.toNat_lt⟩
 simpa using h
theorem clZ_iff (s:List UInt8):clZ s=true↔2≤s.length∧s.length≤10∧Lib.trimS s AZ=[]:=by
 unfold clZ
 rw[trimS_nil]
 simp only[Bool.and_eq_true,decide_eq_true_eq,List.all_eq_true,az_contains,and_assoc]
theorem called_y {s:List UInt8} (hs:s.length≤200) (h:clZ s=true):FnP Tryz.prog gl 148 [.str s] (.v (.bool true)):=by
 obtain ⟨h1,h2,h3⟩:=(clZ_iff s).1 h
 have c1:=TrimAZ_d (gl:=gl) s (by omega)
 rw[h3] at c1
 have h1':(s.length:Int)≥2:=by omega
 have h2':(s.length:Int)≤10:=by omega
 refine fnP_of_vc (nv:=9999) (cu:=[]) fits mixed Tryz.func148 rfl hoB rfl ?_
 ((repeat' ((conv=>whnf);first|exact .intro|refine G ?_|intro _|refine C1 c1 ?_|refine .mk ?_ ?_|refine H ?_|fail));all_goals conv=>whnf)
 all_goals first|exact LeD.rfl|exact LeD.vt rfl|exact LeD.vt (by simp)
theorem called_n {s:List UInt8} (hs:s.length≤200) (h:clZ s=false):FnP Tryz.prog gl 148 [.str s] (.v (.bool false)):=by
 have h':¬ (2≤s.length∧s.length≤10∧Lib.trimS s AZ=[]):=fun hh=>by rw[(clZ_iff s).2 hh] at h;cases h
 have c1:=TrimAZ_d (gl:=gl) s (by omega)
 by_cases h1:(s.length:Int)≥2
 ·by_cases h2:(s.length:Int)≤10
  ·have h3:¬ Lib.trimS s AZ=[]:=fun e=>h' ⟨by omega,by omega,e⟩
   generalize Lib.trimS s AZ=t at *
   refine fnP_of_vc (nv:=9999) (cu:=[]) fits mixed Tryz.func148 rfl hoB rfl ?_
   ((repeat' ((conv=>whnf);first|exact .intro|refine G ?_|intro _|refine C1 c1 ?_|refine .mk ?_ ?_|refine H ?_|fail));all_goals conv=>whnf)
   all_goals first|exact LeD.rfl|exact LeD.vf h3|exact LeD.vf (by omega)
  ·refine fnP_of_vc (nv:=9999) (cu:=[]) fits mixed Tryz.func148 rfl hoB rfl ?_
   ((repeat' ((conv=>whnf);first|exact .intro|refine G ?_|intro _|refine C1 c1 ?_|refine .mk ?_ ?_|refine H ?_|fail));all_goals conv=>whnf)
   all_goals first|exact LeD.rfl|exact LeD.vf (by omega)
 ·refine fnP_of_vc (nv:=9999) (cu:=[]) fits mixed Tryz.func148 rfl hoB rfl ?_
  ((repeat' ((conv=>whnf);first|exact .intro|refine G ?_|intro _|refine C1 c1 ?_|refine .mk ?_ ?_|refine H ?_|fail));all_goals conv=>whnf)
  all_goals first|exact LeD.rfl|exact LeD.vf (by omega)
abbrev rpB:Blk:=.var [.ptr 0 0] 77
theorem within_1 {s:List UInt8} {i j d p g:Nat} (hd:d<30) {n:Nd} (hg:Go.EYtfkjhfdpphfjhaaGreatDoor.Fn Tryz.prog gl g [.c (.ptr 1 0)] [(0,rdB s i (d+1)),(1,rpB)] 2 (.ret (.agg (ndC n))) [(0,rdB s j (d+1)),(1,rpB)] 2 []) :
 Go.EYtfkjhfdpphfjhaaGreatDoor.Fn Tryz.prog gl 98 [.c (.ptr 0 0),.c (.d (iD (p:Int))),.c (.fn g [(1,0)])] [(0,rdB s i d),(1,rpB)] 2 (.ret (.agg (ndC n))) [(0,rdB s j d),(1,rpB)] 2 []:=by
 obtain ⟨k,m,t,a,b,ks⟩:=n
 have h30:¬ ((d:Nat):Int)=30:=by omega
 have e1:IntKind.i64.wrap (((d:Nat):Int)+1)=((d+1:Nat):Int):=by rw[wrapI (by omega)];rfl
 refine fn_of_vc (nv:=9999) (cu:=[]) fits mixed Tryz.func98 rfl hoB rfl rfl rfl rfl ?_
 ((repeat' ((conv=>whnf);first|exact .intro|refine G ?_|intro _|refine C5 hg [0,1] ?_|(rw[e1])|refine .mk ?_ ?_|refine H ?_|fail));all_goals conv=>whnf)
 ((repeat' first|exact rfl|((conv=>whnf);first|done|exact suL|refine And.intro ?_ ?_|fail));all_goals conv=>whnf)
 exact ceq (by rw[wrapI (by omega)];omega)
theorem within_1n {s:List UInt8} {i d p g q:Nat} {e:Int} (hd:d<30) (hg:Go.EYtfkjhfdpphfjhaaGreatDoor.Fn Tryz.prog gl g [.c (.ptr 1 0)] [(0,rdB s i (d+1)),(1,rpB)] 2 (.panic (.d (fltD q e))) [] 2 []) :
 Go.EYtfkjhfdpphfjhaaGreatDoor.Fn Tryz.prog gl 98 [.c (.ptr 0 0),.c (.d (iD (p:Int))),.c (.fn g [(1,0)])] [(0,rdB s i d),(1,rpB)] 2 (.panic (.d (fltD q e))) [] 2 []:=by
 have h30:¬ ((d:Nat):Int)=30:=by omega
 have e1:IntKind.i64.wrap (((d:Nat):Int)+1)=((d+1:Nat):Int):=by rw[wrapI (by omega)];rfl
 refine fn_of_vc (nv:=9999) (cu:=[]) fits mixed Tryz.func98 rfl hoB rfl rfl rfl rfl ?_
 ((repeat' ((conv=>whnf);first|exact .intro|refine G ?_|intro _|refine C5 hg [0,1] ?_|(rw[e1])|refine .mk ?_ ?_|refine H ?_|fail));all_goals conv=>whnf)
 ((repeat' first|exact rfl|((conv=>whnf);first|done|exact suL|refine And.intro ?_ ?_|fail));all_goals conv=>whnf)
abbrev txB (w:List UInt8):Blk:=.var [.d (.str w)] 9
theorem within_2 {s w:List UInt8} {i j d p g:Nat} (hd:d<30) {n:Nd} (hg:Go.EYtfkjhfdpphfjhaaGreatDoor.Fn Tryz.prog gl g [.c (.ptr 1 0),.c (.ptr 2 0)] [(0,rdB s i (d+1)),(1,rpB),(2,txB w)] 3 (.ret (.agg (ndC n))) [(0,rdB s j (d+1)),(1,rpB),(2,txB w)] 3 []) :
 Go.EYtfkjhfdpphfjhaaGreatDoor.Fn Tryz.prog gl 98 [.c (.ptr 0 0),.c (.d (iD (p:Int))),.c (.fn g [(1,0),(2,0)])] [(0,rdB s i d),(1,rpB),(2,txB w)] 3 (.ret (.agg (ndC n))) [(0,rdB s j d),(1,rpB),(2,txB w)] 3 []:=by
 obtain ⟨k,m,t,a,b,ks⟩:=n
 have h30:¬ ((d:Nat):Int)=30:=by omega
 have e1:IntKind.i64.wrap (((d:Nat):Int)+1)=((d+1:Nat):Int):=by rw[wrapI (by omega)];rfl
 refine fn_of_vc (nv:=9999) (cu:=[]) fits mixed Tryz.func98 rfl hoB rfl rfl rfl rfl ?_
 ((repeat' ((conv=>whnf);first|exact .intro|refine G ?_|intro _|refine C5 hg [0,1,2] ?_|(rw[e1])|refine .mk ?_ ?_|refine H ?_|fail));all_goals conv=>whnf)
 ((repeat' first|exact rfl|((conv=>whnf);first|done|exact suL|refine And.intro ?_ ?_|fail));all_goals conv=>whnf)
 exact ceq (by rw[wrapI (by omega)];omega)
theorem within_2n {s w:List UInt8} {i d p g q:Nat} {e:Int} (hd:d<30) (hg:Go.EYtfkjhfdpphfjhaaGreatDoor.Fn Tryz.prog gl g [.c (.ptr 1 0),.c (.ptr 2 0)] [(0,rdB s i (d+1)),(1,rpB),(2,txB w)] 3 (.panic (.d (fltD q e))) [] 3 []) :
 Go.EYtfkjhfdpphfjhaaGreatDoor.Fn Tryz.prog gl 98 [.c (.ptr 0 0),.c (.d (iD (p:Int))),.c (.fn g [(1,0),(2,0)])] [(0,rdB s i d),(1,rpB),(2,txB w)] 3 (.panic (.d (fltD q e))) [] 3 []:=by
 have h30:¬ ((d:Nat):Int)=30:=by omega
 have e1:IntKind.i64.wrap (((d:Nat):Int)+1)=((d+1:Nat):Int):=by rw[wrapI (by omega)];rfl
 refine fn_of_vc (nv:=9999) (cu:=[]) fits mixed Tryz.func98 rfl hoB rfl rfl rfl rfl ?_
 ((repeat' ((conv=>whnf);first|exact .intro|refine G ?_|intro _|refine C5 hg [0,1,2] ?_|(rw[e1])|refine .mk ?_ ?_|refine H ?_|fail));all_goals conv=>whnf)
 ((repeat' first|exact rfl|((conv=>whnf);first|done|exact suL|refine And.intro ?_ ?_|fail));all_goals conv=>whnf)
end Go.Proofs.YtfkjhfdpphfjhaaGreatDoor
end
section
namespace Go.Proofs.YtfkjhfdpphfjhaaGreatDoor
open Go Go.EYtfkjhfdpphfjhaaGreatDoor
open Go
mutual
def cntN:Nd→Nat
 | .mk _ _ _ _ _ ks=>cntL ks+1
def cntL:List Nd→Nat
 | []=>0
 | x::r=>cntN x+cntL r
end
theorem cntL_take:∀ {ks:List Nd} {x:Nat} (h:x<ks.length),cntL (ks.take (x+1))=cntL (ks.take x)+cntN ks[x]
 | y::r,0,_=>by simp[cntL]
 | y::r,x+1,h=>by
  have:=cntL_take (ks:=r) (x:=x) (by simpa using h)
  simp only[List.take_succ_cons,cntL,List.getElem_cons_succ] at *
  omega
theorem cntL_le:∀ (ks:List Nd) (x:Nat),cntL (ks.take x)≤cntL ks
 | [],x=>by simp[cntL]
 | y::r,0=>by simp[cntL]
 | y::r,x+1=>by
  have:=cntL_le r x
  simp only[List.take_succ_cons,cntL] at *
  omega
abbrev noR (a:Rf):Prop:=(a.c=0∧a.r=0∧True)∧((a.fc=true↔False)∧(a.fr=true↔False)∧True)
open Go
mutual
def frmN:Nd→Prop→Prop
 | .mk k m t a b ks,box=>(k=1∧ks.length=0∧t=[]∧(noR a∧noR b)∧0≤m)∨(k=2∧ks.length=0∧(noR a∧noR b)∧m=0)∨(k=3∧ks.length=0∧t=[]∧(noR a∧noR b)∧(m=0∨m=1))∨
  (k=4∧ks.length=0∧t=[]∧(noR a∧noR b)∧1≤m∧m≤6)∨(k=5∧ks.length=0∧t=[]∧m=0∧noR b∧okP a.c a.r)∨(k=6∧box∧ks.length=0∧t=[]∧m=0∧okP a.c a.r∧okP b.c b.r)∨
  (k=7∧ks.length=1∧t=[]∧(noR a∧noR b)∧m=0∧frmL False ks)∨(k=8∧ks.length=2∧t=[]∧(noR a∧noR b)∧1≤m∧m≤11∧frmL False ks)∨(k=9∧clZ t=true∧(noR a∧noR b)∧m=0∧frmL True ks)
def frmL:Prop→List Nd→Prop
 | _,[]=>True
 | box,x::r=>frmN x box∧frmL box r
end
theorem frmL_iff {box:Prop}:∀ {ks:List Nd},frmL box ks↔∀ x (h:x<ks.length),frmN ks[x] box
 | []=>by simp[frmL]
 | y::r=>by
  simp only[frmL,frmL_iff (ks:=r)]
  constructor
  ·rintro ⟨h1,h2⟩ x hx
   cases x with
   | zero=>exact h1
   | succ x=>exact h2 x (by simpa using hx)
  ·intro h
   exact ⟨h 0 (by simp),fun x hx=>h (x+1) (by simpa using hx)⟩
section
variable {m:Int} {t:List UInt8} {a b:Rf} {ks:List Nd} {box:Prop}
theorem frm_1:frmN (.mk 1 m t a b ks) box↔ks.length=0∧t=[]∧(noR a∧noR b)∧0≤m:=by simp[frmN]
theorem frm_2:frmN (.mk 2 m t a b ks) box↔ks.length=0∧(noR a∧noR b)∧m=0:=by simp[frmN]
theorem frm_3:frmN (.mk 3 m t a b ks) box↔ks.length=0∧t=[]∧(noR a∧noR b)∧(m=0∨m=1):=by simp[frmN]
theorem frm_4:frmN (.mk 4 m t a b ks) box↔ks.length=0∧t=[]∧(noR a∧noR b)∧1≤m∧m≤6:=by simp[frmN]
theorem frm_5:frmN (.mk 5 m t a b ks) box↔ks.length=0∧t=[]∧m=0∧noR b∧okP a.c a.r:=by simp[frmN]
theorem frm_6:frmN (.mk 6 m t a b ks) box↔box∧ks.length=0∧t=[]∧m=0∧okP a.c a.r∧okP b.c b.r:=by simp[frmN]
theorem frm_7:frmN (.mk 7 m t a b ks) box↔ks.length=1∧t=[]∧(noR a∧noR b)∧m=0∧frmL False ks:=by simp[frmN]
theorem frm_8:frmN (.mk 8 m t a b ks) box↔ks.length=2∧t=[]∧(noR a∧noR b)∧1≤m∧m≤11∧frmL False ks:=by simp[frmN]
theorem frm_9:frmN (.mk 9 m t a b ks) box↔clZ t=true∧(noR a∧noR b)∧m=0∧frmL True ks:=by simp[frmN]
theorem frm_0 {k:Int} (h:k<1∨9<k):¬ frmN (.mk k m t a b ks) box:=by
 unfold frmN
 rintro (h1|h1|h1|h1|h1|h1|h1|h1|h1) <;> have:=h1.1 <;> omega
end
def tgtN:Nd→Int
 | .mk k m _ _ _ _=>if k=8 then (if m≤6 then 1 else if m=7 then 2 else if m≤9 then 3 else 4) else 5
def sgnN (m:Int):List UInt8:=([[],[61],[60,62],[60],[60,61],[62],[62,61],[38],[43],[45],[42],[47]]:List (List UInt8)).getD m.toNat []
def brN (s:List UInt8) (p:Prop) [Decidable p]:List UInt8:=if p then 40::(s++[41]) else s
def dqN:List UInt8→List UInt8
 | []=>[]
 | c::r=>if c=34 then 34::34::dqN r else c::dqN r
def comN:List (List UInt8)→List UInt8
 | []=>[]
 | s::r=>s++(r.map fun t=>44::t).flatten
def wr7:List Nd→List (List UInt8)→List UInt8
 | x::_,s::_=>45::brN s (tgtN x<5)
 | _,_=>[]
def wr8 (m tg:Int):List Nd→List (List UInt8)→List UInt8
 | x::y::_,s::t::_=>brN s (tgtN x<tg)++(sgnN m++brN t (tgtN y≤tg))
 | _,_=>[]
def nmR (a:Rf):List UInt8:=nameL a.c a.r a.fc a.fr
open Go
mutual
def wrN:Nd→List UInt8
 | .mk k m t a b ks=>if k=1 then Lib.itoa m else if k=2 then 34::(dqN t++[34]) else if k=3 then (if m=1 then tT else tF) else if k=4 then tx.getD m.toNat [] else if k=5 then nmR a else if k=6 then nmR a++58::nmR b
  else if k=7 then wr7 ks (wrL ks) else if k=8 then wr8 m (tgtN (.mk k m t a b ks)) ks (wrL ks) else if k=9 then t++40::(comN (wrL ks)++[41]) else []
def wrL:List Nd→List (List UInt8)
 | []=>[]
 | x::r=>wrN x::wrL r
end
open Go
mutual
def okN:Nd→Prop
 | .mk _ m t _ _ ks=>okI m∧t.length≤1048576∧okL ks
def okL:List Nd→Prop
 | []=>True
 | x::r=>okN x∧okL r
end
theorem okL_get:∀ {ks:List Nd} (_:okL ks) {x:Nat} (hx:x<ks.length),okN ks[x]
 | y::r,h,0,_=>h.1
 | y::r,h,x+1,hx=>okL_get (ks:=r) h.2 (by simpa using hx)
theorem wrL_len:∀ ks:List Nd,(wrL ks).length=ks.length
 | []=>rfl
 | x::r=>by simp[wrL,wrL_len r]
theorem wrL_get:∀ {ks:List Nd} {x:Nat} (h:x<ks.length),(wrL ks)[x]'(by rw[wrL_len];exact h)=wrN ks[x]
 | y::r,0,_=>rfl
 | y::r,x+1,h=>wrL_get (ks:=r) (by simpa using h)
theorem dqN_len:∀ t:List UInt8,(dqN t).length≤2 * t.length
 | []=>by simp[dqN]
 | c::r=>by
  have:=dqN_len r
  unfold dqN
  split <;> simp <;> omega
end Go.Proofs.YtfkjhfdpphfjhaaGreatDoor
end
section
namespace Go.Proofs.YtfkjhfdpphfjhaaGreatDoor
open Go Go.EYtfkjhfdpphfjhaaGreatDoor
set_option maxRecDepth 100000
set_option maxHeartbeats 4000000
variable {gl:List (Nat×List D)}
abbrev lfB (i:Int):Blk:=.var [.d (iD i)] 3
theorem kid_get {ks:List Nd} {x:Nat} (h:x<ks.length):(Nd.csL ks)[((x:Nat):Int).toNat]?=some (ks[x]).cs:=by
 rw[Int.toNat_natCast]
 induction ks generalizing x with
 | nil=>simp at h
 | cons a r ih =>
  cases x with
  | zero=>rfl
  | succ x=>exact ih (by simpa using h)
theorem kid_len:∀ ks:List Nd,(Nd.csL ks).length=ks.length
 | []=>rfl
 | _::r=>congrArg (·+1) (kid_len r)
theorem cnt_pos (n:Nd):1≤cntN n:=by
 obtain ⟨k,m,t,a,b,ks⟩:=n
 unfold cntN
 omega
theorem len_cnt:∀ ks:List Nd,ks.length≤cntL ks
 | []=>Nat.le_refl _
 | x::r=>by
  have h1:=len_cnt r
  have h2:=cnt_pos x
  simp only[List.length_cons,cntL]
  omega
theorem count_d (n:Nd):∀ (i:Nat),i≤200→
 Go.EYtfkjhfdpphfjhaaGreatDoor.Fn Tryz.prog gl 101 [.agg (ndC n),.c (.ptr 0 0)] [(0,lfB i)] 1 (.ret (.c (.d (.v (.bool (decide (cntN n≤i))))))) [(0,lfB (if cntN n≤i then ((i - cntN n:Nat):Int) else -1))] 1 []:=by
 match n with
 | .mk k m t a b ks =>
  have ih:∀ x (h:x<ks.length),∀ (i:Nat),i≤200→Go.EYtfkjhfdpphfjhaaGreatDoor.Fn Tryz.prog gl 101 [.agg (ndC ks[x]),.c (.ptr 0 0)] [(0,lfB i)] 1 (.ret (.c (.d (.v (.bool (decide (cntN ks[x]≤i))))))) [(0,lfB (if cntN ks[x]≤i then ((i - cntN ks[x]:Nat):Int) else -1))] 1 []:=fun x h=>count_d ks[x]
  intro i hi
  have hlen:=kid_len ks
  by_cases h0:i=0
  ·subst h0
   have hc:¬ cntN (.mk k m t a b ks)≤0:=by unfold cntN;omega
   rw[decide_eq_false hc,if_neg hc]
   have h1:IntKind.i64.wrap (((0:Nat):Int) - 1)<0:=by decide
   refine fn_of_vc (nv:=9999) (cu:=[]) fits mixed Tryz.func101 rfl hoB rfl rfl rfl rfl ?_
   ((repeat' ((conv=>whnf);first|exact .intro|refine G ?_|intro _|refine .mk ?_ ?_|refine H ?_|fail));all_goals conv=>whnf)
   ((repeat' first|exact rfl|((conv=>whnf);first|done|exact suL|refine And.intro ?_ ?_|fail));all_goals conv=>whnf)
  ·have e1:IntKind.i64.wrap ((i:Int) - 1)=((i - 1:Nat):Int):=by rw[wrapI (by omega)];omega
   have h1:¬ ((i - 1:Nat):Int)<0:=by omega
   refine fn_of_vc (nv:=9999) (cu:=[]) fits mixed Tryz.func101 rfl hoB rfl rfl rfl rfl ?_
   ((repeat' ((conv=>whnf);first|exact .intro|refine G ?_|intro _|(rw[e1])|refine .mk ?_ ?_|refine H ?_|fail));all_goals conv=>whnf)
   refine ⟨{ σ:=Nat,fr:=fun x=>[(19,.c (.d (iD (x:Int))))],ks:=[0],L:=fun x=>[(0,lfB ((i - 1 - cntL (ks.take x):Nat):Int))],ex:=0,I:=fun x=>x≤ks.length∧cntL (ks.take x)≤i - 1,μ:=fun x=>ks.length - x },⟨0,⟨Nat.zero_le _,Nat.zero_le _⟩,?_⟩,fun (x:Nat) hx=>?_⟩
   ·((repeat' first|exact rfl|((conv=>whnf);first|done|exact suL|refine And.intro ?_ ?_|fail));all_goals conv=>whnf)
   ·obtain ⟨hx1,hx2⟩:=hx
    by_cases hlt:x<ks.length
    ·have h2:(x:Int)<((Nd.csL ks).length:Nat):=by omega
     have g1:=kid_get hlt
     have c1:=ih x hlt (i - 1 - cntL (ks.take x)) (by omega)
     have ht:=cntL_take hlt
     have hle:=cntL_le ks (x+1)
     have hxc:=len_cnt (ks.take x)
     rw[List.length_take,Nat.min_eq_left hx1] at hxc
     have e0:IntKind.i64.wrap ((x:Int)+1)=((x+1:Nat):Int):=by rw[wrapI (by omega)];rfl
     generalize ks[x]=q at *
     obtain ⟨k1,m1,t1,a1,b1,ks1⟩:=q
     change (Nd.csL ks)[((x:Nat):Int).toNat]?=some [iD k1,iD m1,.str t1,iD a1.c,iD a1.r,tD a1.fc,tD a1.fr,iD b1.c,iD b1.r,tD b1.fc,tD b1.fr,.lst 12 (Nd.csL ks1)] at g1
     by_cases hq:cntN (.mk k1 m1 t1 a1 b1 ks1)≤i - 1 - cntL (ks.take x)
     ·rw[decide_eq_true hq,if_pos hq] at c1
      ((repeat' ((conv=>whnf);first|exact .intro|refine G ?_|intro _|refine C5 c1 [0] ?_|(refine ⟨Int.natCast_nonneg _,_,g1,?_⟩)|refine .mk ?_ ?_|refine H ?_|fail));all_goals conv=>whnf)
      refine ⟨x+1,⟨⟨hlt,by omega⟩,by show ks.length - (x+1)<ks.length - x;omega⟩,?_⟩
      ((repeat' first|exact rfl|((conv=>whnf);first|done|exact suL|refine And.intro ?_ ?_|fail));all_goals conv=>whnf)
      ·exact ceq e0
      ·exact ceq (by omega)
     ·rw[decide_eq_false hq,if_neg hq] at c1
      ((repeat' ((conv=>whnf);first|exact .intro|refine G ?_|intro _|refine C5 c1 [0] ?_|(refine ⟨Int.natCast_nonneg _,_,g1,?_⟩)|refine .mk ?_ ?_|refine H ?_|fail));all_goals conv=>whnf)
      have hN:¬ cntN (.mk k m t a b ks)≤i:=by unfold cntN;omega
      rw[decide_eq_false hN,if_neg hN]
      ((repeat' first|exact rfl|((conv=>whnf);first|done|exact suL|refine And.intro ?_ ?_|fail));all_goals conv=>whnf)
    ·have h2:¬ (x:Int)<((Nd.csL ks).length:Nat):=by omega
     ((repeat' ((conv=>whnf);first|exact .intro|refine G ?_|intro _|refine .mk ?_ ?_|refine H ?_|fail));all_goals conv=>whnf)
     have hxl:x=ks.length:=by omega
     subst hxl
     rw[List.take_length] at *
     have hN:cntN (.mk k m t a b ks)≤i:=by unfold cntN;omega
     rw[decide_eq_true hN,if_pos hN]
     ((repeat' first|exact rfl|((conv=>whnf);first|done|exact suL|refine And.intro ?_ ?_|fail));all_goals conv=>whnf)
     exact ceq (by unfold cntN;omega)
termination_by SizeOf.sizeOf n
decreasing_by
 simp only[Nd.mk.sizeOf_spec]
 have:=List.sizeOf_lt_of_mem (List.getElem_mem h)
 omega
end Go.Proofs.YtfkjhfdpphfjhaaGreatDoor
end
section
namespace Go.Proofs.YtfkjhfdpphfjhaaGreatDoor
open Go Go.EYtfkjhfdpphfjhaaGreatDoor
set_option maxRecDepth 100000
def boxC (a b:Rf):List (Int×Int):=pairsL (min a.c b.c) (min a.r b.r) (max a.c b.c - min a.c b.c+1).toNat (max a.r b.r - min a.r b.r+1).toNat
theorem frm_kid {k m:Int} {t:List UInt8} {a b:Rf} {ks:List Nd} {box:Prop} (hf:frmN (.mk k m t a b ks) box):∀ x (h:x<ks.length),∃ bx:Prop,frmN ks[x] bx:=fun x h=>by
 by_cases h7:k=7
 ·subst h7;rw[frm_7] at hf;exact ⟨_,frmL_iff.1 hf.2.2.2.2 x h⟩
 by_cases h8:k=8
 ·subst h8;rw[frm_8] at hf;exact ⟨_,frmL_iff.1 hf.2.2.2.2.2 x h⟩
 by_cases h9:k=9
 ·subst h9;rw[frm_9] at hf;exact ⟨_,frmL_iff.1 hf.2.2.2 x h⟩
 exfalso
 unfold frmN at hf
 omega
theorem boxC_len {a b:Rf} (ha:okP a.c a.r) (hb:okP b.c b.r):(boxC a b).length≤2574:=by
 unfold boxC
 rw[pairsL_len]
 obtain ⟨h1,h2,h3,h4⟩:=ha
 obtain ⟨h5,h6,h7,h8⟩:=hb
 have:(max a.r b.r - min a.r b.r+1).toNat * (max a.c b.c - min a.c b.c+1).toNat≤99 * 26:=Nat.mul_le_mul (by omega) (by omega)
 omega
end Go.Proofs.YtfkjhfdpphfjhaaGreatDoor
end
section
namespace Go.Proofs.YtfkjhfdpphfjhaaGreatDoor
open Go Go.EYtfkjhfdpphfjhaaGreatDoor
set_option maxRecDepth 100000
abbrev nSUM:List UInt8:=[83,85,77]
abbrev nMIN:List UInt8:=[77,73,78]
abbrev nMAX:List UInt8:=[77,65,88]
abbrev nAVG:List UInt8:=[65,86,71]
abbrev nCOUNT:List UInt8:=[67,79,85,78,84]
abbrev nCOUNTA:List UInt8:=[67,79,85,78,84,65]
abbrev nAND:List UInt8:=[65,78,68]
abbrev nOR:List UInt8:=[79,82]
abbrev nCAT:List UInt8:=[67,65,84]
abbrev nNONE:List UInt8:=[78,79,78,69]
abbrev nIF:List UInt8:=[73,70]
abbrev nIFBAD:List UInt8:=[73,70,66,65,68]
abbrev nCHOOSE:List UInt8:=[67,72,79,79,83,69]
abbrev nBADP:List UInt8:=[66,65,68,80]
abbrev nBLANKP:List UInt8:=[66,76,65,78,75,80]
abbrev nNUMP:List UInt8:=[78,85,77,80]
abbrev nNOT:List UInt8:=[78,79,84]
abbrev nABS:List UInt8:=[65,66,83]
abbrev nSIGN:List UInt8:=[83,73,71,78]
abbrev nMOD:List UInt8:=[77,79,68]
abbrev nPOWER:List UInt8:=[80,79,87,69,82]
abbrev nVALUE:List UInt8:=[86,65,76,85,69]
abbrev nLEN:List UInt8:=[76,69,78]
abbrev nLEFT:List UInt8:=[76,69,70,84]
abbrev nRIGHT:List UInt8:=[82,73,71,72,84]
abbrev nMID:List UInt8:=[77,73,68]
abbrev nUPPER:List UInt8:=[85,80,80,69,82]
abbrev nLOWER:List UInt8:=[76,79,87,69,82]
abbrev nFIND:List UInt8:=[70,73,78,68]
abbrev nREPT:List UInt8:=[82,69,80,84]
abbrev nEXACT:List UInt8:=[69,88,65,67,84]
abbrev nROWS:List UInt8:=[82,79,87,83]
abbrev nCOLS:List UInt8:=[67,79,76,83]
abbrev nINDEX:List UInt8:=[73,78,68,69,88]
abbrev nMATCH:List UInt8:=[77,65,84,67,72]
abbrev nLOOKUP:List UInt8:=[76,79,79,75,85,80]
abbrev nCOUNTIF:List UInt8:=[67,79,85,78,84,73,70]
abbrev nSUMIF:List UInt8:=[83,85,77,73,70]
abbrev isMany (t:List UInt8):Prop:=t=nSUM∨t=nMIN∨t=nMAX∨t=nAVG∨t=nCOUNT∨t=nCOUNTA∨t=nAND∨t=nOR∨t=nCAT
abbrev is1 (t:List UInt8):Prop:=t=nBADP∨t=nBLANKP∨t=nNUMP∨t=nNOT∨t=nABS∨t=nSIGN∨t=nLEN∨t=nUPPER∨t=nLOWER∨t=nVALUE∨t=nROWS∨t=nCOLS
abbrev is2 (t:List UInt8):Prop:=t=nIFBAD∨t=nMOD∨t=nPOWER∨t=nLEFT∨t=nRIGHT∨t=nFIND∨t=nREPT∨t=nEXACT∨t=nMATCH∨t=nCOUNTIF
abbrev is3 (t:List UInt8):Prop:=t=nMID∨t=nINDEX∨t=nLOOKUP∨t=nSUMIF
def argZ (t:List UInt8):Int×Int:=if t=nNONE then (0,0) else if is1 t then (1,1) else if is2 t then (2,2) else if is3 t then (3,3) else if t=nIF then (2,3) else if t=nCHOOSE then (2,200) else (-1,-1)
abbrev isBoxed (t:List UInt8):Prop:=t=nROWS∨t=nCOLS∨t=nINDEX∨t=nMATCH∨t=nLOOKUP∨t=nCOUNTIF∨t=nSUMIF
abbrev isReck (t:List UInt8):Prop:=t=nNOT∨t=nABS∨t=nSIGN∨t=nMOD∨t=nPOWER∨t=nVALUE
abbrev wrV:Vl:=⟨4,2,[]⟩
inductive Ar where
 | one (v:Vl)
 | box (vs:List Vl) (w:Nat)
def Ar.v:Ar→Vl
 | .one v=>v
 | .box _ _=>wrV
def Ar.fl:Ar→List (Bool×Vl)
 | .one v=>[(false,v)]
 | .box vs _=>vs.map fun v=>(true,v)
def flA (ag:List Ar):List (Bool×Vl):=ag.flatMap Ar.fl
abbrev truD (p:Prop) [Decidable p]:Vl:=⟨3,if p then 1 else 0,[]⟩
def cntS (t:List UInt8) (k:Nat) (p:Bool×Vl):Nat :=
 if (t=nCOUNT∧((p.1=true∧p.2.k=1)∨(p.1=false∧¬ (numV p.2).k=4)))∨(t=nCOUNTA∧¬ p.2.k=0) then k+1 else k
def catS (out:Vl) (p:Bool×Vl):Vl:=twoV 7 out p.2
structure Lg where
 k:Nat
 bad:Vl
 out:Bool
def logO (and:Bool) (s:Lg) (v:Vl):Lg :=
 if s.bad.k=4 then s else ⟨s.k+1,truV v,if (truV v).k=3∧¬ (decide ((truV v).n=1)=and) then !and else s.out⟩
def logS (and:Bool) (s:Lg) (p:Bool×Vl):Lg :=
 if p.1=true∧¬ (p.2.k=1∨p.2.k=3∨p.2.k=4) then s else logO and s p.2
structure Ns where
 all:List Int
 bad:Vl
def numO (s:Ns) (v:Vl):Ns :=
 if s.bad.k=4 then s else ⟨if (numV v).k=1 then s.all++[(numV v).n] else s.all,numV v⟩
def numS (s:Ns) (p:Bool×Vl):Ns :=
 if p.1=true∧¬ (p.2.k=1∨p.2.k=4) then s else numO s p.2
def sumL (l:List Int):Vl:=l.foldl (fun s n=>twoV 8 s ⟨1,n,[]⟩) ⟨1,0,[]⟩
def mmS (t:List UInt8) (o n:Int):Int:=if (t=nMIN∧n<o)∨(t=nMAX∧o<n) then n else o
def mmL (t:List UInt8):List Int→Int
 | []=>0
 | x::r=>r.foldl (mmS t) x
def numbersV (t:List UInt8) (l:List Int):Vl :=
 if t=nMIN∨t=nMAX then ⟨1,mmL t l,[]⟩ else if t=nAVG then twoV 11 (sumL l) ⟨1,l.length,[]⟩ else sumL l
def logicV (_and:Bool) (s:Lg):Vl:=if s.bad.k=4 then s.bad else if s.k=0 then wrV else ⟨3,if s.out=true then 1 else 0,[]⟩
def manyF (t:List UInt8) (l:List (Bool×Vl)):Vl :=
 if t=nCOUNT∨t=nCOUNTA then ⟨1,(l.foldl (cntS t) 0:Nat),[]⟩ else
 if t=nCAT then l.foldl catS ⟨2,0,[]⟩ else
 if t=nAND∨t=nOR then logicV (decide (t=nAND)) (l.foldl (logS (decide (t=nAND))) ⟨0,⟨0,0,[]⟩,decide (t=nAND)⟩) else
 (let s:=l.foldl numS ⟨[],⟨0,0,[]⟩⟩
  if s.bad.k=4 then s.bad else numbersV t s.all)
def manyV (t:List UInt8) (ag:List Ar):Vl:=manyF t (flA ag)
def badL (l:List Vl):Option Vl:=l.find? fun v=>decide (v.k=4)
abbrev v0 (l:List Vl):Vl:=l.getD 0 wrV
abbrev v1 (l:List Vl):Vl:=l.getD 1 wrV
abbrev v2 (l:List Vl):Vl:=l.getD 2 wrV
def chosenV (t:List UInt8) (l:List Vl):Vl :=
 if t=nIFBAD then (if (v0 l).k=4 then v1 l else v0 l) else
 if t=nCHOOSE then (if (numV (v0 l)).k=4 then numV (v0 l) else if (numV (v0 l)).n<1∨(l.length:Int)≤(numV (v0 l)).n then wrV else l.getD (numV (v0 l)).n.toNat wrV) else
 if (truV (v0 l)).k=4 then truV (v0 l) else if (truV (v0 l)).n=1 then v1 l else if l.length=3 then v2 l else ⟨3,0,[]⟩
def powL (a:Vl):Nat→Vl
 | 0=>⟨1,1,[]⟩
 | n+1=>twoV 10 (powL a n) a
def sgnZ (c:Int):Int:=if c<0 then -1 else if c=0 then 0 else 1
def reckV (t:List UInt8) (l:List Vl):Vl :=
 if t=nNOT then (if (truV (v0 l)).k=4 then truV (v0 l) else ⟨3,1 - (truV (v0 l)).n,[]⟩) else
 if (numV (v0 l)).k=4 then numV (v0 l) else
 if t=nABS then (if (numV (v0 l)).n<0 then twoV 9 ⟨1,0,[]⟩ (numV (v0 l)) else numV (v0 l)) else
 if t=nSIGN then ⟨1,sgnZ (numV (v0 l)).n,[]⟩ else
 if t=nMOD then modV (numV (v0 l)) (v1 l) else
 if t=nPOWER then (if (numV (v1 l)).k=4 then numV (v1 l) else if (numV (v1 l)).n<0∨64<(numV (v1 l)).n then ⟨4,5,[]⟩ else powL (numV (v0 l)) (numV (v1 l)).n.toNat) else
 numV (v0 l)
def caseB (up:Bool) (c:UInt8):UInt8:=if up=true∧97≤c∧c≤122 then c - 32 else if up=false∧65≤c∧c≤90 then c+32 else c
def cutV (t s:List UInt8) (n m:Int):Vl :=
 if t=nMID then (if n<1 then wrV else if m<0 then wrV else ⟨2,0,(s.drop (n - 1).toNat).take m.toNat⟩) else
 if n<0 then wrV else
 if t=nRIGHT then ⟨2,0,s.drop (s.length - n.toNat)⟩ else
 if t=nREPT then (if s=[] then ⟨2,0,[]⟩ else if 200 / (s.length:Int)<n then wrV else ⟨2,0,(List.replicate n.toNat s).flatten⟩) else
 ⟨2,0,s.take n.toNat⟩
def textV (t:List UInt8) (l:List Vl):Vl :=
 if t=nLEN then ⟨1,(showV (v0 l)).length,[]⟩ else
 if t=nUPPER∨t=nLOWER then ⟨2,0,(showV (v0 l)).map (caseB (decide (t=nUPPER)))⟩ else
 if t=nEXACT then truD (showV (v0 l)=showV (v1 l)) else
 if t=nFIND then (if Lib.index (showV (v1 l)) (showV (v0 l))<0 then wrV else ⟨1,Lib.index (showV (v1 l)) (showV (v0 l))+1,[]⟩) else
 match badL (l.tail.map numV) with
 | some b=>b
 | none=>cutV t (showV (v0 l)) (numV (v1 l)).n (numV (v2 l)).n
def alikeP (a b:Vl):Prop:=(twoV 1 a b).k=3∧(twoV 1 a b).n=1
instance (a b:Vl):Decidable (alikeP a b):=inferInstanceAs (Decidable (_∧_))
def sumifL (v:Vl):List (Vl×Vl)→List Int→Vl
 | [],all=>sumL all
 | (x,s)::r,all=>if alikeP x v then (if s.k=4 then s else if s.k=1 then sumifL v r (all++[s.n]) else sumifL v r all) else sumifL v r all
def indexV (vs:List Vl) (w:Nat) (a b:Vl):Vl :=
 match badL [a,b] with
 | some x=>x
 | none=>match badL [numV a,numV b] with
  | some x=>x
  | none=>if (numV a).n<1∨((vs.length / w:Nat):Int)<(numV a).n∨(numV b).n<1∨(w:Int)<(numV b).n then ⟨4,3,[]⟩ else vs.getD (((numV a).n - 1) * w+(numV b).n - 1).toNat wrV
def lookR (vs:List Vl) (w:Nat) (v:Vl):Option Nat:=(List.range (vs.length / w)).find? fun r=>decide (alikeP (vs.getD (r * w) wrV) v)
def Ar.bx:Ar→Option (List Vl×Nat)
 | .one _=>none
 | .box vs w=>some (vs,w)
abbrev aI (ag:List Ar) (i:Nat):Ar:=ag.getD i (.one wrV)
def matchV (vs:List Vl) (v:Vl):Vl:=match vs.findIdx? fun x=>decide (alikeP x v) with
 | some i=>⟨1,(i:Int)+1,[]⟩
 | none=>⟨4,6,[]⟩
def lookV (vs:List Vl) (w:Nat) (v c:Vl):Vl :=
 if (numV c).k=4 then numV c else if (numV c).n<1∨(w:Int)<(numV c).n then ⟨4,3,[]⟩ else match lookR vs w v with
 | some r=>vs.getD (r * w+(numV c).n.toNat - 1) wrV
 | none=>⟨4,6,[]⟩
def cntifV (vs:List Vl) (v:Vl):Vl:=⟨1,(vs.countP fun x=>decide (alikeP x v):Nat),[]⟩
def sumifV (vs:List Vl) (w:Nat) (v:Vl):Option (List Vl×Nat)→Vl
 | none=>wrV
 | some (ss,w')=>if ¬ w'=w∨¬ ss.length=vs.length then wrV else sumifL v (vs.zip ss) []
def boxV (t:List UInt8) (ag:List Ar) (vs:List Vl) (w:Nat):Vl :=
 if t=nROWS then ⟨1,(vs.length / w:Nat),[]⟩ else
 if t=nCOLS then ⟨1,w,[]⟩ else
 if t=nINDEX then indexV vs w (aI ag 1).v (aI ag 2).v else
 if t=nMATCH then (if (aI ag 0).v.k=4 then (aI ag 0).v else matchV vs (aI ag 0).v) else
 if t=nLOOKUP then (if (aI ag 0).v.k=4 then (aI ag 0).v else lookV vs w (aI ag 0).v (aI ag 2).v) else
 if t=nCOUNTIF then (if (aI ag 1).v.k=4 then (aI ag 1).v else cntifV vs (aI ag 1).v) else
 if (aI ag 2).bx=none then wrV else
 if (aI ag 1).v.k=4 then (aI ag 1).v else sumifV vs w (aI ag 1).v (aI ag 2).bx
def boxedV (t:List UInt8) (ag:List Ar):Vl:=match (aI ag (if t=nMATCH∨t=nLOOKUP then 1 else 0)).bx with
 | none=>wrV
 | some (vs,w)=>boxV t ag vs w
def callV (t:List UInt8) (ag:List Ar):Vl :=
 if isMany t then (if ag.length=0 then wrV else manyV t ag) else
 if (argZ t).1<0 then ⟨4,4,[]⟩ else
 if (ag.length:Int)<(argZ t).1∨(argZ t).2<(ag.length:Int) then wrV else
 if t=nNONE then ⟨4,6,[]⟩ else
 if t=nIF∨t=nIFBAD∨t=nCHOOSE then chosenV t (ag.map Ar.v) else
 if t=nBADP then truD ((v0 (ag.map Ar.v)).k=4) else
 if t=nBLANKP then truD ((v0 (ag.map Ar.v)).k=0) else
 if t=nNUMP then truD ((v0 (ag.map Ar.v)).k=1) else
 if isBoxed t then boxedV t ag else
 match badL (ag.map Ar.v) with
 | some b=>b
 | none=>if isReck t then reckV t (ag.map Ar.v) else textV t (ag.map Ar.v)
def nodeV (ev:Int→Int→Vl) (k m:Int) (t:List UInt8) (a:Rf) (ag:List Ar):Vl :=
 if k=1 then ⟨1,m,[]⟩ else if k=2 then ⟨2,0,t⟩ else if k=3 then truD (m=1) else if k=4 then ⟨4,m,[]⟩ else if k=5 then ev a.c a.r else
 if k=7 then twoV 9 ⟨1,0,[]⟩ (aI ag 0).v else if k=8 then twoV m (aI ag 0).v (aI ag 1).v else if k=9 then callV t ag else wrV
def boxA (ev:Int→Int→Vl) (a b:Rf):Ar:=.box ((boxC a b).map fun p=>ev p.1 p.2) (max a.c b.c - min a.c b.c+1).toNat
def nodeA (ev:Int→Int→Vl) (k m:Int) (t:List UInt8) (a b:Rf) (ag:List Ar):Ar:=if k=6 then boxA ev a b else .one (nodeV ev k m t a ag)
open Go
mutual
def evA (ev:Int→Int→Vl):Nd→Ar
 | .mk k m t a b ks=>nodeA ev k m t a b (evK ev ks)
def evK (ev:Int→Int→Vl):List Nd→List Ar
 | []=>[]
 | x::r=>evA ev x::evK ev r
end
def evN (ev:Int→Int→Vl) (n:Nd):Vl:=(evA ev n).v
theorem evK_map (ev:Int→Int→Vl):∀ ks:List Nd,evK ev ks=ks.map (evA ev)
 | []=>rfl
 | x::r=>by rw[evK,evK_map ev r];rfl
theorem evN_mk (ev:Int→Int→Vl) (k m:Int) (t:List UInt8) (a b:Rf) (ks:List Nd):evN ev (.mk k m t a b ks)=nodeV ev k m t a (evK ev ks):=by
 unfold evN
 rw[evA]
 unfold nodeA
 split
 ·rename_i h
  subst h
  rfl
 ·rfl
end Go.Proofs.YtfkjhfdpphfjhaaGreatDoor
end
