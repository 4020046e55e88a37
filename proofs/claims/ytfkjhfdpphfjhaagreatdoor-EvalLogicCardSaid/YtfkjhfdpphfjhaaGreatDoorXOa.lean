/- Proved: a part of what the law is proved with (the reckoner, contracts of functions, plain laws). Conditions: as each says. -/
import Derived.Test.YtfkjhfdpphfjhaaGreatDoorXBj
import Derived.Test.YtfkjhfdpphfjhaaGreatDoorXGa
import Derived.Test.YtfkjhfdpphfjhaaGreatDoorXGf
import Derived.Test.YtfkjhfdpphfjhaaGreatDoorXPe
import Derived.Test.YtfkjhfdpphfjhaaGreatDoorXSg
namespace Go.Proofs.YtfkjhfdpphfjhaaGreatDoor
open Go Go.EYtfkjhfdpphfjhaaGreatDoor
section
open Go
mutual
def cntN:Nd→Nat
 | .mk _ _ _ _ _ ks=>cntL ks+1
def cntL:List Nd→Nat
 | []=>0
 | x::r=>cntN x+cntL r
end
theorem cntL_take:∀ {ks:List Nd} {x:Nat} (h:x<ks.length),cntL (ks.take (x+1))=cntL (ks.take x)+cntN ks[x]
 | y::r,0,_=>by simp[cntL]
 | y::r,x+1,h=>by
  have:=cntL_take (ks:=r) (x:=x) (by simpa using h)
  simp only[List.take_succ_cons,cntL,List.getElem_cons_succ] at *
  omega
theorem cntL_le:∀ (ks:List Nd) (x:Nat),cntL (ks.take x)≤cntL ks
 | [],x=>by simp[cntL]
 | y::r,0=>by simp[cntL]
 | y::r,x+1=>by
  have:=cntL_le r x
  simp only[List.take_succ_cons,cntL] at *
  omega
abbrev noR (a:Rf):Prop:=(a.c=0∧a.r=0∧True)∧((a.fc=true↔False)∧(a.fr=true↔False)∧True)
open Go
mutual
def frmN:Nd→Prop→Prop
 | .mk k m t a b ks,box=>(k=1∧ks.length=0∧t=[]∧(noR a∧noR b)∧0≤m)∨(k=2∧ks.length=0∧(noR a∧noR b)∧m=0)∨(k=3∧ks.length=0∧t=[]∧(noR a∧noR b)∧(m=0∨m=1))∨
  (k=4∧ks.length=0∧t=[]∧(noR a∧noR b)∧1≤m∧m≤6)∨(k=5∧ks.length=0∧t=[]∧m=0∧noR b∧okP a.c a.r)∨(k=6∧box∧ks.length=0∧t=[]∧m=0∧okP a.c a.r∧okP b.c b.r)∨
  (k=7∧ks.length=1∧t=[]∧(noR a∧noR b)∧m=0∧frmL False ks)∨(k=8∧ks.length=2∧t=[]∧(noR a∧noR b)∧1≤m∧m≤11∧frmL False ks)∨(k=9∧clZ t=true∧(noR a∧noR b)∧m=0∧frmL True ks)
def frmL:Prop→List Nd→Prop
 | _,[]=>True
 | box,x::r=>frmN x box∧frmL box r
end
theorem frmL_iff {box:Prop}:∀ {ks:List Nd},frmL box ks↔∀ x (h:x<ks.length),frmN ks[x] box
 | []=>by simp[frmL]
 | y::r=>by
  simp only[frmL,frmL_iff (ks:=r)]
  constructor
  ·rintro ⟨h1,h2⟩ x hx
   cases x with
   | zero=>exact h1
   | succ x=>exact h2 x (by simpa using hx)
  ·intro h
   exact ⟨h 0 (by simp),fun x hx=>h (x+1) (by simpa using hx)⟩
section
variable {m:Int} {t:List UInt8} {a b:Rf} {ks:List Nd} {box:Prop}
theorem frm_1:frmN (.mk 1 m t a b ks) box↔ks.length=0∧t=[]∧(noR a∧noR b)∧0≤m:=by simp[frmN]
theorem frm_2:frmN (.mk 2 m t a b ks) box↔ks.length=0∧(noR a∧noR b)∧m=0:=by simp[frmN]
theorem frm_3:frmN (.mk 3 m t a b ks) box↔ks.length=0∧t=[]∧(noR a∧noR b)∧(m=0∨m=1):=by simp[frmN]
theorem frm_4:frmN (.mk 4 m t a b ks) box↔ks.length=0∧t=[]∧(noR a∧noR b)∧1≤m∧m≤6:=by simp[frmN]
theorem frm_5:frmN (.mk 5 m t a b ks) box↔ks.length=0∧t=[]∧m=0∧noR b∧okP a.c a.r:=by simp[frmN]
theorem frm_6:frmN (.mk 6 m t a b ks) box↔box∧ks.length=0∧t=[]∧m=0∧okP a.c a.r∧okP b.c b.r:=by simp[frmN]
theorem frm_7:frmN (.mk 7 m t a b ks) box↔ks.length=1∧t=[]∧(noR a∧noR b)∧m=0∧frmL False ks:=by simp[frmN]
theorem frm_8:frmN (.mk 8 m t a b ks) box↔ks.length=2∧t=[]∧(noR a∧noR b)∧1≤m∧m≤11∧frmL False ks:=by simp[frmN]
theorem frm_9:frmN (.mk 9 m t a b ks) box↔clZ t=true∧(noR a∧noR b)∧m=0∧frmL True ks:=by simp[frmN]
theorem frm_0 {k:Int} (h:k<1∨9<k):¬ frmN (.mk k m t a b ks) box:=by
 unfold frmN
 rintro (h1|h1|h1|h1|h1|h1|h1|h1|h1) <;> have:=h1.1 <;> omega
end
def tgtN:Nd→Int
 | .mk k m _ _ _ _=>if k=8 then (if m≤6 then 1 else if m=7 then 2 else if m≤9 then 3 else 4) else 5
def sgnN (m:Int):List UInt8:=([[],[61],[60,62],[60],[60,61],[62],[62,61],[38],[43],[45],[42],[47]]:List (List UInt8)).getD m.toNat []
def brN (s:List UInt8) (p:Prop) [Decidable p]:List UInt8:=if p then 40::(s++[41]) else s
def dqN:List UInt8→List UInt8
 | []=>[]
 | c::r=>if c=34 then 34::34::dqN r else c::dqN r
def comN:List (List UInt8)→List UInt8
 | []=>[]
 | s::r=>s++(r.map fun t=>44::t).flatten
def wr7:List Nd→List (List UInt8)→List UInt8
 | x::_,s::_=>45::brN s (tgtN x<5)
 | _,_=>[]
def wr8 (m tg:Int):List Nd→List (List UInt8)→List UInt8
 | x::y::_,s::t::_=>brN s (tgtN x<tg)++(sgnN m++brN t (tgtN y≤tg))
 | _,_=>[]
def nmR (a:Rf):List UInt8:=nameL a.c a.r a.fc a.fr
open Go
mutual
def wrN:Nd→List UInt8
 | .mk k m t a b ks=>if k=1 then Lib.itoa m else if k=2 then 34::(dqN t++[34]) else if k=3 then (if m=1 then tT else tF) else if k=4 then tx.getD m.toNat [] else if k=5 then nmR a else if k=6 then nmR a++58::nmR b
  else if k=7 then wr7 ks (wrL ks) else if k=8 then wr8 m (tgtN (.mk k m t a b ks)) ks (wrL ks) else if k=9 then t++40::(comN (wrL ks)++[41]) else []
def wrL:List Nd→List (List UInt8)
 | []=>[]
 | x::r=>wrN x::wrL r
end
open Go
mutual
def okN:Nd→Prop
 | .mk _ m t _ _ ks=>okI m∧t.length≤1048576∧okL ks
def okL:List Nd→Prop
 | []=>True
 | x::r=>okN x∧okL r
end
theorem okL_get:∀ {ks:List Nd} (_:okL ks) {x:Nat} (hx:x<ks.length),okN ks[x]
 | y::r,h,0,_=>h.1
 | y::r,h,x+1,hx=>okL_get (ks:=r) h.2 (by simpa using hx)
theorem wrL_len:∀ ks:List Nd,(wrL ks).length=ks.length
 | []=>rfl
 | x::r=>by simp[wrL,wrL_len r]
theorem wrL_get:∀ {ks:List Nd} {x:Nat} (h:x<ks.length),(wrL ks)[x]'(by rw[wrL_len];exact h)=wrN ks[x]
 | y::r,0,_=>rfl
 | y::r,x+1,h=>wrL_get (ks:=r) (by simpa using h)
theorem dqN_len:∀ t:List UInt8,(dqN t).length≤2 * t.length
 | []=>by simp[dqN]
 | c::r=>by
  have:=dqN_len r
  unfold dqN
  split <;> simp <;> omega
end
section
set_option maxRecDepth 100000
set_option maxHeartbeats 4000000
variable {gl:List (Nat×List D)}
abbrev lfB (i:Int):Blk:=.var [.d (iD i)] 3
theorem kid_get {ks:List Nd} {x:Nat} (h:x<ks.length):(Nd.csL ks)[((x:Nat):Int).toNat]?=some (ks[x]).cs:=by
 rw[Int.toNat_natCast]
 induction ks generalizing x with
 | nil=>simp at h
 | cons a r ih =>
  cases x with
  | zero=>rfl
  | succ x=>exact ih (by simpa using h)
theorem kid_len:∀ ks:List Nd,(Nd.csL ks).length=ks.length
 | []=>rfl
 | _::r=>congrArg (·+1) (kid_len r)
theorem cnt_pos (n:Nd):1≤cntN n:=by
 obtain ⟨k,m,t,a,b,ks⟩:=n
 unfold cntN
 omega
theorem len_cnt:∀ ks:List Nd,ks.length≤cntL ks
 | []=>Nat.le_refl _
 | x::r=>by
  have h1:=len_cnt r
  have h2:=cnt_pos x
  simp only[List.length_cons,cntL]
  omega
theorem count_d (n:Nd):∀ (i:Nat),i≤200→
 Go.EYtfkjhfdpphfjhaaGreatDoor.Fn Tryz.prog gl 101 [.agg (ndC n),.c (.ptr 0 0)] [(0,lfB i)] 1 (.ret (.c (.d (.v (.bool (decide (cntN n≤i))))))) [(0,lfB (if cntN n≤i then ((i - cntN n:Nat):Int) else -1))] 1 []:=by
 match n with
 | .mk k m t a b ks =>
  have ih:∀ x (h:x<ks.length),∀ (i:Nat),i≤200→Go.EYtfkjhfdpphfjhaaGreatDoor.Fn Tryz.prog gl 101 [.agg (ndC ks[x]),.c (.ptr 0 0)] [(0,lfB i)] 1 (.ret (.c (.d (.v (.bool (decide (cntN ks[x]≤i))))))) [(0,lfB (if cntN ks[x]≤i then ((i - cntN ks[x]:Nat):Int) else -1))] 1 []:=fun x h=>count_d ks[x]
  intro i hi
  have hlen:=kid_len ks
  by_cases h0:i=0
  ·subst h0
   have hc:¬ cntN (.mk k m t a b ks)≤0:=by unfold cntN;omega
   rw[decide_eq_false hc,if_neg hc]
   have h1:IntKind.i64.wrap (((0:Nat):Int) - 1)<0:=by decide
   refine S1 Tryz.func101 rfl ?_
   ((repeat' ((conv=>whnf);first|exact .intro|refine G ?_|intro _|refine .mk ?_ ?_|refine H ?_|fail));all_goals conv=>whnf)
   ((repeat' first|exact rfl|((conv=>whnf);first|done|exact suL|refine And.intro ?_ ?_|fail));all_goals conv=>whnf)
  ·have e1:IntKind.i64.wrap ((i:Int) - 1)=((i - 1:Nat):Int):=by rw[wrapI (by omega)];omega
   have h1:¬ ((i - 1:Nat):Int)<0:=by omega
   refine S1 Tryz.func101 rfl ?_
   ((repeat' ((conv=>whnf);first|exact .intro|refine G ?_|intro _|(rw[e1])|refine .mk ?_ ?_|refine H ?_|fail));all_goals conv=>whnf)
   refine ⟨{ σ:=Nat,fr:=fun x=>[(19,.c (.d (iD (x:Int))))],ks:=[0],L:=fun x=>[(0,lfB ((i - 1 - cntL (ks.take x):Nat):Int))],ex:=0,I:=fun x=>x≤ks.length∧cntL (ks.take x)≤i - 1,μ:=fun x=>ks.length - x },⟨0,⟨Nat.zero_le _,Nat.zero_le _⟩,?_⟩,fun (x:Nat) hx=>?_⟩
   ·((repeat' first|exact rfl|((conv=>whnf);first|done|exact suL|refine And.intro ?_ ?_|fail));all_goals conv=>whnf)
   ·obtain ⟨hx1,hx2⟩:=hx
    by_cases hlt:x<ks.length
    ·have h2:(x:Int)<((Nd.csL ks).length:Nat):=by omega
     have g1:=kid_get hlt
     have c1:=ih x hlt (i - 1 - cntL (ks.take x)) (by omega)
     have ht:=cntL_take hlt
     have hle:=cntL_le ks (x+1)
     have hxc:=len_cnt (ks.take x)
     rw[List.length_take,Nat.min_eq_left hx1] at hxc
     have e0:IntKind.i64.wrap ((x:Int)+1)=((x+1:Nat):Int):=by rw[wrapI (by omega)];rfl
     generalize ks[x]=q at *
     obtain ⟨k1,m1,t1,a1,b1,ks1⟩:=q
     change (Nd.csL ks)[((x:Nat):Int).toNat]?=some [iD k1,iD m1,.str t1,iD a1.c,iD a1.r,tD a1.fc,tD a1.fr,iD b1.c,iD b1.r,tD b1.fc,tD b1.fr,.lst 12 (Nd.csL ks1)] at g1
     by_cases hq:cntN (.mk k1 m1 t1 a1 b1 ks1)≤i - 1 - cntL (ks.take x)
     ·rw[decide_eq_true hq,if_pos hq] at c1
      ((repeat' ((conv=>whnf);first|exact .intro|refine G ?_|intro _|refine C5 c1 [0] ?_|(refine ⟨Int.natCast_nonneg _,_,g1,?_⟩)|refine .mk ?_ ?_|refine H ?_|fail));all_goals conv=>whnf)
      refine ⟨x+1,⟨⟨hlt,by omega⟩,by show ks.length - (x+1)<ks.length - x;omega⟩,?_⟩
      ((repeat' first|exact rfl|((conv=>whnf);first|done|exact suL|refine And.intro ?_ ?_|fail));all_goals conv=>whnf)
      ·exact ceq e0
      ·exact ceq (by omega)
     ·rw[decide_eq_false hq,if_neg hq] at c1
      ((repeat' ((conv=>whnf);first|exact .intro|refine G ?_|intro _|refine C5 c1 [0] ?_|(refine ⟨Int.natCast_nonneg _,_,g1,?_⟩)|refine .mk ?_ ?_|refine H ?_|fail));all_goals conv=>whnf)
      have hN:¬ cntN (.mk k m t a b ks)≤i:=by unfold cntN;omega
      rw[decide_eq_false hN,if_neg hN]
      ((repeat' first|exact rfl|((conv=>whnf);first|done|exact suL|refine And.intro ?_ ?_|fail));all_goals conv=>whnf)
    ·have h2:¬ (x:Int)<((Nd.csL ks).length:Nat):=by omega
     ((repeat' ((conv=>whnf);first|exact .intro|refine G ?_|intro _|refine .mk ?_ ?_|refine H ?_|fail));all_goals conv=>whnf)
     have hxl:x=ks.length:=by omega
     subst hxl
     rw[List.take_length] at *
     have hN:cntN (.mk k m t a b ks)≤i:=by unfold cntN;omega
     rw[decide_eq_true hN,if_pos hN]
     ((repeat' first|exact rfl|((conv=>whnf);first|done|exact suL|refine And.intro ?_ ?_|fail));all_goals conv=>whnf)
     exact ceq (by unfold cntN;omega)
termination_by SizeOf.sizeOf n
decreasing_by
 simp only[Nd.mk.sizeOf_spec]
 have:=List.sizeOf_lt_of_mem (List.getElem_mem h)
 omega
end
section
abbrev rowC (p:Int×Int):List D:=[iD p.1,iD p.2]
end
section
set_option maxRecDepth 100000
def boxC (a b:Rf):List (Int×Int):=pairsL (min a.c b.c) (min a.r b.r) (max a.c b.c - min a.c b.c+1).toNat (max a.r b.r - min a.r b.r+1).toNat
theorem frm_kid {k m:Int} {t:List UInt8} {a b:Rf} {ks:List Nd} {box:Prop} (hf:frmN (.mk k m t a b ks) box):∀ x (h:x<ks.length),∃ bx:Prop,frmN ks[x] bx:=fun x h=>by
 by_cases h7:k=7
 ·subst h7;rw[frm_7] at hf;exact ⟨_,frmL_iff.1 hf.2.2.2.2 x h⟩
 by_cases h8:k=8
 ·subst h8;rw[frm_8] at hf;exact ⟨_,frmL_iff.1 hf.2.2.2.2.2 x h⟩
 by_cases h9:k=9
 ·subst h9;rw[frm_9] at hf;exact ⟨_,frmL_iff.1 hf.2.2.2 x h⟩
 exfalso
 unfold frmN at hf
 omega
theorem boxC_len {a b:Rf} (ha:okP a.c a.r) (hb:okP b.c b.r):(boxC a b).length≤2574:=by
 unfold boxC
 rw[pairsL_len]
 obtain ⟨h1,h2,h3,h4⟩:=ha
 obtain ⟨h5,h6,h7,h8⟩:=hb
 have:(max a.r b.r - min a.r b.r+1).toNat * (max a.c b.c - min a.c b.c+1).toNat≤99 * 26:=Nat.mul_le_mul (by omega) (by omega)
 omega
theorem boxC_box {a b:Rf} (ha:okP a.c a.r) (hb:okP b.c b.r):boxP (min a.c b.c) (min a.r b.r) (max a.c b.c) (max a.r b.r):=by omega
end
section
set_option maxRecDepth 100000
abbrev nSUM:List UInt8:=[83,85,77]
abbrev nMIN:List UInt8:=[77,73,78]
abbrev nMAX:List UInt8:=[77,65,88]
abbrev nAVG:List UInt8:=[65,86,71]
abbrev nCOUNT:List UInt8:=[67,79,85,78,84]
abbrev nCOUNTA:List UInt8:=[67,79,85,78,84,65]
abbrev nAND:List UInt8:=[65,78,68]
abbrev nOR:List UInt8:=[79,82]
abbrev nCAT:List UInt8:=[67,65,84]
abbrev nNONE:List UInt8:=[78,79,78,69]
abbrev nIF:List UInt8:=[73,70]
abbrev nIFBAD:List UInt8:=[73,70,66,65,68]
abbrev nCHOOSE:List UInt8:=[67,72,79,79,83,69]
abbrev nBADP:List UInt8:=[66,65,68,80]
abbrev nBLANKP:List UInt8:=[66,76,65,78,75,80]
abbrev nNUMP:List UInt8:=[78,85,77,80]
abbrev nNOT:List UInt8:=[78,79,84]
abbrev nABS:List UInt8:=[65,66,83]
abbrev nSIGN:List UInt8:=[83,73,71,78]
abbrev nMOD:List UInt8:=[77,79,68]
abbrev nPOWER:List UInt8:=[80,79,87,69,82]
abbrev nVALUE:List UInt8:=[86,65,76,85,69]
abbrev nLEN:List UInt8:=[76,69,78]
abbrev nLEFT:List UInt8:=[76,69,70,84]
abbrev nRIGHT:List UInt8:=[82,73,71,72,84]
abbrev nMID:List UInt8:=[77,73,68]
abbrev nUPPER:List UInt8:=[85,80,80,69,82]
abbrev nLOWER:List UInt8:=[76,79,87,69,82]
abbrev nFIND:List UInt8:=[70,73,78,68]
abbrev nREPT:List UInt8:=[82,69,80,84]
abbrev nEXACT:List UInt8:=[69,88,65,67,84]
abbrev nROWS:List UInt8:=[82,79,87,83]
abbrev nCOLS:List UInt8:=[67,79,76,83]
abbrev nINDEX:List UInt8:=[73,78,68,69,88]
abbrev nMATCH:List UInt8:=[77,65,84,67,72]
abbrev nLOOKUP:List UInt8:=[76,79,79,75,85,80]
abbrev nCOUNTIF:List UInt8:=[67,79,85,78,84,73,70]
abbrev nSUMIF:List UInt8:=[83,85,77,73,70]
abbrev isMany (t:List UInt8):Prop:=t=nSUM∨t=nMIN∨t=nMAX∨t=nAVG∨t=nCOUNT∨t=nCOUNTA∨t=nAND∨t=nOR∨t=nCAT
abbrev is1 (t:List UInt8):Prop:=t=nBADP∨t=nBLANKP∨t=nNUMP∨t=nNOT∨t=nABS∨t=nSIGN∨t=nLEN∨t=nUPPER∨t=nLOWER∨t=nVALUE∨t=nROWS∨t=nCOLS
abbrev is2 (t:List UInt8):Prop:=t=nIFBAD∨t=nMOD∨t=nPOWER∨t=nLEFT∨t=nRIGHT∨t=nFIND∨t=nREPT∨t=nEXACT∨t=nMATCH∨t=nCOUNTIF
abbrev is3 (t:List UInt8):Prop:=t=nMID∨t=nINDEX∨t=nLOOKUP∨t=nSUMIF
def argZ (t:List UInt8):Int×Int:=if t=nNONE then (0,0) else if is1 t then (1,1) else if is2 t then (2,2) else if is3 t then (3,3) else if t=nIF then (2,3) else if t=nCHOOSE then (2,200) else (-1,-1)
abbrev isBoxed (t:List UInt8):Prop:=t=nROWS∨t=nCOLS∨t=nINDEX∨t=nMATCH∨t=nLOOKUP∨t=nCOUNTIF∨t=nSUMIF
abbrev isReck (t:List UInt8):Prop:=t=nNOT∨t=nABS∨t=nSIGN∨t=nMOD∨t=nPOWER∨t=nVALUE
abbrev wrV:Vl:=⟨4,2,[]⟩
inductive Ar where
 | one (v:Vl)
 | box (vs:List Vl) (w:Nat)
def Ar.v:Ar→Vl
 | .one v=>v
 | .box _ _=>wrV
def Ar.fl:Ar→List (Bool×Vl)
 | .one v=>[(false,v)]
 | .box vs _=>vs.map fun v=>(true,v)
def flA (ag:List Ar):List (Bool×Vl):=ag.flatMap Ar.fl
abbrev truD (p:Prop) [Decidable p]:Vl:=⟨3,if p then 1 else 0,[]⟩
def cntS (t:List UInt8) (k:Nat) (p:Bool×Vl):Nat :=
 if (t=nCOUNT∧((p.1=true∧p.2.k=1)∨(p.1=false∧¬ (numV p.2).k=4)))∨(t=nCOUNTA∧¬ p.2.k=0) then k+1 else k
def catS (out:Vl) (p:Bool×Vl):Vl:=twoV 7 out p.2
structure Lg where
 k:Nat
 bad:Vl
 out:Bool
def logO (and:Bool) (s:Lg) (v:Vl):Lg :=
 if s.bad.k=4 then s else ⟨s.k+1,truV v,if (truV v).k=3∧¬ (decide ((truV v).n=1)=and) then !and else s.out⟩
def logS (and:Bool) (s:Lg) (p:Bool×Vl):Lg :=
 if p.1=true∧¬ (p.2.k=1∨p.2.k=3∨p.2.k=4) then s else logO and s p.2
structure Ns where
 all:List Int
 bad:Vl
def numO (s:Ns) (v:Vl):Ns :=
 if s.bad.k=4 then s else ⟨if (numV v).k=1 then s.all++[(numV v).n] else s.all,numV v⟩
def numS (s:Ns) (p:Bool×Vl):Ns :=
 if p.1=true∧¬ (p.2.k=1∨p.2.k=4) then s else numO s p.2
def sumL (l:List Int):Vl:=l.foldl (fun s n=>twoV 8 s ⟨1,n,[]⟩) ⟨1,0,[]⟩
def mmS (t:List UInt8) (o n:Int):Int:=if (t=nMIN∧n<o)∨(t=nMAX∧o<n) then n else o
def mmL (t:List UInt8):List Int→Int
 | []=>0
 | x::r=>r.foldl (mmS t) x
def numbersV (t:List UInt8) (l:List Int):Vl :=
 if t=nMIN∨t=nMAX then ⟨1,mmL t l,[]⟩ else if t=nAVG then twoV 11 (sumL l) ⟨1,l.length,[]⟩ else sumL l
def logicV (_and:Bool) (s:Lg):Vl:=if s.bad.k=4 then s.bad else if s.k=0 then wrV else ⟨3,if s.out=true then 1 else 0,[]⟩
def manyF (t:List UInt8) (l:List (Bool×Vl)):Vl :=
 if t=nCOUNT∨t=nCOUNTA then ⟨1,(l.foldl (cntS t) 0:Nat),[]⟩ else
 if t=nCAT then l.foldl catS ⟨2,0,[]⟩ else
 if t=nAND∨t=nOR then logicV (decide (t=nAND)) (l.foldl (logS (decide (t=nAND))) ⟨0,⟨0,0,[]⟩,decide (t=nAND)⟩) else
 (let s:=l.foldl numS ⟨[],⟨0,0,[]⟩⟩
  if s.bad.k=4 then s.bad else numbersV t s.all)
def manyV (t:List UInt8) (ag:List Ar):Vl:=manyF t (flA ag)
def badL (l:List Vl):Option Vl:=l.find? fun v=>decide (v.k=4)
abbrev v0 (l:List Vl):Vl:=l.getD 0 wrV
abbrev v1 (l:List Vl):Vl:=l.getD 1 wrV
abbrev v2 (l:List Vl):Vl:=l.getD 2 wrV
def chosenV (t:List UInt8) (l:List Vl):Vl :=
 if t=nIFBAD then (if (v0 l).k=4 then v1 l else v0 l) else
 if t=nCHOOSE then (if (numV (v0 l)).k=4 then numV (v0 l) else if (numV (v0 l)).n<1∨(l.length:Int)≤(numV (v0 l)).n then wrV else l.getD (numV (v0 l)).n.toNat wrV) else
 if (truV (v0 l)).k=4 then truV (v0 l) else if (truV (v0 l)).n=1 then v1 l else if l.length=3 then v2 l else ⟨3,0,[]⟩
def powL (a:Vl):Nat→Vl
 | 0=>⟨1,1,[]⟩
 | n+1=>twoV 10 (powL a n) a
def sgnZ (c:Int):Int:=if c<0 then -1 else if c=0 then 0 else 1
def reckV (t:List UInt8) (l:List Vl):Vl :=
 if t=nNOT then (if (truV (v0 l)).k=4 then truV (v0 l) else ⟨3,1 - (truV (v0 l)).n,[]⟩) else
 if (numV (v0 l)).k=4 then numV (v0 l) else
 if t=nABS then (if (numV (v0 l)).n<0 then twoV 9 ⟨1,0,[]⟩ (numV (v0 l)) else numV (v0 l)) else
 if t=nSIGN then ⟨1,sgnZ (numV (v0 l)).n,[]⟩ else
 if t=nMOD then modV (numV (v0 l)) (v1 l) else
 if t=nPOWER then (if (numV (v1 l)).k=4 then numV (v1 l) else if (numV (v1 l)).n<0∨64<(numV (v1 l)).n then ⟨4,5,[]⟩ else powL (numV (v0 l)) (numV (v1 l)).n.toNat) else
 numV (v0 l)
def caseB (up:Bool) (c:UInt8):UInt8:=if up=true∧97≤c∧c≤122 then c - 32 else if up=false∧65≤c∧c≤90 then c+32 else c
def cutV (t s:List UInt8) (n m:Int):Vl :=
 if t=nMID then (if n<1 then wrV else if m<0 then wrV else ⟨2,0,(s.drop (n - 1).toNat).take m.toNat⟩) else
 if n<0 then wrV else
 if t=nRIGHT then ⟨2,0,s.drop (s.length - n.toNat)⟩ else
 if t=nREPT then (if s=[] then ⟨2,0,[]⟩ else if 200 / (s.length:Int)<n then wrV else ⟨2,0,(List.replicate n.toNat s).flatten⟩) else
 ⟨2,0,s.take n.toNat⟩
def textV (t:List UInt8) (l:List Vl):Vl :=
 if t=nLEN then ⟨1,(showV (v0 l)).length,[]⟩ else
 if t=nUPPER∨t=nLOWER then ⟨2,0,(showV (v0 l)).map (caseB (decide (t=nUPPER)))⟩ else
 if t=nEXACT then truD (showV (v0 l)=showV (v1 l)) else
 if t=nFIND then (if Lib.index (showV (v1 l)) (showV (v0 l))<0 then wrV else ⟨1,Lib.index (showV (v1 l)) (showV (v0 l))+1,[]⟩) else
 match badL (l.tail.map numV) with
 | some b=>b
 | none=>cutV t (showV (v0 l)) (numV (v1 l)).n (numV (v2 l)).n
def alikeP (a b:Vl):Prop:=(twoV 1 a b).k=3∧(twoV 1 a b).n=1
instance (a b:Vl):Decidable (alikeP a b):=inferInstanceAs (Decidable (_∧_))
def sumifL (v:Vl):List (Vl×Vl)→List Int→Vl
 | [],all=>sumL all
 | (x,s)::r,all=>if alikeP x v then (if s.k=4 then s else if s.k=1 then sumifL v r (all++[s.n]) else sumifL v r all) else sumifL v r all
def indexV (vs:List Vl) (w:Nat) (a b:Vl):Vl :=
 match badL [a,b] with
 | some x=>x
 | none=>match badL [numV a,numV b] with
  | some x=>x
  | none=>if (numV a).n<1∨((vs.length / w:Nat):Int)<(numV a).n∨(numV b).n<1∨(w:Int)<(numV b).n then ⟨4,3,[]⟩ else vs.getD (((numV a).n - 1) * w+(numV b).n - 1).toNat wrV
def lookR (vs:List Vl) (w:Nat) (v:Vl):Option Nat:=(List.range (vs.length / w)).find? fun r=>decide (alikeP (vs.getD (r * w) wrV) v)
def Ar.bx:Ar→Option (List Vl×Nat)
 | .one _=>none
 | .box vs w=>some (vs,w)
abbrev aI (ag:List Ar) (i:Nat):Ar:=ag.getD i (.one wrV)
def matchV (vs:List Vl) (v:Vl):Vl:=match vs.findIdx? fun x=>decide (alikeP x v) with
 | some i=>⟨1,(i:Int)+1,[]⟩
 | none=>⟨4,6,[]⟩
def lookV (vs:List Vl) (w:Nat) (v c:Vl):Vl :=
 if (numV c).k=4 then numV c else if (numV c).n<1∨(w:Int)<(numV c).n then ⟨4,3,[]⟩ else match lookR vs w v with
 | some r=>vs.getD (r * w+(numV c).n.toNat - 1) wrV
 | none=>⟨4,6,[]⟩
def cntifV (vs:List Vl) (v:Vl):Vl:=⟨1,(vs.countP fun x=>decide (alikeP x v):Nat),[]⟩
def sumifV (vs:List Vl) (w:Nat) (v:Vl):Option (List Vl×Nat)→Vl
 | none=>wrV
 | some (ss,w')=>if ¬ w'=w∨¬ ss.length=vs.length then wrV else sumifL v (vs.zip ss) []
def boxV (t:List UInt8) (ag:List Ar) (vs:List Vl) (w:Nat):Vl :=
 if t=nROWS then ⟨1,(vs.length / w:Nat),[]⟩ else
 if t=nCOLS then ⟨1,w,[]⟩ else
 if t=nINDEX then indexV vs w (aI ag 1).v (aI ag 2).v else
 if t=nMATCH then (if (aI ag 0).v.k=4 then (aI ag 0).v else matchV vs (aI ag 0).v) else
 if t=nLOOKUP then (if (aI ag 0).v.k=4 then (aI ag 0).v else lookV vs w (aI ag 0).v (aI ag 2).v) else
 if t=nCOUNTIF then (if (aI ag 1).v.k=4 then (aI ag 1).v else cntifV vs (aI ag 1).v) else
 if (aI ag 2).bx=none then wrV else
 if (aI ag 1).v.k=4 then (aI ag 1).v else sumifV vs w (aI ag 1).v (aI ag 2).bx
def boxedV (t:List UInt8) (ag:List Ar):Vl:=match (aI ag (if t=nMATCH∨t=nLOOKUP then 1 else 0)).bx with
 | none=>wrV
 | some (vs,w)=>boxV t ag vs w
def callV (t:List UInt8) (ag:List Ar):Vl :=
 if isMany t then (if ag.length=0 then wrV else manyV t ag) else
 if (argZ t).1<0 then ⟨4,4,[]⟩ else
 if (ag.length:Int)<(argZ t).1∨(argZ t).2<(ag.length:Int) then wrV else
 if t=nNONE then ⟨4,6,[]⟩ else
 if t=nIF∨t=nIFBAD∨t=nCHOOSE then chosenV t (ag.map Ar.v) else
 if t=nBADP then truD ((v0 (ag.map Ar.v)).k=4) else
 if t=nBLANKP then truD ((v0 (ag.map Ar.v)).k=0) else
 if t=nNUMP then truD ((v0 (ag.map Ar.v)).k=1) else
 if isBoxed t then boxedV t ag else
 match badL (ag.map Ar.v) with
 | some b=>b
 | none=>if isReck t then reckV t (ag.map Ar.v) else textV t (ag.map Ar.v)
def nodeV (ev:Int→Int→Vl) (k m:Int) (t:List UInt8) (a:Rf) (ag:List Ar):Vl :=
 if k=1 then ⟨1,m,[]⟩ else if k=2 then ⟨2,0,t⟩ else if k=3 then truD (m=1) else if k=4 then ⟨4,m,[]⟩ else if k=5 then ev a.c a.r else
 if k=7 then twoV 9 ⟨1,0,[]⟩ (aI ag 0).v else if k=8 then twoV m (aI ag 0).v (aI ag 1).v else if k=9 then callV t ag else wrV
def boxA (ev:Int→Int→Vl) (a b:Rf):Ar:=.box ((boxC a b).map fun p=>ev p.1 p.2) (max a.c b.c - min a.c b.c+1).toNat
def nodeA (ev:Int→Int→Vl) (k m:Int) (t:List UInt8) (a b:Rf) (ag:List Ar):Ar:=if k=6 then boxA ev a b else .one (nodeV ev k m t a ag)
open Go
mutual
def evA (ev:Int→Int→Vl):Nd→Ar
 | .mk k m t a b ks=>nodeA ev k m t a b (evK ev ks)
def evK (ev:Int→Int→Vl):List Nd→List Ar
 | []=>[]
 | x::r=>evA ev x::evK ev r
end
def evN (ev:Int→Int→Vl) (n:Nd):Vl:=(evA ev n).v
theorem evK_map (ev:Int→Int→Vl):∀ ks:List Nd,evK ev ks=ks.map (evA ev)
 | []=>rfl
 | x::r=>by rw[evK,evK_map ev r];rfl
theorem evN_mk (ev:Int→Int→Vl) (k m:Int) (t:List UInt8) (a b:Rf) (ks:List Nd):evN ev (.mk k m t a b ks)=nodeV ev k m t a (evK ev ks):=by
 unfold evN
 rw[evA]
 unfold nodeA
 split
 ·rename_i h
  subst h
  rfl
 ·rfl
end
section
set_option maxRecDepth 100000
theorem ok_num {n:Int} (h:okI n):(⟨1,n,[]⟩:Vl).ok:=⟨.inr (.inl ⟨rfl,rfl⟩),h⟩
theorem ok_txt {s:List UInt8} (h:s.length≤200):(⟨2,0,s⟩:Vl).ok:=⟨.inr (.inr (.inl ⟨rfl,rfl,h⟩)),by show okI 0;decide⟩
theorem ok_tru {n:Int} (h:n=0∨n=1):(⟨3,n,[]⟩:Vl).ok:=⟨.inr (.inr (.inr (.inl ⟨rfl,h,rfl⟩))),by show okI n;omega⟩
theorem ok_bad {n:Int} (h:1≤n) (h':n≤6):(⟨4,n,[]⟩:Vl).ok:=⟨.inr (.inr (.inr (.inr ⟨rfl,h,h',rfl⟩))),by show okI n;omega⟩
theorem ok_blank:(⟨0,0,[]⟩:Vl).ok:=⟨.inl ⟨rfl,rfl,rfl⟩,by show okI 0;decide⟩
theorem ok_wr:wrV.ok:=ok_bad (by decide) (by decide)
theorem ok_truD (p:Prop) [Decidable p]:(truD p).ok:=ok_tru (by by_cases h:p <;> simp[h])
theorem rg_ok (z:Int):(rg z).ok:=by
 unfold rg
 split
 ·exact ok_num ‹_›
 ·exact ok_bad (by decide) (by decide)
theorem rkV_ok (op x y:Int):(rkV op x y).ok:=by
 unfold rkV
 repeat' split
 all_goals first|exact rg_ok _|exact ok_bad (by decide) (by decide)
theorem cmpN_01 (op c:Int):cmpN op c=0∨cmpN op c=1:=by
 unfold cmpN
 repeat' split
 all_goals simp
theorem twoV_ok (op:Int) {a b:Vl} (ha:a.ok) (hb:b.ok):(twoV op a b).ok:=by
 unfold twoV
 repeat' split
 all_goals first|exact ha|exact hb|exact (numV_ok ha).1|exact (numV_ok hb).1|exact rkV_ok _ _ _|exact ok_bad (by decide) (by decide)|exact ok_tru (cmpN_01 _ _)|exact ok_txt (by omega)
theorem truV_ok {v:Vl} (h:v.ok):(truV v).ok∧((truV v).k=3∨(truV v).k=4):=by
 unfold truV
 repeat' split
 ·rename_i hk;exact ⟨h,hk⟩
 ·exact ⟨ok_tru (.inr rfl),.inl rfl⟩
 ·exact ⟨ok_tru (.inl rfl),.inl rfl⟩
 ·exact ⟨ok_wr,.inr rfl⟩
 ·exact ⟨ok_tru (.inl rfl),.inl rfl⟩
 ·exact ⟨ok_tru (.inr rfl),.inl rfl⟩
theorem tru_n {v:Vl} (h:v.ok) (hk:¬ (truV v).k=4):(truV v).n=0∨(truV v).n=1:=by
 obtain ⟨⟨h1,_⟩,h2⟩:=truV_ok h
 rcases h1 with h1|h1|h1|h1|h1
 ·omega
 ·omega
 ·omega
 ·exact h1.2.1
 ·omega
theorem modV_ok {a b:Vl} (ha:a.ok) (hb:b.ok):(modV a b).ok:=by
 unfold modV
 repeat' split
 ·exact (numV_ok ha).1
 ·exact (numV_ok hb).1
 ·exact ok_bad (by decide) (by decide)
 ·rename_i h;exact ok_num (fmod_okI (numV_ok ha).1.2 (numV_ok hb).1.2 h)
theorem sumL_ok {l:List Int} (h:∀ n ∈ l,okI n):(sumL l).ok:=by
 unfold sumL
 have:∀ (l:List Int) (s:Vl),s.ok→(∀ n ∈ l,okI n)→(l.foldl (fun s n=>twoV 8 s ⟨1,n,[]⟩) s).ok:=by
  intro l
  induction l with
  | nil=>exact fun s hs _=>hs
  | cons x r ih=>exact fun s hs hl=>ih _ (twoV_ok 8 hs (ok_num (hl x (by simp)))) fun n hn=>hl n (by simp[hn])
 exact this l _ (ok_num (by decide)) h
theorem mmL_ok (t:List UInt8) {l:List Int} (h:∀ n ∈ l,okI n):okI (mmL t l):=by
 have:∀ (l:List Int) (o:Int),okI o→(∀ n ∈ l,okI n)→okI (l.foldl (mmS t) o):=by
  intro l
  induction l with
  | nil=>exact fun s hs _=>hs
  | cons x r ih=>exact fun s hs hl=>ih _ (by unfold mmS;split <;> first|exact hl x (by simp)|exact hs) fun n hn=>hl n (by simp[hn])
 cases l with
 | nil=>show okI 0;decide
 | cons x r=>exact this r x (h x (by simp)) fun n hn=>h n (by simp[hn])
theorem numbersV_ok (t:List UInt8) {l:List Int} (h:∀ n ∈ l,okI n) (hl:l.length≤1048576):(numbersV t l).ok:=by
 unfold numbersV
 repeat' split
 ·exact ok_num (mmL_ok t h)
 ·exact twoV_ok 11 (sumL_ok h) (ok_num (by show okI (l.length:Int);omega))
 ·exact sumL_ok h
theorem fold_inv {α β:Type} {f:β→α→β} {p:Nat→β→Prop}:∀ (l:List α) (k:Nat) (b:β),p k b→(∀ k b a,a ∈ l→p k b→p (k+1) (f b a))→p (k+l.length) (l.foldl f b)
 | [],_,_,h,_=>h
 | a::l,k,b,h,hs=>by
  have:=fold_inv l (k+1) (f b a) (hs k b a (by simp) h) fun k b x hx=>hs k b x (by simp[hx])
  rw[List.length_cons,List.foldl_cons]
  rwa [show k+(l.length+1)=k+1+l.length by omega]
theorem numS_inv {l:List (Bool×Vl)} (h:∀ p ∈ l,p.2.ok):((∀ n ∈ (l.foldl numS ⟨[],⟨0,0,[]⟩⟩).all,okI n)∧(l.foldl numS ⟨[],⟨0,0,[]⟩⟩).all.length≤l.length)∧(l.foldl numS ⟨[],⟨0,0,[]⟩⟩).bad.ok:=by
 have:=fold_inv (f:=numS) (p:=fun k s=>((∀ n ∈ s.all,okI n)∧s.all.length≤k)∧s.bad.ok) l 0 ⟨[],⟨0,0,[]⟩⟩ ⟨⟨(fun n hn=>nomatch hn),Nat.le_refl _⟩,ok_blank⟩ fun k s p hp hs=>by
  obtain ⟨⟨h1,h2⟩,h3⟩:=hs
  have ho:=(numV_ok (h p hp)).1
  unfold numS
  split
  ·exact ⟨⟨h1,by omega⟩,h3⟩
  ·unfold numO
   split
   ·exact ⟨⟨h1,by omega⟩,h3⟩
   ·split
    ·refine ⟨⟨fun n hn=>?_,?_⟩,ho⟩
     ·rcases List.mem_append.1 hn with hn|hn
      ·exact h1 n hn
      ·rw[List.mem_singleton.1 hn];exact ho.2
     ·rw[List.length_append];simp;omega
    ·exact ⟨⟨h1,by show s.all.length≤k+1;omega⟩,ho⟩
 simpa using this
theorem logS_inv (and:Bool) {l:List (Bool×Vl)} (h:∀ p ∈ l,p.2.ok) (o:Bool):(l.foldl (logS and) ⟨0,⟨0,0,[]⟩,o⟩).bad.ok:=by
 have:=fold_inv (f:=logS and) (p:=fun _ s=>s.bad.ok) l 0 ⟨0,⟨0,0,[]⟩,o⟩ ok_blank fun k s p hp hs=>by
  unfold logS
  split
  ·exact hs
  ·unfold logO
   split
   ·exact hs
   ·exact (truV_ok (h p hp)).1
 exact this
theorem cntS_le (t:List UInt8) (l:List (Bool×Vl)):l.foldl (cntS t) 0≤l.length:=by
 have:=fold_inv (f:=cntS t) (p:=fun k s=>s≤k) l 0 0 (Nat.le_refl _) fun k s p _ hs=>by
  unfold cntS
  split <;> omega
 simpa using this
theorem catS_ok {l:List (Bool×Vl)} (h:∀ p ∈ l,p.2.ok):(l.foldl catS ⟨2,0,[]⟩).ok :=
 fold_inv (f:=catS) (p:=fun _ s=>s.ok) l 0 ⟨2,0,[]⟩ (ok_txt (by simp)) fun _ _ p hp hs=>twoV_ok 7 hs (h p hp)
theorem manyF_ok (t:List UInt8) {l:List (Bool×Vl)} (h:∀ p ∈ l,p.2.ok) (hl:l.length≤1048576):(manyF t l).ok:=by
 unfold manyF
 split
 ·have:=cntS_le t l
  exact ok_num (by show okI ((l.foldl (cntS t) 0:Nat):Int);omega)
 ·split
  ·exact catS_ok h
  ·split
   ·unfold logicV
    split
    ·exact logS_inv _ h _
    ·split
     ·exact ok_wr
     ·exact ok_tru (by split <;> simp)
   ·obtain ⟨⟨h1,h2⟩,h3⟩:=numS_inv h
    simp only
    split
    ·exact h3
    ·exact numbersV_ok t h1 (by omega)
theorem powL_ok {a:Vl} (ha:a.ok):∀ n,(powL a n).ok
 | 0=>ok_num (by decide)
 | n+1=>twoV_ok 10 (powL_ok ha n) ha
def Ar.ok:Ar→Prop
 | .one v=>v.ok
 | .box vs w=>(∀ v ∈ vs,v.ok)∧vs.length≤2574∧w≤26
theorem Ar.v_ok {a:Ar} (h:a.ok):a.v.ok:=by
 cases a with
 | one v=>exact h
 | box vs w=>exact ok_wr
theorem getD_ok {l:List Vl} (h:∀ v ∈ l,v.ok) (i:Nat):(l.getD i wrV).ok:=by
 rw[List.getD_eq_getElem?_getD]
 by_cases hi:i<l.length
 ·rw[List.getElem?_eq_getElem hi];exact h _ (List.getElem_mem hi)
 ·rw[List.getElem?_eq_none (by omega)];exact ok_wr
theorem aI_ok {ag:List Ar} (h:∀ a ∈ ag,a.ok) (i:Nat):(aI ag i).ok:=by
 unfold aI
 rw[List.getD_eq_getElem?_getD]
 by_cases hi:i<ag.length
 ·rw[List.getElem?_eq_getElem hi];exact h _ (List.getElem_mem hi)
 ·rw[List.getElem?_eq_none (by omega)];exact ok_wr
theorem badL_ok {l:List Vl} (h:∀ v ∈ l,v.ok) {b:Vl} (hb:badL l=some b):b.ok∧b.k=4:=by
 unfold badL at hb
 exact ⟨h b (List.mem_of_find?_eq_some hb),by simpa using List.find?_some hb⟩
theorem chosenV_ok (t:List UInt8) {l:List Vl} (h:∀ v ∈ l,v.ok):(chosenV t l).ok:=by
 unfold chosenV v0 v1 v2
 repeat' split
 all_goals first|exact getD_ok h _|exact (numV_ok (getD_ok h _)).1|exact (truV_ok (getD_ok h _)).1|exact ok_wr|exact ok_tru (.inl rfl)
theorem neg_ok {z:Vl} (h:z.ok):(twoV 9 ⟨1,0,[]⟩ z).ok:=twoV_ok 9 (ok_num (by decide)) h
theorem sgnZ_ok (c:Int):okI (sgnZ c):=by
 unfold sgnZ
 repeat' split
 all_goals decide
theorem reckV_ok (t:List UInt8) {l:List Vl} (h:∀ v ∈ l,v.ok):(reckV t l).ok:=by
 have h0:=getD_ok h 0
 have h1:=getD_ok h 1
 unfold reckV v0 v1
 split
 ·split
  ·exact (truV_ok h0).1
  ·rename_i hk
   exact ok_tru (by have:=tru_n h0 hk;omega)
 ·repeat' split
  all_goals first|exact (numV_ok h0).1|exact neg_ok (numV_ok h0).1|exact ok_num (sgnZ_ok _)|exact modV_ok (numV_ok h0).1 h1|exact (numV_ok h1).1|exact ok_bad (by decide) (by decide)|exact powL_ok (numV_ok h0).1 _
theorem cutV_ok (t:List UInt8) {s:List UInt8} (h:s.length≤200) (n m:Int):(cutV t s n m).ok:=by
 unfold cutV
 split
 ·split
  ·exact ok_wr
  ·split
   ·exact ok_wr
   ·exact ok_txt (by rw[List.length_take,List.length_drop];omega)
 ·split
  ·exact ok_wr
  ·split
   ·exact ok_txt (by rw[List.length_drop];omega)
   ·split
    ·split
     ·exact ok_txt (by simp)
     ·split
      ·exact ok_wr
      ·rename_i h1 h2
       refine ok_txt ?_
       have hp:0<s.length:=List.length_pos_iff.2 h1
       have h3:n≤200 / (s.length:Int):=by omega
       have h4:n * (s.length:Int)≤200:=Int.le_trans (Int.mul_le_mul_of_nonneg_right h3 (by omega)) (Int.ediv_mul_le _ (by omega))
       have h5:((n.toNat * s.length:Nat):Int)=n * (s.length:Int):=by rw[Int.natCast_mul,Int.toNat_of_nonneg (by omega)]
       simp
       omega
    ·exact ok_txt (by rw[List.length_take];omega)
theorem textV_ok (t:List UInt8) {l:List Vl} (h:∀ v ∈ l,v.ok) (hi:okI (Lib.index (showV (v1 l)) (showV (v0 l))+1)):(textV t l).ok:=by
 have s0:=showV_len (getD_ok h 0)
 unfold textV
 split
 ·exact ok_num (by show okI ((showV (l.getD 0 wrV)).length:Int);omega)
 ·split
  ·exact ok_txt (by rw[List.length_map];exact s0)
  ·split
   ·exact ok_truD _
   ·split
    ·split
     ·exact ok_wr
     ·exact ok_num hi
    ·split
     ·rename_i b hb
      refine (badL_ok (fun v hv=>?_) hb).1
      obtain ⟨x,hx,rfl⟩:=List.mem_map.1 hv
      exact (numV_ok (h x (List.mem_of_mem_tail hx))).1
     ·exact cutV_ok t s0 _ _
theorem sumifL_ok {v:Vl}:∀ (l:List (Vl×Vl)) (all:List Int),(∀ p ∈ l,p.2.ok)→(∀ n ∈ all,okI n)→(sumifL v l all).ok
 | [],all,_,h=>sumL_ok h
 | (x,s)::r,all,hl,h=>by
  have hs:s.ok:=hl (x,s) (by simp)
  have hr:∀ p ∈ r,p.2.ok:=fun p hp=>hl p (by simp[hp])
  rw[sumifL]
  split
  ·split
   ·exact hs
   ·split
    ·refine sumifL_ok r _ hr fun n hn=>?_
     rcases List.mem_append.1 hn with hn|hn
     ·exact h n hn
     ·rw[List.mem_singleton.1 hn];exact hs.2
    ·exact sumifL_ok r _ hr h
  ·exact sumifL_ok r _ hr h
theorem indexV_ok {vs:List Vl} (w:Nat) {a b:Vl} (hv:∀ v ∈ vs,v.ok) (ha:a.ok) (hb:b.ok):(indexV vs w a b).ok:=by
 unfold indexV
 split
 ·rename_i x hx
  exact (badL_ok (fun v hv=>by rcases List.mem_cons.1 hv with rfl|hv;exact ha;rw[List.mem_singleton.1 hv];exact hb) hx).1
 ·split
  ·rename_i x hx
   exact (badL_ok (fun v hv=>by rcases List.mem_cons.1 hv with rfl|hv;exact (numV_ok ha).1;rw[List.mem_singleton.1 hv];exact (numV_ok hb).1) hx).1
  ·split
   ·exact ok_bad (by decide) (by decide)
   ·exact getD_ok hv _
theorem boxedV_ok (t:List UInt8) {ag:List Ar} (h:∀ a ∈ ag,a.ok):(boxedV t ag).ok:=by
 have h0:=Ar.v_ok (aI_ok h 0)
 have h1:=Ar.v_ok (aI_ok h 1)
 have h2:=Ar.v_ok (aI_ok h 2)
 unfold boxedV
 split
 ·exact ok_wr
 ·rename_i vs w hb
  have hB:(∀ v ∈ vs,v.ok)∧vs.length≤2574∧w≤26:=by
   have:=aI_ok h (if t=nMATCH∨t=nLOOKUP then 1 else 0)
   generalize aI ag (if t=nMATCH∨t=nLOOKUP then 1 else 0)=a at *
   cases a with
   | one v=>cases hb
   | box vs' w'=>cases hb;exact this
  obtain ⟨b1,b2,b3⟩:=hB
  have hd:vs.length / w≤vs.length:=Nat.div_le_self _ _
  unfold boxV
  split
  ·exact ok_num (by show okI ((vs.length / w:Nat):Int);generalize vs.length / w=q at *;omega)
  ·split
   ·exact ok_num (by show okI (w:Int);omega)
   ·split
    ·exact indexV_ok w b1 h1 h2
    ·split
     ·split
      ·exact h0
      ·unfold matchV
       split
       ·rename_i i hi
        have:=(List.findIdx?_eq_some_iff_getElem.1 hi).1
        exact ok_num (by show okI ((i:Int)+1);omega)
       ·exact ok_bad (by decide) (by decide)
     ·split
      ·split
       ·exact h0
       ·unfold lookV
        repeat' split
        all_goals first|exact (numV_ok h2).1|exact ok_bad (by decide) (by decide)|exact getD_ok b1 _
      ·split
       ·split
        ·exact h1
        ·have:=List.countP_le_length (p:=fun x=>decide (alikeP x (aI ag 1).v)) (l:=vs)
         unfold cntifV
         exact ok_num (by show okI ((vs.countP fun x=>decide (alikeP x (aI ag 1).v):Nat):Int);omega)
       ·split
        ·exact ok_wr
        ·split
         ·exact h1
         ·have h2':=aI_ok h 2
          generalize aI ag 2=a at *
          cases a with
          | one v=>exact ok_wr
          | box ss w' =>
           show (if ¬ w'=w∨¬ ss.length=vs.length then wrV else sumifL (aI ag 1).v (vs.zip ss) []).ok
           split
           ·exact ok_wr
           ·refine sumifL_ok _ _ (fun p hp=>?_) fun n hn=>nomatch hn
            exact h2'.1 _ (List.of_mem_zip hp).2
theorem flA_ok {ag:List Ar} (h:∀ a ∈ ag,a.ok):∀ p ∈ flA ag,p.2.ok:=fun p hp=>by
 obtain ⟨a,ha,hp⟩:=List.mem_flatMap.1 hp
 have:=h a ha
 cases a with
 | one v=>rw[List.mem_singleton.1 hp];exact this
 | box vs w =>
  obtain ⟨v,hv,rfl⟩:=List.mem_map.1 hp
  exact this.1 v hv
theorem flA_len:∀ {ag:List Ar},(∀ a ∈ ag,a.ok)→(flA ag).length≤2574 * ag.length
 | [],_=>Nat.le_refl _
 | a::r,h=>by
  have ih:=flA_len (ag:=r) fun x hx=>h x (by simp[hx])
  have ha:=h a (by simp)
  show (List.flatMap Ar.fl (a::r)).length≤_
  rw[List.flatMap_cons,List.length_append,List.length_cons]
  change (r.flatMap Ar.fl).length≤_ at ih
  have:a.fl.length≤2574:=by
   cases a with
   | one v=>show 1≤2574;decide
   | box vs w=>show (vs.map _).length≤_;rw[List.length_map];exact ha.2.1
  omega
theorem callV_ok (t:List UInt8) {ag:List Ar} (h:∀ a ∈ ag,a.ok) (hl:ag.length≤200) (hi:∀ x y:List UInt8,x.length≤200→okI (Lib.index x y+1)):(callV t ag).ok:=by
 have hv:∀ v ∈ ag.map Ar.v,v.ok:=fun v hv=>by
  obtain ⟨a,ha,rfl⟩:=List.mem_map.1 hv
  exact Ar.v_ok (h a ha)
 have hf:=flA_len h
 unfold callV
 repeat' split
 all_goals first|exact ok_wr|exact ok_bad (by decide) (by decide)|exact chosenV_ok t hv|exact ok_truD _|exact boxedV_ok t h|exact reckV_ok t hv|exact textV_ok t hv (hi _ _ (showV_len (getD_ok hv 1)))|exact manyF_ok t (flA_ok h) (by omega)|skip
 ·rename_i b hb
  exact (badL_ok hv hb).1
end
section
set_option maxRecDepth 100000
structure PB (p:Par):Prop where
 num:∀ m:Int,0≤m→okI m→p.pl (Lib.itoa m)=some (.mk 1 m [] z0 z0 [])
 numW:∀ m:Int,0≤m→Lib.itoa m≠[]∧∀ c ∈ Lib.itoa m,wordlyP c
 tru:p.pl tT=some (.mk 3 1 [] z0 z0 [])
 fal:p.pl tF=some (.mk 3 0 [] z0 z0 [])
 ref:∀ a:Rf,okP a.c a.r→p.pl (nmR a)=some (.mk 5 0 [] a z0 [])∧p.rf (nmR a)=some a
 refW:∀ a:Rf,okP a.c a.r→nmR a≠[]∧∀ c ∈ nmR a,wordlyP c
 lit:∀ (m:Int) (post:List UInt8),1≤m→m≤6→p.lit (tx.getD m.toNat []++post)=some (m,(tx.getD m.toNat []).length)
 cl:p.cl=clZ
def brD (x:Nd) (g:Int) (dx:Nat):Nat:=if tgtN x<g then dx+1 else dx
def dp7:List Nd→List Nat→Nat
 | x::_,d::_=>brD x 5 d+1
 | _,_=>0
def dp8 (tg:Int):List Nd→List Nat→Nat
 | x::y::_,d::e::_=>max (brD x tg d) (brD y (tg+1) e)
 | _,_=>0
def mxL:List Nat→Nat
 | []=>0
 | d::r=>max d (mxL r)
mutual
def depN:Nd→Nat
 | .mk k m t a b ks=>if k=7 then dp7 ks (depL ks) else if k=8 then dp8 (tgtN (.mk k m t a b ks)) ks (depL ks) else if k=9 then mxL (depL ks)+1 else 0
def depL:List Nd→List Nat
 | []=>[]
 | x::r=>depN x::depL r
end
def Gd {α:Type} (D:Prop) (x y:Rs α):Prop:=(D→x=y)∧(x=y∨∃ a e,x=.no a e)
section
variable {α β:Type} {D E F:Prop}
theorem Gd.same (x:Rs α):Gd D x x:=⟨fun _=>rfl,.inl rfl⟩
theorem Gd.of {x y:Rs α} (h:x=y):Gd D x y:=⟨fun _=>h,.inl h⟩
theorem Gd.fail {a:Nat} {e:Int} {y:Rs α} (h:¬ D):Gd D (.no a e) y:=⟨fun hd=>absurd hd h,.inr ⟨_,_,rfl⟩⟩
theorem Gd.imp {x y:Rs α} (h:Gd D x y) (hd:E→D):Gd E x y:=⟨fun he=>h.1 (hd he),h.2⟩
theorem Gd.trans {x y z:Rs α} (h:Gd D x y) (h':Gd D y z):Gd D x z:=by
 refine ⟨fun hd=>(h.1 hd).trans (h'.1 hd),?_⟩
 rcases h.2 with rfl|hn
 ·exact h'.2
 ·exact .inr hn
theorem Gd.bind {x:Rs α} {v:α} {i:Nat} {f:α→Nat→Rs β} {y:Rs β} (h:Gd D x (.ok v i)) (h':Gd E (f v i) y) (hd:F→D∧E):Gd F (x.bind f) y:=by
 refine ⟨fun hf=>?_,?_⟩
 ·rw[h.1 (hd hf).1];exact h'.1 (hd hf).2
 ·rcases h.2 with hx|⟨a,e,hx⟩
  ·rw[hx];exact h'.2
  ·rw[hx];exact .inr ⟨a,e,rfl⟩
end
def okQ (l:List UInt8):Prop:=l=[]∨∃ c r,l=c::r∧(c=41∨c=44∨c=61∨c=60∨c=62∨c=38∨c=43∨c=45∨c=42∨c=47)
theorem okQ.ne {l:List UInt8} (h:okQ l) {c:UInt8} (hc:l.head?=some c):¬ wordlyP c∧c≠32∧c≠34∧c≠58∧c≠40:=by
 rcases h with rfl|⟨d,r,rfl,h⟩
 ·cases hc
 ·cases hc
  rcases h with rfl|rfl|rfl|rfl|rfl|rfl|rfl|rfl|rfl|rfl <;> decide
theorem okQ.c {c:UInt8} {r:List UInt8} (h:c=41∨c=44):okQ (c::r):=.inr ⟨c,r,rfl,by rcases h with h|h <;> simp[h]⟩
section
variable {s:List UInt8}
theorem drop_app {w post:List UInt8} {i:Nat} (h:s.drop i=w++post):s.drop (i+w.length)=post:=by rw[← List.drop_drop,h,List.drop_left]
theorem drop_one {c:UInt8} {l:List UInt8} {i:Nat} (h:s.drop i=c::l):s.drop (i+1)=l:=drop_app (w:=[c]) h
theorem get_at {l:List UInt8} {i:Nat} (h:s.drop i=l):s[i]?=l.head?:=by rw[← List.head?_drop,h]
theorem skp_of {l:List UInt8} {i:Nat} (h:s.drop i=l) (hl:l.head?≠some 32):skp s i=i:=by
 unfold skp
 rw[h]
 cases l with
 | nil=>rfl
 | cons c r =>
  unfold blk
  rw[if_neg (fun hc=>hl (by rw[hc];rfl))]
  rfl
theorem opA_of {l:List UInt8} {i:Nat} (h:s.drop i=l) (hl:l.head?≠some 32):opA s i=opT l:=by
 unfold opA
 rw[skp_of h hl,h]
theorem okQ.b {l:List UInt8} (h:okQ l):l.head?≠some 32:=fun hc=>(h.ne hc).2.1 rfl
theorem wdl_word {w post:List UInt8} (hw:∀ c ∈ w,wordlyP c) (hp:∀ c,post.head?=some c→¬ wordlyP c):wdl (w++post)=w.length:=by
 induction w with
 | nil =>
  cases post with
  | nil=>rfl
  | cons c r =>
   show wdl (c::r)=0
   unfold wdl
   rw[if_neg (hp c rfl)]
 | cons c r ih =>
  show wdl (c::(r++post))=_
  unfold wdl
  rw[if_pos (hw c (by simp)),ih (fun d hd=>hw d (by simp[hd]))]
  rfl
theorem wdAt_of {w post:List UInt8} {i:Nat} (h:s.drop i=w++post) (hw:∀ c ∈ w,wordlyP c) (hp:∀ c,post.head?=some c→¬ wordlyP c):wdAt s i=w∧wdE s i=i+w.length:=by
 unfold wdAt wdE
 rw[h,wdl_word hw hp]
 exact ⟨List.take_left,rfl⟩
theorem wordly_ne {c:UInt8} (h:wordlyP c):c≠45∧c≠40∧c≠34∧c≠35∧c≠32∧c≠61∧c≠62∧c≠58:=by
 refine ⟨?_,?_,?_,?_,?_,?_,?_,?_⟩ <;> rintro rfl <;> revert h <;> decide
theorem oneB_neg (p:Par) (d:Nat):∃ full ng tw,oneB p s d=negF p s full ng tw:=by
 cases d with
 | zero=>exact ⟨_,_,_,rfl⟩
 | succ d=>exact ⟨_,_,_,rfl⟩
theorem negF_prim {p:Par} {full:Bool} {ng tw:Nat→Rs Nd} {c:UInt8} {r:List UInt8} {i:Nat} (h:s.drop i=c::r) (h1:c≠32) (h2:c≠45):negF p s full ng tw i=primF p s full tw i:=by
 unfold negF
 rw[skp_of h (by simpa using h1),get_at h,if_neg (by simpa using h2)]
theorem oneB_word {p:Par} {w post:List UInt8} {n:Nd} {i:Nat} (h:s.drop i=w++post) (h0:w≠[]) (hw:∀ c ∈ w,wordlyP c) (hq:okQ post) (hn:p.pl w=some n) (d:Nat):oneB p s d i=.ok n (i+w.length):=by
 obtain ⟨full,ng,tw,e⟩:=oneB_neg (s:=s) p d
 obtain ⟨e1,e2⟩:=wdAt_of h hw (fun c hc=>(hq.ne hc).1)
 have e3:=get_at (drop_app h)
 rw[e]
 cases w with
 | nil=>exact absurd rfl h0
 | cons c r =>
  have hc:=wordly_ne (hw c (by simp))
  rw[negF_prim h hc.2.2.2.2.1 hc.1]
  unfold primF
  rw[get_at h]
  show (if c=40 then _ else _)=_
  rw[if_neg hc.2.1,if_neg hc.2.2.1,if_neg hc.2.2.2.1,if_pos (hw c (by simp))]
  unfold wordF
  rw[e2,e3,if_neg (fun hh=>(hq.ne hh.1).2.2.2.2 rfl),e1,hn]
theorem txtF_dq:∀ (t post:List UInt8),post.head?≠some 34→txtF (dqN t++34::post)=some (t,(dqN t).length+1)
 | [],[],_=>rfl
 | [],d::r,h=>by
  show txtF (34::d::r)=some ([],1)
  unfold txtF
  rw[if_pos rfl,if_neg (by simpa using h)]
 | c::t,post,h=>by
  have ih:=txtF_dq t post h
  unfold dqN
  by_cases hc:c=34
  ·rw[if_pos hc]
   show txtF (34::34::(dqN t++34::post))=_
   unfold txtF
   rw[if_pos rfl,if_pos rfl,ih,hc]
   simp
  ·rw[if_neg hc]
   show txtF (c::(dqN t++34::post))=_
   have hne:∃ d r,dqN t++34::post=d::r:=by
    cases hd:dqN t with
    | nil=>exact ⟨_,_,rfl⟩
    | cons d r=>exact ⟨_,_,rfl⟩
   obtain ⟨d,r,hd⟩:=hne
   rw[hd] at ih ⊢
   unfold txtF
   rw[if_neg hc,ih]
   simp
theorem opT_sgn {m:Int} (h1:1≤m) (h2:m≤11) {c:UInt8} {r:List UInt8} (hc:c≠61) (hc2:c≠62):opT (sgnN m++c::r)=some (m.toNat,(sgnN m).length):=by
 have h:m=1∨m=2∨m=3∨m=4∨m=5∨m=6∨m=7∨m=8∨m=9∨m=10∨m=11:=by omega
 rcases h with rfl|rfl|rfl|rfl|rfl|rfl|rfl|rfl|rfl|rfl|rfl
 ·rfl
 ·rfl
 ·show opT (60::c::r)=some (3,1)
  unfold opT
  split <;> simp_all
 ·rfl
 ·show opT (62::c::r)=some (5,1)
  unfold opT
  split <;> simp_all
 all_goals rfl
theorem sgn_hd {m:Int} (h1:1≤m) (h2:m≤11):∃ c r,sgnN m=c::r∧(c=61∨c=60∨c=62∨c=38∨c=43∨c=45∨c=42∨c=47):=by
 have h:m=1∨m=2∨m=3∨m=4∨m=5∨m=6∨m=7∨m=8∨m=9∨m=10∨m=11:=by omega
 rcases h with rfl|rfl|rfl|rfl|rfl|rfl|rfl|rfl|rfl|rfl|rfl
 all_goals exact ⟨_,_,rfl,by decide⟩
theorem okQ_sgn {m:Int} (h1:1≤m) (h2:m≤11) (r:List UInt8):okQ (sgnN m++r):=by
 obtain ⟨c,l,e,hc⟩:=sgn_hd h1 h2
 rw[e]
 exact .inr ⟨c,l++r,rfl,by grind⟩
theorem tgt_tgtN {m:Int} (h1:1≤m) (h2:m≤11) (t:List UInt8) (a b:Rf) (ks:List Nd):tgtN (.mk 8 m t a b ks)=(tgt m.toNat:Nat):=by
 show (if (8:Int)=8 then (if m≤6 then (1:Int) else if m=7 then 2 else if m≤9 then 3 else 4) else 5)=_
 unfold tgt
 rw[if_pos rfl]
 (repeat' split) <;> omega
theorem frm_fuel {sub:Nat→Nat→Rs Nd} {sel:Nat→Bool} (hs:∀ op,Fwd s (sub op)):∀ {F F':Nat} {n:Nd} {j:Nat},j≤s.length→s.length - j<F→s.length - j<F'→frm s sub sel F n j=frm s sub sel F' n j
 | 0,F',n,j,hj,h,_=>by omega
 | F+1,0,n,j,hj,_,h=>by omega
 | F+1,F'+1,n,j,hj,h,h'=>by
  unfold frm
  split
  ·rename_i op len ho
   have hl:=opA_len ho
   have hk:=le_skp s j
   split
   ·cases hx:sub op (skp s j+len) with
    | no a e=>rfl
    | ok m k =>
     have h1:=hs op _ _ _ hl.2 hx
     simp only[Rs.bind_ok]
     exact frm_fuel hs h1.2 (by omega) (by omega)
   ·rfl
  ·rfl
theorem oneBF_fwd (p:Par) (d:Nat):Fwd s (oneB p s d):=by
 have e:oneB p s d=oneA p s d:=by funext i;exact (one_eq d i).symm
 rw[e]
 exact oneA_fwd d
end
def hdP (c:UInt8):Prop:=c=40∨c=34∨c=35∨c=45∨wordlyP c
theorem hdP.ne {c:UInt8} (h:hdP c):c≠32∧c≠61∧c≠62∧c≠41:=by
 refine ⟨?_,?_,?_,?_⟩ <;> rintro rfl <;> revert h <;> unfold hdP <;> decide
theorem tx_hd {m:Int} (h1:1≤m) (h2:m≤6):∃ r,tx.getD m.toNat []=35::r:=by
 have h:m=1∨m=2∨m=3∨m=4∨m=5∨m=6:=by omega
 rcases h with rfl|rfl|rfl|rfl|rfl|rfl
 all_goals exact ⟨_,rfl⟩
theorem cl_word {t:List UInt8} (h:clZ t=true):t≠[]∧∀ c ∈ t,wordlyP c:=by
 unfold clZ at h
 simp only[Bool.and_eq_true,decide_eq_true_eq,List.all_eq_true] at h
 refine ⟨fun e=>by rw[e] at h;simp at h,fun c hc=>?_⟩
 have:=h.2 c hc
 refine .inr (.inr (.inl ⟨?_,?_⟩))
 ·exact UInt8.le_iff_toNat_le.2 this.1
 ·exact UInt8.le_iff_toNat_le.2 this.2
end
end Go.Proofs.YtfkjhfdpphfjhaaGreatDoor
