/- Proved: a part of what the law is proved with (the reckoner, contracts of functions, plain laws). Conditions: as each says. -/
import Derived.Test.YtcdjjjokniinkaaGreatDoorYBase
import Derived.Test.YtcdjjjokniinkaaGreatDoorYET
import Derived.Test.YtcdjjjokniinkaaGreatDoorYGb
import Derived.Test.YtcdjjjokniinkaaGreatDoorYGd
import Derived.Test.YtcdjjjokniinkaaGreatDoorYPe
import Derived.Test.YtcdjjjokniinkaaGreatDoorYSg
section
namespace Go.Proofs.YtcdjjjokniinkaaGreatDoor
open Go Go.EYtcdjjjokniinkaaGreatDoor
open Go
mutual
def cntN:Nd→Nat
 | .mk _ _ _ _ _ ks=>cntL ks+1
def cntL:List Nd→Nat
 | []=>0
 | x::r=>cntN x+cntL r
end
theorem cntL_take:∀ {ks:List Nd} {x:Nat} (h:x<ks.length),cntL (ks.take (x+1))=cntL (ks.take x)+cntN ks[x]
 | y::r,0,_=>by simp[cntL]
 | y::r,x+1,h=>by
  have:=cntL_take (ks:=r) (x:=x) (by simpa using h)
  simp only[List.take_succ_cons,cntL,List.getElem_cons_succ] at *
  omega
theorem cntL_le:∀ (ks:List Nd) (x:Nat),cntL (ks.take x)≤cntL ks
 | [],x=>by simp[cntL]
 | y::r,0=>by simp[cntL]
 | y::r,x+1=>by
  have:=cntL_le r x
  simp only[List.take_succ_cons,cntL] at *
  omega
abbrev noR (a:Rf):Prop:=(a.c=0∧a.r=0∧True)∧((a.fc=true↔False)∧(a.fr=true↔False)∧True)
open Go
mutual
def frmN:Nd→Prop→Prop
 | .mk k m t a b ks,box=>(k=1∧ks.length=0∧t=[]∧(noR a∧noR b)∧0≤m)∨(k=2∧ks.length=0∧(noR a∧noR b)∧m=0)∨(k=3∧ks.length=0∧t=[]∧(noR a∧noR b)∧(m=0∨m=1))∨
  (k=4∧ks.length=0∧t=[]∧(noR a∧noR b)∧1≤m∧m≤6)∨(k=5∧ks.length=0∧t=[]∧m=0∧noR b∧okP a.c a.r)∨(k=6∧box∧ks.length=0∧t=[]∧m=0∧okP a.c a.r∧okP b.c b.r)∨
  (k=7∧ks.length=1∧t=[]∧(noR a∧noR b)∧m=0∧frmL False ks)∨(k=8∧ks.length=2∧t=[]∧(noR a∧noR b)∧1≤m∧m≤11∧frmL False ks)∨(k=9∧clZ t=true∧(noR a∧noR b)∧m=0∧frmL True ks)
def frmL:Prop→List Nd→Prop
 | _,[]=>True
 | box,x::r=>frmN x box∧frmL box r
end
theorem frmL_iff {box:Prop}:∀ {ks:List Nd},frmL box ks↔∀ x (h:x<ks.length),frmN ks[x] box
 | []=>by simp[frmL]
 | y::r=>by
  simp only[frmL,frmL_iff (ks:=r)]
  constructor
  ·rintro ⟨h1,h2⟩ x hx
   cases x with
   | zero=>exact h1
   | succ x=>exact h2 x (by simpa using hx)
  ·intro h
   exact ⟨h 0 (by simp),fun x hx=>h (x+1) (by simpa using hx)⟩
section
variable {m:Int} {t:List UInt8} {a b:Rf} {ks:List Nd} {box:Prop}
theorem frm_1:frmN (.mk 1 m t a b ks) box↔ks.length=0∧t=[]∧(noR a∧noR b)∧0≤m:=by simp[frmN]
theorem frm_2:frmN (.mk 2 m t a b ks) box↔ks.length=0∧(noR a∧noR b)∧m=0:=by simp[frmN]
theorem frm_3:frmN (.mk 3 m t a b ks) box↔ks.length=0∧t=[]∧(noR a∧noR b)∧(m=0∨m=1):=by simp[frmN]
theorem frm_4:frmN (.mk 4 m t a b ks) box↔ks.length=0∧t=[]∧(noR a∧noR b)∧1≤m∧m≤6:=by simp[frmN]
theorem frm_5:frmN (.mk 5 m t a b ks) box↔ks.length=0∧t=[]∧m=0∧noR b∧okP a.c a.r:=by simp[frmN]
theorem frm_6:frmN (.mk 6 m t a b ks) box↔box∧ks.length=0∧t=[]∧m=0∧okP a.c a.r∧okP b.c b.r:=by simp[frmN]
theorem frm_7:frmN (.mk 7 m t a b ks) box↔ks.length=1∧t=[]∧(noR a∧noR b)∧m=0∧frmL False ks:=by simp[frmN]
theorem frm_8:frmN (.mk 8 m t a b ks) box↔ks.length=2∧t=[]∧(noR a∧noR b)∧1≤m∧m≤11∧frmL False ks:=by simp[frmN]
theorem frm_9:frmN (.mk 9 m t a b ks) box↔clZ t=true∧(noR a∧noR b)∧m=0∧frmL True ks:=by simp[frmN]
theorem frm_0 {k:Int} (h:k<1∨9<k):¬ frmN (.mk k m t a b ks) box:=by
 unfold frmN
 rintro (h1|h1|h1|h1|h1|h1|h1|h1|h1) <;> have:=h1.1 <;> omega
end
def tgtN:Nd→Int
 | .mk k m _ _ _ _=>if k=8 then (if m≤6 then 1 else if m=7 then 2 else if m≤9 then 3 else 4) else 5
def sgnN (m:Int):List UInt8:=([[],[61],[60,62],[60],[60,61],[62],[62,61],[38],[43],[45],[42],[47]]:List (List UInt8)).getD m.toNat []
def brN (s:List UInt8) (p:Prop) [Decidable p]:List UInt8:=if p then 40::(s++[41]) else s
def dqN:List UInt8→List UInt8
 | []=>[]
 | c::r=>if c=34 then 34::34::dqN r else c::dqN r
def comN:List (List UInt8)→List UInt8
 | []=>[]
 | s::r=>s++(r.map fun t=>44::t).flatten
def wr7:List Nd→List (List UInt8)→List UInt8
 | x::_,s::_=>45::brN s (tgtN x<5)
 | _,_=>[]
def wr8 (m tg:Int):List Nd→List (List UInt8)→List UInt8
 | x::y::_,s::t::_=>brN s (tgtN x<tg)++(sgnN m++brN t (tgtN y≤tg))
 | _,_=>[]
def nmR (a:Rf):List UInt8:=nameL a.c a.r a.fc a.fr
open Go
mutual
def wrN:Nd→List UInt8
 | .mk k m t a b ks=>if k=1 then Lib.itoa m else if k=2 then 34::(dqN t++[34]) else if k=3 then (if m=1 then tT else tF) else if k=4 then tx.getD m.toNat [] else if k=5 then nmR a else if k=6 then nmR a++58::nmR b
  else if k=7 then wr7 ks (wrL ks) else if k=8 then wr8 m (tgtN (.mk k m t a b ks)) ks (wrL ks) else if k=9 then t++40::(comN (wrL ks)++[41]) else []
def wrL:List Nd→List (List UInt8)
 | []=>[]
 | x::r=>wrN x::wrL r
end
open Go
mutual
def okN:Nd→Prop
 | .mk _ m t _ _ ks=>okI m∧t.length≤1048576∧okL ks
def okL:List Nd→Prop
 | []=>True
 | x::r=>okN x∧okL r
end
theorem okL_get:∀ {ks:List Nd} (_:okL ks) {x:Nat} (hx:x<ks.length),okN ks[x]
 | y::r,h,0,_=>h.1
 | y::r,h,x+1,hx=>okL_get (ks:=r) h.2 (by simpa using hx)
theorem wrL_len:∀ ks:List Nd,(wrL ks).length=ks.length
 | []=>rfl
 | x::r=>by simp[wrL,wrL_len r]
theorem wrL_get:∀ {ks:List Nd} {x:Nat} (h:x<ks.length),(wrL ks)[x]'(by rw[wrL_len];exact h)=wrN ks[x]
 | y::r,0,_=>rfl
 | y::r,x+1,h=>wrL_get (ks:=r) (by simpa using h)
theorem dqN_len:∀ t:List UInt8,(dqN t).length≤2 * t.length
 | []=>by simp[dqN]
 | c::r=>by
  have:=dqN_len r
  unfold dqN
  split <;> simp <;> omega
end Go.Proofs.YtcdjjjokniinkaaGreatDoor
end
section
namespace Go.Proofs.YtcdjjjokniinkaaGreatDoor
open Go Go.EYtcdjjjokniinkaaGreatDoor
set_option maxRecDepth 100000
set_option maxHeartbeats 4000000
variable {gl:List (Nat×List D)}
abbrev lfB (i:Int):Blk:=.var [.d (iD i)] 3
theorem kid_get {ks:List Nd} {x:Nat} (h:x<ks.length):(Nd.csL ks)[((x:Nat):Int).toNat]?=some (ks[x]).cs:=by
 rw[Int.toNat_natCast]
 induction ks generalizing x with
 | nil=>simp at h
 | cons a r ih =>
  cases x with
  | zero=>rfl
  | succ x=>exact ih (by simpa using h)
theorem kid_len:∀ ks:List Nd,(Nd.csL ks).length=ks.length
 | []=>rfl
 | _::r=>congrArg (·+1) (kid_len r)
theorem cnt_pos (n:Nd):1≤cntN n:=by
 obtain ⟨k,m,t,a,b,ks⟩:=n
 unfold cntN
 omega
theorem len_cnt:∀ ks:List Nd,ks.length≤cntL ks
 | []=>Nat.le_refl _
 | x::r=>by
  have h1:=len_cnt r
  have h2:=cnt_pos x
  simp only[List.length_cons,cntL]
  omega
theorem count_d (n:Nd):∀ (i:Nat),i≤200→
 Go.EYtcdjjjokniinkaaGreatDoor.Fn Tryz.prog gl 79 [.agg (ndC n),.c (.ptr 0 0)] [(0,lfB i)] 1 (.ret (.c (.d (.v (.bool (decide (cntN n≤i))))))) [(0,lfB (if cntN n≤i then ((i - cntN n:Nat):Int) else -1))] 1 []:=by
 match n with
 | .mk k m t a b ks =>
  have ih:∀ x (h:x<ks.length),∀ (i:Nat),i≤200→Go.EYtcdjjjokniinkaaGreatDoor.Fn Tryz.prog gl 79 [.agg (ndC ks[x]),.c (.ptr 0 0)] [(0,lfB i)] 1 (.ret (.c (.d (.v (.bool (decide (cntN ks[x]≤i))))))) [(0,lfB (if cntN ks[x]≤i then ((i - cntN ks[x]:Nat):Int) else -1))] 1 []:=fun x h=>count_d ks[x]
  intro i hi
  have hlen:=kid_len ks
  by_cases h0:i=0
  ·subst h0
   have hc:¬ cntN (.mk k m t a b ks)≤0:=by unfold cntN;omega
   rw[decide_eq_false hc,if_neg hc]
   have h1:IntKind.i64.wrap (((0:Nat):Int) - 1)<0:=by decide
   refine fn_of_vc (nv:=9999) (cu:=[]) fits mixed Tryz.func79 rfl hoB rfl rfl rfl rfl ?_
   ((repeat' ((conv=>whnf);first|exact .intro|refine .ya ?_|refine .na ?_|refine .ys ?_|refine .ns ?_|refine .neg (fun _=>?_) (fun _=>?_)|refine .mk (fun _=>?_) (fun _=>?_)|refine .mk ?_ ?_|refine AK ?_|refine AT ?_|fail));all_goals conv=>whnf)
   ((repeat' first|exact rfl|((conv=>whnf);first|done|exact suL|refine And.intro ?_ ?_|fail));all_goals conv=>whnf)
  ·have e1:IntKind.i64.wrap ((i:Int) - 1)=((i - 1:Nat):Int):=by rw[wrapI (by omega)];omega
   have h1:¬ ((i - 1:Nat):Int)<0:=by omega
   refine fn_of_vc (nv:=9999) (cu:=[]) fits mixed Tryz.func79 rfl hoB rfl rfl rfl rfl ?_
   ((repeat' ((conv=>whnf);first|exact .intro|refine .ya ?_|refine .na ?_|refine .ys ?_|refine .ns ?_|refine .neg (fun _=>?_) (fun _=>?_)|refine .mk (fun _=>?_) (fun _=>?_)|(rw[e1])|refine .mk ?_ ?_|refine AK ?_|refine AT ?_|fail));all_goals conv=>whnf)
   refine ⟨{ σ:=Nat,fr:=fun x=>[(19,.c (.d (iD (x:Int))))],ks:=[0],L:=fun x=>[(0,lfB ((i - 1 - cntL (ks.take x):Nat):Int))],ex:=0,I:=fun x=>x≤ks.length∧cntL (ks.take x)≤i - 1,μ:=fun x=>ks.length - x },⟨0,⟨Nat.zero_le _,Nat.zero_le _⟩,?_⟩,fun (x:Nat) hx=>?_⟩
   ·((repeat' first|exact rfl|((conv=>whnf);first|done|exact suL|refine And.intro ?_ ?_|fail));all_goals conv=>whnf)
   ·obtain ⟨hx1,hx2⟩:=hx
    by_cases hlt:x<ks.length
    ·have h2:(x:Int)<((Nd.csL ks).length:Nat):=by omega
     have g1:=kid_get hlt
     have c1:=ih x hlt (i - 1 - cntL (ks.take x)) (by omega)
     have ht:=cntL_take hlt
     have hle:=cntL_le ks (x+1)
     have hxc:=len_cnt (ks.take x)
     rw[List.length_take,Nat.min_eq_left hx1] at hxc
     have e0:IntKind.i64.wrap ((x:Int)+1)=((x+1:Nat):Int):=by rw[wrapI (by omega)];rfl
     generalize ks[x]=q at *
     obtain ⟨k1,m1,t1,a1,b1,ks1⟩:=q
     change (Nd.csL ks)[((x:Nat):Int).toNat]?=some [iD k1,iD m1,.str t1,iD a1.c,iD a1.r,tD a1.fc,tD a1.fr,iD b1.c,iD b1.r,tD b1.fc,tD b1.fr,.lst 12 (Nd.csL ks1)] at g1
     by_cases hq:cntN (.mk k1 m1 t1 a1 b1 ks1)≤i - 1 - cntL (ks.take x)
     ·rw[decide_eq_true hq,if_pos hq] at c1
      ((repeat' ((conv=>whnf);first|exact .intro|refine .ya ?_|refine .na ?_|refine .ys ?_|refine .ns ?_|refine .neg (fun _=>?_) (fun _=>?_)|refine .mk (fun _=>?_) (fun _=>?_)|refine .inr (X5 (c1.r [0] _) ?_)|refine .inl (.inr (X5 (c1.r [0] _) ?_))|refine .inl (X5 (c1.r [0] _) ?_)|(refine ⟨Int.natCast_nonneg _,_,g1,?_⟩)|refine .mk ?_ ?_|refine AK ?_|refine AT ?_|fail));all_goals conv=>whnf)
      refine ⟨x+1,⟨⟨hlt,by omega⟩,by show ks.length - (x+1)<ks.length - x;omega⟩,?_⟩
      ((repeat' first|exact rfl|((conv=>whnf);first|done|exact suL|refine And.intro ?_ ?_|fail));all_goals conv=>whnf)
      ·exact ceq e0
      ·exact ceq (by omega)
     ·rw[decide_eq_false hq,if_neg hq] at c1
      ((repeat' ((conv=>whnf);first|exact .intro|refine .ya ?_|refine .na ?_|refine .ys ?_|refine .ns ?_|refine .neg (fun _=>?_) (fun _=>?_)|refine .mk (fun _=>?_) (fun _=>?_)|refine .inr (X5 (c1.r [0] _) ?_)|refine .inl (.inr (X5 (c1.r [0] _) ?_))|refine .inl (X5 (c1.r [0] _) ?_)|(refine ⟨Int.natCast_nonneg _,_,g1,?_⟩)|refine .mk ?_ ?_|refine AK ?_|refine AT ?_|fail));all_goals conv=>whnf)
      have hN:¬ cntN (.mk k m t a b ks)≤i:=by unfold cntN;omega
      rw[decide_eq_false hN,if_neg hN]
      ((repeat' first|exact rfl|((conv=>whnf);first|done|exact suL|refine And.intro ?_ ?_|fail));all_goals conv=>whnf)
    ·have h2:¬ (x:Int)<((Nd.csL ks).length:Nat):=by omega
     ((repeat' ((conv=>whnf);first|exact .intro|refine .ya ?_|refine .na ?_|refine .ys ?_|refine .ns ?_|refine .neg (fun _=>?_) (fun _=>?_)|refine .mk (fun _=>?_) (fun _=>?_)|refine .mk ?_ ?_|refine AK ?_|refine AT ?_|fail));all_goals conv=>whnf)
     have hxl:x=ks.length:=by omega
     subst hxl
     rw[List.take_length] at *
     have hN:cntN (.mk k m t a b ks)≤i:=by unfold cntN;omega
     rw[decide_eq_true hN,if_pos hN]
     ((repeat' first|exact rfl|((conv=>whnf);first|done|exact suL|refine And.intro ?_ ?_|fail));all_goals conv=>whnf)
     exact ceq (by unfold cntN;omega)
termination_by SizeOf.sizeOf n
decreasing_by
 simp only[Nd.mk.sizeOf_spec]
 have:=List.sizeOf_lt_of_mem (List.getElem_mem h)
 omega
end Go.Proofs.YtcdjjjokniinkaaGreatDoor
end
section
namespace Go.Proofs.YtcdjjjokniinkaaGreatDoor
open Go Go.EYtcdjjjokniinkaaGreatDoor
abbrev rowC (p:Int×Int):List D:=[iD p.1,iD p.2]
end Go.Proofs.YtcdjjjokniinkaaGreatDoor
end
section
namespace Go.Proofs.YtcdjjjokniinkaaGreatDoor
open Go Go.EYtcdjjjokniinkaaGreatDoor
set_option maxRecDepth 100000
def boxC (a b:Rf):List (Int×Int):=pairsL (min a.c b.c) (min a.r b.r) (max a.c b.c - min a.c b.c+1).toNat (max a.r b.r - min a.r b.r+1).toNat
def ownC (k:Int) (a b:Rf):List (Int×Int):=if k=5 then [(a.c,a.r)] else if k=6 then boxC a b else []
mutual
def cellsN:Nd→List (Int×Int)
 | .mk k _ _ a b ks=>ownC k a b++cellsK ks
def cellsK:List Nd→List (Int×Int)
 | []=>[]
 | x::r=>cellsN x++cellsK r
end
theorem cellsK_take:∀ {ks:List Nd} {x:Nat} (h:x<ks.length),cellsK (ks.take (x+1))=cellsK (ks.take x)++cellsN ks[x]
 | y::r,0,_=>by simp[cellsK]
 | y::r,x+1,h=>by
  have:=cellsK_take (ks:=r) (x:=x) (by simpa using h)
  rw[List.take_succ_cons,List.take_succ_cons,cellsK,cellsK,this,List.append_assoc]
  rfl
theorem frm_kid {k m:Int} {t:List UInt8} {a b:Rf} {ks:List Nd} {box:Prop} (hf:frmN (.mk k m t a b ks) box):∀ x (h:x<ks.length),∃ bx:Prop,frmN ks[x] bx:=fun x h=>by
 by_cases h7:k=7
 ·subst h7;rw[frm_7] at hf;exact ⟨_,frmL_iff.1 hf.2.2.2.2 x h⟩
 by_cases h8:k=8
 ·subst h8;rw[frm_8] at hf;exact ⟨_,frmL_iff.1 hf.2.2.2.2.2 x h⟩
 by_cases h9:k=9
 ·subst h9;rw[frm_9] at hf;exact ⟨_,frmL_iff.1 hf.2.2.2 x h⟩
 exfalso
 unfold frmN at hf
 omega
theorem boxC_len {a b:Rf} (ha:okP a.c a.r) (hb:okP b.c b.r):(boxC a b).length≤2574:=by
 unfold boxC
 rw[pairsL_len]
 obtain ⟨h1,h2,h3,h4⟩:=ha
 obtain ⟨h5,h6,h7,h8⟩:=hb
 have:(max a.r b.r - min a.r b.r+1).toNat * (max a.c b.c - min a.c b.c+1).toNat≤99 * 26:=Nat.mul_le_mul (by omega) (by omega)
 omega
theorem boxC_ok {a b:Rf} (ha:okP a.c a.r) (hb:okP b.c b.r):∀ p ∈ boxC a b,okP p.1 p.2:=fun p hp=>by
 unfold boxC pairsL at hp
 simp only[List.mem_flatMap,List.mem_map,List.mem_range] at hp
 obtain ⟨i,hi,j,hj,rfl⟩:=hp
 simp only
 omega
theorem boxC_box {a b:Rf} (ha:okP a.c a.r) (hb:okP b.c b.r):boxP (min a.c b.c) (min a.r b.r) (max a.c b.c) (max a.r b.r):=by omega
theorem own_ok {k m:Int} {t:List UInt8} {a b:Rf} {ks:List Nd} {box:Prop} (hf:frmN (.mk k m t a b ks) box):(ownC k a b).length≤2574∧∀ p ∈ ownC k a b,okP p.1 p.2:=by
 unfold ownC
 by_cases h5:k=5
 ·subst h5
  rw[frm_5] at hf
  rw[if_pos rfl]
  exact ⟨by simp,fun p hp=>by rw[List.mem_singleton.1 hp];exact hf.2.2.2.2⟩
 ·rw[if_neg h5]
  by_cases h6:k=6
  ·subst h6
   rw[frm_6] at hf
   rw[if_pos rfl]
   exact ⟨boxC_len hf.2.2.2.2.1 hf.2.2.2.2.2,boxC_ok hf.2.2.2.2.1 hf.2.2.2.2.2⟩
  ·rw[if_neg h6]
   exact ⟨by simp,fun p hp=>by cases hp⟩
theorem cellsK_few {ks:List Nd} (h:∀ x (h:x<ks.length),(cellsN ks[x]).length≤2574 * cntN ks[x]∧∀ p ∈ cellsN ks[x],okP p.1 p.2):∀ x,x≤ks.length→(cellsK (ks.take x)).length≤2574 * cntL (ks.take x)∧∀ p ∈ cellsK (ks.take x),okP p.1 p.2
 | 0,_=>by simp[cellsK]
 | x+1,hx=>by
  obtain ⟨h1,h2⟩:=cellsK_few h x (by omega)
  obtain ⟨h3,h4⟩:=h x hx
  have h5:=cntL_take (show x<ks.length from hx)
  rw[cellsK_take hx]
  refine ⟨?_,fun p hp=>?_⟩
  ·rw[List.length_append,h5]
   omega
  ·rcases List.mem_append.1 hp with hp|hp
   ·exact h2 p hp
   ·exact h4 p hp
theorem cellsN_few (n:Nd):∀ {box:Prop},frmN n box→(cellsN n).length≤2574 * cntN n∧∀ p ∈ cellsN n,okP p.1 p.2:=by
 match n with
 | .mk k m t a b ks =>
  intro box hf
  have ih:∀ x (h:x<ks.length),(cellsN ks[x]).length≤2574 * cntN ks[x]∧∀ p ∈ cellsN ks[x],okP p.1 p.2:=fun x h=>cellsN_few ks[x] (frm_kid hf x h).choose_spec
  obtain ⟨h1,h2⟩:=cellsK_few ih ks.length (Nat.le_refl _)
  rw[List.take_length] at h1 h2
  obtain ⟨h3,h4⟩:=own_ok hf
  rw[cellsN]
  refine ⟨?_,fun p hp=>?_⟩
  ·rw[List.length_append]
   unfold cntN
   omega
  ·rcases List.mem_append.1 hp with hp|hp
   ·exact h4 p hp
   ·exact h2 p hp
termination_by SizeOf.sizeOf n
decreasing_by
 simp only[Nd.mk.sizeOf_spec]
 have:=List.sizeOf_lt_of_mem (List.getElem_mem h)
 omega
end Go.Proofs.YtcdjjjokniinkaaGreatDoor
end
section
namespace Go.Proofs.YtcdjjjokniinkaaGreatDoor
open Go Go.EYtcdjjjokniinkaaGreatDoor
theorem fitG1:FitsOne Tryz.prog 107 ⟨false,1,8,[.v .nilFunc],[],false,none,none,0,[],false,[]⟩:=⟨by kernel_rfl,rfl,rfl,by kernel_rfl,(fun h=>by cases h),by kernel_rfl⟩
theorem fitsG:Fits Tryz.prog ((107,⟨false,1,8,[.v .nilFunc],[],false,none,none,0,[],false,[]⟩)::tt) :=
 fits_cons fitG1 fits
end Go.Proofs.YtcdjjjokniinkaaGreatDoor
end
section
namespace Go.Proofs.YtcdjjjokniinkaaGreatDoor
open Go Go.EYtcdjjjokniinkaaGreatDoor
set_option maxRecDepth 100000
set_option maxHeartbeats 4000000
variable {gl:List (Nat×List D)}
abbrev lkH (l:List (Int×Int)):List (Nat×Blk):=[(0,.var [.all 2 1] 41),(1,.rows 2 (l.map rowC) 28),(2,.var [.fn 58 [(0,0),(2,0)]] 107)]
theorem rowC_one:∀ l:List (Int×Int),allOne (l.map rowC)=true
 | []=>rfl
 | _::l=>rowC_one l
def LkOk (gl:List (Nat×List D)) (n:Nd):Prop:=∀ l:List (Int×Int),l.length+2574 * cntN n≤1048576→Go.EYtcdjjjokniinkaaGreatDoor.Fn Tryz.prog gl 58 [.agg (ndC n),.c (.ptr 0 0),.c (.ptr 2 0)] (lkH l) 3 (.ret (.tup [])) (lkH (l++cellsN n)) 3 [1]
theorem look_5 (a b:Rf) (m:Int) (t:List UInt8):LkOk gl (.mk 5 m t a b []):=fun l hl=>by
 have hc:cellsN (.mk 5 m t a b [])=[(a.c,a.r)]:=by simp[cellsN,ownC,cellsK]
 have hn:cntN (.mk 5 m t a b [])=1:=by simp[cntN,cntL]
 rw[hn] at hl
 rw[hc]
 have hrl:(l.map rowC).length=l.length:=List.length_map _
 have b1:((l.map rowC).length+1) * 16≤140737488355328:=by omega
 have b2:(l.map rowC).length+1≤maxLen:=by unfold maxLen;omega
 refine fn_of_vc (nv:=9999) (cu:=[]) fitsG mixed Tryz.func58 rfl hoB rfl rfl rfl rfl ?_
 ((repeat' ((conv=>whnf);first|exact .intro|refine .ya ?_|refine .na ?_|refine .ys ?_|refine .ns ?_|refine .neg (fun _=>?_) (fun _=>?_)|refine .mk (fun _=>?_) (fun _=>?_)|(refine ⟨⟨rfl,b1,b2⟩,?_⟩)|refine .mk ?_ ?_|refine AK ?_|refine AT ?_|fail));all_goals conv=>whnf)
 refine ⟨{ σ:=Nat,fr:=fun x=>[(43,.c (.d (iD (x:Int))))],ks:=[],L:=fun x=>[],ex:=0,I:=fun x=>x=0,μ:=fun x=>0 },⟨0,rfl,?_⟩,fun (x:Nat) hx=>?_⟩
 ·((repeat' first|exact rfl|((conv=>whnf);first|done|exact suL|refine And.intro ?_ ?_|fail));all_goals conv=>whnf)
 ·obtain rfl:x=0:=hx
  have h0:¬ ((0:Nat):Int)<((Nd.csL []).length:Nat):=by decide
  ((repeat' ((conv=>whnf);first|exact .intro|refine .ya ?_|refine .na ?_|refine .ys ?_|refine .ns ?_|refine .neg (fun _=>?_) (fun _=>?_)|refine .mk (fun _=>?_) (fun _=>?_)|refine .mk ?_ ?_|refine AK ?_|refine AT ?_|fail));all_goals conv=>whnf)
  all_goals ((repeat' first|exact rfl|((conv=>whnf);first|done|exact suL|refine And.intro ?_ ?_|fail));all_goals conv=>whnf)
  all_goals first|(rw[List.map_append];rfl)|skip
theorem look_6 (a b:Rf) (m:Int) (t:List UInt8) (ha:okP a.c a.r) (hb:okP b.c b.r):LkOk gl (.mk 6 m t a b []):=fun l hl=>by
 have hc:cellsN (.mk 6 m t a b [])=boxC a b:=by simp[cellsN,ownC,cellsK]
 have hn:cntN (.mk 6 m t a b [])=1:=by simp[cntN,cntL]
 rw[hn] at hl
 rw[hc]
 have hrl:(l.map rowC).length=l.length:=List.length_map _
 have hbl:=boxC_len ha hb
 have hrb:((boxC a b).map rowC).length=(boxC a b).length:=List.length_map _
 have b1:((l.map rowC).length+((boxC a b).map rowC).length) * 16≤140737488355328:=by omega
 have b2:(l.map rowC).length+((boxC a b).map rowC).length≤maxLen:=by unfold maxLen;omega
 have b3:allOne ((boxC a b).map rowC)=true:=rowC_one _
 have c1:FnP Tryz.prog gl 59 [cellD a.c a.r,cellD b.c b.r] (.tup [boxD (min a.c b.c) (min a.r b.r) (max a.c b.c) (max a.r b.r),.v .nilIface]):=Box_s ha hb
 have c2:FnP Tryz.prog gl 60 [boxD (min a.c b.c) (min a.r b.r) (max a.c b.c) (max a.r b.r)] (.tup [.lst 2 ((boxC a b).map rowC),.v .nilIface]):=Cells_s (boxC_box ha hb)
 generalize boxC a b=cs at *
 refine fn_of_vc (nv:=9999) (cu:=[]) fitsG mixed Tryz.func58 rfl hoB rfl rfl rfl rfl ?_
 ((repeat' ((conv=>whnf);first|exact .intro|refine .ya ?_|refine .na ?_|refine .ys ?_|refine .ns ?_|refine .neg (fun _=>?_) (fun _=>?_)|refine .mk (fun _=>?_) (fun _=>?_)|refine .inl (.inl (X1 (by first|exact c1|exact c2) ?_))|refine .inl (X1 (by first|exact c1|exact c2) ?_)|refine X1 (by first|exact c1|exact c2) ?_|(refine ⟨⟨b3,b1,b2⟩,?_⟩)|refine .mk ?_ ?_|refine AK ?_|refine AT ?_|fail));all_goals conv=>whnf)
 refine ⟨{ σ:=Nat,fr:=fun x=>[(43,.c (.d (iD (x:Int))))],ks:=[],L:=fun x=>[],ex:=0,I:=fun x=>x=0,μ:=fun x=>0 },⟨0,rfl,?_⟩,fun (x:Nat) hx=>?_⟩
 ·((repeat' first|exact rfl|((conv=>whnf);first|done|exact suL|refine And.intro ?_ ?_|fail));all_goals conv=>whnf)
 ·obtain rfl:x=0:=hx
  have h0:¬ ((0:Nat):Int)<((Nd.csL []).length:Nat):=by decide
  ((repeat' ((conv=>whnf);first|exact .intro|refine .ya ?_|refine .na ?_|refine .ys ?_|refine .ns ?_|refine .neg (fun _=>?_) (fun _=>?_)|refine .mk (fun _=>?_) (fun _=>?_)|refine .mk ?_ ?_|refine AK ?_|refine AT ?_|fail));all_goals conv=>whnf)
  all_goals ((repeat' first|exact rfl|((conv=>whnf);first|done|exact suL|refine And.intro ?_ ?_|fail));all_goals conv=>whnf)
  all_goals first|(rw[List.map_append];rfl)|(rw[List.map_append];done)|skip
theorem look_k (k m:Int) (t:List UInt8) (a b:Rf) (ks:List Nd) (h5:¬ k=5) (h6:¬ k=6) (_hc:cntN (.mk k m t a b ks)≤200) (hfew:∀ x,x≤ks.length→(cellsK (ks.take x)).length≤2574 * cntL (ks.take x)) (ih:∀ x (h:x<ks.length),LkOk gl ks[x]):LkOk gl (.mk k m t a b ks):=fun l hl=>by
 have hcN:cellsN (.mk k m t a b ks)=cellsK ks:=by simp[cellsN,ownC,h5,h6]
 rw[hcN]
 have hlen:=kid_len ks
 have hlk:=len_cnt ks
 unfold cntN at hl
 refine fn_of_vc (nv:=9999) (cu:=[]) fitsG mixed Tryz.func58 rfl hoB rfl rfl rfl rfl ?_
 ((repeat' ((conv=>whnf);first|exact .intro|refine .ya ?_|refine .na ?_|refine .ys ?_|refine .ns ?_|refine .neg (fun _=>?_) (fun _=>?_)|refine .mk (fun _=>?_) (fun _=>?_)|refine .mk ?_ ?_|refine AK ?_|refine AT ?_|fail));all_goals conv=>whnf)
 refine ⟨{ σ:=Nat,fr:=fun x=>[(43,.c (.d (iD (x:Int))))],ks:=[1],L:=fun x=>[(1,.rows 2 ((l++cellsK (ks.take x)).map rowC) 28)],ex:=0,I:=fun x=>x≤ks.length,μ:=fun x=>ks.length - x },⟨0,Nat.zero_le _,?_⟩,fun (x:Nat) hx=>?_⟩
 ·((repeat' first|exact rfl|((conv=>whnf);first|done|exact suL|refine And.intro ?_ ?_|fail));all_goals conv=>whnf)
  all_goals first|(simp[cellsK];done)|skip
 ·replace hx:x≤ks.length:=hx
  by_cases hlt:x<ks.length
  ·have h2:(x:Int)<((Nd.csL ks).length:Nat):=by omega
   have g1:=kid_get hlt
   have h7:=hfew x hx
   have h8:=cntL_take hlt
   have h9:=cntL_le ks (x+1)
   have c1:=ih x hlt (l++cellsK (ks.take x)) (by rw[List.length_append];omega)
   have hct:=cellsK_take hlt
   have e0:IntKind.i64.wrap ((x:Int)+1)=((x+1:Nat):Int):=by rw[wrapI (by omega)];rfl
   generalize ks[x]=q at *
   obtain ⟨k1,m1,t1,a1,b1,ks1⟩:=q
   change (Nd.csL ks)[((x:Nat):Int).toNat]?=some [iD k1,iD m1,.str t1,iD a1.c,iD a1.r,tD a1.fc,tD a1.fr,iD b1.c,iD b1.r,tD b1.fc,tD b1.fr,.lst 12 (Nd.csL ks1)] at g1
   ((repeat' ((conv=>whnf);first|exact .intro|refine .ya ?_|refine .na ?_|refine .ys ?_|refine .ns ?_|refine .neg (fun _=>?_) (fun _=>?_)|refine .mk (fun _=>?_) (fun _=>?_)|refine .inr (X5 (c1.r [0,1,2] _) ?_)|refine .inl (.inr (X5 (c1.r [0,1,2] _) ?_))|refine .inl (X5 (c1.r [0,1,2] _) ?_)|(refine ⟨Int.natCast_nonneg _,_,g1,?_⟩)|refine .mk ?_ ?_|refine AK ?_|refine AT ?_|fail));all_goals conv=>whnf)
   all_goals refine ⟨x+1,⟨hlt,by show ks.length - (x+1)<ks.length - x;omega⟩,?_⟩
   all_goals ((repeat' first|exact rfl|((conv=>whnf);first|done|exact suL|refine And.intro ?_ ?_|fail));all_goals conv=>whnf)
   all_goals first|exact ceq e0|(rw[hct,← List.append_assoc];done)|skip
  ·have h2:¬ (x:Int)<((Nd.csL ks).length:Nat):=by omega
   obtain rfl:x=ks.length:=by omega
   ((repeat' ((conv=>whnf);first|exact .intro|refine .ya ?_|refine .na ?_|refine .ys ?_|refine .ns ?_|refine .neg (fun _=>?_) (fun _=>?_)|refine .mk (fun _=>?_) (fun _=>?_)|refine .mk ?_ ?_|refine AK ?_|refine AT ?_|fail));all_goals conv=>whnf)
   all_goals ((repeat' first|exact rfl|((conv=>whnf);first|done|exact suL|refine And.intro ?_ ?_|fail));all_goals conv=>whnf)
   all_goals first|(rw[List.take_length];done)|skip
theorem look_h (n:Nd):∀ {box:Prop},frmN n box→cntN n≤200→LkOk gl n:=by
 match n with
 | .mk k m t a b ks =>
  intro box hf hc
  have hcx:∀ x (h:x<ks.length),cntN ks[x]≤200:=fun x h=>by
   have h1:=cntL_take h
   have h2:=cntL_le ks (x+1)
   unfold cntN at hc
   omega
  have hfx:=frm_kid hf
  have ih:∀ x (h:x<ks.length),LkOk gl ks[x]:=fun x h=>look_h ks[x] (hfx x h).choose_spec (hcx x h)
  have hfew:=cellsK_few (ks:=ks) fun x h=>cellsN_few ks[x] (hfx x h).choose_spec
  by_cases h5:k=5
  ·subst h5
   rw[frm_5] at hf
   obtain rfl:=List.eq_nil_of_length_eq_zero hf.1
   exact look_5 a b m t
  by_cases h6:k=6
  ·subst h6
   rw[frm_6] at hf
   obtain rfl:=List.eq_nil_of_length_eq_zero hf.2.1
   exact look_6 a b m t hf.2.2.2.2.1 hf.2.2.2.2.2
  exact look_k k m t a b ks h5 h6 hc (fun x hx=>(hfew x hx).1) ih
termination_by SizeOf.sizeOf n
decreasing_by
 simp only[Nd.mk.sizeOf_spec]
 have:=List.sizeOf_lt_of_mem (List.getElem_mem h)
 omega
end Go.Proofs.YtcdjjjokniinkaaGreatDoor
end
section
namespace Go.Proofs.YtcdjjjokniinkaaGreatDoor
open Go Go.EYtcdjjjokniinkaaGreatDoor
set_option maxRecDepth 100000
set_option maxHeartbeats 4000000
variable {gl:List (Nat×List D)}
def markAt (p:Int×Int):Nat:=(p.2 * 27+p.1).toNat
def markL (cs:List (Int×Int)) (m:List Bool):List Bool:=cs.foldl (fun m p=>m.set (markAt p) true) m
theorem markL_app (a b:List (Int×Int)) (m:List Bool):markL (a++b) m=markL b (markL a m):=by unfold markL;rw[List.foldl_append]
theorem markL_len:∀ (cs:List (Int×Int)) (m:List Bool),(markL cs m).length=m.length
 | [],_=>rfl
 | p::cs,m=>by
  show (markL cs (m.set (markAt p) true)).length=_
  rw[markL_len cs,List.length_set]
abbrev rowB (b:Bool):List D:=[.v (.bool b)]
abbrev mkH (m:List Bool):List (Nat×Blk):=[(0,.rows 1 (m.map rowB) 63)]
def SeOk (gl:List (Nat×List D)) (n:Nd):Prop:=∀ m:List Bool,m.length=2700→Go.EYtcdjjjokniinkaaGreatDoor.Fn Tryz.prog gl 26 [.agg (ndC n),.c (.ptr 0 0)] (mkH m) 1 (.ret (.tup [])) (mkH (markL (cellsN n) m)) 1 []
theorem rowB_set (m:List Bool) (i:Nat):(m.set i true).map rowB=(m.map rowB).set i [.v (.bool true)]:=List.map_set
theorem seen_5 (a b:Rf) (m:Int) (t:List UInt8) (ha:okP a.c a.r):SeOk gl (.mk 5 m t a b []):=fun l hl=>by
 have hc:cellsN (.mk 5 m t a b [])=[(a.c,a.r)]:=by simp[cellsN,ownC,cellsK]
 rw[hc]
 obtain ⟨h1,h2,h3,h4⟩:=ha
 have w1:IntKind.i64.wrap (a.r * 27)=a.r * 27:=wrapI (by omega)
 have w2:IntKind.i64.wrap (a.r * 27+a.c)=a.r * 27+a.c:=wrapI (by omega)
 have g1:(l.map rowB)[(a.r * 27+a.c).toNat]?=some (rowB (l[(a.r * 27+a.c).toNat]'(by omega))):=by rw[List.getElem?_map,List.getElem?_eq_getElem (by omega)];rfl
 refine fn_of_vc (nv:=9999) (cu:=[]) fits mixed Tryz.func26 rfl hoB rfl rfl rfl rfl ?_
 ((repeat' ((conv=>whnf);first|exact .intro|refine .ya ?_|refine .na ?_|refine .ys ?_|refine .ns ?_|refine .neg (fun _=>?_) (fun _=>?_)|refine .mk (fun _=>?_) (fun _=>?_)|(first|rw[w1]|rw[w2]|refine ⟨⟨by omega,by omega⟩,?_⟩|refine ⟨_,g1,?_⟩)|refine .mk ?_ ?_|refine AK ?_|refine AT ?_|fail));all_goals conv=>whnf)
 refine ⟨{ σ:=Nat,fr:=fun x=>[(6,.c (.d (iD (x:Int))))],ks:=[],L:=fun x=>[],ex:=0,I:=fun x=>x=0,μ:=fun x=>0 },⟨0,rfl,?_⟩,fun (x:Nat) hx=>?_⟩
 ·((repeat' first|exact rfl|((conv=>whnf);first|done|exact suL|refine And.intro ?_ ?_|fail));all_goals conv=>whnf)
 ·obtain rfl:x=0:=hx
  have h0:¬ ((0:Nat):Int)<((Nd.csL []).length:Nat):=by decide
  ((repeat' ((conv=>whnf);first|exact .intro|refine .ya ?_|refine .na ?_|refine .ys ?_|refine .ns ?_|refine .neg (fun _=>?_) (fun _=>?_)|refine .mk (fun _=>?_) (fun _=>?_)|refine .mk ?_ ?_|refine AK ?_|refine AT ?_|fail));all_goals conv=>whnf)
  all_goals ((repeat' first|exact rfl|((conv=>whnf);first|done|exact suL|refine And.intro ?_ ?_|fail));all_goals conv=>whnf)
  all_goals first|exact (rowB_set l _).symm|skip
theorem markL_take {cs:List (Int×Int)} {x:Nat} (h:x<cs.length) (m:List Bool):markL (cs.take (x+1)) m=(markL (cs.take x) m).set (markAt cs[x]) true:=by
 rw[List.take_succ_eq_append_getElem h,markL_app]
 rfl
theorem seen_6 (a b:Rf) (m:Int) (t:List UInt8) (ha:okP a.c a.r) (hb:okP b.c b.r):SeOk gl (.mk 6 m t a b []):=fun l hl=>by
 have hc:cellsN (.mk 6 m t a b [])=boxC a b:=by simp[cellsN,ownC,cellsK]
 rw[hc]
 have hrb:((boxC a b).map rowD).length=(boxC a b).length:=List.length_map _
 have hbl:=boxC_len ha hb
 have hok:=boxC_ok ha hb
 have c1:=Corners_d (gl:=gl) a.c a.r b.c b.r
 have c2:FnP Tryz.prog gl 55 [boxD (min a.c b.c) (min a.r b.r) (max a.c b.c) (max a.r b.r)] (.lst 2 ((boxC a b).map rowD)):=refCells_s (boxC_box ha hb)
 generalize boxC a b=cs at *
 refine fn_of_vc (nv:=9999) (cu:=[]) fits mixed Tryz.func26 rfl hoB rfl rfl rfl rfl ?_
 ((repeat' ((conv=>whnf);first|exact .intro|refine .ya ?_|refine .na ?_|refine .ys ?_|refine .ns ?_|refine .neg (fun _=>?_) (fun _=>?_)|refine .mk (fun _=>?_) (fun _=>?_)|refine .inl (.inl (X1 (by first|exact c1|exact c2) ?_))|refine .inl (X1 (by first|exact c1|exact c2) ?_)|refine X1 (by first|exact c1|exact c2) ?_|refine .mk ?_ ?_|refine AK ?_|refine AT ?_|fail));all_goals conv=>whnf)
 refine ⟨{ σ:=Nat,fr:=fun x=>[(5,.c (.d (iD (x:Int))))],ks:=[0],L:=fun x=>mkH (markL (cs.take x) l),ex:=0,I:=fun x=>x≤cs.length,μ:=fun x=>cs.length - x },⟨0,Nat.zero_le _,?_⟩,fun (x:Nat) hx=>?_⟩
 ·((repeat' first|exact rfl|((conv=>whnf);first|done|exact suL|refine And.intro ?_ ?_|fail));all_goals conv=>whnf)
 ·replace hx:x≤cs.length:=hx
  by_cases hlt:x<cs.length
  ·have h2:(x:Int)<((cs.map rowD).length:Nat):=by omega
   have g1:=get_map (f:=rowD) hlt
   have hml:=markL_len (cs.take x) l
   have hmt:=markL_take hlt l
   have hp:=hok _ (List.getElem_mem hlt)
   have e0:IntKind.i64.wrap ((x:Int)+1)=((x+1:Nat):Int):=by rw[wrapI (by omega)];rfl
   generalize cs[x]=p at *
   obtain ⟨pc,pr⟩:=p
   obtain ⟨h3,h4,h5,h6⟩:=hp
   simp only at h3 h4 h5 h6
   change (cs.map rowD)[((x:Nat):Int).toNat]?=some [iD pc,iD pr] at g1
   have w1:IntKind.i64.wrap (pr * 27)=pr * 27:=wrapI (by omega)
   have w2:IntKind.i64.wrap (pr * 27+pc)=pr * 27+pc:=wrapI (by omega)
   have g2:((markL (cs.take x) l).map rowB)[(pr * 27+pc).toNat]?=some (rowB ((markL (cs.take x) l)[(pr * 27+pc).toNat]'(by omega))):=by rw[List.getElem?_map,List.getElem?_eq_getElem (by omega)];rfl
   ((repeat' ((conv=>whnf);first|exact .intro|refine .ya ?_|refine .na ?_|refine .ys ?_|refine .ns ?_|refine .neg (fun _=>?_) (fun _=>?_)|refine .mk (fun _=>?_) (fun _=>?_)|(first|rw[w1]|rw[w2]|refine ⟨Int.natCast_nonneg _,_,g1,?_⟩|refine ⟨⟨by omega,by omega⟩,?_⟩|refine ⟨_,g2,?_⟩)|refine .mk ?_ ?_|refine AK ?_|refine AT ?_|fail));all_goals conv=>whnf)
   all_goals refine ⟨x+1,⟨hlt,by show cs.length - (x+1)<cs.length - x;omega⟩,?_⟩
   all_goals ((repeat' first|exact rfl|((conv=>whnf);first|done|exact suL|refine And.intro ?_ ?_|fail));all_goals conv=>whnf)
   all_goals first|exact ceq e0|(rw[hmt];exact (rowB_set _ _).symm)|skip
  ·have h2:¬ (x:Int)<((cs.map rowD).length:Nat):=by omega
   obtain rfl:x=cs.length:=by omega
   ((repeat' ((conv=>whnf);first|exact .intro|refine .ya ?_|refine .na ?_|refine .ys ?_|refine .ns ?_|refine .neg (fun _=>?_) (fun _=>?_)|refine .mk (fun _=>?_) (fun _=>?_)|refine .mk ?_ ?_|refine AK ?_|refine AT ?_|fail));all_goals conv=>whnf)
   refine ⟨{ σ:=Nat,fr:=fun x=>[(6,.c (.d (iD (x:Int))))],ks:=[],L:=fun x=>[],ex:=0,I:=fun x=>x=0,μ:=fun x=>0 },⟨0,rfl,?_⟩,fun (x:Nat) hx=>?_⟩
   ·((repeat' first|exact rfl|((conv=>whnf);first|done|exact suL|refine And.intro ?_ ?_|fail));all_goals conv=>whnf)
   ·obtain rfl:x=0:=hx
    have h0:¬ ((0:Nat):Int)<((Nd.csL []).length:Nat):=by decide
    ((repeat' ((conv=>whnf);first|exact .intro|refine .ya ?_|refine .na ?_|refine .ys ?_|refine .ns ?_|refine .neg (fun _=>?_) (fun _=>?_)|refine .mk (fun _=>?_) (fun _=>?_)|refine .mk ?_ ?_|refine AK ?_|refine AT ?_|fail));all_goals conv=>whnf)
    all_goals ((repeat' first|exact rfl|((conv=>whnf);first|done|exact suL|refine And.intro ?_ ?_|fail));all_goals conv=>whnf)
    all_goals first|(rw[List.take_length];done)|skip
theorem seen_k (k m:Int) (t:List UInt8) (a b:Rf) (ks:List Nd) (h5:¬ k=5) (h6:¬ k=6) (hc:cntN (.mk k m t a b ks)≤200) (ih:∀ x (h:x<ks.length),SeOk gl ks[x]):SeOk gl (.mk k m t a b ks):=fun l hl=>by
 have hcN:cellsN (.mk k m t a b ks)=cellsK ks:=by simp[cellsN,ownC,h5,h6]
 rw[hcN]
 have hlen:=kid_len ks
 have hlk:=len_cnt ks
 unfold cntN at hc
 refine fn_of_vc (nv:=9999) (cu:=[]) fits mixed Tryz.func26 rfl hoB rfl rfl rfl rfl ?_
 ((repeat' ((conv=>whnf);first|exact .intro|refine .ya ?_|refine .na ?_|refine .ys ?_|refine .ns ?_|refine .neg (fun _=>?_) (fun _=>?_)|refine .mk (fun _=>?_) (fun _=>?_)|refine .mk ?_ ?_|refine AK ?_|refine AT ?_|fail));all_goals conv=>whnf)
 refine ⟨{ σ:=Nat,fr:=fun x=>[(6,.c (.d (iD (x:Int))))],ks:=[0],L:=fun x=>mkH (markL (cellsK (ks.take x)) l),ex:=0,I:=fun x=>x≤ks.length,μ:=fun x=>ks.length - x },⟨0,Nat.zero_le _,?_⟩,fun (x:Nat) hx=>?_⟩
 ·((repeat' first|exact rfl|((conv=>whnf);first|done|exact suL|refine And.intro ?_ ?_|fail));all_goals conv=>whnf)
  all_goals first|(simp[cellsK,markL];done)|skip
 ·replace hx:x≤ks.length:=hx
  by_cases hlt:x<ks.length
  ·have h2:(x:Int)<((Nd.csL ks).length:Nat):=by omega
   have g1:=kid_get hlt
   have c1:=ih x hlt (markL (cellsK (ks.take x)) l) (by rw[markL_len];exact hl)
   have hct:=cellsK_take hlt
   have e0:IntKind.i64.wrap ((x:Int)+1)=((x+1:Nat):Int):=by rw[wrapI (by omega)];rfl
   generalize ks[x]=q at *
   obtain ⟨k1,m1,t1,a1,b1,ks1⟩:=q
   change (Nd.csL ks)[((x:Nat):Int).toNat]?=some [iD k1,iD m1,.str t1,iD a1.c,iD a1.r,tD a1.fc,tD a1.fr,iD b1.c,iD b1.r,tD b1.fc,tD b1.fr,.lst 12 (Nd.csL ks1)] at g1
   ((repeat' ((conv=>whnf);first|exact .intro|refine .ya ?_|refine .na ?_|refine .ys ?_|refine .ns ?_|refine .neg (fun _=>?_) (fun _=>?_)|refine .mk (fun _=>?_) (fun _=>?_)|refine .inr (X5 (c1.r [0] _) ?_)|refine .inl (.inr (X5 (c1.r [0] _) ?_))|refine .inl (X5 (c1.r [0] _) ?_)|(refine ⟨Int.natCast_nonneg _,_,g1,?_⟩)|refine .mk ?_ ?_|refine AK ?_|refine AT ?_|fail));all_goals conv=>whnf)
   all_goals refine ⟨x+1,⟨hlt,by show ks.length - (x+1)<ks.length - x;omega⟩,?_⟩
   all_goals ((repeat' first|exact rfl|((conv=>whnf);first|done|exact suL|refine And.intro ?_ ?_|fail));all_goals conv=>whnf)
   all_goals first|exact ceq e0|(rw[hct,markL_app];done)|skip
  ·have h2:¬ (x:Int)<((Nd.csL ks).length:Nat):=by omega
   obtain rfl:x=ks.length:=by omega
   ((repeat' ((conv=>whnf);first|exact .intro|refine .ya ?_|refine .na ?_|refine .ys ?_|refine .ns ?_|refine .neg (fun _=>?_) (fun _=>?_)|refine .mk (fun _=>?_) (fun _=>?_)|refine .mk ?_ ?_|refine AK ?_|refine AT ?_|fail));all_goals conv=>whnf)
   all_goals ((repeat' first|exact rfl|((conv=>whnf);first|done|exact suL|refine And.intro ?_ ?_|fail));all_goals conv=>whnf)
   all_goals first|(rw[List.take_length];done)|skip
theorem seen_h (n:Nd):∀ {box:Prop},frmN n box→cntN n≤200→SeOk gl n:=by
 match n with
 | .mk k m t a b ks =>
  intro box hf hc
  have hcx:∀ x (h:x<ks.length),cntN ks[x]≤200:=fun x h=>by
   have h1:=cntL_take h
   have h2:=cntL_le ks (x+1)
   unfold cntN at hc
   omega
  have hfx:=frm_kid hf
  have ih:∀ x (h:x<ks.length),SeOk gl ks[x]:=fun x h=>seen_h ks[x] (hfx x h).choose_spec (hcx x h)
  by_cases h5:k=5
  ·subst h5
   rw[frm_5] at hf
   obtain rfl:=List.eq_nil_of_length_eq_zero hf.1
   exact seen_5 a b m t hf.2.2.2.2
  by_cases h6:k=6
  ·subst h6
   rw[frm_6] at hf
   obtain rfl:=List.eq_nil_of_length_eq_zero hf.2.1
   exact seen_6 a b m t hf.2.2.2.2.1 hf.2.2.2.2.2
  exact seen_k k m t a b ks h5 h6 hc ih
termination_by SizeOf.sizeOf n
decreasing_by
 simp only[Nd.mk.sizeOf_spec]
 have:=List.sizeOf_lt_of_mem (List.getElem_mem h)
 omega
end Go.Proofs.YtcdjjjokniinkaaGreatDoor
end
