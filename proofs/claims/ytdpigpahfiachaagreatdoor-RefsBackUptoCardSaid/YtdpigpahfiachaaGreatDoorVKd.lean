/- Proved: a part of what the law is proved with (the reckoner, contracts of functions, plain laws). Conditions: as each says. -/
import Derived.Test.YtdpigpahfiachaaGreatDoorVBi
import Derived.Test.YtdpigpahfiachaaGreatDoorVEs
import Derived.Test.YtdpigpahfiachaaGreatDoorVFv
import Derived.Test.YtdpigpahfiachaaGreatDoorVGb
import Derived.Test.YtdpigpahfiachaaGreatDoorVGe
import Derived.Test.YtdpigpahfiachaaGreatDoorVGi
import Derived.Test.YtdpigpahfiachaaGreatDoorVPc
section
namespace Go.Proofs.YtdpigpahfiachaaGreatDoor
open Go Go.EYtdpigpahfiachaaGreatDoor
open Go
mutual
def cntN:Nd→Nat
 | .mk _ _ _ _ _ ks=>cntL ks+1
def cntL:List Nd→Nat
 | []=>0
 | x::r=>cntN x+cntL r
end
theorem cntL_take:∀ {ks:List Nd} {x:Nat} (h:x<ks.length),cntL (ks.take (x+1))=cntL (ks.take x)+cntN ks[x]
 | y::r,0,_=>by simp[cntL]
 | y::r,x+1,h=>by
  have:=cntL_take (ks:=r) (x:=x) (by simpa using h)
  simp only[List.take_succ_cons,cntL,List.getElem_cons_succ] at *
  omega
theorem cntL_le:∀ (ks:List Nd) (x:Nat),cntL (ks.take x)≤cntL ks
 | [],x=>by simp[cntL]
 | y::r,0=>by simp[cntL]
 | y::r,x+1=>by
  have:=cntL_le r x
  simp only[List.take_succ_cons,cntL] at *
  omega
abbrev noR (a:Rf):Prop:=(a.c=0∧a.r=0∧True)∧((a.fc=true↔False)∧(a.fr=true↔False)∧True)
open Go
mutual
def frmN:Nd→Prop→Prop
 | .mk k m t a b ks,box=>(k=1∧ks.length=0∧t=[]∧(noR a∧noR b)∧0≤m)∨(k=2∧ks.length=0∧(noR a∧noR b)∧m=0)∨(k=3∧ks.length=0∧t=[]∧(noR a∧noR b)∧(m=0∨m=1))∨
  (k=4∧ks.length=0∧t=[]∧(noR a∧noR b)∧1≤m∧m≤6)∨(k=5∧ks.length=0∧t=[]∧m=0∧noR b∧okP a.c a.r)∨(k=6∧box∧ks.length=0∧t=[]∧m=0∧okP a.c a.r∧okP b.c b.r)∨
  (k=7∧ks.length=1∧t=[]∧(noR a∧noR b)∧m=0∧frmL False ks)∨(k=8∧ks.length=2∧t=[]∧(noR a∧noR b)∧1≤m∧m≤11∧frmL False ks)∨(k=9∧clZ t=true∧(noR a∧noR b)∧m=0∧frmL True ks)
def frmL:Prop→List Nd→Prop
 | _,[]=>True
 | box,x::r=>frmN x box∧frmL box r
end
theorem frmL_iff {box:Prop}:∀ {ks:List Nd},frmL box ks↔∀ x (h:x<ks.length),frmN ks[x] box
 | []=>by simp[frmL]
 | y::r=>by
  simp only[frmL,frmL_iff (ks:=r)]
  constructor
  ·rintro ⟨h1,h2⟩ x hx
   cases x with
   | zero=>exact h1
   | succ x=>exact h2 x (by simpa using hx)
  ·intro h
   exact ⟨h 0 (by simp),fun x hx=>h (x+1) (by simpa using hx)⟩
section
variable {m:Int} {t:List UInt8} {a b:Rf} {ks:List Nd} {box:Prop}
theorem frm_1:frmN (.mk 1 m t a b ks) box↔ks.length=0∧t=[]∧(noR a∧noR b)∧0≤m:=by simp[frmN]
theorem frm_2:frmN (.mk 2 m t a b ks) box↔ks.length=0∧(noR a∧noR b)∧m=0:=by simp[frmN]
theorem frm_3:frmN (.mk 3 m t a b ks) box↔ks.length=0∧t=[]∧(noR a∧noR b)∧(m=0∨m=1):=by simp[frmN]
theorem frm_4:frmN (.mk 4 m t a b ks) box↔ks.length=0∧t=[]∧(noR a∧noR b)∧1≤m∧m≤6:=by simp[frmN]
theorem frm_5:frmN (.mk 5 m t a b ks) box↔ks.length=0∧t=[]∧m=0∧noR b∧okP a.c a.r:=by simp[frmN]
theorem frm_6:frmN (.mk 6 m t a b ks) box↔box∧ks.length=0∧t=[]∧m=0∧okP a.c a.r∧okP b.c b.r:=by simp[frmN]
theorem frm_7:frmN (.mk 7 m t a b ks) box↔ks.length=1∧t=[]∧(noR a∧noR b)∧m=0∧frmL False ks:=by simp[frmN]
theorem frm_8:frmN (.mk 8 m t a b ks) box↔ks.length=2∧t=[]∧(noR a∧noR b)∧1≤m∧m≤11∧frmL False ks:=by simp[frmN]
theorem frm_9:frmN (.mk 9 m t a b ks) box↔clZ t=true∧(noR a∧noR b)∧m=0∧frmL True ks:=by simp[frmN]
theorem frm_0 {k:Int} (h:k<1∨9<k):¬ frmN (.mk k m t a b ks) box:=by
 unfold frmN
 rintro (h1|h1|h1|h1|h1|h1|h1|h1|h1) <;> have:=h1.1 <;> omega
end
def tgtN:Nd→Int
 | .mk k m _ _ _ _=>if k=8 then (if m≤6 then 1 else if m=7 then 2 else if m≤9 then 3 else 4) else 5
def sgnN (m:Int):List UInt8:=([[],[61],[60,62],[60],[60,61],[62],[62,61],[38],[43],[45],[42],[47]]:List (List UInt8)).getD m.toNat []
def brN (s:List UInt8) (p:Prop) [Decidable p]:List UInt8:=if p then 40::(s++[41]) else s
def dqN:List UInt8→List UInt8
 | []=>[]
 | c::r=>if c=34 then 34::34::dqN r else c::dqN r
def comN:List (List UInt8)→List UInt8
 | []=>[]
 | s::r=>s++(r.map fun t=>44::t).flatten
def wr7:List Nd→List (List UInt8)→List UInt8
 | x::_,s::_=>45::brN s (tgtN x<5)
 | _,_=>[]
def wr8 (m tg:Int):List Nd→List (List UInt8)→List UInt8
 | x::y::_,s::t::_=>brN s (tgtN x<tg)++(sgnN m++brN t (tgtN y≤tg))
 | _,_=>[]
def nmR (a:Rf):List UInt8:=nameL a.c a.r a.fc a.fr
open Go
mutual
def wrN:Nd→List UInt8
 | .mk k m t a b ks=>if k=1 then Lib.itoa m else if k=2 then 34::(dqN t++[34]) else if k=3 then (if m=1 then tT else tF) else if k=4 then tx.getD m.toNat [] else if k=5 then nmR a else if k=6 then nmR a++58::nmR b
  else if k=7 then wr7 ks (wrL ks) else if k=8 then wr8 m (tgtN (.mk k m t a b ks)) ks (wrL ks) else if k=9 then t++40::(comN (wrL ks)++[41]) else []
def wrL:List Nd→List (List UInt8)
 | []=>[]
 | x::r=>wrN x::wrL r
end
open Go
mutual
def okN:Nd→Prop
 | .mk _ m t _ _ ks=>okI m∧t.length≤1048576∧okL ks
def okL:List Nd→Prop
 | []=>True
 | x::r=>okN x∧okL r
end
theorem okL_get:∀ {ks:List Nd} (_:okL ks) {x:Nat} (hx:x<ks.length),okN ks[x]
 | y::r,h,0,_=>h.1
 | y::r,h,x+1,hx=>okL_get (ks:=r) h.2 (by simpa using hx)
theorem wrL_len:∀ ks:List Nd,(wrL ks).length=ks.length
 | []=>rfl
 | x::r=>by simp[wrL,wrL_len r]
theorem wrL_get:∀ {ks:List Nd} {x:Nat} (h:x<ks.length),(wrL ks)[x]'(by rw[wrL_len];exact h)=wrN ks[x]
 | y::r,0,_=>rfl
 | y::r,x+1,h=>wrL_get (ks:=r) (by simpa using h)
theorem dqN_len:∀ t:List UInt8,(dqN t).length≤2 * t.length
 | []=>by simp[dqN]
 | c::r=>by
  have:=dqN_len r
  unfold dqN
  split <;> simp <;> omega
end Go.Proofs.YtdpigpahfiachaaGreatDoor
end
section
namespace Go.Proofs.YtdpigpahfiachaaGreatDoor
open Go Go.EYtdpigpahfiachaaGreatDoor
set_option maxRecDepth 100000
theorem nmR_len (a:Rf):(nmR a).length≤5:=by
 have:=digs_len a.r.toNat
 unfold nmR nameL
 cases a.fc <;> cases a.fr <;> simp <;> omega
theorem brN_len (s:List UInt8) (p:Prop) [Decidable p]:(brN s p).length≤s.length+2:=by
 unfold brN
 split <;> simp
theorem sgn_len:∀ m:Fin 12,(sgnN m.val).length≤2:=by decide
theorem sgnN_len {m:Int} (h:1≤m∧m≤11):(sgnN m).length≤2:=by
 have:=sgn_len ⟨m.toNat,by omega⟩
 rwa [show (((⟨m.toNat,by omega⟩:Fin 12).val:Nat):Int)=m by show ((m.toNat:Nat):Int)=m;omega] at this
theorem txN_len:∀ m:Fin 7,(tx.getD m.val []).length≤8:=by decide
theorem com_len:∀ ls:List (List UInt8),(comN ls).length≤(ls.map fun t=>t.length+1).sum
 | []=>Nat.le_refl _
 | s::r=>by
  have:∀ r:List (List UInt8),((r.map fun t=>(44:UInt8)::t).flatten).length=(r.map fun t=>t.length+1).sum:=fun r=>by
   induction r with
   | nil=>rfl
   | cons t r ih=>simp[ih];omega
  simp only[comN,List.length_append,this,List.map_cons,List.sum_cons]
  omega
theorem wr_len (n:Nd):∀ {box:Prop},frmN n box→okN n→(wrN n).length+3≤cntN n * 2097200:=by
 match n with
 | .mk k m t a b ks =>
  intro box hf ho
  have ih:∀ x (h:x<ks.length),∀ {box:Prop},frmN ks[x] box→okN ks[x]→(wrN ks[x]).length+3≤cntN ks[x] * 2097200:=fun x h=>wr_len ks[x]
  obtain ⟨hm,ht,hk⟩:=ho
  have hc:cntN (.mk k m t a b ks)=cntL ks+1:=rfl
  rw[hc]
  have hd:=dqN_len t
  have ha:=nmR_len a
  have hb:=nmR_len b
  by_cases k1:k=1
  ·subst k1
   rw[wrN,if_pos rfl]
   have:=itoa_len hm
   omega
  by_cases k2:k=2
  ·subst k2
   rw[wrN,if_neg (by decide),if_pos rfl]
   simp only[List.length_cons,List.length_append,List.length_nil]
   omega
  by_cases k3:k=3
  ·subst k3
   rw[wrN,if_neg (by decide),if_neg (by decide),if_pos rfl]
   split <;> simp[tT,tF] <;> omega
  by_cases k4:k=4
  ·subst k4
   rw[frm_4] at hf
   have:=txN_len ⟨m.toNat,by omega⟩
   rw[wrN,if_neg (by decide),if_neg (by decide),if_neg (by decide),if_pos rfl]
   simp only at this
   omega
  by_cases k5:k=5
  ·subst k5
   rw[wrN,if_neg (by decide),if_neg (by decide),if_neg (by decide),if_neg (by decide),if_pos rfl]
   omega
  by_cases k6:k=6
  ·subst k6
   rw[wrN,if_neg (by decide),if_neg (by decide),if_neg (by decide),if_neg (by decide),if_neg (by decide),if_pos rfl]
   simp only[List.length_cons,List.length_append]
   omega
  by_cases k7:k=7
  ·subst k7
   rw[frm_7] at hf
   obtain ⟨x,rfl⟩:=List.length_eq_one_iff.1 hf.1
   have h1:=ih 0 (by simp) (frmL_iff.1 hf.2.2.2.2 0 (by simp)) (okL_get hk (by simp))
   rw[wrN,if_neg (by decide),if_neg (by decide),if_neg (by decide),if_neg (by decide),if_neg (by decide),if_neg (by decide),if_pos rfl]
   have h2:=brN_len (wrN x) (tgtN x<5)
   simp only[wrL,wr7,cntL,List.length_cons,List.getElem_cons_zero] at *
   omega
  by_cases k8:k=8
  ·subst k8
   rw[frm_8] at hf
   obtain ⟨x,y,rfl⟩:∃ x y,ks=[x,y]:=by
    match ks,hf.1 with
    | [x,y],_=>exact ⟨x,y,rfl⟩
   have h1:=ih 0 (by simp) (frmL_iff.1 hf.2.2.2.2.2 0 (by simp)) (okL_get hk (by simp))
   have h2:=ih 1 (by simp) (frmL_iff.1 hf.2.2.2.2.2 1 (by simp)) (okL_get hk (by simp))
   rw[wrN,if_neg (by decide),if_neg (by decide),if_neg (by decide),if_neg (by decide),if_neg (by decide),if_neg (by decide),if_neg (by decide),if_pos rfl]
   have h3:=brN_len (wrN x) (tgtN x<tgtN (.mk 8 m t a b [x,y]))
   have h4:=brN_len (wrN y) (tgtN y≤tgtN (.mk 8 m t a b [x,y]))
   have h5:=sgnN_len ⟨hf.2.2.2.1,hf.2.2.2.2.1⟩
   simp only[wrL,wr8,cntL,List.length_append,List.getElem_cons_zero,List.getElem_cons_succ] at *
   omega
  by_cases k9:k=9
  ·subst k9
   rw[frm_9] at hf
   have hfl:=frmL_iff.1 hf.2.2.2
   rw[wrN,if_neg (by decide),if_neg (by decide),if_neg (by decide),if_neg (by decide),if_neg (by decide),if_neg (by decide),if_neg (by decide),if_neg (by decide),if_pos rfl]
   have h1:=com_len (wrL ks)
   have h2:((wrL ks).map fun t=>t.length+1).sum≤cntL ks * 2097200:=by
    have:∀ l:List Nd,(∀ x (h:x<l.length),(wrN l[x]).length+3≤cntN l[x] * 2097200)→((wrL l).map fun t=>t.length+1).sum≤cntL l * 2097200:=fun l hl=>by
     induction l with
     | nil=>simp[wrL]
     | cons y r ihl =>
      have h3:=hl 0 (by simp)
      have h4:=ihl fun x h=>hl (x+1) (by simpa using h)
      simp only[wrL,cntL,List.map_cons,List.sum_cons,List.getElem_cons_zero] at *
      omega
    exact this ks fun x h=>ih x h (hfl x h) (okL_get hk h)
   simp only[List.length_append,List.length_cons,List.length_nil]
   omega
  exact absurd hf (frm_0 (by omega))
termination_by SizeOf.sizeOf n
decreasing_by
 simp only[Nd.mk.sizeOf_spec]
 have:=List.sizeOf_lt_of_mem (List.getElem_mem h)
 omega
end Go.Proofs.YtdpigpahfiachaaGreatDoor
end
section
namespace Go.Proofs.YtdpigpahfiachaaGreatDoor
open Go Go.EYtdpigpahfiachaaGreatDoor
set_option maxRecDepth 100000
set_option maxHeartbeats 4000000
variable {gl:List (Nat×List D)}
abbrev lfB (i:Int):Blk:=.var [.d (iD i)] 3
theorem kid_get {ks:List Nd} {x:Nat} (h:x<ks.length):(Nd.csL ks)[((x:Nat):Int).toNat]?=some (ks[x]).cs:=by
 rw[Int.toNat_natCast]
 induction ks generalizing x with
 | nil=>simp at h
 | cons a r ih =>
  cases x with
  | zero=>rfl
  | succ x=>exact ih (by simpa using h)
theorem kid_len:∀ ks:List Nd,(Nd.csL ks).length=ks.length
 | []=>rfl
 | _::r=>congrArg (·+1) (kid_len r)
theorem cnt_pos (n:Nd):1≤cntN n:=by
 obtain ⟨k,m,t,a,b,ks⟩:=n
 unfold cntN
 omega
theorem len_cnt:∀ ks:List Nd,ks.length≤cntL ks
 | []=>Nat.le_refl _
 | x::r=>by
  have h1:=len_cnt r
  have h2:=cnt_pos x
  simp only[List.length_cons,cntL]
  omega
theorem count_d (n:Nd):∀ (i:Nat),i≤200→
 Go.EYtdpigpahfiachaaGreatDoor.Fn Tryz.prog gl 62 [.agg (ndC n),.c (.ptr 0 0)] [(0,lfB i)] 1 (.ret (.c (.d (.v (.bool (decide (cntN n≤i))))))) [(0,lfB (if cntN n≤i then ((i - cntN n:Nat):Int) else -1))] 1 []:=by
 match n with
 | .mk k m t a b ks =>
  have ih:∀ x (h:x<ks.length),∀ (i:Nat),i≤200→Go.EYtdpigpahfiachaaGreatDoor.Fn Tryz.prog gl 62 [.agg (ndC ks[x]),.c (.ptr 0 0)] [(0,lfB i)] 1 (.ret (.c (.d (.v (.bool (decide (cntN ks[x]≤i))))))) [(0,lfB (if cntN ks[x]≤i then ((i - cntN ks[x]:Nat):Int) else -1))] 1 []:=fun x h=>count_d ks[x]
  intro i hi
  have hlen:=kid_len ks
  by_cases h0:i=0
  ·subst h0
   have hc:¬ cntN (.mk k m t a b ks)≤0:=by unfold cntN;omega
   rw[decide_eq_false hc,if_neg hc]
   have h1:IntKind.i64.wrap (((0:Nat):Int) - 1)<0:=by decide
   refine fn_of_vc (nv:=9999) (cu:=[]) fits mixed Tryz.func62 rfl hoB rfl rfl rfl rfl ?_
   ((repeat' ((conv=>whnf);first|exact .intro|refine .ya ?_|refine .na ?_|refine .ys ?_|refine .ns ?_|refine .neg (fun _=>?_) (fun _=>?_)|refine .mk (fun _=>?_) (fun _=>?_)|refine .mk ?_ ?_|refine AK ?_|refine AT ?_|fail));all_goals conv=>whnf)
   ((repeat' first|exact rfl|((conv=>whnf);first|done|exact suL|refine And.intro ?_ ?_|fail));all_goals conv=>whnf)
  ·have e1:IntKind.i64.wrap ((i:Int) - 1)=((i - 1:Nat):Int):=by rw[wrapI (by omega)];omega
   have h1:¬ ((i - 1:Nat):Int)<0:=by omega
   refine fn_of_vc (nv:=9999) (cu:=[]) fits mixed Tryz.func62 rfl hoB rfl rfl rfl rfl ?_
   ((repeat' ((conv=>whnf);first|exact .intro|refine .ya ?_|refine .na ?_|refine .ys ?_|refine .ns ?_|refine .neg (fun _=>?_) (fun _=>?_)|refine .mk (fun _=>?_) (fun _=>?_)|(rw[e1])|refine .mk ?_ ?_|refine AK ?_|refine AT ?_|fail));all_goals conv=>whnf)
   refine ⟨{ σ:=Nat,fr:=fun x=>[(19,.c (.d (iD (x:Int))))],ks:=[0],L:=fun x=>[(0,lfB ((i - 1 - cntL (ks.take x):Nat):Int))],ex:=0,I:=fun x=>x≤ks.length∧cntL (ks.take x)≤i - 1,μ:=fun x=>ks.length - x },⟨0,⟨Nat.zero_le _,Nat.zero_le _⟩,?_⟩,fun (x:Nat) hx=>?_⟩
   ·((repeat' first|exact rfl|((conv=>whnf);first|done|exact suL|refine And.intro ?_ ?_|fail));all_goals conv=>whnf)
   ·obtain ⟨hx1,hx2⟩:=hx
    by_cases hlt:x<ks.length
    ·have h2:(x:Int)<((Nd.csL ks).length:Nat):=by omega
     have g1:=kid_get hlt
     have c1:=ih x hlt (i - 1 - cntL (ks.take x)) (by omega)
     have ht:=cntL_take hlt
     have hle:=cntL_le ks (x+1)
     have hxc:=len_cnt (ks.take x)
     rw[List.length_take,Nat.min_eq_left hx1] at hxc
     have e0:IntKind.i64.wrap ((x:Int)+1)=((x+1:Nat):Int):=by rw[wrapI (by omega)];rfl
     generalize ks[x]=q at *
     obtain ⟨k1,m1,t1,a1,b1,ks1⟩:=q
     change (Nd.csL ks)[((x:Nat):Int).toNat]?=some [iD k1,iD m1,.str t1,iD a1.c,iD a1.r,tD a1.fc,tD a1.fr,iD b1.c,iD b1.r,tD b1.fc,tD b1.fr,.lst 12 (Nd.csL ks1)] at g1
     by_cases hq:cntN (.mk k1 m1 t1 a1 b1 ks1)≤i - 1 - cntL (ks.take x)
     ·rw[decide_eq_true hq,if_pos hq] at c1
      ((repeat' ((conv=>whnf);first|exact .intro|refine .ya ?_|refine .na ?_|refine .ys ?_|refine .ns ?_|refine .neg (fun _=>?_) (fun _=>?_)|refine .mk (fun _=>?_) (fun _=>?_)|refine .inr (X5 (c1.r [0] _) ?_)|refine .inl (.inr (X5 (c1.r [0] _) ?_))|refine .inl (X5 (c1.r [0] _) ?_)|(refine ⟨Int.natCast_nonneg _,_,g1,?_⟩)|refine .mk ?_ ?_|refine AK ?_|refine AT ?_|fail));all_goals conv=>whnf)
      refine ⟨x+1,⟨⟨hlt,by omega⟩,by show ks.length - (x+1)<ks.length - x;omega⟩,?_⟩
      ((repeat' first|exact rfl|((conv=>whnf);first|done|exact suL|refine And.intro ?_ ?_|fail));all_goals conv=>whnf)
      ·exact ceq e0
      ·exact ceq (by omega)
     ·rw[decide_eq_false hq,if_neg hq] at c1
      ((repeat' ((conv=>whnf);first|exact .intro|refine .ya ?_|refine .na ?_|refine .ys ?_|refine .ns ?_|refine .neg (fun _=>?_) (fun _=>?_)|refine .mk (fun _=>?_) (fun _=>?_)|refine .inr (X5 (c1.r [0] _) ?_)|refine .inl (.inr (X5 (c1.r [0] _) ?_))|refine .inl (X5 (c1.r [0] _) ?_)|(refine ⟨Int.natCast_nonneg _,_,g1,?_⟩)|refine .mk ?_ ?_|refine AK ?_|refine AT ?_|fail));all_goals conv=>whnf)
      have hN:¬ cntN (.mk k m t a b ks)≤i:=by unfold cntN;omega
      rw[decide_eq_false hN,if_neg hN]
      ((repeat' first|exact rfl|((conv=>whnf);first|done|exact suL|refine And.intro ?_ ?_|fail));all_goals conv=>whnf)
    ·have h2:¬ (x:Int)<((Nd.csL ks).length:Nat):=by omega
     ((repeat' ((conv=>whnf);first|exact .intro|refine .ya ?_|refine .na ?_|refine .ys ?_|refine .ns ?_|refine .neg (fun _=>?_) (fun _=>?_)|refine .mk (fun _=>?_) (fun _=>?_)|refine .mk ?_ ?_|refine AK ?_|refine AT ?_|fail));all_goals conv=>whnf)
     have hxl:x=ks.length:=by omega
     subst hxl
     rw[List.take_length] at *
     have hN:cntN (.mk k m t a b ks)≤i:=by unfold cntN;omega
     rw[decide_eq_true hN,if_pos hN]
     ((repeat' first|exact rfl|((conv=>whnf);first|done|exact suL|refine And.intro ?_ ?_|fail));all_goals conv=>whnf)
     exact ceq (by unfold cntN;omega)
termination_by SizeOf.sizeOf n
decreasing_by
 simp only[Nd.mk.sizeOf_spec]
 have:=List.sizeOf_lt_of_mem (List.getElem_mem h)
 omega
end Go.Proofs.YtdpigpahfiachaaGreatDoor
end
section
namespace Go.Proofs.YtdpigpahfiachaaGreatDoor
open Go Go.EYtdpigpahfiachaaGreatDoor
set_option maxRecDepth 100000
set_option maxHeartbeats 4000000
variable {gl:List (Nat×List D)}
abbrev nodB (n:Nd):Blk:=.var (ndC n) 28
theorem bare_d (k m:Int) (t:List UInt8) (a b:Rf) (ks:List Nd) (j:Nat):Go.EYtdpigpahfiachaaGreatDoor.Fn Tryz.prog gl 108 [.c (.d (iD j)),.c (.ptr 0 0)] [(0,nodB (.mk k m t a b ks))] 1 (.ret (.c (.d (.b (ks.length=j∧t=[]) inferInstance)))) [(0,nodB (.mk k m t a b ks))] 1 []:=by
 have hlen:=kid_len ks
 refine fn_of_vc (nv:=9999) (cu:=[]) fits mixed Tryz.func108 rfl hoB rfl rfl rfl rfl ?_
 ((repeat' ((conv=>whnf);first|exact .intro|refine .ya ?_|refine .na ?_|refine .ys ?_|refine .ns ?_|refine .neg (fun _=>?_) (fun _=>?_)|refine .mk (fun _=>?_) (fun _=>?_)|refine .mk ?_ ?_|refine AK ?_|refine AT ?_|fail));all_goals conv=>whnf)
 all_goals ((repeat' first|exact rfl|((conv=>whnf);first|done|exact suL|refine And.intro ?_ ?_|fail));all_goals conv=>whnf)
 ·exact .inr (.inr (.inr (LeD.b ⟨fun h=>⟨by omega,h⟩,fun h=>h.2⟩)))
 ·exact .inr (.inr (.inr (LeD.bf fun h=>by omega)))
theorem kids_le {M:Nat→Prop} {w:World} {k m:Int} {t:List UInt8} {a b:Rf} {ks:List Nd} {x:Value} (h:DenD M w (.agg (Nd.mk k m t a b ks).cs) x):ks.length≤maxLen:=by
 obtain ⟨xs,_,hd⟩:=h.agg_inv
 obtain ⟨y,_,hy⟩:=All2.get hd (j:=11) (a:=.lst 12 (Nd.csL ks)) rfl
 rw[← kid_len]
 generalize Nd.csL ks=l at hy
 cases hy with
 | lst0 z a c hc=>exact Nat.zero_le _
 | lst z l b o c cs hb hM hl hc _ _ _=>exact Nat.le_trans hl hc
theorem called_all (s:List UInt8):FnP Tryz.prog gl 109 [.str s] (.v (.bool (clZ s))):=by
 by_cases hs:s.length≤200
 ·cases h:clZ s with
  | true=>exact called_y hs h
  | false=>exact called_n hs h
 ·have h:clZ s=false:=by
   unfold clZ
   rw[decide_eq_false (show ¬ s.length≤10 by omega)]
   simp
  rw[h]
  have h1:((s.length:Nat):Int)≥2:=by omega
  have h2:¬ ((s.length:Nat):Int)≤10:=by omega
  refine fnP_of_vc (nv:=9999) (cu:=[]) fits mixed Tryz.func109 rfl hoB rfl ?_
  ((repeat' ((conv=>whnf);first|exact .intro|refine .ya ?_|refine .na ?_|refine .ys ?_|refine .ns ?_|refine .neg (fun _=>?_) (fun _=>?_)|refine .mk (fun _=>?_) (fun _=>?_)|refine .mk ?_ ?_|refine AK ?_|refine AT ?_|fail));all_goals conv=>whnf)
  exact LeD.rfl
theorem form_d (n:Nd):∀ bx:Bool,FnP Tryz.prog gl 63 [.agg n.cs,.v (.bool bx)] (.b (frmN n (bx=true)) (Classical.propDecidable _)):=by
 match n with
 | .mk k m t a b ks =>
  have ih:∀ x (h:x<ks.length),∀ bx:Bool,FnP Tryz.prog gl 63 [.agg (ks[x]).cs,.v (.bool bx)] (.b (frmN ks[x] (bx=true)) (Classical.propDecidable _)):=fun x h=>form_d ks[x]
  intro bx
  suffices hh:ks.length≤9223372036854775807→FnP Tryz.prog gl 63 [.agg (Nd.mk k m t a b ks).cs,.v (.bool bx)] (.b (frmN (.mk k m t a b ks) (bx=true)) (Classical.propDecidable _)) from fun w M xs hM hg hd=>(match xs,hd with
   | x::ys,hd=>hh (kids_le hd.1) w M (x::ys) hM hg hd
   | [],hd=>hd.elim)
  intro hks
  have hlen:=kid_len ks
  by_cases k1:k=1
  ·subst k1
   have c0:=bare_d (gl:=gl) 1 m t a b ks 0
   refine fnP_of_vc (nv:=9999) (cu:=[]) fits mixed Tryz.func63 rfl hoB rfl ?_
   ((repeat' ((conv=>whnf);first|exact .intro|refine .ya ?_|refine .na ?_|refine .ys ?_|refine .ns ?_|refine .neg (fun _=>?_) (fun _=>?_)|refine .mk (fun _=>?_) (fun _=>?_)|refine .inr (X5 (c0.r [0] _) ?_)|refine .inl (.inr (X5 (c0.r [0] _) ?_))|refine .inl (X5 (c0.r [0] _) ?_)|refine .mk ?_ ?_|refine AK ?_|refine AT ?_|fail));all_goals conv=>whnf)
   all_goals simp only[andPD] at *
   all_goals clear ih c0
   all_goals first
    | (refine LeD.b ?_;rw[frm_1];grind)
    | (refine LeD.bf ?_;rw[frm_1];grind)
    | (refine LeD.bt ?_;rw[frm_1];grind)
  by_cases k2:k=2
  ·subst k2
   refine fnP_of_vc (nv:=9999) (cu:=[]) fits mixed Tryz.func63 rfl hoB rfl ?_
   ((repeat' ((conv=>whnf);first|exact .intro|refine .ya ?_|refine .na ?_|refine .ys ?_|refine .ns ?_|refine .neg (fun _=>?_) (fun _=>?_)|refine .mk (fun _=>?_) (fun _=>?_)|refine .mk ?_ ?_|refine AK ?_|refine AT ?_|fail));all_goals conv=>whnf)
   all_goals simp only[andPD] at *
   all_goals clear ih
   all_goals first
    | (refine LeD.b ?_;rw[frm_2];grind)
    | (refine LeD.bf ?_;rw[frm_2];grind)
    | (refine LeD.bt ?_;rw[frm_2];grind)
  by_cases k3:k=3
  ·subst k3
   have c0:=bare_d (gl:=gl) 3 m t a b ks 0
   refine fnP_of_vc (nv:=9999) (cu:=[]) fits mixed Tryz.func63 rfl hoB rfl ?_
   ((repeat' ((conv=>whnf);first|exact .intro|refine .ya ?_|refine .na ?_|refine .ys ?_|refine .ns ?_|refine .neg (fun _=>?_) (fun _=>?_)|refine .mk (fun _=>?_) (fun _=>?_)|refine .inr (X5 (c0.r [0] _) ?_)|refine .inl (.inr (X5 (c0.r [0] _) ?_))|refine .inl (X5 (c0.r [0] _) ?_)|refine .mk ?_ ?_|refine AK ?_|refine AT ?_|fail));all_goals conv=>whnf)
   all_goals simp only[andPD] at *
   all_goals clear ih c0
   all_goals first
    | (refine LeD.b ?_;rw[frm_3];grind)
    | (refine LeD.bf ?_;rw[frm_3];grind)
    | (refine LeD.bt ?_;rw[frm_3];grind)
  by_cases k4:k=4
  ·subst k4
   have c0:=bare_d (gl:=gl) 4 m t a b ks 0
   refine fnP_of_vc (nv:=9999) (cu:=[]) fits mixed Tryz.func63 rfl hoB rfl ?_
   ((repeat' ((conv=>whnf);first|exact .intro|refine .ya ?_|refine .na ?_|refine .ys ?_|refine .ns ?_|refine .neg (fun _=>?_) (fun _=>?_)|refine .mk (fun _=>?_) (fun _=>?_)|refine .inr (X5 (c0.r [0] _) ?_)|refine .inl (.inr (X5 (c0.r [0] _) ?_))|refine .inl (X5 (c0.r [0] _) ?_)|refine .mk ?_ ?_|refine AK ?_|refine AT ?_|fail));all_goals conv=>whnf)
   all_goals simp only[andPD] at *
   all_goals clear ih c0
   all_goals first
    | (refine LeD.b ?_;rw[frm_4];grind)
    | (refine LeD.bf ?_;rw[frm_4];grind)
    | (refine LeD.bt ?_;rw[frm_4];grind)
  by_cases k5:k=5
  ·subst k5
   have c0:=bare_d (gl:=gl) 5 m t a b ks 0
   by_cases ho:okP a.c a.r
   ·have c1:=Check_s (gl:=gl) ho
    refine fnP_of_vc (nv:=9999) (cu:=[]) fits mixed Tryz.func63 rfl hoB rfl ?_
    ((repeat' ((conv=>whnf);first|exact .intro|refine .ya ?_|refine .na ?_|refine .ys ?_|refine .ns ?_|refine .neg (fun _=>?_) (fun _=>?_)|refine .mk (fun _=>?_) (fun _=>?_)|refine .inr (X5 (c0.r [0] _) ?_)|refine .inl (.inr (X5 (c0.r [0] _) ?_))|refine .inl (X5 (c0.r [0] _) ?_)|refine .inl (.inl (X1 (c1) ?_))|refine .inl (X1 (c1) ?_)|refine X1 (c1) ?_|refine .mk ?_ ?_|refine AK ?_|refine AT ?_|fail));all_goals conv=>whnf)
    all_goals simp only[andPD] at *
    all_goals clear ih c0 c1
    all_goals first
     | (refine LeD.b ?_;rw[frm_5];grind)
     | (refine LeD.bf ?_;rw[frm_5];grind)
     | (refine LeD.bt ?_;rw[frm_5];grind)
   ·have c1:=Check_n (gl:=gl) ho
    refine fnP_of_vc (nv:=9999) (cu:=[]) fits mixed Tryz.func63 rfl hoB rfl ?_
    ((repeat' ((conv=>whnf);first|exact .intro|refine .ya ?_|refine .na ?_|refine .ys ?_|refine .ns ?_|refine .neg (fun _=>?_) (fun _=>?_)|refine .mk (fun _=>?_) (fun _=>?_)|refine .inr (X5 (c0.r [0] _) ?_)|refine .inl (.inr (X5 (c0.r [0] _) ?_))|refine .inl (X5 (c0.r [0] _) ?_)|refine .inl (.inl (X1 (c1) ?_))|refine .inl (X1 (c1) ?_)|refine X1 (c1) ?_|refine .mk ?_ ?_|refine AK ?_|refine AT ?_|fail));all_goals conv=>whnf)
    all_goals simp only[andPD] at *
    all_goals clear ih c0 c1
    all_goals first
     | (refine LeD.b ?_;rw[frm_5];grind)
     | (refine LeD.bf ?_;rw[frm_5];grind)
     | (refine LeD.bt ?_;rw[frm_5];grind)
  by_cases k6:k=6
  ·subst k6
   have c0:=bare_d (gl:=gl) 6 m t a b ks 0
   obtain ⟨e1,c1⟩:∃ e1,FnP Tryz.prog gl 75 [cellD a.c a.r] (errD e1)∧(e1=0∧okP a.c a.r∨e1=1∧¬ okP a.c a.r):=by
    by_cases ho:okP a.c a.r
    ·exact ⟨0,Check_s ho,.inl ⟨rfl,ho⟩⟩
    ·exact ⟨1,Check_n ho,.inr ⟨rfl,ho⟩⟩
   obtain ⟨e2,c2⟩:∃ e2,FnP Tryz.prog gl 75 [cellD b.c b.r] (errD e2)∧(e2=0∧okP b.c b.r∨e2=1∧¬ okP b.c b.r):=by
    by_cases ho:okP b.c b.r
    ·exact ⟨0,Check_s ho,.inl ⟨rfl,ho⟩⟩
    ·exact ⟨1,Check_n ho,.inr ⟨rfl,ho⟩⟩
   obtain ⟨c1,h1⟩:=c1
   obtain ⟨c2,h2⟩:=c2
   rcases h1 with ⟨rfl,h1⟩|⟨rfl,h1⟩ <;> rcases h2 with ⟨rfl,h2⟩|⟨rfl,h2⟩ <;> cases bx
   all_goals refine fnP_of_vc (nv:=9999) (cu:=[]) fits mixed Tryz.func63 rfl hoB rfl ?_
   all_goals ((repeat' ((conv=>whnf);first|exact .intro|refine .ya ?_|refine .na ?_|refine .ys ?_|refine .ns ?_|refine .neg (fun _=>?_) (fun _=>?_)|refine .mk (fun _=>?_) (fun _=>?_)|refine .inr (X5 (c0.r [0] _) ?_)|refine .inl (.inr (X5 (c0.r [0] _) ?_))|refine .inl (X5 (c0.r [0] _) ?_)|refine .inl (.inl (X1 (by first|exact c1|exact c2) ?_))|refine .inl (X1 (by first|exact c1|exact c2) ?_)|refine X1 (by first|exact c1|exact c2) ?_|refine .mk ?_ ?_|refine AK ?_|refine AT ?_|fail));all_goals conv=>whnf)
   all_goals simp only[andPD] at *
   all_goals clear ih c0 c1 c2
   all_goals first
    | (refine LeD.b ?_;rw[frm_6];grind)
    | (refine LeD.bf ?_;rw[frm_6];grind)
    | (refine LeD.bt ?_;rw[frm_6];grind)
  by_cases k7:k=7
  ·subst k7
   have c0:=bare_d (gl:=gl) 7 m t a b ks 1
   by_cases hl:ks.length=1
   ·obtain ⟨x,rfl⟩:=List.length_eq_one_iff.1 hl
    obtain ⟨kx,mx,tx,ax,bx',sx⟩:=x
    have c1:FnP Tryz.prog gl 63 [.agg (Nd.mk kx mx tx ax bx' sx).cs,.v (.bool false)] (.b (frmN (.mk kx mx tx ax bx' sx) (false=true)) (Classical.propDecidable _)):=ih 0 (by simp) false
    have f7:frmL False [.mk kx mx tx ax bx' sx]↔frmN (.mk kx mx tx ax bx' sx) (false=true):=by simp[frmL]
    have g1:(Nd.csL [.mk kx mx tx ax bx' sx])[(0:Int).toNat]?=some [iD kx,iD mx,.str tx,iD ax.c,iD ax.r,tD ax.fc,tD ax.fr,iD bx'.c,iD bx'.r,tD bx'.fc,tD bx'.fr,.lst 12 (Nd.csL sx)]:=rfl
    refine fnP_of_vc (nv:=9999) (cu:=[]) fits mixed Tryz.func63 rfl hoB rfl ?_
    ((repeat' ((conv=>whnf);first|exact .intro|refine .ya ?_|refine .na ?_|refine .ys ?_|refine .ns ?_|refine .neg (fun _=>?_) (fun _=>?_)|refine .mk (fun _=>?_) (fun _=>?_)|refine .inr (X5 (c0.r [0] _) ?_)|refine .inl (.inr (X5 (c0.r [0] _) ?_))|refine .inl (X5 (c0.r [0] _) ?_)|refine .inl (.inl (X1 (c1) ?_))|refine .inl (X1 (c1) ?_)|refine X1 (c1) ?_|(refine ⟨Int.le_refl _,_,g1,?_⟩)|refine .mk ?_ ?_|refine AK ?_|refine AT ?_|fail));all_goals conv=>whnf)
    all_goals simp only[andPD] at *
    all_goals clear ih c0 c1 g1
    all_goals first
     | (refine LeD.b ?_;rw[frm_7,f7];grind)
     | (refine LeD.bf ?_;rw[frm_7,f7];grind)
     | (refine LeD.bt ?_;rw[frm_7,f7];grind)
   ·have hl2:¬ (ks.length=1∧t=[]):=fun h=>hl h.1
    refine fnP_of_vc (nv:=9999) (cu:=[]) fits mixed Tryz.func63 rfl hoB rfl ?_
    ((repeat' ((conv=>whnf);first|exact .intro|refine .ya ?_|refine .na ?_|refine .ys ?_|refine .ns ?_|refine .neg (fun _=>?_) (fun _=>?_)|refine .mk (fun _=>?_) (fun _=>?_)|refine .inr (X5 (c0.r [0] _) ?_)|refine .inl (.inr (X5 (c0.r [0] _) ?_))|refine .inl (X5 (c0.r [0] _) ?_)|refine .mk ?_ ?_|refine AK ?_|refine AT ?_|fail));all_goals conv=>whnf)
    all_goals simp only[andPD] at *
    all_goals clear ih c0
    all_goals first
     | (refine LeD.b ?_;rw[frm_7];grind)
     | (refine LeD.bf ?_;rw[frm_7];grind)
     | (refine LeD.bt ?_;rw[frm_7];grind)
  by_cases k8:k=8
  ·subst k8
   have c0:=bare_d (gl:=gl) 8 m t a b ks 2
   by_cases hl:ks.length=2
   ·obtain ⟨x,y,rfl⟩:∃ x y,ks=[x,y]:=by
     match ks,hl with
     | [x,y],_=>exact ⟨x,y,rfl⟩
    obtain ⟨kx,mx,tx,ax,bx',sx⟩:=x
    obtain ⟨ky,my,ty,ay,by',sy⟩:=y
    have c1:FnP Tryz.prog gl 63 [.agg (Nd.mk kx mx tx ax bx' sx).cs,.v (.bool false)] (.b (frmN (.mk kx mx tx ax bx' sx) (false=true)) (Classical.propDecidable _)):=ih 0 (by simp) false
    have c2:FnP Tryz.prog gl 63 [.agg (Nd.mk ky my ty ay by' sy).cs,.v (.bool false)] (.b (frmN (.mk ky my ty ay by' sy) (false=true)) (Classical.propDecidable _)):=ih 1 (by simp) false
    have f8:frmL False [.mk kx mx tx ax bx' sx,.mk ky my ty ay by' sy]↔frmN (.mk kx mx tx ax bx' sx) (false=true)∧frmN (.mk ky my ty ay by' sy) (false=true):=by simp[frmL]
    have g1:(Nd.csL [.mk kx mx tx ax bx' sx,.mk ky my ty ay by' sy])[(0:Int).toNat]?=some [iD kx,iD mx,.str tx,iD ax.c,iD ax.r,tD ax.fc,tD ax.fr,iD bx'.c,iD bx'.r,tD bx'.fc,tD bx'.fr,.lst 12 (Nd.csL sx)]:=rfl
    have g2:(Nd.csL [.mk kx mx tx ax bx' sx,.mk ky my ty ay by' sy])[(1:Int).toNat]?=some [iD ky,iD my,.str ty,iD ay.c,iD ay.r,tD ay.fc,tD ay.fr,iD by'.c,iD by'.r,tD by'.fc,tD by'.fr,.lst 12 (Nd.csL sy)]:=rfl
    refine fnP_of_vc (nv:=9999) (cu:=[]) fits mixed Tryz.func63 rfl hoB rfl ?_
    ((repeat' ((conv=>whnf);first|exact .intro|refine .ya ?_|refine .na ?_|refine .ys ?_|refine .ns ?_|refine .neg (fun _=>?_) (fun _=>?_)|refine .mk (fun _=>?_) (fun _=>?_)|refine .inr (X5 (c0.r [0] _) ?_)|refine .inl (.inr (X5 (c0.r [0] _) ?_))|refine .inl (X5 (c0.r [0] _) ?_)|refine .inl (.inl (X1 (by first|exact c1|exact c2) ?_))|refine .inl (X1 (by first|exact c1|exact c2) ?_)|refine X1 (by first|exact c1|exact c2) ?_|(first|refine ⟨Int.le_refl _,_,g1,?_⟩|refine ⟨by decide,_,g2,?_⟩)|refine .mk ?_ ?_|refine AK ?_|refine AT ?_|fail));all_goals conv=>whnf)
    all_goals simp only[andPD] at *
    all_goals clear ih c0 c1 c2 g1 g2
    all_goals first
     | (refine LeD.b ?_;rw[frm_8,f8];grind)
     | (refine LeD.bf ?_;rw[frm_8,f8];grind)
     | (refine LeD.bt ?_;rw[frm_8,f8];grind)
   ·have hl2:¬ (ks.length=2∧t=[]):=fun h=>hl h.1
    refine fnP_of_vc (nv:=9999) (cu:=[]) fits mixed Tryz.func63 rfl hoB rfl ?_
    ((repeat' ((conv=>whnf);first|exact .intro|refine .ya ?_|refine .na ?_|refine .ys ?_|refine .ns ?_|refine .neg (fun _=>?_) (fun _=>?_)|refine .mk (fun _=>?_) (fun _=>?_)|refine .inr (X5 (c0.r [0] _) ?_)|refine .inl (.inr (X5 (c0.r [0] _) ?_))|refine .inl (X5 (c0.r [0] _) ?_)|refine .mk ?_ ?_|refine AK ?_|refine AT ?_|fail));all_goals conv=>whnf)
    all_goals simp only[andPD] at *
    all_goals clear ih c0
    all_goals first
     | (refine LeD.b ?_;rw[frm_8];grind)
     | (refine LeD.bf ?_;rw[frm_8];grind)
     | (refine LeD.bt ?_;rw[frm_8];grind)
  by_cases k9:k=9
  ·subst k9
   cases hc:clZ t with
   | false =>
    have c0:=called_all (gl:=gl) t
    rw[hc] at c0
    refine fnP_of_vc (nv:=9999) (cu:=[]) fits mixed Tryz.func63 rfl hoB rfl ?_
    ((repeat' ((conv=>whnf);first|exact .intro|refine .ya ?_|refine .na ?_|refine .ys ?_|refine .ns ?_|refine .neg (fun _=>?_) (fun _=>?_)|refine .mk (fun _=>?_) (fun _=>?_)|refine .inl (.inl (X1 (c0) ?_))|refine .inl (X1 (c0) ?_)|refine X1 (c0) ?_|refine .mk ?_ ?_|refine AK ?_|refine AT ?_|fail));all_goals conv=>whnf)
    all_goals exact LeD.bf (by rw[frm_9,hc];rintro ⟨h,_⟩;cases h)
   | true =>
    have c0:=called_all (gl:=gl) t
    rw[hc] at c0
    by_cases hz:(noR a∧noR b)∧m=0
    ·have hz':=hz
     obtain ⟨hz1,hm⟩:=hz
     obtain ⟨ha,hb⟩:=hz1
     refine fnP_of_vc (nv:=9999) (cu:=[]) fits mixed Tryz.func63 rfl hoB rfl ?_
     ((repeat' ((conv=>whnf);first|exact .intro|refine .ya ?_|refine .na ?_|refine .ys ?_|refine .ns ?_|refine .neg (fun _=>?_) (fun _=>?_)|refine .mk (fun _=>?_) (fun _=>?_)|refine .inl (.inl (X1 (c0) ?_))|refine .inl (X1 (c0) ?_)|refine X1 (c0) ?_|refine .mk ?_ ?_|refine AK ?_|refine AT ?_|fail));all_goals conv=>whnf)
     refine ⟨{ σ:=Nat,fr:=fun x=>[(198,.c (.d (iD (x:Int))))],ks:=[],L:=fun x=>[],ex:=0,I:=fun x=>x≤ks.length∧∀ y (h:y<ks.length),y<x→frmN ks[y] True,μ:=fun x=>ks.length - x },⟨0,⟨Nat.zero_le _,fun y h hy=>by omega⟩,?_⟩,fun (x:Nat) hx=>?_⟩
     ·((repeat' first|exact rfl|((conv=>whnf);first|done|exact suL|refine And.intro ?_ ?_|fail));all_goals conv=>whnf)
     ·obtain ⟨hx1,hx2⟩:=hx
      by_cases hlt:x<ks.length
      ·have h2:(x:Int)<((Nd.csL ks).length:Nat):=by omega
       have g1:=kid_get hlt
       have c1:=ih x hlt true
       have e0:IntKind.i64.wrap ((x:Int)+1)=((x+1:Nat):Int):=by rw[wrapI (by omega)];rfl
       have hf:∀ p:Prop,p=frmN ks[x] (true=true)→frmN ks[x] True=p:=fun p hp=>by rw[hp];simp
       obtain ⟨pq,hpq⟩:∃ p,p=frmN ks[x] (true=true):=⟨_,rfl⟩
       have hp:=hf pq hpq
       rw[← hpq] at c1
       have stop:¬ pq→¬ frmN (.mk 9 m t a b ks) (bx=true):=fun hn hh=>by
        rw[frm_9] at hh
        have:=frmL_iff.1 hh.2.2.2 x hlt
        rw[hp] at this
        exact hn this
       have step:pq→∀ y (h:y<ks.length),y<x+1→frmN ks[y] True:=fun hq y h hy=>by
        rcases Nat.lt_succ_iff_lt_or_eq.1 hy with hy|rfl
        ·exact hx2 y h hy
        ·rw[hp];exact hq
       clear hf hp hpq
       generalize ks[x]=q at g1 c1
       obtain ⟨k1',m1,t1,a1,b1,ks1⟩:=q
       change (Nd.csL ks)[((x:Nat):Int).toNat]?=some [iD k1',iD m1,.str t1,iD a1.c,iD a1.r,tD a1.fc,tD a1.fr,iD b1.c,iD b1.r,tD b1.fc,tD b1.fr,.lst 12 (Nd.csL ks1)] at g1
       ((repeat' ((conv=>whnf);first|exact .intro|refine .ya ?_|refine .na ?_|refine .ys ?_|refine .ns ?_|refine .neg (fun _=>?_) (fun _=>?_)|refine .mk (fun _=>?_) (fun _=>?_)|refine .inl (.inl (X1 (c1) ?_))|refine .inl (X1 (c1) ?_)|refine X1 (c1) ?_|(refine ⟨Int.natCast_nonneg _,_,g1,?_⟩)|refine .mk ?_ ?_|refine AK ?_|refine AT ?_|fail));all_goals conv=>whnf)
       ·rename_i h
        exact LeD.bf (stop h)
       ·rename_i h
        refine ⟨x+1,⟨⟨hlt,step h⟩,by show ks.length - (x+1)<ks.length - x;omega⟩,?_⟩
        ((repeat' first|exact rfl|((conv=>whnf);first|done|exact suL|refine And.intro ?_ ?_|fail));all_goals conv=>whnf)
        exact ceq e0
      ·have h2:¬ (x:Int)<((Nd.csL ks).length:Nat):=by omega
       ((repeat' ((conv=>whnf);first|exact .intro|refine .ya ?_|refine .na ?_|refine .ys ?_|refine .ns ?_|refine .neg (fun _=>?_) (fun _=>?_)|refine .mk (fun _=>?_) (fun _=>?_)|refine .mk ?_ ?_|refine AK ?_|refine AT ?_|fail));all_goals conv=>whnf)
       exact LeD.bt (by rw[frm_9];exact ⟨hc,⟨ha,hb⟩,hm,frmL_iff.2 fun y h=>hx2 y h (by omega)⟩)
    ·have hn:¬ frmN (.mk 9 m t a b ks) (bx=true):=fun hh=>by
      rw[frm_9] at hh
      exact hz ⟨hh.2.1,hh.2.2.1⟩
     by_cases ha:noR a
     ·by_cases hb:noR b
      ·have hm:¬ m=0:=fun hm=>hz ⟨⟨ha,hb⟩,hm⟩
       refine fnP_of_vc (nv:=9999) (cu:=[]) fits mixed Tryz.func63 rfl hoB rfl ?_
       ((repeat' ((conv=>whnf);first|exact .intro|refine .ya ?_|refine .na ?_|refine .ys ?_|refine .ns ?_|refine .neg (fun _=>?_) (fun _=>?_)|refine .mk (fun _=>?_) (fun _=>?_)|refine .inl (.inl (X1 (c0) ?_))|refine .inl (X1 (c0) ?_)|refine X1 (c0) ?_|refine .mk ?_ ?_|refine AK ?_|refine AT ?_|fail));all_goals conv=>whnf)
       exact LeD.bf hn
      ·refine fnP_of_vc (nv:=9999) (cu:=[]) fits mixed Tryz.func63 rfl hoB rfl ?_
       ((repeat' ((conv=>whnf);first|exact .intro|refine .ya ?_|refine .na ?_|refine .ys ?_|refine .ns ?_|refine .neg (fun _=>?_) (fun _=>?_)|refine .mk (fun _=>?_) (fun _=>?_)|refine .inl (.inl (X1 (c0) ?_))|refine .inl (X1 (c0) ?_)|refine X1 (c0) ?_|refine .mk ?_ ?_|refine AK ?_|refine AT ?_|fail));all_goals conv=>whnf)
       exact LeD.bf hn
     ·refine fnP_of_vc (nv:=9999) (cu:=[]) fits mixed Tryz.func63 rfl hoB rfl ?_
      ((repeat' ((conv=>whnf);first|exact .intro|refine .ya ?_|refine .na ?_|refine .ys ?_|refine .ns ?_|refine .neg (fun _=>?_) (fun _=>?_)|refine .mk (fun _=>?_) (fun _=>?_)|refine .inl (.inl (X1 (c0) ?_))|refine .inl (X1 (c0) ?_)|refine X1 (c0) ?_|refine .mk ?_ ?_|refine AK ?_|refine AT ?_|fail));all_goals conv=>whnf)
      exact LeD.bf hn
  have hk:k<1∨9<k:=by omega
  refine fnP_of_vc (nv:=9999) (cu:=[]) fits mixed Tryz.func63 rfl hoB rfl ?_
  ((repeat' ((conv=>whnf);first|exact .intro|refine .ya ?_|refine .na ?_|refine .ys ?_|refine .ns ?_|refine .neg (fun _=>?_) (fun _=>?_)|refine .mk (fun _=>?_) (fun _=>?_)|refine .mk ?_ ?_|refine AK ?_|refine AT ?_|fail));all_goals conv=>whnf)
  all_goals first|exact LeD.bf (frm_0 hk)|skip
termination_by SizeOf.sizeOf n
decreasing_by
 simp only[Nd.mk.sizeOf_spec]
 have:=List.sizeOf_lt_of_mem (List.getElem_mem h)
 omega
end Go.Proofs.YtdpigpahfiachaaGreatDoor
end
