/- Proved: a part of what the law is proved with (the reckoner, contracts of functions, plain laws). Conditions: as each says. -/
import Derived.Test.YtfkjhfdpphfjhaaGreatDoorXTc
namespace Go.Proofs.YtfkjhfdpphfjhaaGreatDoor
open Go Go.EYtfkjhfdpphfjhaaGreatDoor
set_option maxRecDepth 100000
variable {gl:List (Nat×List D)}
theorem fmod_okI {x y:Int} (_hx:okI x) (hy:okI y) (h0:¬ y=0):okI (x.fmod y):=by
 obtain ⟨h1,h2⟩:=fmod_facts x h0
 omega
def modV (a b:Vl):Vl:=if (numV a).k=4 then numV a else if (numV b).k=4 then numV b else if (numV b).n=0 then ⟨4,1,[]⟩ else ⟨1,(numV a).n.fmod (numV b).n,[]⟩
def truV (v:Vl):Vl:=if v.k=3∨v.k=4 then v else if v.k=2 then (if v.s=tT then ⟨3,1,[]⟩ else if v.s=tF then ⟨3,0,[]⟩ else ⟨4,2,[]⟩) else ⟨3,if v.n=0 then 0 else 1,[]⟩
theorem Is_b {p:Prop} (i:Decidable p):FnP Tryz.prog gl 62 [.b p i] (vlD 3 (@ite _ p i 1 0) []):=by
 by_cases h:p
 ·rw[if_pos h];exact Is_y i h
 ·rw[if_neg h];exact Is_n i h
theorem rTru_b {p:Prop} (i:Decidable p):FnP Tryz.prog gl 23 [.b p i] (vlD 3 (@ite _ p i 1 0) []):=by
 by_cases h:p
 ·rw[if_pos h];exact rTru_y i h
 ·rw[if_neg h];exact rTru_n i h
theorem rTru_c (b:Bool):FnP Tryz.prog gl 23 [.v (.bool b)] (vlD 3 (if b then 1 else 0) []):=by
 cases b
 ·refine S0 Tryz.func23 rfl ?_
  ((repeat' ((conv=>whnf);first|exact .intro|refine G ?_|intro _|refine .mk ?_ ?_|refine AK ?_|refine And.intro (by first|(fail;done)|fail) ?_|fail));all_goals conv=>whnf)
  exact LeD.rfl
 ·refine S0 Tryz.func23 rfl ?_
  ((repeat' ((conv=>whnf);first|exact .intro|refine G ?_|intro _|refine .mk ?_ ?_|refine AK ?_|refine And.intro (by first|(fail;done)|fail) ?_|fail));all_goals conv=>whnf)
  exact LeD.rfl
theorem Truth_d (te:TypeId) (pe:Value) {k n:Int} {s:List UInt8} (hv:isV k n s):FnP Tryz.prog (glV te pe) 175 [vlD k n s] (truV ⟨k,n,s⟩).d:=by
 rcases hv with ⟨rfl,rfl,rfl⟩|⟨rfl,rfl⟩|⟨rfl,rfl,hl⟩|⟨rfl,h3,rfl⟩|⟨rfl,h1,h2,rfl⟩
 ·refine S0 Tryz.func175 rfl ?_
  ((repeat' ((conv=>whnf);first|exact .intro|refine G ?_|intro _|refine C1 (Is_b _) ?_|refine .mk ?_ ?_|refine H ?_|fail));all_goals conv=>whnf)
  exact LeD.rfl
 ·refine S0 Tryz.func175 rfl ?_
  ((repeat' ((conv=>whnf);first|exact .intro|refine G ?_|intro _|refine C1 (Is_b _) ?_|refine .mk ?_ ?_|refine H ?_|fail));all_goals conv=>whnf)
  refine vl_le rfl ?_
  show (if ¬ n=0 then (1:Int) else 0)=if n=0 then 0 else 1
  by_cases h:n=0 <;> simp[h]
 ·have hl:=Literal_d te pe s
  by_cases hT:s=tT
  ·subst hT
   refine S0 Tryz.func175 rfl ?_
   ((repeat' ((conv=>whnf);first|exact .intro|refine G ?_|intro _|refine C1 hl ?_|refine .mk ?_ ?_|refine H ?_|fail));all_goals conv=>whnf)
   exact LeD.rfl
  ·by_cases hF:s=tF
   ·subst hF
    refine S0 Tryz.func175 rfl ?_
    ((repeat' ((conv=>whnf);first|exact .intro|refine G ?_|intro _|refine C1 hl ?_|refine .mk ?_ ?_|refine H ?_|fail));all_goals conv=>whnf)
    exact LeD.rfl
   ·have e:truV ⟨2,0,s⟩=⟨4,2,[]⟩:=by unfold truV;simp[hT,hF]
    rw[e]
    cases hz:litZ s with
    | none =>
     rw[hz] at hl
     refine S0 Tryz.func175 rfl ?_
     ((repeat' ((conv=>whnf);first|exact .intro|refine G ?_|intro _|refine C1 hl ?_|refine C1 (Wrong_d _) ?_|refine .mk ?_ ?_|refine H ?_|fail));all_goals conv=>whnf)
     exact LeD.rfl
    | some p =>
     have hp:¬ p.1=3:=by
      intro h
      unfold litZ at hz
      rw[if_neg hT,if_neg hF] at hz
      obtain ⟨i,_,rfl⟩:=Option.map_eq_some_iff.1 hz
      cases h
     rw[hz] at hl
     refine S0 Tryz.func175 rfl ?_
     ((repeat' ((conv=>whnf);first|exact .intro|refine G ?_|intro _|refine C1 hl ?_|refine C1 (Wrong_d _) ?_|refine .mk ?_ ?_|refine H ?_|fail));all_goals conv=>whnf)
     exact LeD.rfl
 ·refine S0 Tryz.func175 rfl ?_
  ((repeat' ((conv=>whnf);first|exact .intro|refine G ?_|intro _|refine .mk ?_ ?_|refine H ?_|fail));all_goals conv=>whnf)
  exact LeD.rfl
 ·refine S0 Tryz.func175 rfl ?_
  ((repeat' ((conv=>whnf);first|exact .intro|refine G ?_|intro _|refine .mk ?_ ?_|refine H ?_|fail));all_goals conv=>whnf)
  exact LeD.rfl
theorem readV_3 {s:List UInt8} (hT:¬ s=tT) (hF:¬ s=tF):¬ (readV s).k=3:=by
 unfold readV
 split
 ·intro e;cases e
 ·split
  ·intro e;cases e
  ·split
   ·rename_i p hp
    intro e
    have:p.1=3:=e
    unfold litZ at hp
    rw[if_neg hT,if_neg hF] at hp
    obtain ⟨i,_,rfl⟩:=Option.map_eq_some_iff.1 hp
    cases this
   ·split
    ·intro e;cases e
    ·intro e;cases e
theorem rTruth_d {k n:Int} {s:List UInt8} (hv:isV k n s):FnP Tryz.prog gl 25 [vlD k n s] (truV ⟨k,n,s⟩).d:=by
 rcases hv with ⟨rfl,rfl,rfl⟩|⟨rfl,rfl⟩|⟨rfl,rfl,hl⟩|⟨rfl,h3,rfl⟩|⟨rfl,h1,h2,rfl⟩
 ·refine S0 Tryz.func25 rfl ?_
  ((repeat' ((conv=>whnf);first|exact .intro|refine G ?_|intro _|refine C1 (rTru_c false) ?_|refine .mk ?_ ?_|refine H ?_|fail));all_goals conv=>whnf)
  exact LeD.rfl
 ·refine S0 Tryz.func25 rfl ?_
  ((repeat' ((conv=>whnf);first|exact .intro|refine G ?_|intro _|refine C1 (rTru_b _) ?_|refine .mk ?_ ?_|refine H ?_|fail));all_goals conv=>whnf)
  refine vl_le rfl ?_
  show (if ¬ n=0 then (1:Int) else 0)=if n=0 then 0 else 1
  by_cases h:n=0 <;> simp[h]
 ·have hl:=rRead_d (gl:=gl) s (by omega)
  by_cases hT:s=tT
  ·subst hT
   have e:readV tT=⟨3,1,[]⟩:=read_show (v:=⟨3,1,[]⟩) (.inr (.inr (.inr (.inl ⟨rfl,.inr rfl,rfl⟩)))) (by decide) (by decide)
   rw[e] at hl
   refine S0 Tryz.func25 rfl ?_
   ((repeat' ((conv=>whnf);first|exact .intro|refine G ?_|intro _|refine C1 hl ?_|refine .mk ?_ ?_|refine H ?_|fail));all_goals conv=>whnf)
   exact LeD.rfl
  ·by_cases hF:s=tF
   ·subst hF
    have e:readV tF=⟨3,0,[]⟩:=read_show (v:=⟨3,0,[]⟩) (.inr (.inr (.inr (.inl ⟨rfl,.inl rfl,rfl⟩)))) (by decide) (by decide)
    rw[e] at hl
    refine S0 Tryz.func25 rfl ?_
    ((repeat' ((conv=>whnf);first|exact .intro|refine G ?_|intro _|refine C1 hl ?_|refine .mk ?_ ?_|refine H ?_|fail));all_goals conv=>whnf)
    exact LeD.rfl
   ·have e:truV ⟨2,0,s⟩=⟨4,2,[]⟩:=by unfold truV;simp[hT,hF]
    have h3:=readV_3 hT hF
    rw[e]
    refine S0 Tryz.func25 rfl ?_
    ((repeat' ((conv=>whnf);first|exact .intro|refine G ?_|intro _|refine C1 hl ?_|refine C1 (rBad_d _) ?_|refine .mk ?_ ?_|refine H ?_|fail));all_goals conv=>whnf)
    exact LeD.rfl
 ·refine S0 Tryz.func25 rfl ?_
  ((repeat' ((conv=>whnf);first|exact .intro|refine G ?_|intro _|refine .mk ?_ ?_|refine H ?_|fail));all_goals conv=>whnf)
  exact LeD.rfl
 ·refine S0 Tryz.func25 rfl ?_
  ((repeat' ((conv=>whnf);first|exact .intro|refine G ?_|intro _|refine .mk ?_ ?_|refine H ?_|fail));all_goals conv=>whnf)
  exact LeD.rfl
end Go.Proofs.YtfkjhfdpphfjhaaGreatDoor
