/- Proved: a part of what the law is proved with (the reckoner, contracts of functions, plain laws). Conditions: as each says. -/
import Derived.Test.YtfkjhfdpphfjhaaGreatDoorFTc
namespace Go.Proofs.YtfkjhfdpphfjhaaGreatDoor
open Go Go.EYtfkjhfdpphfjhaaGreatDoor
set_option maxRecDepth 100000
variable {gl:List (Nat×List D)}
theorem fmod_okI {x y:Int} (_hx:okI x) (hy:okI y) (h0:¬ y=0):okI (x.fmod y):=by
 obtain ⟨h1,h2⟩:=fmod_facts x h0
 omega
def modV (a b:Vl):Vl:=if (numV a).k=4 then numV a else if (numV b).k=4 then numV b else if (numV b).n=0 then ⟨4,1,[]⟩ else ⟨1,(numV a).n.fmod (numV b).n,[]⟩
theorem modN (te:TypeId) (pe:Value) {k n k' n':Int} {s s':List UInt8} {a b:Vl} (ha:a.ok) (hb:b.ok) (hA:FnP Tryz.prog (glV te pe) 106 [vlD k n s] a.d) (hB:FnP Tryz.prog (glV te pe) 106 [vlD k' n' s'] b.d) (r:Vl)
 (hr:r=if a.k=4 then a else if b.k=4 then b else if b.n=0 then ⟨4,1,[]⟩ else ⟨1,a.n.fmod b.n,[]⟩):FnP Tryz.prog (glV te pe) 180 [vlD k n s,vlD k' n' s'] r.d:=by
 obtain ⟨ak,an,a3⟩:=a
 obtain ⟨bk,bn,b3⟩:=b
 replace hA:FnP Tryz.prog (glV te pe) 106 [vlD k n s] (vlD ak an a3):=hA
 replace hB:FnP Tryz.prog (glV te pe) 106 [vlD k' n' s'] (vlD bk bn b3):=hB
 have h1:=ha.2
 have h2:=hb.2
 simp only at h1 h2 hr
 by_cases q1:ak=4
 ·rw[if_pos q1] at hr
  subst hr
  refine S0 Tryz.func180 rfl ?_
  ((repeat' ((conv=>whnf);first|exact .intro|refine G ?_|intro _|refine C1 hA ?_|refine C1 hB ?_|refine C1 (IsBad_d _ _ _) ?_|refine .mk ?_ ?_|refine H ?_|fail));all_goals conv=>whnf)
  all_goals exact LeD.rfl
 rw[if_neg q1] at hr
 by_cases q2:bk=4
 ·rw[if_pos q2] at hr
  subst hr
  refine S0 Tryz.func180 rfl ?_
  ((repeat' ((conv=>whnf);first|exact .intro|refine G ?_|intro _|refine C1 hA ?_|refine C1 hB ?_|refine C1 (IsBad_d _ _ _) ?_|refine .mk ?_ ?_|refine H ?_|fail));all_goals conv=>whnf)
  all_goals exact LeD.rfl
 rw[if_neg q2] at hr
 by_cases q3:bn=0
 ·rw[if_pos q3] at hr
  subst hr
  refine S0 Tryz.func180 rfl ?_
  ((repeat' ((conv=>whnf);first|exact .intro|refine G ?_|intro _|refine C1 hA ?_|refine C1 hB ?_|refine C1 (IsBad_d _ _ _) ?_|refine C1 (Wrong_d _) ?_|refine .mk ?_ ?_|refine H ?_|fail));all_goals conv=>whnf)
  all_goals exact LeD.rfl
 rw[if_neg q3] at hr
 subst hr
 have e:=fmod_tmod an q3
 have e2:bn=-1→an.tmod bn=0:=fun hb=>by rw[hb,Int.tmod_neg,Int.tmod_one]
 have e3:=fmod_facts an q3
 have e4:(an.tmod bn).natAbs≤bn.natAbs:=by
  rw[Int.natAbs_tmod];exact Nat.le_of_lt (Nat.mod_lt _ (by omega))
 have e5:=i64w (an.tmod bn+bn)
 refine S0 Tryz.func180 rfl ?_
 ((repeat' ((conv=>whnf);first|exact .intro|refine G ?_|intro _|refine C1 hA ?_|refine C1 hB ?_|refine C1 (IsBad_d _ _ _) ?_|refine C1 (Wrong_d _) ?_|refine C1 (Num_d _) ?_|refine .mk ?_ ?_|refine H ?_|fail));all_goals conv=>whnf)
 all_goals (refine vl_le rfl ?_;show _=an.fmod bn;split at e <;> omega)
def truV (v:Vl):Vl:=if v.k=3∨v.k=4 then v else if v.k=2 then (if v.s=tT then ⟨3,1,[]⟩ else if v.s=tF then ⟨3,0,[]⟩ else ⟨4,2,[]⟩) else ⟨3,if v.n=0 then 0 else 1,[]⟩
theorem Is_b {p:Prop} (i:Decidable p):FnP Tryz.prog gl 62 [.b p i] (vlD 3 (@ite _ p i 1 0) []):=by
 by_cases h:p
 ·rw[if_pos h];exact Is_y i h
 ·rw[if_neg h];exact Is_n i h
theorem Truth_d (te:TypeId) (pe:Value) {k n:Int} {s:List UInt8} (hv:isV k n s):FnP Tryz.prog (glV te pe) 175 [vlD k n s] (truV ⟨k,n,s⟩).d:=by
 rcases hv with ⟨rfl,rfl,rfl⟩|⟨rfl,rfl⟩|⟨rfl,rfl,hl⟩|⟨rfl,h3,rfl⟩|⟨rfl,h1,h2,rfl⟩
 ·refine S0 Tryz.func175 rfl ?_
  ((repeat' ((conv=>whnf);first|exact .intro|refine G ?_|intro _|refine C1 (Is_b _) ?_|refine .mk ?_ ?_|refine H ?_|fail));all_goals conv=>whnf)
  exact LeD.rfl
 ·refine S0 Tryz.func175 rfl ?_
  ((repeat' ((conv=>whnf);first|exact .intro|refine G ?_|intro _|refine C1 (Is_b _) ?_|refine .mk ?_ ?_|refine H ?_|fail));all_goals conv=>whnf)
  refine vl_le rfl ?_
  show (if ¬ n=0 then (1:Int) else 0)=if n=0 then 0 else 1
  by_cases h:n=0 <;> simp[h]
 ·have hl:=Literal_d te pe s
  by_cases hT:s=tT
  ·subst hT
   refine S0 Tryz.func175 rfl ?_
   ((repeat' ((conv=>whnf);first|exact .intro|refine G ?_|intro _|refine C1 hl ?_|refine .mk ?_ ?_|refine H ?_|fail));all_goals conv=>whnf)
   exact LeD.rfl
  ·by_cases hF:s=tF
   ·subst hF
    refine S0 Tryz.func175 rfl ?_
    ((repeat' ((conv=>whnf);first|exact .intro|refine G ?_|intro _|refine C1 hl ?_|refine .mk ?_ ?_|refine H ?_|fail));all_goals conv=>whnf)
    exact LeD.rfl
   ·have e:truV ⟨2,0,s⟩=⟨4,2,[]⟩:=by unfold truV;simp[hT,hF]
    rw[e]
    cases hz:litZ s with
    | none =>
     rw[hz] at hl
     refine S0 Tryz.func175 rfl ?_
     ((repeat' ((conv=>whnf);first|exact .intro|refine G ?_|intro _|refine C1 hl ?_|refine C1 (Wrong_d _) ?_|refine .mk ?_ ?_|refine H ?_|fail));all_goals conv=>whnf)
     exact LeD.rfl
    | some p =>
     have hp:¬ p.1=3:=by
      intro h
      unfold litZ at hz
      rw[if_neg hT,if_neg hF] at hz
      obtain ⟨i,_,rfl⟩:=Option.map_eq_some_iff.1 hz
      cases h
     rw[hz] at hl
     refine S0 Tryz.func175 rfl ?_
     ((repeat' ((conv=>whnf);first|exact .intro|refine G ?_|intro _|refine C1 hl ?_|refine C1 (Wrong_d _) ?_|refine .mk ?_ ?_|refine H ?_|fail));all_goals conv=>whnf)
     exact LeD.rfl
 ·refine S0 Tryz.func175 rfl ?_
  ((repeat' ((conv=>whnf);first|exact .intro|refine G ?_|intro _|refine .mk ?_ ?_|refine H ?_|fail));all_goals conv=>whnf)
  exact LeD.rfl
 ·refine S0 Tryz.func175 rfl ?_
  ((repeat' ((conv=>whnf);first|exact .intro|refine G ?_|intro _|refine .mk ?_ ?_|refine H ?_|fail));all_goals conv=>whnf)
  exact LeD.rfl
end Go.Proofs.YtfkjhfdpphfjhaaGreatDoor
