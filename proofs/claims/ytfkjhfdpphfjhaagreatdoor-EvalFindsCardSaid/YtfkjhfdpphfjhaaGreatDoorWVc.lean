/- Proved: a part of what the law is proved with (the reckoner, contracts of functions, plain laws). Conditions: as each says. -/
import Derived.Test.YtfkjhfdpphfjhaaGreatDoorWTc
import Derived.Test.YtfkjhfdpphfjhaaGreatDoorWVb
section
namespace Go.Proofs.YtfkjhfdpphfjhaaGreatDoor
open Go Go.EYtfkjhfdpphfjhaaGreatDoor
set_option maxRecDepth 100000
variable {gl:List (Nat×List D)}
theorem fmod_okI {x y:Int} (_hx:okI x) (hy:okI y) (h0:¬ y=0):okI (x.fmod y):=by
 obtain ⟨h1,h2⟩:=fmod_facts x h0
 omega
def modV (a b:Vl):Vl:=if (numV a).k=4 then numV a else if (numV b).k=4 then numV b else if (numV b).n=0 then ⟨4,1,[]⟩ else ⟨1,(numV a).n.fmod (numV b).n,[]⟩
def truV (v:Vl):Vl:=if v.k=3∨v.k=4 then v else if v.k=2 then (if v.s=tT then ⟨3,1,[]⟩ else if v.s=tF then ⟨3,0,[]⟩ else ⟨4,2,[]⟩) else ⟨3,if v.n=0 then 0 else 1,[]⟩
theorem Is_b {p:Prop} (i:Decidable p):FnP Tryz.prog gl 62 [.b p i] (vlD 3 (@ite _ p i 1 0) []):=by
 by_cases h:p
 ·rw[if_pos h];exact Is_y i h
 ·rw[if_neg h];exact Is_n i h
theorem rTru_b {p:Prop} (i:Decidable p):FnP Tryz.prog gl 23 [.b p i] (vlD 3 (@ite _ p i 1 0) []):=by
 by_cases h:p
 ·rw[if_pos h];exact rTru_y i h
 ·rw[if_neg h];exact rTru_n i h
theorem rTru_c (b:Bool):FnP Tryz.prog gl 23 [.v (.bool b)] (vlD 3 (if b then 1 else 0) []):=by
 cases b
 ·refine fnP_of_vc (nv:=9999) (cu:=[]) fits mixed Tryz.func23 rfl hoB rfl ?_
  ((repeat' ((conv=>whnf);first|exact .intro|refine G ?_|intro _|refine .mk ?_ ?_|refine AK ?_|refine And.intro (by first|(fail;done)|fail) ?_|fail));all_goals conv=>whnf)
  exact LeD.rfl
 ·refine fnP_of_vc (nv:=9999) (cu:=[]) fits mixed Tryz.func23 rfl hoB rfl ?_
  ((repeat' ((conv=>whnf);first|exact .intro|refine G ?_|intro _|refine .mk ?_ ?_|refine AK ?_|refine And.intro (by first|(fail;done)|fail) ?_|fail));all_goals conv=>whnf)
  exact LeD.rfl
end Go.Proofs.YtfkjhfdpphfjhaaGreatDoor
end
section
namespace Go.Proofs.YtfkjhfdpphfjhaaGreatDoor
open Go Go.EYtfkjhfdpphfjhaaGreatDoor
set_option maxRecDepth 100000
variable {gl:List (Nat×List D)}
theorem cmpZ_range (x y:Int):-1≤cmpZ x y∧cmpZ x y≤1:=by unfold cmpZ;repeat' split <;> omega
theorem cv_range (k n:Int) (s:List UInt8) (k' n':Int) (s':List UInt8):-1≤cv k n s k' n' s'∧cv k n s k' n' s'≤1:=by
 rw[cv_eq]
 have h1:=cmpZ_range k k'
 have h2:=cmpZ_range n n'
 have h3:-1≤cmpS s s'∧cmpS s s'≤1:=by rcases cmpS_cases s s' with h|h|h <;> omega
 split
 ·split
  ·exact h3
  ·exact h2
 ·exact h1
end Go.Proofs.YtfkjhfdpphfjhaaGreatDoor
end
