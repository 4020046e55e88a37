/- Proved: a part of what the law is proved with (the reckoner, contracts of functions, plain laws). Conditions: as each says. -/
import Derived.Test.YtfkjhfdpphfjhaaGreatDoorWDe
import Derived.Test.YtfkjhfdpphfjhaaGreatDoorWGa
section
namespace Go.Proofs.YtfkjhfdpphfjhaaGreatDoor
open Go Go.RowKit Go.EYtfkjhfdpphfjhaaGreatDoor
set_option maxRecDepth 100000
set_option maxHeartbeats 4000000
variable {gl:List (Nat×List D)}
def bxOk:Nd→Prop
 | .mk k _ _ a b _=>k=6→okP a.c a.r∧okP b.c b.r
structure KdOk (gl:List (Nat×List D)) (mk:List (Int×Int)) (mv:List Vl) (ev:Int→Int→Vl) (x:Nd):Prop where
 run:FnP Tryz.prog gl 39 [mpE mk mv,.agg (Nd.cs x)] (evN ev x).d
 ok:(evA ev x).ok
 bx:bxOk x
structure GdL (l:List (Bool×Vl)):Prop where
 ok:∀ p ∈ l,p.2.ok
 len:l.length≤600000
theorem GdL.pre {a b:List (Bool×Vl)} (h:GdL (a++b)):GdL a:=⟨fun p hp=>h.ok p (List.mem_append.2 (.inl hp)),by have:=h.len;rw[List.length_append] at this;omega⟩
theorem wx {x:Nat} (h:x≤1099511627776):IntKind.i64.wrap ((x:Int)+1)=((x+1:Nat):Int):=by rw[wrapI (by omega)];rfl
theorem bad_d {v:Vl}:FnP Tryz.prog gl 107 [v.d] (.b (v.k=4) inferInstance):=IsBad_d v.k v.n v.s
section
variable (te:TypeId) (pe:Value) (hV:Has gl (glV te pe))
include hV

omit hV in
end
end Go.Proofs.YtfkjhfdpphfjhaaGreatDoor
end
section
namespace Go.Proofs.YtfkjhfdpphfjhaaGreatDoor
open Go Go.EYtfkjhfdpphfjhaaGreatDoor
set_option maxRecDepth 100000
variable {gl:List (Nat×List D)}
theorem FnP.more {P:Program} {gl gl':List (Nat×List D)} {f:Nat} {ds:List D} {r:D} (hs:∀ g l,Go.EYtfkjhfdpphfjhaaGreatDoor.look gl g=some l→Go.EYtfkjhfdpphfjhaaGreatDoor.look gl' g=some l) (h:FnP P gl f ds r):FnP P gl' f ds r :=
 fun w M xs hM hg hd=>h w M xs hM (fun g l hl=>hg g l (hs g l hl)) hd
theorem Neg_v (te:TypeId) (pe:Value) {v:Vl} (hv:v.ok):FnP Tryz.prog (glV te pe) 64 [v.d] (twoV 9 ⟨1,0,[]⟩ v).d:=by
 have h:=Two_v te pe 9 (a:=⟨1,0,[]⟩) ⟨.inr (.inl ⟨rfl,rfl⟩),by decide⟩ hv
 refine fnP_of_vc (nv:=9999) (cu:=[]) fits mixed Tryz.func64 rfl hoB rfl ?_
 ((repeat' ((conv=>whnf);first|exact .intro|refine G ?_|intro _|refine C1 (Num_d _) ?_|refine C1 h ?_|refine .mk ?_ ?_|refine H ?_|fail));all_goals conv=>whnf)
 exact LeD.rfl
end Go.Proofs.YtfkjhfdpphfjhaaGreatDoor
end
