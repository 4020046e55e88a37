/- Proved: a part of what the law is proved with (the reckoner, contracts of functions, plain laws). Conditions: as each says. -/
import Derived.Test.YtdpigpahfiachaaGreatDoorVHd
import Derived.Test.YtdpigpahfiachaaGreatDoorVIe
import Derived.Test.YtdpigpahfiachaaGreatDoorVIg
import Derived.Test.YtdpigpahfiachaaGreatDoorVPd
section
namespace Go.Proofs.YtdpigpahfiachaaGreatDoor
open Go Go.EYtdpigpahfiachaaGreatDoor
set_option maxRecDepth 100000
set_option maxHeartbeats 4000000
variable {gl:List (Nat×List D)}
theorem csL_get {ks:List Nd} {x:Nat} (h:x<ks.length):(Nd.csL ks)[((x:Nat):Int).toNat]?=some (ks[x]).cs:=by
 rw[Int.toNat_natCast]
 induction ks generalizing x with
 | nil=>simp at h
 | cons a r ih =>
  cases x with
  | zero=>rfl
  | succ x=>exact ih (by simpa using h)
theorem kids_max {M:Nat→Prop} {w:World} {k m:Int} {t:List UInt8} {a b:Rf} {ks:List Nd} {x:Value} (h:DenD M w (.agg (Nd.mk k m t a b ks).cs) x):ks.length≤maxLen:=by
 obtain ⟨xs,_,hd⟩:=h.agg_inv
 obtain ⟨y,_,hy⟩:=All2.get hd (j:=11) (a:=.lst 12 (Nd.csL ks)) rfl
 rw[← csL_len]
 generalize Nd.csL ks=l at hy
 cases hy with
 | lst0 z a c hc=>exact Nat.zero_le _
 | lst z l b o c cs hb hM hl hc _ _ _=>exact Nat.le_trans hl hc
theorem same_y (n:Nd):FnP Tryz.prog gl 18 [.agg n.cs,.agg n.cs] (.v (.bool true)):=by
 match n with
 | .mk k m t a b ks =>
  have ih:∀ x (h:x<ks.length),FnP Tryz.prog gl 18 [.agg (ks[x]).cs,.agg (ks[x]).cs] (.v (.bool true)):=fun x h=>same_y ks[x]
  suffices hh:ks.length≤9223372036854775807→FnP Tryz.prog gl 18 [.agg (Nd.mk k m t a b ks).cs,.agg (Nd.mk k m t a b ks).cs] (.v (.bool true)) from fun w M xs hM hg hd=>(match xs,hd with
   | x::ys,hd=>hh (kids_max hd.1) w M (x::ys) hM hg hd
   | [],hd=>hd.elim)
  intro hks
  refine fnP_of_vc (nv:=9999) (cu:=[]) fits mixed Tryz.func18 rfl hoB rfl ?_
  ((repeat' ((conv=>whnf);first|exact .intro|refine .ya ?_|refine .na ?_|refine .ys ?_|refine .ns ?_|refine .neg (fun _=>?_) (fun _=>?_)|refine .mk (fun _=>?_) (fun _=>?_)|refine .mk ?_ ?_|refine AK ?_|refine AT ?_|fail));all_goals conv=>whnf)
  refine ⟨{ σ:=Nat,fr:=fun x=>[(5,.c (.d (iD (x:Int))))],ks:=[],L:=fun x=>[],ex:=0,I:=fun x=>x≤ks.length,μ:=fun x=>ks.length - x },⟨0,Nat.zero_le _,?_⟩,fun (x:Nat) hx=>?_⟩
  ·((repeat' first|exact rfl|((conv=>whnf);first|done|exact suL|refine And.intro ?_ ?_|fail));all_goals conv=>whnf)
  ·have hlen:=csL_len ks
   by_cases hx7:x<ks.length
   ·have hx7':(x:Int)<((Nd.csL ks).length:Int):=by omega
    have hget:=csL_get hx7
    have c1:=ih x hx7
    generalize ks[x]=q at *
    obtain ⟨k1,m1,t1,a1,b1,ks1⟩:=q
    change (Nd.csL ks)[((x:Nat):Int).toNat]?=some [iD k1,iD m1,.str t1,iD a1.c,iD a1.r,tD a1.fc,tD a1.fr,iD b1.c,iD b1.r,tD b1.fc,tD b1.fr,.lst 12 (Nd.csL ks1)] at hget
    ((repeat' ((conv=>whnf);first|exact .intro|refine .ya ?_|refine .na ?_|refine .ys ?_|refine .ns ?_|refine .neg (fun _=>?_) (fun _=>?_)|refine .mk (fun _=>?_) (fun _=>?_)|refine .inl (.inl (X1 (c1) ?_))|refine .inl (X1 (c1) ?_)|refine X1 (c1) ?_|(refine ⟨_,hget,?_⟩)|refine .mk ?_ ?_|refine AK ?_|refine AT ?_|fail));all_goals conv=>whnf)
    refine ⟨x+1,⟨hx7,by show ks.length - (x+1)<ks.length - x;omega⟩,?_⟩
    ((repeat' first|exact rfl|((conv=>whnf);first|done|exact suL|refine And.intro ?_ ?_|fail));all_goals conv=>whnf)
    exact ceq (by rw[wrapI (by have:=Nat.lt_of_lt_of_le hx7 hks;omega)];rfl)
   ·have hx8:¬ (x:Int)<((Nd.csL ks).length:Int):=by omega
    ((repeat' ((conv=>whnf);first|exact .intro|refine .ya ?_|refine .na ?_|refine .ys ?_|refine .ns ?_|refine .neg (fun _=>?_) (fun _=>?_)|refine .mk (fun _=>?_) (fun _=>?_)|refine .mk ?_ ?_|refine AK ?_|refine AT ?_|fail));all_goals conv=>whnf)
    exact LeD.rfl
termination_by SizeOf.sizeOf n
decreasing_by
 simp only[Nd.mk.sizeOf_spec]
 have:=List.sizeOf_lt_of_mem (List.getElem_mem h)
 omega
end Go.Proofs.YtdpigpahfiachaaGreatDoor
end
