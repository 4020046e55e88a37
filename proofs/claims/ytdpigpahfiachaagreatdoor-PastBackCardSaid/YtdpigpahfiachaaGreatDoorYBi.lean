/- Proved: a part of what the law is proved with (the reckoner, contracts of functions, plain laws). Conditions: as each says. -/
import Derived.Test.YtdpigpahfiachaaGreatDoorYBf
section
namespace Go.Proofs.YtdpigpahfiachaaGreatDoor
open Go Go.EYtdpigpahfiachaaGreatDoor
set_option maxRecDepth 100000
variable {gl:List (Nat×List D)}
theorem Check_s {c r:Int} (h:okP c r):FnP Tryz.prog gl 75 [cellD c r] (errD 0):=by
 refine fnP_of_vc (nv:=9999) (cu:=[]) fits mixed Tryz.func75 rfl hoB rfl ?_
 ((repeat' ((conv=>whnf);first|exact .intro|refine .ya ?_|refine .na ?_|refine .ys ?_|refine .ns ?_|refine .neg (fun _=>?_) (fun _=>?_)|refine .mk (fun _=>?_) (fun _=>?_)|refine .inl (.inl (X1 (ok_d _ _) ?_))|refine .inl (X1 (ok_d _ _) ?_)|refine X1 (ok_d _ _) ?_|refine .mk ?_ ?_|refine AK ?_|refine AT ?_|fail));all_goals conv=>whnf)
 exact LeD.rfl
theorem Check_n {c r:Int} (h:¬ okP c r):FnP Tryz.prog gl 75 [cellD c r] (errD 1):=by
 refine fnP_of_vc (nv:=9999) (cu:=[]) fits mixed Tryz.func75 rfl hoB rfl ?_
 ((repeat' ((conv=>whnf);first|exact .intro|refine .ya ?_|refine .na ?_|refine .ys ?_|refine .ns ?_|refine .neg (fun _=>?_) (fun _=>?_)|refine .mk (fun _=>?_) (fun _=>?_)|refine .inl (.inl (X1 (ok_d _ _) ?_))|refine .inl (X1 (ok_d _ _) ?_)|refine X1 (ok_d _ _) ?_|refine .mk ?_ ?_|refine AK ?_|refine AT ?_|fail));all_goals conv=>whnf)
 exact LeD.rfl
end Go.Proofs.YtdpigpahfiachaaGreatDoor
end
section
namespace Go.Proofs.YtdpigpahfiachaaGreatDoor
open Go Go.EYtdpigpahfiachaaGreatDoor
set_option maxRecDepth 100000
variable {gl:List (Nat×List D)}
theorem w1:IntKind.i64.wrap 1=1:=by decide
theorem w2:IntKind.i64.wrap 2=2:=by decide
theorem w3:IntKind.i64.wrap 3=3:=by decide
end Go.Proofs.YtdpigpahfiachaaGreatDoor
end
