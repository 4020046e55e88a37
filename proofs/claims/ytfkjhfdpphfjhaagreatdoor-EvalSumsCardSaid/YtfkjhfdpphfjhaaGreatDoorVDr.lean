/- Proved: a part of what the law is proved with (the reckoner, contracts of functions, plain laws). Conditions: as each says. -/
import Derived.Test.YtfkjhfdpphfjhaaGreatDoorVDk
section
namespace Go.Proofs.YtfkjhfdpphfjhaaGreatDoor
open Go Go.RowKit Go.EYtfkjhfdpphfjhaaGreatDoor
set_option maxRecDepth 100000
set_option maxHeartbeats 4000000
variable {gl:List (Nat×List D)}
theorem call_m0 {mk:List (Int×Int)} {mv:List Vl} {_ev:Int→Int→Vl} {ks:List Nd} {t:List UInt8} (hm:isMany t) (h0:(((Nd.csL ks).length:Nat):Int)=0):FnP Tryz.prog (wG gl) 66 [mpE mk mv,.str t,.lst 12 (Nd.csL ks)] wrV.d:=by
 have a1:=many_d (gl:=wG gl) t
 refine fnP_of_vc (nv:=9999) (cu:=[]) fits mixed Tryz.func66 rfl hoB rfl ?_
 ((repeat' ((conv=>whnf);first|exact .intro|refine G ?_|intro _|refine C1 a1 ?_|refine .mk ?_ ?_|refine H ?_|fail));all_goals conv=>whnf)
 all_goals exact LeD.rfl
theorem call_m {mk:List (Int×Int)} {mv:List Vl} {_ev:Int→Int→Vl} {ks:List Nd} {t:List UInt8} (hm:isMany t) (h0:¬ (((Nd.csL ks).length:Nat):Int)=0) {r:Vl} (c:FnP Tryz.prog (wG gl) 113 [mpE mk mv,.str t,.lst 12 (Nd.csL ks)] r.d):FnP Tryz.prog (wG gl) 66 [mpE mk mv,.str t,.lst 12 (Nd.csL ks)] r.d:=by
 have a1:=many_d (gl:=wG gl) t
 refine fnP_of_vc (nv:=9999) (cu:=[]) fits mixed Tryz.func66 rfl hoB rfl ?_
 ((repeat' ((conv=>whnf);first|exact .intro|refine G ?_|intro _|refine C1 a1 ?_|refine C1 c ?_|refine .mk ?_ ?_|refine H ?_|fail));all_goals conv=>whnf)
 all_goals exact LeD.rfl
end Go.Proofs.YtfkjhfdpphfjhaaGreatDoor
end
