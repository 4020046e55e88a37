/- Proved: a part of what the law is proved with (the reckoner, contracts of functions, plain laws). Conditions: as each says. -/
import Derived.Test.YtfkjhfdpphfjhaaGreatDoorWDj
import Derived.Test.YtfkjhfdpphfjhaaGreatDoorWTf
section
namespace Go.Proofs.YtfkjhfdpphfjhaaGreatDoor
open Go Go.RowKit Go.EYtfkjhfdpphfjhaaGreatDoor
set_option maxRecDepth 100000
set_option maxHeartbeats 4000000
variable {gl:List (Nat×List D)}
theorem KdOk.vok {mk:List (Int×Int)} {mv:List Vl} {ev:Int→Int→Vl} {x:Nd} (h:KdOk gl mk mv ev x):(evN ev x).ok:=Ar.v_ok h.ok
abbrev ndR (k m:Int) (t:List UInt8) (a b:Rf) (ks:List Nd):List D:=[iD k,iD m,.str t,iD a.c,iD a.r,tD a.fc,tD a.fr,iD b.c,iD b.r,tD b.fc,tD b.fr,.lst 12 (Nd.csL ks)]
section
variable (te:TypeId) (pe:Value) (hV:Has (wG gl) (glV te pe))
include hV
end
end Go.Proofs.YtfkjhfdpphfjhaaGreatDoor
end
