/- Proved: a part of what the law is proved with (the reckoner, contracts of functions, plain laws). Conditions: as each says. -/
import Derived.Lib.IndexLaws
import Derived.Test.YtfkjhfdpphfjhaaGreatDoorWDo
import Derived.Test.YtfkjhfdpphfjhaaGreatDoorWKg
section
namespace Go.Proofs.YtfkjhfdpphfjhaaGreatDoor
open Go Go.RowKit Go.EYtfkjhfdpphfjhaaGreatDoor
set_option maxRecDepth 100000
set_option maxHeartbeats 4000000
variable {gl:List (Nat×List D)}
theorem badL1 (y:Vl):badL [y]=if y.k=4 then some y else none:=by
 unfold badL
 by_cases h:y.k=4
 ·rw[List.find?_cons_of_pos (by simpa using h),if_pos h]
 ·rw[List.find?_cons_of_neg (by simpa using h),if_neg h];rfl
theorem badL2 (y z:Vl):badL [y,z]=if y.k=4 then some y else if z.k=4 then some z else none:=by
 unfold badL
 by_cases h:y.k=4
 ·rw[List.find?_cons_of_pos (by simpa using h),if_pos h]
 ·rw[List.find?_cons_of_neg (by simpa using h),if_neg h]
  exact badL1 z
section
variable (te:TypeId) (pe:Value) (hV:Has gl (glV te pe))
include hV
end
section
variable (te:TypeId) (pe:Value) (hV:Has (wG gl) (glV te pe)) {mx:Int} (hm:Go.EYtfkjhfdpphfjhaaGreatDoor.look (wG gl) 4=some [iD mx])
include hV
include hm in
end
end Go.Proofs.YtfkjhfdpphfjhaaGreatDoor
end
