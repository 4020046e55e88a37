/- Proved: a part of what the law is proved with (the reckoner, contracts of functions, plain laws). Conditions: as each says. -/
import Derived.Test.YtdpigpahfiachaaGreatDoorYJe
import Derived.Test.YtdpigpahfiachaaGreatDoorYBZad
section
namespace Go.Proofs.YtdpigpahfiachaaGreatDoor
open Go Go.EYtdpigpahfiachaaGreatDoor
set_option maxRecDepth 100000
theorem PastBack_g (te:TypeId) (pe:Value) (mx:Int) (l sets:List Fl):FnP Tryz.prog (glM te pe mx) 6 [.lst 3 (l.map flD),.lst 3 (sets.map flD)] (.v (.bool true)):=by
 obtain ⟨rf,hR,_⟩:=refs_ok
 exact PastBack_d te pe (glM_has te pe mx) rfl hR l sets
end Go.Proofs.YtdpigpahfiachaaGreatDoor
end
