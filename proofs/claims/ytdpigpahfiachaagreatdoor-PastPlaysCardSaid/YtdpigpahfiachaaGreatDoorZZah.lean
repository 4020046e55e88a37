/- Proved: a part of what the law is proved with (the reckoner, contracts of functions, plain laws). Conditions: as each says. -/
import Derived.Test.YtdpigpahfiachaaGreatDoorZIn
import Derived.Test.YtdpigpahfiachaaGreatDoorZZaf
section
namespace Go.Proofs.YtdpigpahfiachaaGreatDoor
open Go Go.EYtdpigpahfiachaaGreatDoor
set_option maxRecDepth 100000
theorem PastPlays_g (te:TypeId) (pe:Value) (l:List Fl) (steps:List Int) (sets:List Fl) (hs:steps.length≤17592186044415) (hw:sets.length≤4398046511103):FnP Tryz.prog (glF te pe) 8 [.lst 3 (l.map flD),.lst 1 (steps.map stR),.lst 3 (sets.map flD)] (.v (.bool true)):=by
 obtain ⟨rf,hR,hE⟩:=refs_ok
 exact PastPlays_d te pe (glF_has te pe) rfl rfl hR hE l steps sets hs hw
end Go.Proofs.YtdpigpahfiachaaGreatDoor
end
