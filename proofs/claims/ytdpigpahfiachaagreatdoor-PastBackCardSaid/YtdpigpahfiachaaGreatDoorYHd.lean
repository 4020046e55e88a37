/- Proved: a part of what the law is proved with (the reckoner, contracts of functions, plain laws). Conditions: as each says. -/
import Derived.Test.YtdpigpahfiachaaGreatDoorYGi
import Derived.Test.YtdpigpahfiachaaGreatDoorYGm
section
namespace Go.Proofs.YtdpigpahfiachaaGreatDoor
open Go Go.EYtdpigpahfiachaaGreatDoor
set_option maxRecDepth 100000
variable {gl:List (Nat×List D)}
abbrev n0:Nd:=.mk 0 0 [] z0 z0 []
end Go.Proofs.YtdpigpahfiachaaGreatDoor
end
