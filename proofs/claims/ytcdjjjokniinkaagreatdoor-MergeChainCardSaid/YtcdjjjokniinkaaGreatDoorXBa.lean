/- Proved: a part of what the law is proved with (the reckoner, contracts of functions, plain laws). Conditions: as each says. -/
import Derived.Test.YtcdjjjokniinkaaGreatDoorXWa
section
namespace Go.Proofs.YtcdjjjokniinkaaGreatDoor
open Go Go.EYtcdjjjokniinkaaGreatDoor
set_option maxRecDepth 100000
variable {gl:List (Nat×List D)}
abbrev u32D (d:Nat):D:=.v (.int .u32 d)
def wD (l:List Nat):List (List D):=l.map fun d=>[u32D d]
abbrev W (n:Nat):D:=.lst 1 (wD (ws n))
end Go.Proofs.YtcdjjjokniinkaaGreatDoor
end
