/- Proved: a part of what the law is proved with (the reckoner, contracts of functions, plain laws). Conditions: as each says. -/
import Derived.Handy
import Derived.Test.YtdpigpahfiachaaGreatDoorYPf
section
namespace Go.Proofs.YtdpigpahfiachaaGreatDoor
abbrev B32:Nat:=4294967296
def val:List Nat→Nat
 | []=>0
 | d::r=>d+B32 * val r
def ws (n:Nat):List Nat:=if _h:n=0 then [] else n % B32::ws (n / B32)
termination_by n
decreasing_by exact Nat.div_lt_self (Nat.pos_of_ne_zero _h) (by decide)
end Go.Proofs.YtdpigpahfiachaaGreatDoor
end
section
namespace Go.Proofs.YtdpigpahfiachaaGreatDoor
open Go Go.EYtdpigpahfiachaaGreatDoor
set_option maxRecDepth 100000
variable {gl:List (Nat×List D)}
abbrev u32D (d:Nat):D:=.v (.int .u32 d)
def wD (l:List Nat):List (List D):=l.map fun d=>[u32D d]
abbrev W (n:Nat):D:=.lst 1 (wD (ws n))
end Go.Proofs.YtdpigpahfiachaaGreatDoor
end
