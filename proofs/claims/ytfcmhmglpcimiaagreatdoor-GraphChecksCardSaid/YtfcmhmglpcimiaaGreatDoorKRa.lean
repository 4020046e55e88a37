/- Proved: a part of what the law is proved with (the reckoner, contracts of functions, plain laws). Conditions: as each says. -/
import Derived.Lib.Mul64
import Derived.Laws.Bits64b
import Derived.Test.YtfcmhmglpcimiaaGreatDoorKWa
namespace Go.Proofs.YtfcmhmglpcimiaaGreatDoor
open Go Go.EYtfcmhmglpcimiaaGreatDoor
set_option maxRecDepth 100000
variable {gl:List (Nat×List D)}
abbrev okI (n:Int):Prop:=-9223372036854775808≤n∧n≤9223372036854775807
namespace M64
end M64
end Go.Proofs.YtfcmhmglpcimiaaGreatDoor
