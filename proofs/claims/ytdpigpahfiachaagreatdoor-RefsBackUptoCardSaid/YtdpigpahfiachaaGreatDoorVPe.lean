/- Proved: a part of what the law is proved with (the reckoner, contracts of functions, plain laws). Conditions: as each says. -/
import Derived.Test.YtdpigpahfiachaaGreatDoorVPd
section
namespace Go.Proofs.YtdpigpahfiachaaGreatDoor
open Go Go.EYtdpigpahfiachaaGreatDoor Go.RowKit
set_option maxRecDepth 100000
variable {gl:List (Nat×List D)}
theorem Shift_s {c r:Int} {fc fr:Bool} {dc dr:Int} (h:shiftP c r fc fr dc dr):FnP Tryz.prog gl 70 [refD c r fc fr,iD dc,iD dr] (.tup [refD (if fc=true then c else c+dc) (if fr=true then r else r+dr) fc fr,tD true]):=by
 have:=Shift_d (gl:=gl) c r fc fr dc dr;unfold shiftR at this;rwa [if_pos h] at this
theorem Shift_n {c r:Int} {fc fr:Bool} {dc dr:Int} (h:¬ shiftP c r fc fr dc dr):FnP Tryz.prog gl 70 [refD c r fc fr,iD dc,iD dr] (.tup [refD 0 0 false false,tD false]):=by
 have:=Shift_d (gl:=gl) c r fc fr dc dr;unfold shiftR at this;rwa [if_neg h] at this
end Go.Proofs.YtdpigpahfiachaaGreatDoor
end
