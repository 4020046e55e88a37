/- Proved: a part of what the law is proved with (the reckoner, contracts of functions, plain laws). Conditions: as each says. -/
import Derived.Test.YtdpigpahfiachaaGreatDoorVPf
section
namespace Go.Proofs.YtdpigpahfiachaaGreatDoor
open Go Go.EYtdpigpahfiachaaGreatDoor
set_option maxRecDepth 100000
variable {gl:List (Nat×List D)}
theorem digsTab:∀ n:Fin 100,1≤n.val→digs n.val≠[]∧(digs n.val).head?≠some 48∧(digs n.val).head?≠some 36∧(∀ d ∈ digs n.val,isDig d)∧rv (digs n.val) (digs n.val).length=n.val:=by decide +kernel
theorem chTab:∀ n:Fin 27,1≤n.val→(UInt8.ofNat (64+n.val)).toNat=64+n.val:=by decide +kernel
theorem dl_n {b:UInt8} {s:List UInt8} (h:b≠36):dl (b::s)=(false,b::s):=by simp[dl,h]
theorem dl_y (s:List UInt8):dl (36::s)=(true,s):=by simp[dl]
theorem dl_if (f:Bool) {b:UInt8} {s:List UInt8} (h:b≠36):dl ((if f=true then [36] else [])++b::s)=(f,b::s):=by
 cases f
 ·exact dl_n h
 ·exact dl_y _
end Go.Proofs.YtdpigpahfiachaaGreatDoor
end
