/- Proved: a part of what the law is proved with (the reckoner, contracts of functions, plain laws). Conditions: as each says. -/
import Derived.Test.YtdpigpahfiachaaGreatDoorProg
import Derived.WalkKit
import Derived.Handy
import Derived.Outline
import Derived.Lib.Hide
import Derived.Deep.QuietTactic
import Derived.BigQuiet
import Derived.Deep.RegionHeld3
import Derived.Deep.AppendLies
import Derived.Deep.Onto
import Derived.Test.YtdpigpahfiachaaGreatDoorYPc
section
namespace Go.Proofs.YtdpigpahfiachaaGreatDoor
open Go.RowKit
theorem Ext.alloc {a w:World} (h:Below a.heap.size a w) (o:Obj):Below a.heap.size a (w.alloc o):=h.alloc h.size o
theorem Ext.trans {a b c:World} (h:Below a.heap.size a b) (k:Below b.heap.size b c):Below a.heap.size a c:=h.trans (k.mono h.size)
end Go.Proofs.YtdpigpahfiachaaGreatDoor
end
section
namespace Go.Proofs.YtdpigpahfiachaaGreatDoor
open Go Go.EYtdpigpahfiachaaGreatDoor Go.RowKit
set_option maxRecDepth 100000
variable {gl:List (Nat×List D)}
theorem FnP.of_below {P:Program} {g:Nat} {ds:List D} {xs:List Value} {r:D} {v:Value} (hB:HasBody P g) (hx:∀ M w ys,DenL M w ds ys→ys=xs) (hv:∀ M w,DenD M w r v)
 (h:∀ M w,Glob gl M w→Calls P g xs.toArray w fun e w'=>e=.returned v∧Below w.heap.size w w'):FnP P gl g ds r:=fun w M ys _ hg hd=>by
 obtain rfl:=hx M w ys hd
 exact .inl ⟨hB,(h M w hg).mono fun e w' ⟨h1,h2⟩=>⟨Evo.of_below h2 _,v,h1,hv _ _⟩⟩
end Go.Proofs.YtdpigpahfiachaaGreatDoor
end
