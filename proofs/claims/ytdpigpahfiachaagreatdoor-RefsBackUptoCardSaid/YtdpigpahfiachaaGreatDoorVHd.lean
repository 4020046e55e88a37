/- Proved: a part of what the law is proved with (the reckoner, contracts of functions, plain laws). Conditions: as each says. -/
import Derived.Test.YtdpigpahfiachaaGreatDoorVGm
import Derived.Test.YtdpigpahfiachaaGreatDoorVHa
section
namespace Go.Proofs.YtdpigpahfiachaaGreatDoor
open Go Go.EYtdpigpahfiachaaGreatDoor
set_option maxRecDepth 100000
variable {gl:List (Nat×List D)}
theorem litZ_word {w:List UInt8} {c:UInt8} (h:w.head?=some c) (hw:wordlyP c):litZ w=if w=tT then some (3,1) else if w=tF then some (3,0) else none:=by
 unfold litZ
 by_cases h1:w=tT
 ·rw[if_pos h1,if_pos h1]
 ·rw[if_neg h1,if_neg h1]
  by_cases h2:w=tF
  ·rw[if_pos h2,if_pos h2]
  ·rw[if_neg h2,if_neg h2]
   cases hx:txI w 6 with
   | none=>rfl
   | some i =>
    obtain ⟨e,h3,h4⟩:=txI_at hx (Nat.le_refl _)
    subst e
    have:c=35:=by
     match i,h3,h4 with
     | 1,_,_=>cases h;rfl
     | 2,_,_=>cases h;rfl
     | 3,_,_=>cases h;rfl
     | 4,_,_=>cases h;rfl
     | 5,_,_=>cases h;rfl
     | 6,_,_=>cases h;rfl
    subst this
    exact absurd hw (by decide)
end Go.Proofs.YtdpigpahfiachaaGreatDoor
end
