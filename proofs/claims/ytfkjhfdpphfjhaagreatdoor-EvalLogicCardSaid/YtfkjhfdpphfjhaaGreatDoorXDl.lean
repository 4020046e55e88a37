/- Proved: a part of what the law is proved with (the reckoner, contracts of functions, plain laws). Conditions: as each says. -/
import Derived.Test.YtfkjhfdpphfjhaaGreatDoorXDk
namespace Go.Proofs.YtfkjhfdpphfjhaaGreatDoor
open Go Go.RowKit Go.EYtfkjhfdpphfjhaaGreatDoor
set_option maxRecDepth 100000
set_option maxHeartbeats 4000000
variable {gl:List (Nat×List D)}
theorem badL_none {l:List Vl}:badL l=none↔∀ v ∈ l,¬ v.k=4:=by
 unfold badL
 rw[List.find?_eq_none]
 simp
theorem badL_at {l:List Vl} {k:Nat} (h:k<l.length) (hb:l[k].k=4) (hn:∀ (j:Nat) (hj:j<k),¬ (l[j]'(Nat.lt_trans hj h)).k=4):badL l=some l[k]:=by
 unfold badL
 rw[List.find?_eq_some_iff_getElem]
 exact ⟨by simpa using hb,k,h,rfl,fun j hj=>by simpa using hn j hj⟩
section
variable (te:TypeId) (pe:Value) (hV:Has (wG gl) (glV te pe))
include hV
end
end Go.Proofs.YtfkjhfdpphfjhaaGreatDoor
