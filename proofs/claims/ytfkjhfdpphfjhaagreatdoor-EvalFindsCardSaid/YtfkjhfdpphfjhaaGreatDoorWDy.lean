/- Proved: a part of what the law is proved with (the reckoner, contracts of functions, plain laws). Conditions: as each says. -/
import Derived.Test.YtfkjhfdpphfjhaaGreatDoorWDj
import Derived.Test.YtfkjhfdpphfjhaaGreatDoorWDu
section
namespace Go.Proofs.YtfkjhfdpphfjhaaGreatDoor
open Go Go.RowKit Go.EYtfkjhfdpphfjhaaGreatDoor
set_option maxRecDepth 100000
set_option maxHeartbeats 4000000
variable {gl:List (Nat×List D)}
theorem le_refl2:∀ l:List D,All2 LeD l l
 | []=>trivial
 | _::r=>⟨LeD.rfl,le_refl2 r⟩
abbrev refR (c r:Int):List D:=rawR 5 0 [] c r
theorem ref_le (c r:Int):All2 LeD (refR c r) (refN (cR c r)).cs:=raw_le 5 0 [] c r
section
variable (t:List UInt8) (n:Nat) (h:n≤t.length)
include h
end
theorem in_call {S:List UInt8→Nat→Prop} {t:List UInt8} {ks:List Nd} (h:S t ks.length) (hk:∀ x ∈ ks,InS S x):InS S (callN t ks):=.of (fun _=>h) hk
theorem in_1 {S:List UInt8→Nat→Prop} {x:Nd} (hx:InS S x):∀ z ∈ [x],InS S z:=fun z hz=>by
 obtain rfl:=List.mem_singleton.1 hz
 exact hx
theorem in_2 {S:List UInt8→Nat→Prop} {x y:Nd} (hx:InS S x) (hy:InS S y):∀ z ∈ [x,y],InS S z:=fun z hz=>by
 rcases List.mem_cons.1 hz with rfl|hz
 ·exact hx
 ·exact in_1 hy z hz
theorem in_3 {S:List UInt8→Nat→Prop} {x y u:Nd} (hx:InS S x) (hy:InS S y) (hu:InS S u):∀ z ∈ [x,y,u],InS S z:=fun z hz=>by
 rcases List.mem_cons.1 hz with rfl|hz
 ·exact hx
 ·exact in_2 hy hu z hz
section
variable (te:TypeId) (pe:Value) (hV:Has (wG gl) (glV te pe)) {mx:Int} (hm':Go.EYtfkjhfdpphfjhaaGreatDoor.look (wG gl) 4=some [iD mx])
include hV hm'
end
section
variable (te:TypeId) (pe:Value) (hV:Has (wG gl) (glV te pe)) {mx:Int} (hm':Go.EYtfkjhfdpphfjhaaGreatDoor.look (wG gl) 4=some [iD mx]) (hl':Go.EYtfkjhfdpphfjhaaGreatDoor.look (wG gl) 0=some lvAll)
include hV hm' hl'
end
end Go.Proofs.YtfkjhfdpphfjhaaGreatDoor
end
