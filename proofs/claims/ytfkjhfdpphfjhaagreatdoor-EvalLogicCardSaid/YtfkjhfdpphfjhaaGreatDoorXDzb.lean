/- Proved: a part of what the law is proved with (the reckoner, contracts of functions, plain laws). Conditions: as each says. -/
import Derived.Test.YtfkjhfdpphfjhaaGreatDoorXDl
import Derived.Test.YtfkjhfdpphfjhaaGreatDoorXDo
import Derived.Test.YtfkjhfdpphfjhaaGreatDoorXDu
import Derived.Test.YtfkjhfdpphfjhaaGreatDoorXKg
namespace Go.Proofs.YtfkjhfdpphfjhaaGreatDoor
open Go Go.RowKit Go.EYtfkjhfdpphfjhaaGreatDoor
section
set_option maxRecDepth 100000
set_option maxHeartbeats 4000000
variable {gl:List (Nat×List D)}
theorem le_refl2:∀ l:List D,All2 LeD l l
 | []=>trivial
 | _::r=>⟨LeD.rfl,le_refl2 r⟩
abbrev refR (c r:Int):List D:=rawR 5 0 [] c r
theorem ref_le (c r:Int):All2 LeD (refR c r) (refN (cR c r)).cs:=raw_le 5 0 [] c r
section
variable (t:List UInt8) (n:Nat) (h:n≤t.length)
include h
end
theorem in_ref (S:List UInt8→Nat→Prop) (a:Rf):InS S (refN a):=.leaf (by decide)
theorem in_call {S:List UInt8→Nat→Prop} {t:List UInt8} {ks:List Nd} (h:S t ks.length) (hk:∀ x ∈ ks,InS S x):InS S (callN t ks):=.of (fun _=>h) hk
theorem in_1 {S:List UInt8→Nat→Prop} {x:Nd} (hx:InS S x):∀ z ∈ [x],InS S z:=fun z hz=>by
 obtain rfl:=List.mem_singleton.1 hz
 exact hx
theorem in_2 {S:List UInt8→Nat→Prop} {x y:Nd} (hx:InS S x) (hy:InS S y):∀ z ∈ [x,y],InS S z:=fun z hz=>by
 rcases List.mem_cons.1 hz with rfl|hz
 ·exact hx
 ·exact in_1 hy z hz
theorem in_3 {S:List UInt8→Nat→Prop} {x y u:Nd} (hx:InS S x) (hy:InS S y) (hu:InS S u):∀ z ∈ [x,y,u],InS S z:=fun z hz=>by
 rcases List.mem_cons.1 hz with rfl|hz
 ·exact hx
 ·exact in_2 hy hu z hz
section
variable (te:TypeId) (pe:Value) (hV:Has (wG gl) (glV te pe)) {mx:Int} (hm':Go.EYtfkjhfdpphfjhaaGreatDoor.look (wG gl) 4=some [iD mx])
include hV hm'
end
section
variable (te:TypeId) (pe:Value) (hV:Has (wG gl) (glV te pe)) {mx:Int} (hm':Go.EYtfkjhfdpphfjhaaGreatDoor.look (wG gl) 4=some [iD mx]) (hl':Go.EYtfkjhfdpphfjhaaGreatDoor.look (wG gl) 0=some lvAll)
include hV hm' hl'
end
end
section
theorem all_2 {p:Nd→Prop} {x y:Nd} (hx:p x) (hy:p y):∀ z ∈ [x,y],p z:=fun z hz=>by
 rcases List.mem_cons.1 hz with rfl|hz
 ·exact hx
 ·obtain rfl:=List.mem_singleton.1 hz
  exact hy
theorem all_3 {p:Nd→Prop} {x y u:Nd} (hx:p x) (hy:p y) (hu:p u):∀ z ∈ [x,y,u],p z:=fun z hz=>by
 rcases List.mem_cons.1 hz with rfl|hz
 ·exact hx
 ·exact all_2 hy hu z hz
end
section
set_option maxRecDepth 100000
set_option maxHeartbeats 4000000
variable {gl:List (Nat×List D)}
abbrev lgcS (t:List UInt8) (n:Nat):Prop:=(t=nNOT∧n=1)∨(t=nIF∧n=3)∨t=nAND∨t=nOR
section
variable (te:TypeId) (pe:Value) (hV:Has (wG gl) (glV te pe))
include hV
theorem call_logi {mk:List (Int×Int)} {mv:List Vl} {ev:Int→Int→Vl} (hM:MapOk mk mv ev) (hev:∀ c r,(ev c r).ok):CallOk gl lgcS mk mv ev:=fun t ks hs hk hlk=>by
 rcases hs with ⟨rfl,hn⟩|⟨rfl,hn⟩|hs
 ·obtain ⟨x,rfl⟩:=len_1 hn
  have hx:KdOk (wG gl) mk mv ev x:=hk 0 (by simp)
  have hlen:=kid_len [x]
  exact call_gen (t:=nNOT) (lo:=1) (hi:=1) (by decide) rfl (by decide) (by rw[hlen];simp) (by rw[hlen];simp) ⟨by decide,by decide,by decide,by decide,by decide,by decide,by decide,by decide,by decide,by decide,by decide,by decide,by decide,by decide⟩ hk hlk (r:=reckV nNOT [evN ev x]) fun _=>.inl ⟨by decide,reck_not te pe hV hx.vok⟩
 ·obtain ⟨x,y,z,rfl⟩:=len_3 hn
  have hlen:=kid_len [x,y,z]
  exact call_cho (t:=nIF) (lo:=2) (hi:=3) (by decide) rfl (by decide) (by rw[hlen];simp) (by rw[hlen];simp) (.inl rfl) (chosen_if3 te pe hV (hk 0 (by simp)) (hk 1 (by simp)) (hk 2 (by simp)))
 ·exact call_many te pe hV (S:=fun t _=>isMany t) (fun _ _ h=>h) hM hev t (by rcases hs with rfl|rfl <;> decide) hk hlk
end
end
end Go.Proofs.YtfkjhfdpphfjhaaGreatDoor
