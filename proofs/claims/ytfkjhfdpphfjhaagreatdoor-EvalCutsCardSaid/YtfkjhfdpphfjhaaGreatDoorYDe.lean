/- Proved: a part of what the law is proved with (the reckoner, contracts of functions, plain laws). Conditions: as each says. -/
import Derived.Test.YtfkjhfdpphfjhaaGreatDoorYET
import Derived.Test.YtfkjhfdpphfjhaaGreatDoorYMk
section
namespace Go.Proofs.YtfkjhfdpphfjhaaGreatDoor
open Go Go.RowKit Go.EYtfkjhfdpphfjhaaGreatDoor
set_option maxRecDepth 100000
set_option maxHeartbeats 4000000
variable {gl:List (Nat×List D)}
abbrev ckD (p:Int×Int):D:=cellD p.1 p.2
abbrev mpE (ks:List (Int×Int)) (vs:List Vl):D:=.mp (ks.map ckD) (vs.map Vl.d)
theorem keys_E (ks:List (Int×Int)):∀ d ∈ ks.map ckD,keyS 3 d=true:=fun d hd=>by
 obtain ⟨p,_,rfl⟩:=List.mem_map.1 hd
 rfl
theorem ckD_inj {a b c d:Int} (h:cellD a b=cellD c d):a=c∧b=d:=by
 simp[cellD] at h
 exact h
theorem look_ev {ks:List (Int×Int)} {vs:List Vl} {ev:Int→Int→Vl} (h:MapOk ks vs ev) (c r:Int):(∃ (i:Nat),(ks.map ckD)[i]?=some (cellD c r)∧(vs.map Vl.d)[i]?=some (ev c r).d)∨(cellD c r ∉ ks.map ckD∧ev c r=⟨0,0,[]⟩):=by
 rcases h.at' c r with ⟨i,h1,h2⟩|⟨h1,h2⟩
 ·exact .inl ⟨i,by rw[List.getElem?_map,h1];rfl,by rw[List.getElem?_map,h2];rfl⟩
 ·refine .inr ⟨fun hm=>?_,h2⟩
  obtain ⟨p,hp,he⟩:=List.mem_map.1 hm
  obtain ⟨e1,e2⟩:=ckD_inj he
  exact h1 (by rw[← e1,← e2];exact hp)
theorem v_len {v:Vl} (hv:v.ok):v.s.length≤140737488355328:=by
 rcases hv.1 with h|h|h|h|h
 ·rw[h.2.2];decide
 ·rw[h.2];decide
 ·omega
 ·rw[h.2.2];decide
 ·rw[h.2.2.2];decide
section
variable (te:TypeId) (pe:Value) (hV:Has gl (glV te pe))
include hV
end
end Go.Proofs.YtfkjhfdpphfjhaaGreatDoor
end
