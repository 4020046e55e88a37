/- Proved: a part of what the law is proved with (the reckoner, contracts of functions, plain laws). Conditions: as each says. -/
import Derived.Test.YtdpigpahfiachaaGreatDoorVGi
section
namespace Go.Proofs.YtdpigpahfiachaaGreatDoor
open Go Go.EYtdpigpahfiachaaGreatDoor
set_option maxRecDepth 100000
theorem txI_at {s:List UInt8}:∀ {n i:Nat},txI s n=some i→n≤6→tx.getD i []=s∧1≤i∧i≤6
 | 0,i,h,_=>by cases h
 | n+1,i,h,hn=>by
  unfold txI at h
  split at h
  ·rename_i e;cases h;exact ⟨e,by omega,by omega⟩
  ·exact txI_at h (by omega)
end Go.Proofs.YtdpigpahfiachaaGreatDoor
end
