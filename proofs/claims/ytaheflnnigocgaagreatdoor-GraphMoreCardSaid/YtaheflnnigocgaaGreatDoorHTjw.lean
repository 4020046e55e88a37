/- Proved: a part of what the law is proved with (the reckoner, contracts of functions, plain laws). Conditions: as each says. -/
import Derived.Test.YtaheflnnigocgaaGreatDoorHTjh
import Derived.Test.YtaheflnnigocgaaGreatDoorHTjr
section
namespace Go.Proofs.YtaheflnnigocgaaGreatDoor
open Go Go.RowKit Go.EYtaheflnnigocgaaGreatDoor
set_option maxRecDepth 100000
set_option maxHeartbeats 400000000
variable {gl:List (Nat×List D)}
abbrev netR (t:Nt) (Q:List (List Cl)):List (Nat×Blk):=[(4,.var [.all 2 5,.mref 0,.mref 1,.mref 2,.all 1 14,.mref 3] 60),(5,.rows 2 (cellsR t.V) 24),(0,.mp (ksD t.V) (t.tx.map Go.EYtaheflnnigocgaaGreatDoor.D.str)),(1,.mp t.nK t.nV),(2,.mp (ksD t.oK) (onV t)),(3,.mp (ksD Q.flatten) (ofT Q Q.length)),(14,.rows 1 (Q.map partR) 39)]
abbrev NetOk (gl:List (Nat×List D)) (l:List Fl) (t:Nt) (Q:List (List Cl)):Prop:=Go.EYtaheflnnigocgaaGreatDoor.Fn Tryz.prog gl 18 [.c (.d (.lst 3 (l.map flD)))] [] 0 (.ret (.tup [(false,[.ptr 4 0]),(false,[.d (.v .nilIface)])])) (netR t Q) 15 []
section
variable (t:Nt) (Q:List (List Cl)) (l:List Fl) (cN:NetOk gl l t Q) (c:Cl)
include cN
end
end Go.Proofs.YtaheflnnigocgaaGreatDoor
end
