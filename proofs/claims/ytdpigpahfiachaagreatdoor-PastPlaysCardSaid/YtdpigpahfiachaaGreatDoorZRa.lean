/- Proved: a part of what the law is proved with (the reckoner, contracts of functions, plain laws). Conditions: as each says. -/
import Derived.Test.YtdpigpahfiachaaGreatDoorRows
import Derived.Test.YtdpigpahfiachaaGreatDoorTie
import Derived.Test.YtdpigpahfiachaaGreatDoorCards
import Derived.ProofKit
import Derived.LaidLaws
import Derived.LaidHandle
import Derived.Lib.SmallJoins
import Derived.Deep.Fields
import Derived.Carry
import Derived.Lay
import Derived.ChangeMaps5
import Derived.Lib.Mul64
import Derived.Laws.Bits64b
import Derived.Test.YtdpigpahfiachaaGreatDoorZEs
import Derived.Test.YtdpigpahfiachaaGreatDoorZPc
import Derived.Test.YtdpigpahfiachaaGreatDoorZPf
section
namespace Go.Proofs.YtdpigpahfiachaaGreatDoor
open Go Go.EYtdpigpahfiachaaGreatDoor
set_option maxRecDepth 100000
variable {gl:List (Nat×List D)}
def vlD (k n:Int) (s:List UInt8):D:=.agg [iD k,iD n,.str s]
theorem Wrong_d (n:Int):FnP Tryz.prog gl 116 [iD n] (vlD 4 n []):=by
 refine fnP_of_vc (nv:=9999) (cu:=[]) fits mixed Tryz.func116 rfl hoB rfl ?_
 ((repeat' ((conv=>whnf);first|exact .intro|refine .ya ?_|refine .na ?_|refine .ys ?_|refine .ns ?_|refine .neg (fun _=>?_) (fun _=>?_)|refine .mk (fun _=>?_) (fun _=>?_)|refine .mk ?_ ?_|refine AK ?_|refine And.intro (by first|(fail;done)|fail) ?_|fail));all_goals conv=>whnf)
 exact LeD.rfl
theorem rBad_d (n:Int):FnP Tryz.prog gl 129 [iD n] (vlD 4 n []):=by
 refine fnP_of_vc (nv:=9999) (cu:=[]) fits mixed Tryz.func129 rfl hoB rfl ?_
 ((repeat' ((conv=>whnf);first|exact .intro|refine .ya ?_|refine .na ?_|refine .ys ?_|refine .ns ?_|refine .neg (fun _=>?_) (fun _=>?_)|refine .mk (fun _=>?_) (fun _=>?_)|refine .mk ?_ ?_|refine AK ?_|refine And.intro (by first|(fail;done)|fail) ?_|fail));all_goals conv=>whnf)
 exact LeD.rfl
theorem rTru_y {p:Prop} (i:Decidable p) (h:p):FnP Tryz.prog gl 128 [.b p i] (vlD 3 1 []):=by
 refine fnP_of_vc (nv:=9999) (cu:=[]) fits mixed Tryz.func128 rfl hoB rfl ?_
 ((repeat' ((conv=>whnf);first|exact .intro|refine .ya ?_|refine .na ?_|refine .ys ?_|refine .ns ?_|refine .neg (fun _=>?_) (fun _=>?_)|refine .mk (fun _=>?_) (fun _=>?_)|refine .mk ?_ ?_|refine AK ?_|refine And.intro (by first|(fail;done)|fail) ?_|fail));all_goals conv=>whnf)
 exact LeD.rfl
theorem rTru_n {p:Prop} (i:Decidable p) (h:¬ p):FnP Tryz.prog gl 128 [.b p i] (vlD 3 0 []):=by
 refine fnP_of_vc (nv:=9999) (cu:=[]) fits mixed Tryz.func128 rfl hoB rfl ?_
 ((repeat' ((conv=>whnf);first|exact .intro|refine .ya ?_|refine .na ?_|refine .ys ?_|refine .ns ?_|refine .neg (fun _=>?_) (fun _=>?_)|refine .mk (fun _=>?_) (fun _=>?_)|refine .mk ?_ ?_|refine AK ?_|refine And.intro (by first|(fail;done)|fail) ?_|fail));all_goals conv=>whnf)
 exact LeD.rfl
end Go.Proofs.YtdpigpahfiachaaGreatDoor
end
section
namespace Go.Proofs.YtdpigpahfiachaaGreatDoor
open Go Go.ChangeShapes Go.WideShapes Go.ChangeAt Go.RowKit Go.EYtdpigpahfiachaaGreatDoor
set_option linter.unusedVariables false
set_option maxRecDepth 100000
theorem Door.own:ownKnob Tryz.prog.godebug=none:=by kernel_rfl
theorem Door.out:laidOutB Tryz.prog=true:=by kernel_rfl
theorem Door.size:Tryz.prog.types.size=324:=by kernel_rfl
theorem FnP.calls {P:Program} {gl:List (Nat×List D)} {g:Nat} {ds:List D} {r:Value} {xs:List Value} {w:World} (h:FnP P gl g ds (.v r)) (hb:HasBody P g) (hg:Glob gl (fun _=>False) w) (hd:DenL (fun _=>False) w ds xs) :
 Calls P g xs.toArray w fun e w'=>e=.returned r∧Below w.heap.size w w':=by
 rcases h w (fun _=>False) xs (fun _ h=>h.elim) hg hd with ⟨_,h1⟩|⟨v,w',h1,h2⟩
 ·refine h1.mono fun e w' ⟨h2,x,h3,h4⟩=>?_
  rw[DenD.v_inv h4] at h3
  exact ⟨h3,h2.below⟩
 ·rw[hb.enters] at h1;cases h1
theorem trodAll_below {H:Type} {enc:TypeId×Value→H} {P:Program} (hl:laidOutB P=true) {W W':World} {sp:Nat→Bool} (hb:Below W.heap.size W W'):∀ {ts:List TypeId} {vs:List Value} {ds:List (DataW H)} {ps:List MemPlace},
 (∀ t ∈ ts,P.readableRec t=true∧t<P.types.size)→DataW.TrodAll enc P W 0 (fun _=>true) true ts vs ds ps→(∀ x ∈ ps,x.block<W.heap.size)→(∀ x ∈ ps,sp x.block=true)→DataW.TrodAll enc P W' 0 sp true ts vs ds ps
 | [],_,_,_,_,h,_,_=>by
  obtain ⟨rfl,rfl,rfl⟩:=trodAll_nil h
  exact trodAll_mk0
 | t::ts,_,_,_,hr,h,hlt,hs=>by
  obtain ⟨v,vs,d,ds,p,q,rfl,rfl,rfl,h1,h2⟩:=trodAll_cons h
  exact trodAll_cons_mk (WideElems.Trod_stays hl (hr t (List.mem_cons_self ..)).1 (hr t (List.mem_cons_self ..)).2 h1 (fun x hx=>hb.same (hlt x (List.mem_append_left _ hx))) (fun x hx=>hs x (List.mem_append_left _ hx)))
   (trodAll_below hl hb (fun t ht=>hr t (List.mem_cons_of_mem _ ht)) h2 (fun x hx=>hlt x (List.mem_append_right _ hx)) (fun x hx=>hs x (List.mem_append_right _ hx)))
end Go.Proofs.YtdpigpahfiachaaGreatDoor
end
section
namespace Go.Proofs.YtdpigpahfiachaaGreatDoor
open Go Go.ChangeShapes Go.WideShapes Go.ChangeAt Go.RowKit Go.EYtdpigpahfiachaaGreatDoor
set_option linter.unusedVariables false
set_option maxRecDepth 100000
theorem glob_none {M:Nat→Prop} {w:World}:Glob [] M w:=fun g l hl=>by cases hl
end Go.Proofs.YtdpigpahfiachaaGreatDoor
end
section
namespace Go.Proofs.YtdpigpahfiachaaGreatDoor
open Go Go.EYtdpigpahfiachaaGreatDoor
set_option maxRecDepth 100000
variable {gl:List (Nat×List D)}
abbrev okI (n:Int):Prop:=-9223372036854775808≤n∧n≤9223372036854775807
namespace M64
end M64
end Go.Proofs.YtdpigpahfiachaaGreatDoor
end
