/- Proved: a part of what the law is proved with (the reckoner, contracts of functions, plain laws). Conditions: as each says. -/
import Derived.IntWalk
import Derived.Test.YtdpigpahfiachaaGreatDoorZET
section
namespace Go.Proofs.YtdpigpahfiachaaGreatDoor
open Go Go.EYtdpigpahfiachaaGreatDoor
set_option maxRecDepth 100000
variable {gl:List (Nat×List D)}
abbrev iD (n:Int):D:=.v (.int .i64 n)
abbrev tD (b:Bool):D:=.b (b=true) inferInstance
def cellD (c r:Int):D:=.agg [iD c,iD r]
def refD (c r:Int) (fc fr:Bool):D:=.agg [iD c,iD r,tD fc,tD fr]
def errD (n:Int):D:=if n=0 then .v .nilIface else .v (.iface 96 (.int .i64 n))
abbrev okP (c r:Int):Prop:=1≤c∧c≤26∧1≤r∧r≤99
abbrev farP (n:Int):Prop:=1000<n∨n < -1000
theorem ok_d (c r:Int):FnP Tryz.prog gl 122 [cellD c r] (.b (okP c r) inferInstance):=by
 refine fnP_of_vc (nv:=9999) (cu:=[]) fits mixed Tryz.func122 rfl hoB rfl ?_
 ((repeat' ((conv=>whnf);(first|refine Fork.yes (by assumption) ?_|refine Fork.no (by assumption) ?_|refine Fork.nono (by assumption) ?_|(refine Fork.yes ?_ ?_;focus (simp[andPD];done))|(refine Fork.no ?_ ?_;focus (simp;done))|refine Fork.neg (fun _=>?_) (fun _=>?_)|refine Fork.mk (fun _=>?_) (fun _=>?_))));(all_goals (conv=>whnf)))
 all_goals first|exact LeD.bt (by omega)|exact LeD.bf (by omega)|exact LeD.b (by omega)
theorem In_d (c r:Int):FnP Tryz.prog gl 33 [cellD c r] (.b (okP c r) inferInstance):=by
 refine fnP_of_vc (nv:=9999) (cu:=[]) fits mixed Tryz.func33 rfl hoB rfl ?_
 ((repeat' ((conv=>whnf);(first|refine Fork.yes (by assumption) ?_|refine Fork.no (by assumption) ?_|refine Fork.nono (by assumption) ?_|(refine Fork.yes ?_ ?_;focus (simp[andPD];done))|(refine Fork.no ?_ ?_;focus (simp;done))|refine Fork.neg (fun _=>?_) (fun _=>?_)|refine Fork.mk (fun _=>?_) (fun _=>?_))));(all_goals (conv=>whnf)))
 all_goals first|exact LeD.bt (by omega)|exact LeD.bf (by omega)|exact LeD.b (by omega)
def shiftP (c r:Int) (fc fr:Bool) (dc dr:Int):Prop:=okP c r∧(fc=true∨¬ farP dc)∧(fr=true∨¬ farP dr)∧okP (if fc=true then c else c+dc) (if fr=true then r else r+dr)
instance (c r:Int) (fc fr:Bool) (dc dr:Int):Decidable (shiftP c r fc fr dc dr):=by unfold shiftP;infer_instance
theorem wrapI {n:Int} (h:-9223372036854775808≤n∧n≤9223372036854775807):IntKind.i64.wrap n=n:=IntWalk.i64_in _ h
theorem tD_le (b:Bool):LeD (.v (.bool b)) (tD b):=⟨fun M w x hx=>by
 rw[DenD.v_inv hx];have:=DenD.b (M:=M) (w:=w) (b=true) inferInstance;cases b <;> simpa using this⟩
theorem noneR_le:LeD (retD [D.agg [iD 0,iD 0,.v (.bool false),.v (.bool false)],.v (.bool false)]) (.tup [refD 0 0 false false,tD false]) :=
 LeD.tup ⟨LeD.agg ⟨LeD.rfl,LeD.rfl,tD_le _,tD_le _,trivial⟩,tD_le _,trivial⟩
end Go.Proofs.YtdpigpahfiachaaGreatDoor
end
section
namespace Go.Proofs.YtdpigpahfiachaaGreatDoor
open Go Go.EYtdpigpahfiachaaGreatDoor
set_option maxRecDepth 100000
variable {gl:List (Nat×List D)}
theorem get_map {α β:Type} {f:α→β} {l:List α} {k:Nat} (h:k<l.length):(l.map f)[((k:Nat):Int).toNat]?=some (f l[k]):=by
 simp[h]
end Go.Proofs.YtdpigpahfiachaaGreatDoor
end
section
namespace Go.Proofs.YtdpigpahfiachaaGreatDoor
open Go Go.EYtdpigpahfiachaaGreatDoor
set_option maxRecDepth 100000
variable {gl:List (Nat×List D)}
theorem ceq {x y:Int} (h:x=y) {P:Prop}:C.d (iD y)=C.junk∨C.d (iD x)=C.d (iD y)∨P:=.inr (.inl (congrArg (fun z=>C.d (iD z)) h))
end Go.Proofs.YtdpigpahfiachaaGreatDoor
end
