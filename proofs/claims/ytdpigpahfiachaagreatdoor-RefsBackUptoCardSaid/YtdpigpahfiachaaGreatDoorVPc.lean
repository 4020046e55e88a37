/- Proved: a part of what the law is proved with (the reckoner, contracts of functions, plain laws). Conditions: as each says. -/
import Derived.IntWalk
import Derived.Test.YtdpigpahfiachaaGreatDoorVET
section
namespace Go.Proofs.YtdpigpahfiachaaGreatDoor
open Go Go.EYtdpigpahfiachaaGreatDoor
set_option maxRecDepth 100000
variable {gl:List (Nat×List D)}
abbrev iD (n:Int):D:=.v (.int .i64 n)
abbrev tD (b:Bool):D:=.b (b=true) inferInstance
def cellD (c r:Int):D:=.agg [iD c,iD r]
def refD (c r:Int) (fc fr:Bool):D:=.agg [iD c,iD r,tD fc,tD fr]
def errD (n:Int):D:=if n=0 then .v .nilIface else .v (.iface 96 (.int .i64 n))
abbrev okP (c r:Int):Prop:=1≤c∧c≤26∧1≤r∧r≤99
abbrev farP (n:Int):Prop:=1000<n∨n < -1000
theorem far_d (n:Int):FnP Tryz.prog gl 123 [iD n] (.b (farP n) inferInstance):=by
 refine fnP_of_vc (nv:=9999) (cu:=[]) fits mixed Tryz.func123 rfl hoB rfl ?_
 ((repeat' ((conv=>whnf);(first|refine Fork.yes (by assumption) ?_|refine Fork.no (by assumption) ?_|refine Fork.nono (by assumption) ?_|(refine Fork.yes ?_ ?_;focus (simp[andPD];done))|(refine Fork.no ?_ ?_;focus (simp;done))|refine Fork.neg (fun _=>?_) (fun _=>?_)|refine Fork.mk (fun _=>?_) (fun _=>?_))));(all_goals (conv=>whnf)))
 all_goals first|exact LeD.bt (by omega)|exact LeD.bf (by omega)|exact LeD.b (by omega)
theorem ok_d (c r:Int):FnP Tryz.prog gl 122 [cellD c r] (.b (okP c r) inferInstance):=by
 refine fnP_of_vc (nv:=9999) (cu:=[]) fits mixed Tryz.func122 rfl hoB rfl ?_
 ((repeat' ((conv=>whnf);(first|refine Fork.yes (by assumption) ?_|refine Fork.no (by assumption) ?_|refine Fork.nono (by assumption) ?_|(refine Fork.yes ?_ ?_;focus (simp[andPD];done))|(refine Fork.no ?_ ?_;focus (simp;done))|refine Fork.neg (fun _=>?_) (fun _=>?_)|refine Fork.mk (fun _=>?_) (fun _=>?_))));(all_goals (conv=>whnf)))
 all_goals first|exact LeD.bt (by omega)|exact LeD.bf (by omega)|exact LeD.b (by omega)
def shiftP (c r:Int) (fc fr:Bool) (dc dr:Int):Prop:=okP c r∧(fc=true∨¬ farP dc)∧(fr=true∨¬ farP dr)∧okP (if fc=true then c else c+dc) (if fr=true then r else r+dr)
instance (c r:Int) (fc fr:Bool) (dc dr:Int):Decidable (shiftP c r fc fr dc dr):=by unfold shiftP;infer_instance
def shiftR (c r:Int) (fc fr:Bool) (dc dr:Int):D :=
 if shiftP c r fc fr dc dr then .tup [refD (if fc=true then c else c+dc) (if fr=true then r else r+dr) fc fr,tD true] else .tup [refD 0 0 false false,tD false]
theorem wrapI {n:Int} (h:-9223372036854775808≤n∧n≤9223372036854775807):IntKind.i64.wrap n=n:=IntWalk.i64_in _ h
theorem tD_le (b:Bool):LeD (.v (.bool b)) (tD b):=⟨fun M w x hx=>by
 rw[DenD.v_inv hx];have:=DenD.b (M:=M) (w:=w) (b=true) inferInstance;cases b <;> simpa using this⟩
theorem noneR_le:LeD (retD [D.agg [iD 0,iD 0,.v (.bool false),.v (.bool false)],.v (.bool false)]) (.tup [refD 0 0 false false,tD false]) :=
 LeD.tup ⟨LeD.agg ⟨LeD.rfl,LeD.rfl,tD_le _,tD_le _,trivial⟩,tD_le _,trivial⟩
theorem someR_le {c r c' r':Int} {fc fr:Bool} (h1:c=c') (h2:r=r'):LeD (retD [D.agg [iD c,iD r,tD fc,tD fr],.v (.bool true)]) (.tup [refD c' r' fc fr,tD true]):=by
 subst h1;subst h2;exact LeD.tup ⟨LeD.rfl,tD_le _,trivial⟩
theorem Shift_d (c r:Int) (fc fr:Bool) (dc dr:Int):FnP Tryz.prog gl 70 [refD c r fc fr,iD dc,iD dr] (shiftR c r fc fr dc dr):=by
 refine fnP_of_vc (nv:=9999) (cu:=[]) fits mixed Tryz.func70 rfl hoB rfl ?_
 ((repeat' ((conv=>whnf);first|(first|refine Fork.yes (by assumption) ?_|refine Fork.no (by assumption) ?_|refine Fork.nono (by assumption) ?_|(refine Fork.yes ?_ ?_;focus (simp;done))|(refine Fork.no ?_ ?_;focus (simp;done))|refine Fork.neg (fun _=>?_) (fun _=>?_)|refine Fork.mk (fun _=>?_) (fun _=>?_))|refine Or.inl (Or.inl (Exists.intro _ (And.intro (by first|exact ok_d _ _|exact far_d _) ?_)))|refine Exists.intro _ (And.intro (by first|exact ok_d _ _|exact far_d _) ?_)));(all_goals (conv=>whnf)))
 all_goals unfold shiftR
 all_goals (try rw[wrapI (n:=c+dc) (by omega)] at *)
 all_goals (try rw[wrapI (n:=r+dr) (by omega)] at *)
 all_goals cases fc <;> cases fr
 all_goals first
  | (exfalso;simp only[Bool.false_eq_true,not_true_eq_false,not_false_eq_true] at *;done)
  | (refine LeD.ite_neg ?_ noneR_le;simp only[shiftP,Bool.false_eq_true,if_true,if_false,false_or,true_or,true_and];omega)
  | (refine LeD.ite_pos ?_ (someR_le ?_ ?_) <;> simp only[shiftP,Bool.false_eq_true,if_true,if_false,false_or,true_or,true_and] <;> omega)
  | skip
end Go.Proofs.YtdpigpahfiachaaGreatDoor
end
section
namespace Go.Proofs.YtdpigpahfiachaaGreatDoor
open Go Go.EYtdpigpahfiachaaGreatDoor
set_option maxRecDepth 100000
variable {gl:List (Nat×List D)}
theorem get_map {α β:Type} {f:α→β} {l:List α} {k:Nat} (h:k<l.length):(l.map f)[((k:Nat):Int).toNat]?=some (f l[k]):=by
 simp[h]
end Go.Proofs.YtdpigpahfiachaaGreatDoor
end
section
namespace Go.Proofs.YtdpigpahfiachaaGreatDoor
open Go Go.EYtdpigpahfiachaaGreatDoor
set_option maxRecDepth 100000
variable {gl:List (Nat×List D)}
theorem ceq {x y:Int} (h:x=y) {P:Prop}:C.d (iD y)=C.junk∨C.d (iD x)=C.d (iD y)∨P:=.inr (.inl (congrArg (fun z=>C.d (iD z)) h))
end Go.Proofs.YtdpigpahfiachaaGreatDoor
end
