/- Proved: a part of what the law is proved with (the reckoner, contracts of functions, plain laws). Conditions: as each says. -/
import Derived.Test.YtfkjhfdpphfjhaaGreatDoorProg
import Derived.Laws.StructEq
import Derived.WalkKit
import Derived.Test.YtfkjhfdpphfjhaaGreatDoorYDm
import Derived.Test.YtfkjhfdpphfjhaaGreatDoorYEv
import Derived.Test.YtfkjhfdpphfjhaaGreatDoorYGe
section
namespace Go.Proofs.YtfkjhfdpphfjhaaGreatDoor
open Go Go.EYtfkjhfdpphfjhaaGreatDoor
set_option maxRecDepth 100000
set_option maxHeartbeats 4000000
variable {gl:List (Nat×List D)}
abbrev wG (gl:List (Nat×List D)):List (Nat×List D):=(1,[iD 4,iD 2,.str []])::gl
abbrev iR (n:Int):List D:=[iD n]
theorem many_d (t:List UInt8):FnP Tryz.prog gl 112 [.str t] (.b (isMany t) inferInstance):=by
 refine fnP_of_vc (nv:=9999) (cu:=[]) fits mixed Tryz.func112 rfl hoB rfl ?_
 ((repeat' ((conv=>whnf);first|exact .intro|refine G ?_|intro _|refine .mk ?_ ?_|refine H ?_|fail));all_goals conv=>whnf)
 all_goals first
  | exact LeD.bf (by simp[isMany, *])
  | (rename_i h;subst h;exact LeD.bt (by decide))
theorem arguments_d (t:List UInt8):FnP Tryz.prog gl 114 [.str t] (.tup [iD (argZ t).1,iD (argZ t).2]):=by
 refine fnP_of_vc (nv:=9999) (cu:=[]) fits mixed Tryz.func114 rfl hoB rfl ?_
 ((repeat' ((conv=>whnf);first|exact .intro|refine G ?_|intro _|refine .mk ?_ ?_|refine H ?_|fail));all_goals conv=>whnf)
 all_goals first
  | (rename_i h;subst h;exact LeD.rfl)
  | exact LeD.of (by rw[show argZ t=(-1,-1) by simp[argZ,is1,is2,is3, *]];rfl)
section
variable (te:TypeId) (pe:Value) (hV:Has gl (glV te pe))
include hV
end
end Go.Proofs.YtfkjhfdpphfjhaaGreatDoor
end
section
namespace Go.Proofs.YtfkjhfdpphfjhaaGreatDoor
open Go Go.RowKit Go.EYtfkjhfdpphfjhaaGreatDoor
set_option maxRecDepth 100000
theorem check_cell (w:World) (em:Bool) (a b:Int):(Instr.checkKey em 10000 23 (.agg #[.int .i64 a,.int .i64 b])).run Tryz.prog w=.ok () w:=by kernel_rfl
theorem eq_cell (w:World) (a b c d:Int):∃ r:Bool,(Op.equal 23 (.agg #[.int .i64 a,.int .i64 b]) (.agg #[.int .i64 c,.int .i64 d])).run Tryz.prog w=.ok r w∧(r=true↔(Value.agg #[.int .i64 c,.int .i64 d])=.agg #[.int .i64 a,.int .i64 b]):=by
 refine ⟨a==c && b==d,?_,?_⟩
 ·have u3:=Tryz.underlying3
  have a3:=Tryz.isAgg3
  have z3:=Tryz.sizeOf3
  have hS:Tryz.prog.underlying 23=some (.struct (Tryz.prog.fieldsOf 23)):=by kernel_rfl
  have hp:Tryz.prog.stoodInHeld 23=false:=by kernel_rfl
  show (Op.equalIn (9999+1) 23 _ _).run Tryz.prog w=_
  rw[run_equalIn_agg w 9999 23 _ _ hS hp]
  simp only[Program.fieldsOf,Tryz.underlying23]
  go_simp
  by_cases h1:a=c <;> by_cases h2:b=d <;> simp[h1,h2]
 ·simp
  constructor
  ·rintro ⟨rfl,rfl⟩;exact ⟨rfl,rfl⟩
  ·rintro ⟨rfl,rfl⟩;exact ⟨rfl,rfl⟩
theorem key_cell:KeyT Tryz.prog 23 3:=by
 refine keyT_of (fun w em d x hs hx=>?_) (fun w d e x y hs he hx hy=>?_) Tryz.underlying23 (fun x y=>?_)
 ·rcases keyS_cases hs with ⟨h,_⟩|⟨h,_⟩|⟨_,a,b,rfl⟩
  ·cases h
  ·cases h
  ·cases hx
   exact check_cell w em a b
 ·rcases keyS_cases hs with ⟨h,_⟩|⟨h,_⟩|⟨_,a,b,rfl⟩
  ·cases h
  ·cases h
  ·rcases keyS_cases he with ⟨h,_⟩|⟨h,_⟩|⟨_,c,d,rfl⟩
   ·cases h
   ·cases h
   ·cases hx
    cases hy
    exact eq_cell w a b c d
 ·cases x <;> cases y <;> rfl
end Go.Proofs.YtfkjhfdpphfjhaaGreatDoor
end
