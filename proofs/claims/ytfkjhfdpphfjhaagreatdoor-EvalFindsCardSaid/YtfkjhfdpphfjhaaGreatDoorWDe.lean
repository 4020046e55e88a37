/- Proved: a part of what the law is proved with (the reckoner, contracts of functions, plain laws). Conditions: as each says. -/
import Derived.Test.YtfkjhfdpphfjhaaGreatDoorProg
import Derived.Laws.StructEq
import Derived.WalkKit
import Derived.Test.YtfkjhfdpphfjhaaGreatDoorWET
import Derived.Test.YtfkjhfdpphfjhaaGreatDoorWEv
import Derived.Test.YtfkjhfdpphfjhaaGreatDoorWFs
import Derived.Test.YtfkjhfdpphfjhaaGreatDoorWGf
section
namespace Go.Proofs.YtfkjhfdpphfjhaaGreatDoor
open Go Go.EYtfkjhfdpphfjhaaGreatDoor
set_option maxRecDepth 100000
set_option maxHeartbeats 4000000
variable {gl:List (Nat×List D)}
abbrev wG (gl:List (Nat×List D)):List (Nat×List D):=(1,[iD 4,iD 2,.str []])::gl
abbrev iR (n:Int):List D:=[iD n]
theorem IsTrue_d (k n:Int) (s:List UInt8):FnP Tryz.prog gl 214 [vlD k n s] (.b (k=3∧n=1) inferInstance):=by
 by_cases hk:k=3
 ·refine fnP_of_vc (nv:=9999) (cu:=[]) fits mixed Tryz.func214 rfl hoB rfl ?_
  ((repeat' ((conv=>whnf);first|exact .intro|refine G ?_|intro _|refine .mk ?_ ?_|refine H ?_|fail));all_goals conv=>whnf)
  all_goals exact LeD.b ⟨fun h=>⟨hk,h⟩,fun h=>h.2⟩
 ·refine fnP_of_vc (nv:=9999) (cu:=[]) fits mixed Tryz.func214 rfl hoB rfl ?_
  ((repeat' ((conv=>whnf);first|exact .intro|refine G ?_|intro _|refine .mk ?_ ?_|refine H ?_|fail));all_goals conv=>whnf)
  all_goals exact LeD.bf fun h=>hk h.1
theorem many_d (t:List UInt8):FnP Tryz.prog gl 112 [.str t] (.b (isMany t) inferInstance):=by
 refine fnP_of_vc (nv:=9999) (cu:=[]) fits mixed Tryz.func112 rfl hoB rfl ?_
 ((repeat' ((conv=>whnf);first|exact .intro|refine G ?_|intro _|refine .mk ?_ ?_|refine H ?_|fail));all_goals conv=>whnf)
 all_goals first
  | exact LeD.bf (by simp[isMany, *])
  | (rename_i h;subst h;exact LeD.bt (by decide))
theorem arguments_d (t:List UInt8):FnP Tryz.prog gl 114 [.str t] (.tup [iD (argZ t).1,iD (argZ t).2]):=by
 refine fnP_of_vc (nv:=9999) (cu:=[]) fits mixed Tryz.func114 rfl hoB rfl ?_
 ((repeat' ((conv=>whnf);first|exact .intro|refine G ?_|intro _|refine .mk ?_ ?_|refine H ?_|fail));all_goals conv=>whnf)
 all_goals first
  | (rename_i h;subst h;exact LeD.rfl)
  | exact LeD.of (by rw[show argZ t=(-1,-1) by simp[argZ,is1,is2,is3, *]];rfl)
theorem box_y {m:Int} {t:List UInt8} {a b:Rf} {ks:List Nd} (ha:okP a.c a.r) (hb:okP b.c b.r):FnP Tryz.prog gl 176 [.agg (Nd.cs (.mk 6 m t a b ks))] (.tup [boxD (min a.c b.c) (min a.r b.r) (max a.c b.c) (max a.r b.r),.lst 2 ((boxC a b).map rowC),.v (.bool true)]):=by
 have c1:FnP Tryz.prog gl 216 [cellD a.c a.r,cellD b.c b.r] (.tup [boxD (min a.c b.c) (min a.r b.r) (max a.c b.c) (max a.r b.r),.v .nilIface]):=Box_s ha hb
 have c2:FnP Tryz.prog gl 217 [boxD (min a.c b.c) (min a.r b.r) (max a.c b.c) (max a.r b.r)] (.tup [.lst 2 ((boxC a b).map rowC),.v .nilIface]):=Cells_s (boxC_box ha hb)
 generalize boxC a b=cs at *
 refine fnP_of_vc (nv:=9999) (cu:=[]) fits mixed Tryz.func176 rfl hoB rfl ?_
 ((repeat' ((conv=>whnf);first|exact .intro|refine G ?_|intro _|refine C1 c1 ?_|refine C1 c2 ?_|refine .mk ?_ ?_|refine H ?_|fail));all_goals conv=>whnf)
 all_goals exact LeD.rfl
theorem box_n {k m:Int} {t:List UInt8} {a b:Rf} {ks:List Nd} (hk:¬ k=6):FnP Tryz.prog gl 176 [.agg (Nd.cs (.mk k m t a b ks))] (.tup [boxD 0 0 0 0,.v (.slice none 0 0),.v (.bool false)]):=by
 refine fnP_of_vc (nv:=9999) (cu:=[]) fits mixed Tryz.func176 rfl hoB rfl ?_
 ((repeat' ((conv=>whnf);first|exact .intro|refine G ?_|intro _|refine .mk ?_ ?_|refine H ?_|fail));all_goals conv=>whnf)
 all_goals exact LeD.rfl
section
variable (te:TypeId) (pe:Value) (hV:Has gl (glV te pe))
include hV
theorem alike_d {a b:Vl} (ha:a.ok) (hb:b.ok):FnP Tryz.prog gl 178 [a.d,b.d] (.b (alikeP a b) inferInstance):=by
 have c1:=FnP.moreG (Two_v te pe 1 ha hb) hV
 have hi:alikeP a b↔(twoV 1 a b).k=3∧(twoV 1 a b).n=1:=Iff.rfl
 generalize twoV 1 a b=x at c1 hi
 have c2:FnP Tryz.prog gl 214 [x.d] (.b (x.k=3∧x.n=1) inferInstance):=IsTrue_d x.k x.n x.s
 by_cases h:x.k=3∧x.n=1
 ·refine fnP_of_vc (nv:=9999) (cu:=[]) fits mixed Tryz.func178 rfl hoB rfl ?_
  ((repeat' ((conv=>whnf);first|exact .intro|refine G ?_|intro _|refine C1 c1 ?_|refine C1 c2 ?_|refine .mk ?_ ?_|refine H ?_|fail));all_goals conv=>whnf)
  all_goals exact LeD.b hi.symm
 ·refine fnP_of_vc (nv:=9999) (cu:=[]) fits mixed Tryz.func178 rfl hoB rfl ?_
  ((repeat' ((conv=>whnf);first|exact .intro|refine G ?_|intro _|refine C1 c1 ?_|refine C1 c2 ?_|refine .mk ?_ ?_|refine H ?_|fail));all_goals conv=>whnf)
  all_goals exact LeD.b hi.symm
end
end Go.Proofs.YtfkjhfdpphfjhaaGreatDoor
end
section
namespace Go.Proofs.YtfkjhfdpphfjhaaGreatDoor
open Go Go.RowKit Go.EYtfkjhfdpphfjhaaGreatDoor
set_option maxRecDepth 100000
theorem check_cell (w:World) (em:Bool) (a b:Int):(Instr.checkKey em 10000 23 (.agg #[.int .i64 a,.int .i64 b])).run Tryz.prog w=.ok () w:=by kernel_rfl
theorem eq_cell (w:World) (a b c d:Int):∃ r:Bool,(Op.equal 23 (.agg #[.int .i64 a,.int .i64 b]) (.agg #[.int .i64 c,.int .i64 d])).run Tryz.prog w=.ok r w∧(r=true↔(Value.agg #[.int .i64 c,.int .i64 d])=.agg #[.int .i64 a,.int .i64 b]):=by
 refine ⟨a==c && b==d,?_,?_⟩
 ·have u3:=Tryz.underlying3
  have a3:=Tryz.isAgg3
  have z3:=Tryz.sizeOf3
  have hS:Tryz.prog.underlying 23=some (.struct (Tryz.prog.fieldsOf 23)):=by kernel_rfl
  have hp:Tryz.prog.stoodInHeld 23=false:=by kernel_rfl
  show (Op.equalIn (9999+1) 23 _ _).run Tryz.prog w=_
  rw[run_equalIn_agg w 9999 23 _ _ hS hp]
  simp only[Program.fieldsOf,Tryz.underlying23]
  go_simp
  by_cases h1:a=c <;> by_cases h2:b=d <;> simp[h1,h2]
 ·simp
  constructor
  ·rintro ⟨rfl,rfl⟩;exact ⟨rfl,rfl⟩
  ·rintro ⟨rfl,rfl⟩;exact ⟨rfl,rfl⟩
theorem key_cell:KeyT Tryz.prog 23 3:=by
 refine keyT_of (fun w em d x hs hx=>?_) (fun w d e x y hs he hx hy=>?_) Tryz.underlying23 (fun x y=>?_)
 ·rcases keyS_cases hs with ⟨h,_⟩|⟨h,_⟩|⟨_,a,b,rfl⟩
  ·cases h
  ·cases h
  ·cases hx
   exact check_cell w em a b
 ·rcases keyS_cases hs with ⟨h,_⟩|⟨h,_⟩|⟨_,a,b,rfl⟩
  ·cases h
  ·cases h
  ·rcases keyS_cases he with ⟨h,_⟩|⟨h,_⟩|⟨_,c,d,rfl⟩
   ·cases h
   ·cases h
   ·cases hx
    cases hy
    exact eq_cell w a b c d
 ·cases x <;> cases y <;> rfl
end Go.Proofs.YtfkjhfdpphfjhaaGreatDoor
end
section
namespace Go.Proofs.YtfkjhfdpphfjhaaGreatDoor
open Go Go.RowKit Go.EYtfkjhfdpphfjhaaGreatDoor
set_option maxRecDepth 100000
set_option maxHeartbeats 4000000
variable {gl:List (Nat×List D)}
abbrev ckD (p:Int×Int):D:=cellD p.1 p.2
abbrev mpE (ks:List (Int×Int)) (vs:List Vl):D:=.mp (ks.map ckD) (vs.map Vl.d)
theorem keys_E (ks:List (Int×Int)):∀ d ∈ ks.map ckD,keyS 3 d=true:=fun d hd=>by
 obtain ⟨p,_,rfl⟩:=List.mem_map.1 hd
 rfl
theorem ckD_inj {a b c d:Int} (h:cellD a b=cellD c d):a=c∧b=d:=by
 simp[cellD] at h
 exact h
theorem look_ev {ks:List (Int×Int)} {vs:List Vl} {ev:Int→Int→Vl} (h:MapOk ks vs ev) (c r:Int):(∃ (i:Nat),(ks.map ckD)[i]?=some (cellD c r)∧(vs.map Vl.d)[i]?=some (ev c r).d)∨(cellD c r ∉ ks.map ckD∧ev c r=⟨0,0,[]⟩):=by
 rcases h.at' c r with ⟨i,h1,h2⟩|⟨h1,h2⟩
 ·exact .inl ⟨i,by rw[List.getElem?_map,h1];rfl,by rw[List.getElem?_map,h2];rfl⟩
 ·refine .inr ⟨fun hm=>?_,h2⟩
  obtain ⟨p,hp,he⟩:=List.mem_map.1 hm
  obtain ⟨e1,e2⟩:=ckD_inj he
  exact h1 (by rw[← e1,← e2];exact hp)
theorem v_len {v:Vl} (hv:v.ok):v.s.length≤140737488355328:=by
 rcases hv.1 with h|h|h|h|h
 ·rw[h.2.2];decide
 ·rw[h.2];decide
 ·omega
 ·rw[h.2.2];decide
 ·rw[h.2.2.2];decide
section
variable (te:TypeId) (pe:Value) (hV:Has gl (glV te pe))
include hV
end
end Go.Proofs.YtfkjhfdpphfjhaaGreatDoor
end
