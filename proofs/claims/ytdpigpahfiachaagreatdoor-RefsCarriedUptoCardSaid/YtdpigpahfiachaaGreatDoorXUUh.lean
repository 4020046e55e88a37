/- Proved: a part of what the law is proved with (the reckoner, contracts of functions, plain laws). Conditions: as each says. -/
import Derived.Test.YtdpigpahfiachaaGreatDoorXIg
import Derived.Test.YtdpigpahfiachaaGreatDoorXUNf
import Derived.Test.YtdpigpahfiachaaGreatDoorXRa
import Derived.Test.YtdpigpahfiachaaGreatDoorXUUd
section
namespace Go.Proofs.YtdpigpahfiachaaGreatDoor
set_option maxRecDepth 100000
open Go Go.ChangeShapes Go.WideShapes Go.ChangeAt Go.RowKit Go.EYtdpigpahfiachaaGreatDoor
section
variable {H:Type} {enc:TypeId×Value→H} {W:World} {base:Nat} {sp:Nat→Bool} {hd:Bool}
theorem cellsOfCell:Tryz.prog.cellsOf 23=2:=by kernel_rfl
theorem cellsOfBox:Tryz.prog.cellsOf 77=4:=by kernel_rfl
theorem trodCell {f:Nat} {a b:Value} {x:DataW H×List MemPlace} (h:DataW.trod enc Tryz.prog W base sp hd f 23 [a,b]=some x):∃ c r:Int,a=.int .i64 c∧b=.int .i64 r:=by
 obtain ⟨xs,n,_,_,_,hlen,hf⟩:=DataW.trod_struct Tryz.underlying23 h
 match xs,hlen with
 | [y0,y1],_ =>
  obtain ⟨c,hc,_⟩:=DataW.trod_int Tryz.underlying3 (hf 0 _ rfl)
  obtain ⟨r,hr,_⟩:=DataW.trod_int Tryz.underlying3 (hf 1 _ rfl)
  simp[cellsOf3] at hc hr
  exact ⟨c,r,hc,hr⟩
theorem openBox {v:Value} {d:DataW H} {p:List MemPlace} {b0:Nat} (hv:Value.okWide Tryz.prog W .any b0 77 v) (h:DataW.Trod enc Tryz.prog W base sp hd 77 v d p) :
 ∃ x0 y0 x1 y1:Int,v=.agg #[.int .i64 x0,.int .i64 y0,.int .i64 x1,.int .i64 y1]:=by
 obtain ⟨cs,rfl,hsz⟩:=okWide_struct Tryz.underlying77 hv
 obtain ⟨l⟩:=cs
 match l,hsz.trans cellsOfBox with
 | [a,b,x,y],_ =>
  obtain ⟨f,hf⟩:=h
  obtain ⟨xs,n,_,_,_,hlen,hg⟩:=DataW.trod_struct Tryz.underlying77 hf
  match xs,hlen with
  | [y0,y1],_ =>
   have h0:=hg 0 _ rfl
   have h1:=hg 1 _ rfl
   have h0:DataW.trod enc Tryz.prog W base sp hd n 23 [a,b]=some y0:=by have h:=h0;change DataW.trod enc Tryz.prog W base sp hd n 23 (List.take (Tryz.prog.cellsOf 23) [a,b,x,y])=some y0 at h;rw[cellsOfCell] at h;exact h
   have h1:DataW.trod enc Tryz.prog W base sp hd n 23 [x,y]=some y1:=by have h:=h1;change DataW.trod enc Tryz.prog W base sp hd n 23 (List.take (Tryz.prog.cellsOf 23) [x,y])=some y1 at h;rw[cellsOfCell] at h;exact h
   obtain ⟨c,r,rfl,rfl⟩:=trodCell h0
   obtain ⟨c',r',rfl,rfl⟩:=trodCell h1
   exact ⟨c,r,c',r',rfl⟩
end
theorem den_box (M:Nat→Prop) (w:World) (a b c d:Int):DenD M w (boxD a b c d) (.agg #[.int .i64 a,.int .i64 b,.int .i64 c,.int .i64 d]) :=
 DenD.agg_mk (xs:=[.int .i64 a,.int .i64 b,.int .i64 c,.int .i64 d]) ⟨den_i _ _ _,den_i _ _ _,den_i _ _ _,den_i _ _ _,trivial⟩
end Go.Proofs.YtdpigpahfiachaaGreatDoor
end
section
namespace Go.Proofs.YtdpigpahfiachaaGreatDoor
open Go Go.EYtdpigpahfiachaaGreatDoor
set_option maxRecDepth 100000
set_option maxHeartbeats 4000000
variable {gl:List (Nat×List D)}
abbrev cCa (z:Bx) (dc dr:Int):Cg:=⟨4,false,0,0,dc,dr,z.a,z.b,z.c,z.d⟩
theorem rInside_d (z:Bx) (a:Rf):FnP Tryz.prog gl 135 [boxD z.a z.b z.c z.d,cellD a.c a.r] (.b (hasP z a) inferInstance):=by
 refine fnP_of_vc (nv:=9999) (cu:=[]) fits mixed Tryz.func135 rfl hoB rfl ?_
 ((repeat' ((conv=>whnf);(first|refine Fork.yes (by assumption) ?_|refine Fork.no (by assumption) ?_|refine Fork.nono (by assumption) ?_|(refine Fork.yes ?_ ?_;focus (simp[andPD];done))|(refine Fork.no ?_ ?_;focus (simp;done))|refine Fork.neg (fun _=>?_) (fun _=>?_)|refine Fork.mk (fun _=>?_) (fun _=>?_))));(all_goals (conv=>whnf)))
 all_goals first|exact LeD.bt (by omega)|exact LeD.bf (by omega)|exact LeD.b (by omega)
theorem rref_ca (z:Bx) (dc dr:Int) (a:Rf):FnP Tryz.prog gl 83 [cG (cCa z dc dr),rfD a] (rf2 (carZ z dc dr a)):=by
 have c0:=rInside_d (gl:=gl) z a
 have c1:FnP Tryz.prog gl 134 [.agg [iD a.c,iD a.r,.v (.bool false),.v (.bool false)],iD dc,iD dr] (.tup [rfD (shZ dc dr ⟨a.c,a.r,false,false⟩).1,tD (shZ dc dr ⟨a.c,a.r,false,false⟩).2]) :=
  fnP_argsL (refShift_z (gl:=gl) dc dr ⟨a.c,a.r,false,false⟩) (LeD.cons (refFF a.c a.r) (LeD.cons LeD.rfl (LeD.cons LeD.rfl LeD.nil)))
 unfold carZ
 by_cases h:hasP z a
 ·rw[if_pos h]
  unfold caP
  generalize shZ dc dr ⟨a.c,a.r,false,false⟩=y at *
  obtain ⟨⟨c,r,f,g⟩,ok⟩:=y
  obtain ⟨ac,ar,af,ag⟩:=a
  refine fnP_of_vc (nv:=9999) (cu:=[]) fits mixed Tryz.func83 rfl hoB rfl ?_
  ((repeat' ((conv=>whnf);first|exact .intro|refine .ya ?_|refine .na ?_|refine .ys ?_|refine .ns ?_|refine .neg (fun _=>?_) (fun _=>?_)|refine .mk (fun _=>?_) (fun _=>?_)|refine .inl (.inl (X1 (by first|exact c0|exact c1) ?_))|refine .inl (X1 (by first|exact c0|exact c1) ?_)|refine X1 (by first|exact c0|exact c1) ?_|refine .mk ?_ ?_|refine AK ?_|refine AT ?_|fail));all_goals conv=>whnf)
  all_goals exact LeD.rfl
 ·rw[if_neg h]
  obtain ⟨ac,ar,af,ag⟩:=a
  refine fnP_of_vc (nv:=9999) (cu:=[]) fits mixed Tryz.func83 rfl hoB rfl ?_
  ((repeat' ((conv=>whnf);first|exact .intro|refine .ya ?_|refine .na ?_|refine .ys ?_|refine .ns ?_|refine .neg (fun _=>?_) (fun _=>?_)|refine .mk (fun _=>?_) (fun _=>?_)|refine .inl (.inl (X1 (c0) ?_))|refine .inl (X1 (c0) ?_)|refine X1 (c0) ?_|refine .mk ?_ ?_|refine AK ?_|refine AT ?_|fail));all_goals conv=>whnf)
  all_goals exact LeD.tup (LeD.cons LeD.rfl (LeD.cons (le_t1 rfl) LeD.nil))
theorem rbox_ca (z:Bx) (dc dr:Int) (a b:Rf):FnP Tryz.prog gl 84 [cG (cCa z dc dr),rfD a,rfD b] (rf3 (carB z dc dr a b)):=by
 have c0:=rInside_d (gl:=gl) z a
 have c1:=rInside_d (gl:=gl) z b
 have c2:=rref_ca (gl:=gl) z dc dr a
 have c3:=rref_ca (gl:=gl) z dc dr b
 unfold carB
 by_cases h:hasP z a <;> by_cases h':hasP z b
 ·rw[if_pos ⟨h,h'⟩]
  unfold carZ at c2 c3
  rw[if_pos h] at c2
  rw[if_pos h'] at c3
  refine FnP.le (r:=.tup [rfD (caP dc dr a).1,rfD (caP dc dr b).1,andB (caP dc dr a).2 (caP dc dr b).2]) ?_ (LeD.tup (LeD.cons LeD.rfl (LeD.cons LeD.rfl (LeD.cons (andB_le _ _) LeD.nil))))
  generalize caP dc dr a=y at *
  generalize caP dc dr b=y' at *
  obtain ⟨⟨c,r,f,g⟩,ok⟩:=y
  obtain ⟨⟨c',r',f',g'⟩,ok'⟩:=y'
  obtain ⟨ac,ar,af,ag⟩:=a
  obtain ⟨bc,br,bf,bg⟩:=b
  cases ok
  all_goals refine fnP_of_vc (nv:=9999) (cu:=[]) fits mixed Tryz.func84 rfl hoB rfl ?_
  all_goals ((repeat' ((conv=>whnf);first|exact .intro|refine .ya ?_|refine .na ?_|refine .ys ?_|refine .ns ?_|refine .neg (fun _=>?_) (fun _=>?_)|refine .mk (fun _=>?_) (fun _=>?_)|refine .inl (.inl (X1 (by first|exact c0|exact c1|exact c2|exact c3) ?_))|refine .inl (X1 (by first|exact c0|exact c1|exact c2|exact c3) ?_)|refine X1 (by first|exact c0|exact c1|exact c2|exact c3) ?_|refine .mk ?_ ?_|refine AK ?_|refine AT ?_|fail));all_goals conv=>whnf)
  all_goals exact LeD.rfl
 all_goals rw[if_neg (fun hh=>by first|exact h hh.1|exact h' hh.2)]
 all_goals obtain ⟨ac,ar,af,ag⟩:=a
 all_goals obtain ⟨bc,br,bf,bg⟩:=b
 all_goals refine fnP_of_vc (nv:=9999) (cu:=[]) fits mixed Tryz.func84 rfl hoB rfl ?_
 all_goals ((repeat' ((conv=>whnf);first|exact .intro|refine .ya ?_|refine .na ?_|refine .ys ?_|refine .ns ?_|refine .neg (fun _=>?_) (fun _=>?_)|refine .mk (fun _=>?_) (fun _=>?_)|refine .inl (.inl (X1 (by first|exact c0|exact c1) ?_))|refine .inl (X1 (by first|exact c0|exact c1) ?_)|refine X1 (by first|exact c0|exact c1) ?_|refine .mk ?_ ?_|refine AK ?_|refine AT ?_|fail));all_goals conv=>whnf)
 all_goals exact LeD.tup (LeD.cons LeD.rfl (LeD.cons LeD.rfl (LeD.cons (le_t1 rfl) LeD.nil)))
theorem refG_ca (z:Bx) (dc dr:Int):RefG gl (cCa z dc dr) (carZ z dc dr) (carB z dc dr):=⟨fun a _=>rref_ca z dc dr a,fun a b _ _=>rbox_ca z dc dr a b⟩
end Go.Proofs.YtdpigpahfiachaaGreatDoor
end
section
namespace Go.Proofs.YtdpigpahfiachaaGreatDoor
open Go Go.EYtdpigpahfiachaaGreatDoor
set_option maxRecDepth 100000
set_option maxHeartbeats 4000000
variable {gl:List (Nat×List D)}
theorem RefsCarried_d (te:TypeId) (pe:Value) (hV:Has gl (glV te pe)) (hl:Go.EYtdpigpahfiachaaGreatDoor.look gl 0=some lvAll) (he:Go.EYtdpigpahfiachaaGreatDoor.look gl 1=some errT) {mx:Int} (hm:Go.EYtdpigpahfiachaaGreatDoor.look gl 3=some [iD mx]) (n:Nd) (ho:okN n) (z:Bx) (dc dr:Int):FnP Tryz.prog gl 13 [.agg n.cs,boxD z.a z.b z.c z.d,iD dc,iD dr] (.v (.bool true)):=by
 obtain ⟨rf,hR,hE⟩:=refs_ok
 have c1:=rPrint_d (gl:=gl) hR hE n ho
 have c2:=fCheck_d te pe hV hl hR hm n ho
 have c0:=refBoxed_d (gl:=gl) z.a z.b z.c z.d
 by_cases h0:(prZ rf n).2=0
 ·obtain ⟨hc,hf⟩:=prZ_ok h0
  rw[h0] at c1 c2
  change FnP Tryz.prog gl 37 [_] (.v .nilIface) at c2
  by_cases hs:boxP z.a z.b z.c z.d
  ·have c3:=ong (gl:=gl) (refG_ca z dc dr) n hf hc
   have c4:=Carried_y (gl:=gl) n z dc dr hs hc hf c2
   unfold OnG at c3
   generalize chN (carZ z dc dr) (carB z dc dr) n=nq at *
   have c5:=node_y (gl:=gl) nq he
   generalize (prZ rf n).1=s at *
   obtain ⟨k,m,t,a,b,ks⟩:=n
   obtain ⟨k',m',t',a',b',ks'⟩:=nq
   refine fnP_of_vc (nv:=9999) (cu:=[]) fits mixed Tryz.func13 rfl hoB rfl ?_
   ((repeat' ((conv=>whnf);first|exact .intro|refine .ya ?_|refine .na ?_|refine .ys ?_|refine .ns ?_|refine .neg (fun _=>?_) (fun _=>?_)|refine .mk (fun _=>?_) (fun _=>?_)|refine .inl (.inl (X1 (by first|exact c1|exact c0|exact c3|exact c4|exact c5) ?_))|refine .inl (X1 (by first|exact c1|exact c0|exact c3|exact c4|exact c5) ?_)|refine X1 (by first|exact c1|exact c0|exact c3|exact c4|exact c5) ?_|refine .mk ?_ ?_|refine AK ?_|refine AT ?_|fail));all_goals conv=>whnf)
   all_goals first|exact LeD.rfl|exact LeD.vt rfl|exact LeD.vt (by simp)
  ·have c4:=Carried_s (gl:=gl) n z dc dr hs c2
   have c5:=node_n (gl:=gl) 1 (by decide) he
   generalize (prZ rf n).1=s at *
   generalize n00=nq at *
   obtain ⟨k,m,t,a,b,ks⟩:=n
   obtain ⟨k',m',t',a',b',ks'⟩:=nq
   refine fnP_of_vc (nv:=9999) (cu:=[]) fits mixed Tryz.func13 rfl hoB rfl ?_
   ((repeat' ((conv=>whnf);first|exact .intro|refine .ya ?_|refine .na ?_|refine .ys ?_|refine .ns ?_|refine .neg (fun _=>?_) (fun _=>?_)|refine .mk (fun _=>?_) (fun _=>?_)|refine .inl (.inl (X1 (by first|exact c1|exact c0|exact c4|exact c5) ?_))|refine .inl (X1 (by first|exact c1|exact c0|exact c4|exact c5) ?_)|refine X1 (by first|exact c1|exact c0|exact c4|exact c5) ?_|refine .mk ?_ ?_|refine AK ?_|refine AT ?_|fail));all_goals conv=>whnf)
   all_goals first|exact LeD.rfl|exact LeD.vt rfl|exact LeD.vt (by simp)
 ·have c5:=node_n (gl:=gl) (prZ rf n).2 h0 he
  simp only[errD,if_neg h0] at c2
  have c4:=Carried_n (gl:=gl) n z dc dr _ c2
  generalize prZ rf n=y at *
  obtain ⟨s,e⟩:=y
  simp only at h0 c1 c2 c4 c5
  generalize n00=nq at *
  obtain ⟨k,m,t,a,b,ks⟩:=n
  obtain ⟨k',m',t',a',b',ks'⟩:=nq
  refine fnP_of_vc (nv:=9999) (cu:=[]) fits mixed Tryz.func13 rfl hoB rfl ?_
  ((repeat' ((conv=>whnf);first|exact .intro|refine .ya ?_|refine .na ?_|refine .ys ?_|refine .ns ?_|refine .neg (fun _=>?_) (fun _=>?_)|refine .mk (fun _=>?_) (fun _=>?_)|refine .inl (.inl (X1 (by first|exact c1|exact c0|exact c4|exact c5) ?_))|refine .inl (X1 (by first|exact c1|exact c0|exact c4|exact c5) ?_)|refine X1 (by first|exact c1|exact c0|exact c4|exact c5) ?_|refine .mk ?_ ?_|refine AK ?_|refine AT ?_|fail));all_goals conv=>whnf)
  all_goals first|exact LeD.rfl|exact LeD.vt rfl|exact LeD.vt (by simp)
theorem RefsCarried_g (te:TypeId) (pe:Value) (mx:Int) (n:Nd) (ho:okN n) (z:Bx) (dc dr:Int):FnP Tryz.prog (glU te pe mx) 13 [.agg n.cs,boxD z.a z.b z.c z.d,iD dc,iD dr] (.v (.bool true)) :=
 RefsCarried_d te pe (glU_has te pe mx) rfl rfl rfl n ho z dc dr
end Go.Proofs.YtdpigpahfiachaaGreatDoor
end
