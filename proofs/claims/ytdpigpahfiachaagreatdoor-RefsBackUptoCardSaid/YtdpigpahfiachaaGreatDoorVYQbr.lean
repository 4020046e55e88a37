/- Proved: a part of what the law is proved with (the reckoner, contracts of functions, plain laws). Conditions: as each says. -/
import Derived.Test.YtdpigpahfiachaaGreatDoorVYQa
section
namespace Go.Proofs.YtdpigpahfiachaaGreatDoor
open Go Go.EYtdpigpahfiachaaGreatDoor
set_option maxRecDepth 100000
set_option maxHeartbeats 4000000
variable {gl:List (Nat×List D)}
abbrev DelBx (gl:List (Nat×List D)) (row:Bool) (p q:Int) (a b:Rf) (z:Rf×Rf×Bool):Prop:=Go.EYtdpigpahfiachaaGreatDoor.Fn Tryz.prog gl 79 [.agg (rfC a),.agg (rfC b),.c (.ptr 0 0),.c (.ptr 3 0),.c (.ptr 1 0),.c (.ptr 2 0),.c (.ptr 4 0)] (deH row p q) 5 (.ret (.tup [(true,rfC z.1),(true,rfC z.2.1),(false,[.d (tD z.2.2)])])) (deH row p q) 5 []
theorem del_bc (p q ac ar bc br:Int) (af ag bf bg:Bool):DelBx gl false p q ⟨ac,ar,af,ag⟩ ⟨bc,br,bf,bg⟩ (delB false p q ⟨ac,ar,af,ag⟩ ⟨bc,br,bf,bg⟩):=by
 have ka:=along_n (gl:=gl) ⟨ac,ar,af,ag⟩
 have kb:=along_n (gl:=gl) ⟨bc,br,bf,bg⟩
 have ga:=gone_b (gl:=gl) p q ac
 have gb:=gone_b (gl:=gl) p q bc
 have a1:=back_c (gl:=gl) p q ⟨IntKind.i64.wrap (p+q),ar,af,ag⟩
 have a2:=back_c (gl:=gl) p q ⟨IntKind.i64.wrap (p - 1),ar,af,ag⟩
 have a3:=back_c (gl:=gl) p q ⟨ac,ar,af,ag⟩
 have b1:=back_c (gl:=gl) p q ⟨IntKind.i64.wrap (p+q),br,bf,bg⟩
 have b2:=back_c (gl:=gl) p q ⟨IntKind.i64.wrap (p - 1),br,bf,bg⟩
 have b3:=back_c (gl:=gl) p q ⟨bc,br,bf,bg⟩
 have tn:=delB_tn (row:=false) (p:=p) (q:=q) (a:=⟨ac,ar,af,ag⟩) (b:=⟨bc,br,bf,bg⟩)
 have ty:=delB_ty (row:=false) (p:=p) (q:=q) (a:=⟨ac,ar,af,ag⟩) (b:=⟨bc,br,bf,bg⟩)
 have nn:=delB_n (row:=false) (p:=p) (q:=q) (a:=⟨ac,ar,af,ag⟩) (b:=⟨bc,br,bf,bg⟩)
 have ny:=delB_y (row:=false) (p:=p) (q:=q) (a:=⟨ac,ar,af,ag⟩) (b:=⟨bc,br,bf,bg⟩)
 change ac>bc→_→_=((⟨hiI p q ac,ar,af,ag⟩:Rf),(⟨loI p q bc,br,bf,bg⟩:Rf),true) at ty
 change ¬ ac>bc→_→_=((⟨loI p q ac,ar,af,ag⟩:Rf),(⟨hiI p q bc,br,bf,bg⟩:Rf),true) at ny
 change ac>bc→_ at tn
 change ¬ ac>bc→_ at nn
 by_cases hs:ac>bc <;> by_cases h1:gonP p q ac <;> by_cases h2:gonP p q bc
 all_goals first
  | (rw[tn hs ⟨h2,h1⟩];refine fn_leT2 (d:=.v (.bool false)) ?_ (le_t0 (by simp)))
  | (rw[nn hs ⟨h1,h2⟩];refine fn_leT2 (d:=.v (.bool false)) ?_ (le_t0 (by simp)))
  | (rw[ty hs (fun h=>by first|exact h2 h.1|exact h1 h.2)];(first|rw[hi_y h1]|rw[hi_n h1]);(first|rw[lo_y h2]|rw[lo_n h2]);refine fn_leT2 (d:=.v (.bool true)) ?_ (le_t1 rfl))
  | (rw[ny hs (fun h=>by first|exact h1 h.1|exact h2 h.2)];(first|rw[lo_y h1]|rw[lo_n h1]);(first|rw[hi_y h2]|rw[hi_n h2]);refine fn_leT2 (d:=.v (.bool true)) ?_ (le_t1 rfl))
 all_goals
  clear tn ty nn ny
  refine fn_of_vc (nv:=9999) (cu:=[100001,2,100004]) fitsD mixed Tryz.func79 rfl hoB rfl rfl rfl rfl ?_
  ((repeat' ((conv=>whnf);first|exact .intro|refine .ya ?_|refine .na ?_|refine .ys ?_|refine .ns ?_|refine .neg (fun _=>?_) (fun _=>?_)|refine .mk (fun _=>?_) (fun _=>?_)|refine .mk ?_ ?_|refine AK ?_|refine AT ?_|fail));all_goals conv=>whnf)
  refine ⟨{ σ:=Unit,fr:=fun _=>[(12,.c (.ptr 5 0)),(13,.c (.ptr 6 0))],ks:=[],L:=fun _=>[],ex:=0,I:=fun _=>True,μ:=fun _=>0 },?_,fun _ _=>?_⟩
  ·((repeat' ((conv=>whnf);first|exact .intro|refine .ya ?_|refine .na ?_|refine .ys ?_|refine .ns ?_|refine .neg (fun _=>?_) (fun _=>?_)|refine .mk (fun _=>?_) (fun _=>?_)|refine .inr (X5 (ka.r [5] _) ?_)|refine .inl (.inr (X5 (ka.r [5] _) ?_))|refine .inl (X5 (ka.r [5] _) ?_)|refine .inr (X5 (kb.r [6] _) ?_)|refine .inl (.inr (X5 (kb.r [6] _) ?_))|refine .inl (X5 (kb.r [6] _) ?_)|refine .mk ?_ ?_|refine AK ?_|refine AT ?_|fail));all_goals conv=>whnf)
   all_goals refine ⟨(),trivial,?_⟩
   all_goals ((repeat' first|exact rfl|((conv=>whnf);first|done|exact suL|refine And.intro ?_ ?_|fail));all_goals conv=>whnf)
  ·((repeat' ((conv=>whnf);first|exact .intro|refine .ya ?_|refine .na ?_|refine .ys ?_|refine .ns ?_|refine .neg (fun _=>?_) (fun _=>?_)|refine .mk (fun _=>?_) (fun _=>?_)|refine .inr (X5 (ga.r [1,2] _) ?_)|refine .inl (.inr (X5 (ga.r [1,2] _) ?_))|refine .inl (X5 (ga.r [1,2] _) ?_)|refine .inr (X5 (gb.r [1,2] _) ?_)|refine .inl (.inr (X5 (gb.r [1,2] _) ?_))|refine .inl (X5 (gb.r [1,2] _) ?_)|refine .inr (X5 (a3.r [5,1,2] _) ?_)|refine .inl (.inr (X5 (a3.r [5,1,2] _) ?_))|refine .inl (X5 (a3.r [5,1,2] _) ?_)|refine .inr (X5 (b3.r [6,1,2] _) ?_)|refine .inl (.inr (X5 (b3.r [6,1,2] _) ?_))|refine .inl (X5 (b3.r [6,1,2] _) ?_)|refine .inr (X5 (a1.r [5,1,2] _) ?_)|refine .inl (.inr (X5 (a1.r [5,1,2] _) ?_))|refine .inl (X5 (a1.r [5,1,2] _) ?_)|refine .inr (X5 (b1.r [6,1,2] _) ?_)|refine .inl (.inr (X5 (b1.r [6,1,2] _) ?_))|refine .inl (X5 (b1.r [6,1,2] _) ?_)|refine .inr (X5 (a2.r [5,1,2] _) ?_)|refine .inl (.inr (X5 (a2.r [5,1,2] _) ?_))|refine .inl (X5 (a2.r [5,1,2] _) ?_)|refine .inr (X5 (b2.r [6,1,2] _) ?_)|refine .inl (.inr (X5 (b2.r [6,1,2] _) ?_))|refine .inl (X5 (b2.r [6,1,2] _) ?_)|refine .mk ?_ ?_|refine AK ?_|refine AT ?_|fail));all_goals conv=>whnf)
   all_goals ((repeat' first|exact rfl|((conv=>whnf);first|done|exact suL|refine And.intro ?_ ?_|fail));all_goals conv=>whnf)
end Go.Proofs.YtdpigpahfiachaaGreatDoor
end
section
namespace Go.Proofs.YtdpigpahfiachaaGreatDoor
open Go Go.EYtdpigpahfiachaaGreatDoor
set_option maxRecDepth 100000
set_option maxHeartbeats 4000000
variable {gl:List (Nat×List D)}
theorem del_br (p q ac ar bc br:Int) (af ag bf bg:Bool):DelBx gl true p q ⟨ac,ar,af,ag⟩ ⟨bc,br,bf,bg⟩ (delB true p q ⟨ac,ar,af,ag⟩ ⟨bc,br,bf,bg⟩):=by
 have ka:=along_y (gl:=gl) ⟨ac,ar,af,ag⟩
 have kb:=along_y (gl:=gl) ⟨bc,br,bf,bg⟩
 have ga:=gone_b (gl:=gl) p q ar
 have gb:=gone_b (gl:=gl) p q br
 have a1:=back_r (gl:=gl) p q ⟨ac,IntKind.i64.wrap (p+q),af,ag⟩
 have a2:=back_r (gl:=gl) p q ⟨ac,IntKind.i64.wrap (p - 1),af,ag⟩
 have a3:=back_r (gl:=gl) p q ⟨ac,ar,af,ag⟩
 have b1:=back_r (gl:=gl) p q ⟨bc,IntKind.i64.wrap (p+q),bf,bg⟩
 have b2:=back_r (gl:=gl) p q ⟨bc,IntKind.i64.wrap (p - 1),bf,bg⟩
 have b3:=back_r (gl:=gl) p q ⟨bc,br,bf,bg⟩
 have tn:=delB_tn (row:=true) (p:=p) (q:=q) (a:=⟨ac,ar,af,ag⟩) (b:=⟨bc,br,bf,bg⟩)
 have ty:=delB_ty (row:=true) (p:=p) (q:=q) (a:=⟨ac,ar,af,ag⟩) (b:=⟨bc,br,bf,bg⟩)
 have nn:=delB_n (row:=true) (p:=p) (q:=q) (a:=⟨ac,ar,af,ag⟩) (b:=⟨bc,br,bf,bg⟩)
 have ny:=delB_y (row:=true) (p:=p) (q:=q) (a:=⟨ac,ar,af,ag⟩) (b:=⟨bc,br,bf,bg⟩)
 change ar>br→_→_=((⟨ac,hiI p q ar,af,ag⟩:Rf),(⟨bc,loI p q br,bf,bg⟩:Rf),true) at ty
 change ¬ ar>br→_→_=((⟨ac,loI p q ar,af,ag⟩:Rf),(⟨bc,hiI p q br,bf,bg⟩:Rf),true) at ny
 change ar>br→_ at tn
 change ¬ ar>br→_ at nn
 by_cases hs:ar>br <;> by_cases h1:gonP p q ar <;> by_cases h2:gonP p q br
 all_goals first
  | (rw[tn hs ⟨h2,h1⟩];refine fn_leT2 (d:=.v (.bool false)) ?_ (le_t0 (by simp)))
  | (rw[nn hs ⟨h1,h2⟩];refine fn_leT2 (d:=.v (.bool false)) ?_ (le_t0 (by simp)))
  | (rw[ty hs (fun h=>by first|exact h2 h.1|exact h1 h.2)];(first|rw[hi_y h1]|rw[hi_n h1]);(first|rw[lo_y h2]|rw[lo_n h2]);refine fn_leT2 (d:=.v (.bool true)) ?_ (le_t1 rfl))
  | (rw[ny hs (fun h=>by first|exact h1 h.1|exact h2 h.2)];(first|rw[lo_y h1]|rw[lo_n h1]);(first|rw[hi_y h2]|rw[hi_n h2]);refine fn_leT2 (d:=.v (.bool true)) ?_ (le_t1 rfl))
 all_goals
  clear tn ty nn ny
  refine fn_of_vc (nv:=9999) (cu:=[100001,2,100004]) fitsD mixed Tryz.func79 rfl hoB rfl rfl rfl rfl ?_
  ((repeat' ((conv=>whnf);first|exact .intro|refine .ya ?_|refine .na ?_|refine .ys ?_|refine .ns ?_|refine .neg (fun _=>?_) (fun _=>?_)|refine .mk (fun _=>?_) (fun _=>?_)|refine .mk ?_ ?_|refine AK ?_|refine AT ?_|fail));all_goals conv=>whnf)
  refine ⟨{ σ:=Unit,fr:=fun _=>[(12,.c (.ptr 5 1)),(13,.c (.ptr 6 1))],ks:=[],L:=fun _=>[],ex:=0,I:=fun _=>True,μ:=fun _=>0 },?_,fun _ _=>?_⟩
  ·((repeat' ((conv=>whnf);first|exact .intro|refine .ya ?_|refine .na ?_|refine .ys ?_|refine .ns ?_|refine .neg (fun _=>?_) (fun _=>?_)|refine .mk (fun _=>?_) (fun _=>?_)|refine .inr (X5 (ka.r [5] _) ?_)|refine .inl (.inr (X5 (ka.r [5] _) ?_))|refine .inl (X5 (ka.r [5] _) ?_)|refine .inr (X5 (kb.r [6] _) ?_)|refine .inl (.inr (X5 (kb.r [6] _) ?_))|refine .inl (X5 (kb.r [6] _) ?_)|refine .mk ?_ ?_|refine AK ?_|refine AT ?_|fail));all_goals conv=>whnf)
   all_goals refine ⟨(),trivial,?_⟩
   all_goals ((repeat' first|exact rfl|((conv=>whnf);first|done|exact suL|refine And.intro ?_ ?_|fail));all_goals conv=>whnf)
  ·((repeat' ((conv=>whnf);first|exact .intro|refine .ya ?_|refine .na ?_|refine .ys ?_|refine .ns ?_|refine .neg (fun _=>?_) (fun _=>?_)|refine .mk (fun _=>?_) (fun _=>?_)|refine .inr (X5 (ga.r [1,2] _) ?_)|refine .inl (.inr (X5 (ga.r [1,2] _) ?_))|refine .inl (X5 (ga.r [1,2] _) ?_)|refine .inr (X5 (gb.r [1,2] _) ?_)|refine .inl (.inr (X5 (gb.r [1,2] _) ?_))|refine .inl (X5 (gb.r [1,2] _) ?_)|refine .inr (X5 (a3.r [5,1,2] _) ?_)|refine .inl (.inr (X5 (a3.r [5,1,2] _) ?_))|refine .inl (X5 (a3.r [5,1,2] _) ?_)|refine .inr (X5 (b3.r [6,1,2] _) ?_)|refine .inl (.inr (X5 (b3.r [6,1,2] _) ?_))|refine .inl (X5 (b3.r [6,1,2] _) ?_)|refine .inr (X5 (a1.r [5,1,2] _) ?_)|refine .inl (.inr (X5 (a1.r [5,1,2] _) ?_))|refine .inl (X5 (a1.r [5,1,2] _) ?_)|refine .inr (X5 (b1.r [6,1,2] _) ?_)|refine .inl (.inr (X5 (b1.r [6,1,2] _) ?_))|refine .inl (X5 (b1.r [6,1,2] _) ?_)|refine .inr (X5 (a2.r [5,1,2] _) ?_)|refine .inl (.inr (X5 (a2.r [5,1,2] _) ?_))|refine .inl (X5 (a2.r [5,1,2] _) ?_)|refine .inr (X5 (b2.r [6,1,2] _) ?_)|refine .inl (.inr (X5 (b2.r [6,1,2] _) ?_))|refine .inl (X5 (b2.r [6,1,2] _) ?_)|refine .mk ?_ ?_|refine AK ?_|refine AT ?_|fail));all_goals conv=>whnf)
   all_goals ((repeat' first|exact rfl|((conv=>whnf);first|done|exact suL|refine And.intro ?_ ?_|fail));all_goals conv=>whnf)
theorem del_bz (row:Bool) (p q:Int) (a b:Rf):DelBx gl row p q a b (delB row p q a b):=by
 cases row
 ·exact del_bc p q a.c a.r b.c b.r a.fc a.fr b.fc b.fr
 ·exact del_br p q a.c a.r b.c b.r a.fc a.fr b.fc b.fr
end Go.Proofs.YtdpigpahfiachaaGreatDoor
end
