/- Proved: a part of what the law is proved with (the reckoner, contracts of functions, plain laws). Conditions: as each says. -/
import Derived.Test.YtdpigpahfiachaaGreatDoorVYMc
import Derived.Test.YtdpigpahfiachaaGreatDoorVYNb
import Derived.Test.YtdpigpahfiachaaGreatDoorVPc
section
namespace Go.Proofs.YtdpigpahfiachaaGreatDoor
open Go Go.EYtdpigpahfiachaaGreatDoor
theorem fitD1:FitsOne Tryz.prog 131 ⟨false,1,8,[.v .nilFunc],[],false,none,none,0,[],false,[]⟩:=⟨by kernel_rfl,rfl,rfl,by kernel_rfl,(fun h=>by cases h),by kernel_rfl⟩
theorem fitD2:FitsOne Tryz.prog 132 ⟨false,1,8,[.v .nilFunc],[],false,none,none,0,[],false,[]⟩:=⟨by kernel_rfl,rfl,rfl,by kernel_rfl,(fun h=>by cases h),by kernel_rfl⟩
theorem fitsD:Fits Tryz.prog ((131,⟨false,1,8,[.v .nilFunc],[],false,none,none,0,[],false,[]⟩)::(132,⟨false,1,8,[.v .nilFunc],[],false,none,none,0,[],false,[]⟩)::(121,⟨false,1,8,[.v .nilFunc],[],false,none,none,0,[],false,[]⟩)::(122,⟨false,1,8,[.v .nilFunc],[],false,none,none,0,[],false,[]⟩)::(124,⟨true,2,16,[.v .nilFunc,.v .nilFunc],[(0,1),(1,1)],false,none,none,6,[],false,[]⟩)::tt) :=
 fits_cons fitD1 (fits_cons fitD2 fitsF)
end Go.Proofs.YtdpigpahfiachaaGreatDoor
end
section
namespace Go.Proofs.YtdpigpahfiachaaGreatDoor
open Go Go.EYtdpigpahfiachaaGreatDoor
abbrev gonP (p q k:Int):Prop:=k≥p∧k<IntKind.i64.wrap (p+q)
def bakI (p q k:Int):Int:=if k≥IntKind.i64.wrap (p+q) then IntKind.i64.wrap (k - q) else k
def keyZ (row:Bool) (a:Rf):Int:=match row with
 | true=>a.r
 | false=>a.c
def setZ (row:Bool) (a:Rf) (k:Int):Rf:=match row with
 | true=>⟨a.c,k,a.fc,a.fr⟩
 | false=>⟨k,a.r,a.fc,a.fr⟩
def delZ (row:Bool) (p q:Int) (a:Rf):Rf×Bool:=if gonP p q (keyZ row a) then (a,false) else (setZ row a (bakI p q (keyZ row a)),true)
def loN (p q k:Int):Int:=if gonP p q k then IntKind.i64.wrap (p+q) else k
def hiN (p q k:Int):Int:=if gonP p q k then IntKind.i64.wrap (p - 1) else k
def loI (p q k:Int):Int:=bakI p q (loN p q k)
def hiI (p q k:Int):Int:=bakI p q (hiN p q k)
def delB (row:Bool) (p q:Int) (a b:Rf):Rf×Rf×Bool :=
 if keyZ row a>keyZ row b then (if gonP p q (keyZ row b)∧gonP p q (keyZ row a) then (a,b,false) else (setZ row a (hiI p q (keyZ row a)),setZ row b (loI p q (keyZ row b)),true))
 else (if gonP p q (keyZ row a)∧gonP p q (keyZ row b) then (a,b,false) else (setZ row a (loI p q (keyZ row a)),setZ row b (hiI p q (keyZ row b)),true))
theorem lo_y {p q k:Int} (h:gonP p q k):loI p q k=bakI p q (IntKind.i64.wrap (p+q)):=by unfold loI loN;rw[if_pos h]
theorem lo_n {p q k:Int} (h:¬ gonP p q k):loI p q k=bakI p q k:=by unfold loI loN;rw[if_neg h]
theorem hi_y {p q k:Int} (h:gonP p q k):hiI p q k=bakI p q (IntKind.i64.wrap (p - 1)):=by unfold hiI hiN;rw[if_pos h]
theorem hi_n {p q k:Int} (h:¬ gonP p q k):hiI p q k=bakI p q k:=by unfold hiI hiN;rw[if_neg h]
theorem delB_tn {row:Bool} {p q:Int} {a b:Rf} (h:keyZ row a>keyZ row b) (hg:gonP p q (keyZ row b)∧gonP p q (keyZ row a)):delB row p q a b=(a,b,false):=by unfold delB;rw[if_pos h,if_pos hg]
theorem delB_ty {row:Bool} {p q:Int} {a b:Rf} (h:keyZ row a>keyZ row b) (hg:¬ (gonP p q (keyZ row b)∧gonP p q (keyZ row a))):delB row p q a b=(setZ row a (hiI p q (keyZ row a)),setZ row b (loI p q (keyZ row b)),true):=by unfold delB;rw[if_pos h,if_neg hg]
theorem delB_n {row:Bool} {p q:Int} {a b:Rf} (h:¬ keyZ row a>keyZ row b) (hg:gonP p q (keyZ row a)∧gonP p q (keyZ row b)):delB row p q a b=(a,b,false):=by unfold delB;rw[if_neg h,if_pos hg]
theorem delB_y {row:Bool} {p q:Int} {a b:Rf} (h:¬ keyZ row a>keyZ row b) (hg:¬ (gonP p q (keyZ row a)∧gonP p q (keyZ row b))):delB row p q a b=(setZ row a (loI p q (keyZ row a)),setZ row b (hiI p q (keyZ row b)),true):=by unfold delB;rw[if_neg h,if_neg hg]
end Go.Proofs.YtdpigpahfiachaaGreatDoor
end
section
namespace Go.Proofs.YtdpigpahfiachaaGreatDoor
open Go Go.EYtdpigpahfiachaaGreatDoor
set_option maxRecDepth 100000
set_option maxHeartbeats 4000000
variable {gl:List (Nat×List D)}
theorem fn_leC {P:Program} {g:Nat} {vs:List V} {H:List (Nat×Blk)} {n:Nat} {d d':D} {H':List (Nat×Blk)} {n':Nat} {mv:List Nat} (hF:Go.EYtdpigpahfiachaaGreatDoor.Fn P gl g vs H n (.ret (.c (.d d))) H' n' mv) (hd:LeD d d'):Go.EYtdpigpahfiachaaGreatDoor.Fn P gl g vs H n (.ret (.c (.d d'))) H' n' mv:=fn_mono hF fun adr M w e h=>by
 obtain ⟨y,rfl,h⟩:=h
 exact ⟨_,rfl,hd.1 _ _ _ h⟩
abbrev gnD (p q k:Int):D:=.b (gonP p q k) inferInstance
theorem gone_b (p q k:Int):Go.EYtdpigpahfiachaaGreatDoor.Fn Tryz.prog gl 76 [.c (.d (iD k)),.c (.ptr 0 0),.c (.ptr 1 0)] [(0,inB1 p),(1,inB1 q)] 2 (.ret (.c (.d (gnD p q k)))) [(0,inB1 p),(1,inB1 q)] 2 []:=by
 by_cases h:k≥p
 ·refine fn_leC (d:=.b (k<IntKind.i64.wrap (p+q)) inferInstance) ?_ (LeD.b ⟨fun h2=>⟨h,h2⟩,fun h2=>h2.2⟩)
  refine fn_of_vc (nv:=9999) (cu:=[]) fitsD mixed Tryz.func76 rfl hoB rfl rfl rfl rfl ?_
  ((repeat' ((conv=>whnf);first|exact .intro|refine .ya ?_|refine .na ?_|refine .ys ?_|refine .ns ?_|refine .neg (fun _=>?_) (fun _=>?_)|refine .mk (fun _=>?_) (fun _=>?_)|refine .mk ?_ ?_|refine AK ?_|refine AT ?_|fail));all_goals conv=>whnf)
  all_goals ((repeat' first|exact rfl|((conv=>whnf);first|done|exact suL|refine And.intro ?_ ?_|fail));all_goals conv=>whnf)
 ·refine fn_leC (d:=.v (.bool false)) ?_ (LeD.bf fun h2=>h h2.1)
  refine fn_of_vc (nv:=9999) (cu:=[]) fitsD mixed Tryz.func76 rfl hoB rfl rfl rfl rfl ?_
  ((repeat' ((conv=>whnf);first|exact .intro|refine .ya ?_|refine .na ?_|refine .ys ?_|refine .ns ?_|refine .neg (fun _=>?_) (fun _=>?_)|refine .mk (fun _=>?_) (fun _=>?_)|refine .mk ?_ ?_|refine AK ?_|refine AT ?_|fail));all_goals conv=>whnf)
  all_goals ((repeat' first|exact rfl|((conv=>whnf);first|done|exact suL|refine And.intro ?_ ?_|fail));all_goals conv=>whnf)
theorem bak_y {p q k:Int} (h:k≥IntKind.i64.wrap (p+q)):bakI p q k=IntKind.i64.wrap (k - q):=if_pos h
theorem bak_n {p q k:Int} (h:¬ k≥IntKind.i64.wrap (p+q)):bakI p q k=k:=if_neg h
theorem back_c (p q:Int) (a:Rf):Go.EYtdpigpahfiachaaGreatDoor.Fn Tryz.prog gl 77 [.c (.ptr 0 0),.c (.ptr 1 0),.c (.ptr 2 0)] [(0,rfB a),(1,inB1 p),(2,inB1 q)] 3 (.ret (.tup [])) [(0,rfB ⟨bakI p q a.c,a.r,a.fc,a.fr⟩),(1,inB1 p),(2,inB1 q)] 3 []:=by
 obtain ⟨c,r,f,g⟩:=a
 by_cases h:c≥IntKind.i64.wrap (p+q)
 ·simp only[bak_y h]
  refine fn_of_vc (nv:=9999) (cu:=[]) fitsD mixed Tryz.func77 rfl hoB rfl rfl rfl rfl ?_
  ((repeat' ((conv=>whnf);first|exact .intro|refine .ya ?_|refine .na ?_|refine .ys ?_|refine .ns ?_|refine .neg (fun _=>?_) (fun _=>?_)|refine .mk (fun _=>?_) (fun _=>?_)|refine .mk ?_ ?_|refine AK ?_|refine AT ?_|fail));all_goals conv=>whnf)
  all_goals ((repeat' first|exact rfl|((conv=>whnf);first|done|exact suL|refine And.intro ?_ ?_|fail));all_goals conv=>whnf)
 ·simp only[bak_n h]
  refine fn_of_vc (nv:=9999) (cu:=[]) fitsD mixed Tryz.func77 rfl hoB rfl rfl rfl rfl ?_
  ((repeat' ((conv=>whnf);first|exact .intro|refine .ya ?_|refine .na ?_|refine .ys ?_|refine .ns ?_|refine .neg (fun _=>?_) (fun _=>?_)|refine .mk (fun _=>?_) (fun _=>?_)|refine .mk ?_ ?_|refine AK ?_|refine AT ?_|fail));all_goals conv=>whnf)
  all_goals ((repeat' first|exact rfl|((conv=>whnf);first|done|exact suL|refine And.intro ?_ ?_|fail));all_goals conv=>whnf)
theorem back_r (p q:Int) (a:Rf):Go.EYtdpigpahfiachaaGreatDoor.Fn Tryz.prog gl 77 [.c (.ptr 0 1),.c (.ptr 1 0),.c (.ptr 2 0)] [(0,rfB a),(1,inB1 p),(2,inB1 q)] 3 (.ret (.tup [])) [(0,rfB ⟨a.c,bakI p q a.r,a.fc,a.fr⟩),(1,inB1 p),(2,inB1 q)] 3 []:=by
 obtain ⟨c,r,f,g⟩:=a
 by_cases h:r≥IntKind.i64.wrap (p+q)
 ·simp only[bak_y h]
  refine fn_of_vc (nv:=9999) (cu:=[]) fitsD mixed Tryz.func77 rfl hoB rfl rfl rfl rfl ?_
  ((repeat' ((conv=>whnf);first|exact .intro|refine .ya ?_|refine .na ?_|refine .ys ?_|refine .ns ?_|refine .neg (fun _=>?_) (fun _=>?_)|refine .mk (fun _=>?_) (fun _=>?_)|refine .mk ?_ ?_|refine AK ?_|refine AT ?_|fail));all_goals conv=>whnf)
  all_goals ((repeat' first|exact rfl|((conv=>whnf);first|done|exact suL|refine And.intro ?_ ?_|fail));all_goals conv=>whnf)
 ·simp only[bak_n h]
  refine fn_of_vc (nv:=9999) (cu:=[]) fitsD mixed Tryz.func77 rfl hoB rfl rfl rfl rfl ?_
  ((repeat' ((conv=>whnf);first|exact .intro|refine .ya ?_|refine .na ?_|refine .ys ?_|refine .ns ?_|refine .neg (fun _=>?_) (fun _=>?_)|refine .mk (fun _=>?_) (fun _=>?_)|refine .mk ?_ ?_|refine AK ?_|refine AT ?_|fail));all_goals conv=>whnf)
  all_goals ((repeat' first|exact rfl|((conv=>whnf);first|done|exact suL|refine And.intro ?_ ?_|fail));all_goals conv=>whnf)
abbrev deH (row:Bool) (p q:Int):List (Nat×Blk):=[(0,boB row),(1,inB1 p),(2,inB1 q),(3,.var [.fn 76 [(1,0),(2,0)]] 131),(4,.var [.fn 77 [(1,0),(2,0)]] 132)]
theorem del_rz (row:Bool) (p q:Int) (a:Rf):Go.EYtdpigpahfiachaaGreatDoor.Fn Tryz.prog gl 78 [.agg (rfC a),.c (.ptr 0 0),.c (.ptr 3 0),.c (.ptr 4 0)] (deH row p q) 5 (.ret (.tup [(true,rfC (delZ row p q a).1),(false,[.d (tD (delZ row p q a).2)])])) (deH row p q) 5 []:=by
 have k1:=along_y (gl:=gl) a
 have k2:=along_n (gl:=gl) a
 have g1:=gone_b (gl:=gl) p q a.r
 have g2:=gone_b (gl:=gl) p q a.c
 have b1:=back_r (gl:=gl) p q a
 have b2:=back_c (gl:=gl) p q a
 unfold delZ
 cases row
 ·change Go.EYtdpigpahfiachaaGreatDoor.Fn _ _ _ _ _ _ (.ret (.tup [(true,rfC (if gonP p q a.c then (a,false) else (⟨bakI p q a.c,a.r,a.fc,a.fr⟩,true)).1),(false,[.d (tD (if gonP p q a.c then (a,false) else (⟨bakI p q a.c,a.r,a.fc,a.fr⟩,true)).2)])])) _ _ _
  obtain ⟨c,r,f,g⟩:=a
  by_cases h:gonP p q c
  ·rw[if_pos h]
   refine fn_leT1 (d:=.v (.bool false)) ?_ (le_t0 (by simp))
   refine fn_of_vc (nv:=9999) (cu:=[]) fitsD mixed Tryz.func78 rfl hoB rfl rfl rfl rfl ?_
   ((repeat' ((conv=>whnf);first|exact .intro|refine .ya ?_|refine .na ?_|refine .ys ?_|refine .ns ?_|refine .neg (fun _=>?_) (fun _=>?_)|refine .mk (fun _=>?_) (fun _=>?_)|refine .inr (X5 (k2.r [5] _) ?_)|refine .inl (.inr (X5 (k2.r [5] _) ?_))|refine .inl (X5 (k2.r [5] _) ?_)|refine .inr (X5 (g2.r [1,2] _) ?_)|refine .inl (.inr (X5 (g2.r [1,2] _) ?_))|refine .inl (X5 (g2.r [1,2] _) ?_)|refine .inr (X5 (b2.r [5,1,2] _) ?_)|refine .inl (.inr (X5 (b2.r [5,1,2] _) ?_))|refine .inl (X5 (b2.r [5,1,2] _) ?_)|refine .mk ?_ ?_|refine AK ?_|refine AT ?_|fail));all_goals conv=>whnf)
   all_goals ((repeat' first|exact rfl|((conv=>whnf);first|done|exact suL|refine And.intro ?_ ?_|fail));all_goals conv=>whnf)
  ·rw[if_neg h]
   refine fn_leT1 (d:=.v (.bool true)) ?_ (le_t1 (by simp))
   refine fn_of_vc (nv:=9999) (cu:=[]) fitsD mixed Tryz.func78 rfl hoB rfl rfl rfl rfl ?_
   ((repeat' ((conv=>whnf);first|exact .intro|refine .ya ?_|refine .na ?_|refine .ys ?_|refine .ns ?_|refine .neg (fun _=>?_) (fun _=>?_)|refine .mk (fun _=>?_) (fun _=>?_)|refine .inr (X5 (k2.r [5] _) ?_)|refine .inl (.inr (X5 (k2.r [5] _) ?_))|refine .inl (X5 (k2.r [5] _) ?_)|refine .inr (X5 (g2.r [1,2] _) ?_)|refine .inl (.inr (X5 (g2.r [1,2] _) ?_))|refine .inl (X5 (g2.r [1,2] _) ?_)|refine .inr (X5 (b2.r [5,1,2] _) ?_)|refine .inl (.inr (X5 (b2.r [5,1,2] _) ?_))|refine .inl (X5 (b2.r [5,1,2] _) ?_)|refine .mk ?_ ?_|refine AK ?_|refine AT ?_|fail));all_goals conv=>whnf)
   all_goals ((repeat' first|exact rfl|((conv=>whnf);first|done|exact suL|refine And.intro ?_ ?_|fail));all_goals conv=>whnf)
 ·change Go.EYtdpigpahfiachaaGreatDoor.Fn _ _ _ _ _ _ (.ret (.tup [(true,rfC (if gonP p q a.r then (a,false) else (⟨a.c,bakI p q a.r,a.fc,a.fr⟩,true)).1),(false,[.d (tD (if gonP p q a.r then (a,false) else (⟨a.c,bakI p q a.r,a.fc,a.fr⟩,true)).2)])])) _ _ _
  obtain ⟨c,r,f,g⟩:=a
  by_cases h:gonP p q r
  ·rw[if_pos h]
   refine fn_leT1 (d:=.v (.bool false)) ?_ (le_t0 (by simp))
   refine fn_of_vc (nv:=9999) (cu:=[]) fitsD mixed Tryz.func78 rfl hoB rfl rfl rfl rfl ?_
   ((repeat' ((conv=>whnf);first|exact .intro|refine .ya ?_|refine .na ?_|refine .ys ?_|refine .ns ?_|refine .neg (fun _=>?_) (fun _=>?_)|refine .mk (fun _=>?_) (fun _=>?_)|refine .inr (X5 (k1.r [5] _) ?_)|refine .inl (.inr (X5 (k1.r [5] _) ?_))|refine .inl (X5 (k1.r [5] _) ?_)|refine .inr (X5 (g1.r [1,2] _) ?_)|refine .inl (.inr (X5 (g1.r [1,2] _) ?_))|refine .inl (X5 (g1.r [1,2] _) ?_)|refine .inr (X5 (b1.r [5,1,2] _) ?_)|refine .inl (.inr (X5 (b1.r [5,1,2] _) ?_))|refine .inl (X5 (b1.r [5,1,2] _) ?_)|refine .mk ?_ ?_|refine AK ?_|refine AT ?_|fail));all_goals conv=>whnf)
   all_goals ((repeat' first|exact rfl|((conv=>whnf);first|done|exact suL|refine And.intro ?_ ?_|fail));all_goals conv=>whnf)
  ·rw[if_neg h]
   refine fn_leT1 (d:=.v (.bool true)) ?_ (le_t1 (by simp))
   refine fn_of_vc (nv:=9999) (cu:=[]) fitsD mixed Tryz.func78 rfl hoB rfl rfl rfl rfl ?_
   ((repeat' ((conv=>whnf);first|exact .intro|refine .ya ?_|refine .na ?_|refine .ys ?_|refine .ns ?_|refine .neg (fun _=>?_) (fun _=>?_)|refine .mk (fun _=>?_) (fun _=>?_)|refine .inr (X5 (k1.r [5] _) ?_)|refine .inl (.inr (X5 (k1.r [5] _) ?_))|refine .inl (X5 (k1.r [5] _) ?_)|refine .inr (X5 (g1.r [1,2] _) ?_)|refine .inl (.inr (X5 (g1.r [1,2] _) ?_))|refine .inl (X5 (g1.r [1,2] _) ?_)|refine .inr (X5 (b1.r [5,1,2] _) ?_)|refine .inl (.inr (X5 (b1.r [5,1,2] _) ?_))|refine .inl (X5 (b1.r [5,1,2] _) ?_)|refine .mk ?_ ?_|refine AK ?_|refine AT ?_|fail));all_goals conv=>whnf)
   all_goals ((repeat' first|exact rfl|((conv=>whnf);first|done|exact suL|refine And.intro ?_ ?_|fail));all_goals conv=>whnf)
end Go.Proofs.YtdpigpahfiachaaGreatDoor
end
