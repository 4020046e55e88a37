/- Proved: a part of what the law is proved with (the reckoner, contracts of functions, plain laws). Conditions: as each says. -/
import Derived.Test.YtdpigpahfiachaaGreatDoorVKd
import Derived.Test.YtdpigpahfiachaaGreatDoorVKk
import Derived.Test.YtdpigpahfiachaaGreatDoorVYMc
import Derived.Test.YtdpigpahfiachaaGreatDoorVPc
section
namespace Go.Proofs.YtdpigpahfiachaaGreatDoor
open Go Go.EYtdpigpahfiachaaGreatDoor
set_option maxRecDepth 100000
set_option maxHeartbeats 4000000
variable {gl:List (Nat×List D)}
theorem Moved_y (n:Nd) (dc dr:Int) (hc:cntN n≤200) (hf:frmN n False) (c1:FnP Tryz.prog gl 37 [.agg n.cs] (.v .nilIface)):FnP Tryz.prog gl 36 [.agg n.cs,iD dc,iD dr] (.tup [.agg (chN (shZ dc dr) (bxZ (shZ dc dr)) n).cs,.v .nilIface]):=by
 have c2:=mov_each (gl:=gl) dc dr
 have c3:=on_mv (gl:=gl) dc dr n hf hc
 unfold OnMv at c3
 generalize chN (shZ dc dr) (bxZ (shZ dc dr)) n=n' at *
 obtain ⟨k,m,t,a,b,ks⟩:=n
 obtain ⟨k',m',t',a',b',ks'⟩:=n'
 refine fnP_of_vc (nv:=9999) (cu:=[100004]) fitsF mixed Tryz.func36 rfl hoB rfl ?_
 ((repeat' ((conv=>whnf);first|exact .intro|refine .ya ?_|refine .na ?_|refine .ys ?_|refine .ns ?_|refine .neg (fun _=>?_) (fun _=>?_)|refine .mk (fun _=>?_) (fun _=>?_)|refine .inr (X5 (c2.r [1,2] _) ?_)|refine .inl (.inr (X5 (c2.r [1,2] _) ?_))|refine .inl (X5 (c2.r [1,2] _) ?_)|refine .inr (X5 (c3.r [1,2,4] _) ?_)|refine .inl (.inr (X5 (c3.r [1,2,4] _) ?_))|refine .inl (X5 (c3.r [1,2,4] _) ?_)|refine .inl (.inl (X1 (c1) ?_))|refine .inl (X1 (c1) ?_)|refine X1 (c1) ?_|refine .mk ?_ ?_|refine AK ?_|refine AT ?_|fail));all_goals conv=>whnf)
 all_goals exact LeD.rfl
theorem Moved_n (n:Nd) (dc dr:Int) (e:Int) (c1:FnP Tryz.prog gl 37 [.agg n.cs] (erD e)):FnP Tryz.prog gl 36 [.agg n.cs,iD dc,iD dr] (.tup [.agg n00.cs,erD e]):=by
 obtain ⟨k,m,t,a,b,ks⟩:=n
 refine FnP.le (r:=.tup [.agg [iD 0,iD 0,.str [],iD 0,iD 0,.v (.bool false),.v (.bool false),iD 0,iD 0,.v (.bool false),.v (.bool false),.v (.slice none 0 0)],erD e]) ?_ (LeD.tup (LeD.cons n00_le (LeD.cons LeD.rfl LeD.nil)))
 refine fnP_of_vc (nv:=9999) (cu:=[]) fitsF mixed Tryz.func36 rfl hoB rfl ?_
 ((repeat' ((conv=>whnf);first|exact .intro|refine .ya ?_|refine .na ?_|refine .ys ?_|refine .ns ?_|refine .neg (fun _=>?_) (fun _=>?_)|refine .mk (fun _=>?_) (fun _=>?_)|refine .inl (.inl (X1 (c1) ?_))|refine .inl (X1 (c1) ?_)|refine X1 (c1) ?_|refine .mk ?_ ?_|refine AK ?_|refine AT ?_|fail));all_goals conv=>whnf)
 exact LeD.rfl
end Go.Proofs.YtdpigpahfiachaaGreatDoor
end
section
namespace Go.Proofs.YtdpigpahfiachaaGreatDoor
open Go Go.EYtdpigpahfiachaaGreatDoor
set_option maxRecDepth 100000
variable {gl:List (Nat×List D)}
def mostZ (row:Bool):Int:=match row with
 | true=>99
 | false=>26
abbrev spnP (row:Bool) (p q:Int):Prop:=1≤p∧p≤mostZ row∧0≤q∧q≤mostZ row
theorem Span_d (row:Bool) (p q:Int):FnP Tryz.prog gl 72 [.v (.bool row),iD p,iD q] (.b (spnP row p q) inferInstance):=by
 cases row
 all_goals refine fnP_of_vc (nv:=9999) (cu:=[]) fits mixed Tryz.func72 rfl hoB rfl ?_
 all_goals ((repeat' ((conv=>whnf);(first|refine Fork.yes (by assumption) ?_|refine Fork.no (by assumption) ?_|refine Fork.nono (by assumption) ?_|(refine Fork.yes ?_ ?_;focus (simp[andPD];done))|(refine Fork.no ?_ ?_;focus (simp;done))|refine Fork.neg (fun _=>?_) (fun _=>?_)|refine Fork.mk (fun _=>?_) (fun _=>?_))));(all_goals (conv=>whnf)))
 all_goals first|exact LeD.bt (by simp only[spnP,mostZ];omega)|exact LeD.bf (by simp only[spnP,mostZ];omega)|exact LeD.b (by simp only[spnP,mostZ];omega)
end Go.Proofs.YtdpigpahfiachaaGreatDoor
end
section
namespace Go.Proofs.YtdpigpahfiachaaGreatDoor
open Go Go.EYtdpigpahfiachaaGreatDoor
variable {gl:List (Nat×List D)}
theorem fn_mono {P:Program} {g:Nat} {vs:List V} {H:List (Nat×Blk)} {n:Nat} {r r':Ret} {H':List (Nat×Blk)} {n':Nat} {mv:List Nat} (hF:Go.EYtdpigpahfiachaaGreatDoor.Fn P gl g vs H n r H' n' mv) (h:∀ adr M w e,RetOk adr M w r e→RetOk adr M w r' e):Go.EYtdpigpahfiachaaGreatDoor.Fn P gl g vs H n r' H' n' mv :=
 ⟨hF.1,hF.2.1,hF.2.2.1,fun w M0 adr xs h1 h2 h3=>(hF.2.2.2 w M0 adr xs h1 h2 h3).mono fun e _ ⟨adr',a,b,c,d,k⟩=>⟨adr',a,b,c,d,h _ _ _ e k⟩⟩
theorem fn_leT1 {P:Program} {g:Nat} {vs:List V} {H:List (Nat×Blk)} {n:Nat} {x:List C} {d d':D} {H':List (Nat×Blk)} {n':Nat} {mv:List Nat} (hF:Go.EYtdpigpahfiachaaGreatDoor.Fn P gl g vs H n (.ret (.tup [(true,x),(false,[.d d])])) H' n' mv) (hd:LeD d d'):Go.EYtdpigpahfiachaaGreatDoor.Fn P gl g vs H n (.ret (.tup [(true,x),(false,[.d d'])])) H' n' mv:=fn_mono hF fun adr M w e h=>by
 obtain ⟨y,rfl,xs,rfl,h⟩:=h
 match xs,h with
 | [a,b],⟨h1,⟨c,hc,h2⟩,h3⟩ =>
  cases hc
  exact ⟨_,rfl,_,rfl,h1,⟨_,rfl,hd.1 _ _ _ h2⟩,h3⟩
theorem fn_leT2 {P:Program} {g:Nat} {vs:List V} {H:List (Nat×Blk)} {n:Nat} {x y:List C} {d d':D} {H':List (Nat×Blk)} {n':Nat} {mv:List Nat} (hF:Go.EYtdpigpahfiachaaGreatDoor.Fn P gl g vs H n (.ret (.tup [(true,x),(true,y),(false,[.d d])])) H' n' mv) (hd:LeD d d'):Go.EYtdpigpahfiachaaGreatDoor.Fn P gl g vs H n (.ret (.tup [(true,x),(true,y),(false,[.d d'])])) H' n' mv:=fn_mono hF fun adr M w e h=>by
 obtain ⟨z,rfl,xs,rfl,h⟩:=h
 match xs,h with
 | [a,b,k],⟨h0,h1,⟨c,hc,h2⟩,h3⟩ =>
  cases hc
  exact ⟨_,rfl,_,rfl,h0,h1,⟨_,rfl,hd.1 _ _ _ h2⟩,h3⟩
theorem le_t1 {b:Bool} (h:b=true):LeD (.v (.bool true)) (tD b):=LeD.bt h
theorem le_t0 {b:Bool} (h:¬ b=true):LeD (.v (.bool false)) (tD b):=LeD.bf h
theorem frm_kid {k m:Int} {t:List UInt8} {a b:Rf} {ks:List Nd} {box:Prop} (hf:frmN (.mk k m t a b ks) box) (x:Nat) (h:x<ks.length):∃ bx:Prop,frmN ks[x] bx:=by
 by_cases h7:k=7
 ·subst h7;rw[frm_7] at hf;exact ⟨_,frmL_iff.1 hf.2.2.2.2 x h⟩
 by_cases h8:k=8
 ·subst h8;rw[frm_8] at hf;exact ⟨_,frmL_iff.1 hf.2.2.2.2.2 x h⟩
 by_cases h9:k=9
 ·subst h9;rw[frm_9] at hf;exact ⟨_,frmL_iff.1 hf.2.2.2 x h⟩
 exfalso
 unfold frmN at hf
 omega
end Go.Proofs.YtdpigpahfiachaaGreatDoor
end
section
namespace Go.Proofs.YtdpigpahfiachaaGreatDoor
open Go Go.EYtdpigpahfiachaaGreatDoor
set_option maxRecDepth 100000
set_option maxHeartbeats 4000000
variable {gl:List (Nat×List D)}
abbrev rfB (a:Rf):Blk:=.var (rfC a) 25
theorem along_y (a:Rf):Go.EYtdpigpahfiachaaGreatDoor.Fn Tryz.prog gl 74 [.c (.ptr 0 0),.c (.d (.v (.bool true)))] [(0,rfB a)] 1 (.ret (.c (.ptr 0 1))) [(0,rfB a)] 1 []:=by
 refine fn_of_vc (nv:=9999) (cu:=[]) fitsF mixed Tryz.func74 rfl hoB rfl rfl rfl rfl ?_
 ((repeat' ((conv=>whnf);first|exact .intro|refine .ya ?_|refine .na ?_|refine .ys ?_|refine .ns ?_|refine .neg (fun _=>?_) (fun _=>?_)|refine .mk (fun _=>?_) (fun _=>?_)|refine .mk ?_ ?_|refine AK ?_|refine AT ?_|fail));all_goals conv=>whnf)
 ((repeat' first|exact rfl|((conv=>whnf);first|done|exact suL|refine And.intro ?_ ?_|fail));all_goals conv=>whnf)
theorem along_n (a:Rf):Go.EYtdpigpahfiachaaGreatDoor.Fn Tryz.prog gl 74 [.c (.ptr 0 0),.c (.d (.v (.bool false)))] [(0,rfB a)] 1 (.ret (.c (.ptr 0 0))) [(0,rfB a)] 1 []:=by
 refine fn_of_vc (nv:=9999) (cu:=[]) fitsF mixed Tryz.func74 rfl hoB rfl rfl rfl rfl ?_
 ((repeat' ((conv=>whnf);first|exact .intro|refine .ya ?_|refine .na ?_|refine .ys ?_|refine .ns ?_|refine .neg (fun _=>?_) (fun _=>?_)|refine .mk (fun _=>?_) (fun _=>?_)|refine .mk ?_ ?_|refine AK ?_|refine AT ?_|fail));all_goals conv=>whnf)
 ((repeat' first|exact rfl|((conv=>whnf);first|done|exact suL|refine And.intro ?_ ?_|fail));all_goals conv=>whnf)
def inZ (row:Bool) (p q:Int) (a:Rf):Rf:=match row with
 | true=>if a.r≥p then ⟨a.c,IntKind.i64.wrap (a.r+q),a.fc,a.fr⟩ else a
 | false=>if a.c≥p then ⟨IntKind.i64.wrap (a.c+q),a.r,a.fc,a.fr⟩ else a
def insZ (row:Bool) (p q:Int) (a:Rf):Rf×Bool:=(inZ row p q a,decide (okP (inZ row p q a).c (inZ row p q a).r))
abbrev boB (b:Bool):Blk:=.var [.d (.v (.bool b))] 4
abbrev okT (b:Bool):D:=match b with
 | true=>.b True inferInstance
 | false=>.b False inferInstance
theorem ins_ref (row:Bool) (p q:Int) (a:Rf):Go.EYtdpigpahfiachaaGreatDoor.Fn Tryz.prog gl 73 [.agg (rfC a),.c (.ptr 0 0),.c (.ptr 1 0),.c (.ptr 2 0)] [(0,boB row),(1,inB1 p),(2,inB1 q)] 3 (.ret (.tup [(true,rfC (insZ row p q a).1),(false,[.d (okT (insZ row p q a).2)])])) [(0,boB row),(1,inB1 p),(2,inB1 q)] 3 []:=by
 have k1:=along_y (gl:=gl) a
 have k2:=along_n (gl:=gl) a
 obtain ⟨c,r,f,g⟩:=a
 unfold insZ
 cases row
 ·by_cases h:c≥p
  ·rw[show inZ false p q ⟨c,r,f,g⟩=⟨IntKind.i64.wrap (c+q),r,f,g⟩ from if_pos h]
   by_cases ho:okP (IntKind.i64.wrap (c+q)) r
   ·have c1:=Check_s (gl:=gl) ho
    rw[decide_eq_true ho]
    refine fn_of_vc (nv:=9999) (cu:=[]) fitsF mixed Tryz.func73 rfl hoB rfl rfl rfl rfl ?_
    ((repeat' ((conv=>whnf);first|exact .intro|refine .ya ?_|refine .na ?_|refine .ys ?_|refine .ns ?_|refine .neg (fun _=>?_) (fun _=>?_)|refine .mk (fun _=>?_) (fun _=>?_)|refine .inr (X5 (k2.r [3] _) ?_)|refine .inl (.inr (X5 (k2.r [3] _) ?_))|refine .inl (X5 (k2.r [3] _) ?_)|refine .inl (.inl (X1 (c1) ?_))|refine .inl (X1 (c1) ?_)|refine X1 (c1) ?_|refine .mk ?_ ?_|refine AK ?_|refine AT ?_|fail));all_goals conv=>whnf)
    all_goals ((repeat' first|exact rfl|((conv=>whnf);first|done|exact suL|refine And.intro ?_ ?_|fail));all_goals conv=>whnf)
   ·have c1:=Check_n (gl:=gl) ho
    rw[decide_eq_false ho]
    refine fn_of_vc (nv:=9999) (cu:=[]) fitsF mixed Tryz.func73 rfl hoB rfl rfl rfl rfl ?_
    ((repeat' ((conv=>whnf);first|exact .intro|refine .ya ?_|refine .na ?_|refine .ys ?_|refine .ns ?_|refine .neg (fun _=>?_) (fun _=>?_)|refine .mk (fun _=>?_) (fun _=>?_)|refine .inr (X5 (k2.r [3] _) ?_)|refine .inl (.inr (X5 (k2.r [3] _) ?_))|refine .inl (X5 (k2.r [3] _) ?_)|refine .inl (.inl (X1 (c1) ?_))|refine .inl (X1 (c1) ?_)|refine X1 (c1) ?_|refine .mk ?_ ?_|refine AK ?_|refine AT ?_|fail));all_goals conv=>whnf)
    all_goals ((repeat' first|exact rfl|((conv=>whnf);first|done|exact suL|refine And.intro ?_ ?_|fail));all_goals conv=>whnf)
  ·rw[show inZ false p q ⟨c,r,f,g⟩=⟨c,r,f,g⟩ from if_neg h]
   by_cases ho:okP c r
   ·have c1:=Check_s (gl:=gl) ho
    rw[decide_eq_true ho]
    refine fn_of_vc (nv:=9999) (cu:=[]) fitsF mixed Tryz.func73 rfl hoB rfl rfl rfl rfl ?_
    ((repeat' ((conv=>whnf);first|exact .intro|refine .ya ?_|refine .na ?_|refine .ys ?_|refine .ns ?_|refine .neg (fun _=>?_) (fun _=>?_)|refine .mk (fun _=>?_) (fun _=>?_)|refine .inr (X5 (k2.r [3] _) ?_)|refine .inl (.inr (X5 (k2.r [3] _) ?_))|refine .inl (X5 (k2.r [3] _) ?_)|refine .inl (.inl (X1 (c1) ?_))|refine .inl (X1 (c1) ?_)|refine X1 (c1) ?_|refine .mk ?_ ?_|refine AK ?_|refine AT ?_|fail));all_goals conv=>whnf)
    all_goals ((repeat' first|exact rfl|((conv=>whnf);first|done|exact suL|refine And.intro ?_ ?_|fail));all_goals conv=>whnf)
   ·have c1:=Check_n (gl:=gl) ho
    rw[decide_eq_false ho]
    refine fn_of_vc (nv:=9999) (cu:=[]) fitsF mixed Tryz.func73 rfl hoB rfl rfl rfl rfl ?_
    ((repeat' ((conv=>whnf);first|exact .intro|refine .ya ?_|refine .na ?_|refine .ys ?_|refine .ns ?_|refine .neg (fun _=>?_) (fun _=>?_)|refine .mk (fun _=>?_) (fun _=>?_)|refine .inr (X5 (k2.r [3] _) ?_)|refine .inl (.inr (X5 (k2.r [3] _) ?_))|refine .inl (X5 (k2.r [3] _) ?_)|refine .inl (.inl (X1 (c1) ?_))|refine .inl (X1 (c1) ?_)|refine X1 (c1) ?_|refine .mk ?_ ?_|refine AK ?_|refine AT ?_|fail));all_goals conv=>whnf)
    all_goals ((repeat' first|exact rfl|((conv=>whnf);first|done|exact suL|refine And.intro ?_ ?_|fail));all_goals conv=>whnf)
 ·by_cases h:r≥p
  ·rw[show inZ true p q ⟨c,r,f,g⟩=⟨c,IntKind.i64.wrap (r+q),f,g⟩ from if_pos h]
   by_cases ho:okP c (IntKind.i64.wrap (r+q))
   ·have c1:=Check_s (gl:=gl) ho
    rw[decide_eq_true ho]
    refine fn_of_vc (nv:=9999) (cu:=[]) fitsF mixed Tryz.func73 rfl hoB rfl rfl rfl rfl ?_
    ((repeat' ((conv=>whnf);first|exact .intro|refine .ya ?_|refine .na ?_|refine .ys ?_|refine .ns ?_|refine .neg (fun _=>?_) (fun _=>?_)|refine .mk (fun _=>?_) (fun _=>?_)|refine .inr (X5 (k1.r [3] _) ?_)|refine .inl (.inr (X5 (k1.r [3] _) ?_))|refine .inl (X5 (k1.r [3] _) ?_)|refine .inl (.inl (X1 (c1) ?_))|refine .inl (X1 (c1) ?_)|refine X1 (c1) ?_|refine .mk ?_ ?_|refine AK ?_|refine AT ?_|fail));all_goals conv=>whnf)
    all_goals ((repeat' first|exact rfl|((conv=>whnf);first|done|exact suL|refine And.intro ?_ ?_|fail));all_goals conv=>whnf)
   ·have c1:=Check_n (gl:=gl) ho
    rw[decide_eq_false ho]
    refine fn_of_vc (nv:=9999) (cu:=[]) fitsF mixed Tryz.func73 rfl hoB rfl rfl rfl rfl ?_
    ((repeat' ((conv=>whnf);first|exact .intro|refine .ya ?_|refine .na ?_|refine .ys ?_|refine .ns ?_|refine .neg (fun _=>?_) (fun _=>?_)|refine .mk (fun _=>?_) (fun _=>?_)|refine .inr (X5 (k1.r [3] _) ?_)|refine .inl (.inr (X5 (k1.r [3] _) ?_))|refine .inl (X5 (k1.r [3] _) ?_)|refine .inl (.inl (X1 (c1) ?_))|refine .inl (X1 (c1) ?_)|refine X1 (c1) ?_|refine .mk ?_ ?_|refine AK ?_|refine AT ?_|fail));all_goals conv=>whnf)
    all_goals ((repeat' first|exact rfl|((conv=>whnf);first|done|exact suL|refine And.intro ?_ ?_|fail));all_goals conv=>whnf)
  ·rw[show inZ true p q ⟨c,r,f,g⟩=⟨c,r,f,g⟩ from if_neg h]
   by_cases ho:okP c r
   ·have c1:=Check_s (gl:=gl) ho
    rw[decide_eq_true ho]
    refine fn_of_vc (nv:=9999) (cu:=[]) fitsF mixed Tryz.func73 rfl hoB rfl rfl rfl rfl ?_
    ((repeat' ((conv=>whnf);first|exact .intro|refine .ya ?_|refine .na ?_|refine .ys ?_|refine .ns ?_|refine .neg (fun _=>?_) (fun _=>?_)|refine .mk (fun _=>?_) (fun _=>?_)|refine .inr (X5 (k1.r [3] _) ?_)|refine .inl (.inr (X5 (k1.r [3] _) ?_))|refine .inl (X5 (k1.r [3] _) ?_)|refine .inl (.inl (X1 (c1) ?_))|refine .inl (X1 (c1) ?_)|refine X1 (c1) ?_|refine .mk ?_ ?_|refine AK ?_|refine AT ?_|fail));all_goals conv=>whnf)
    all_goals ((repeat' first|exact rfl|((conv=>whnf);first|done|exact suL|refine And.intro ?_ ?_|fail));all_goals conv=>whnf)
   ·have c1:=Check_n (gl:=gl) ho
    rw[decide_eq_false ho]
    refine fn_of_vc (nv:=9999) (cu:=[]) fitsF mixed Tryz.func73 rfl hoB rfl rfl rfl rfl ?_
    ((repeat' ((conv=>whnf);first|exact .intro|refine .ya ?_|refine .na ?_|refine .ys ?_|refine .ns ?_|refine .neg (fun _=>?_) (fun _=>?_)|refine .mk (fun _=>?_) (fun _=>?_)|refine .inr (X5 (k1.r [3] _) ?_)|refine .inl (.inr (X5 (k1.r [3] _) ?_))|refine .inl (X5 (k1.r [3] _) ?_)|refine .inl (.inl (X1 (c1) ?_))|refine .inl (X1 (c1) ?_)|refine X1 (c1) ?_|refine .mk ?_ ?_|refine AK ?_|refine AT ?_|fail));all_goals conv=>whnf)
    all_goals ((repeat' first|exact rfl|((conv=>whnf);first|done|exact suL|refine And.intro ?_ ?_|fail));all_goals conv=>whnf)
end Go.Proofs.YtdpigpahfiachaaGreatDoor
end
section
namespace Go.Proofs.YtdpigpahfiachaaGreatDoor
open Go Go.EYtdpigpahfiachaaGreatDoor
set_option maxRecDepth 100000
set_option maxHeartbeats 4000000
variable {gl:List (Nat×List D)}
abbrev inH (row:Bool) (p q:Int):List (Nat×Blk):=[(0,boB row),(1,inB1 p),(2,inB1 q),(3,.var [.fn 73 [(0,0),(1,0),(2,0)]] 121)]
theorem ins_each (row:Bool) (p q:Int):Go.EYtdpigpahfiachaaGreatDoor.Fn Tryz.prog gl 68 [.c (.fn 73 [(0,0),(1,0),(2,0)])] [(0,boB row),(1,inB1 p),(2,inB1 q)] 3 (.ret (.agg [.fn 73 [(0,0),(1,0),(2,0)],.fn 121 [(3,0)]])) (inH row p q) 4 []:=by
 refine fn_of_vc (nv:=9999) (cu:=[]) fitsF mixed Tryz.func68 rfl hoB rfl rfl rfl rfl ?_
 ((repeat' ((conv=>whnf);first|exact .intro|refine .ya ?_|refine .na ?_|refine .ys ?_|refine .ns ?_|refine .neg (fun _=>?_) (fun _=>?_)|refine .mk (fun _=>?_) (fun _=>?_)|refine .mk ?_ ?_|refine AK ?_|refine AT ?_|fail));all_goals conv=>whnf)
 ((repeat' first|exact rfl|((conv=>whnf);first|done|exact suL|refine And.intro ?_ ?_|fail));all_goals conv=>whnf)
abbrev andT (p q:Bool):D:=match p with
 | true=>okT q
 | false=>.v (.bool false)
theorem ins_box (row:Bool) (p q:Int) (a b:Rf):Go.EYtdpigpahfiachaaGreatDoor.Fn Tryz.prog gl 121 [.agg (rfC a),.agg (rfC b),.c (.ptr 3 0)] (inH row p q) 4 (.ret (.tup [(true,rfC (insZ row p q a).1),(true,rfC (insZ row p q b).1),(false,[.d (andT (insZ row p q a).2 (insZ row p q b).2)])])) (inH row p q) 4 []:=by
 have c1:=ins_ref (gl:=gl) row p q a
 have c2:=ins_ref (gl:=gl) row p q b
 generalize insZ row p q a=z at *
 generalize insZ row p q b=y at *
 obtain ⟨⟨c,r,f,g⟩,ok⟩:=z
 obtain ⟨⟨c',r',f',g'⟩,ok'⟩:=y
 obtain ⟨ac,ar,af,ag⟩:=a
 obtain ⟨bc,br,bf,bg⟩:=b
 cases ok <;> cases ok'
 all_goals refine fn_of_vc (nv:=9999) (cu:=[]) fitsF mixed Tryz.func121 rfl hoB rfl rfl rfl rfl ?_
 all_goals ((repeat' ((conv=>whnf);first|exact .intro|refine .ya ?_|refine .na ?_|refine .ys ?_|refine .ns ?_|refine .neg (fun _=>?_) (fun _=>?_)|refine .mk (fun _=>?_) (fun _=>?_)|refine .inr (X5 (c1.r [0,1,2] _) ?_)|refine .inl (.inr (X5 (c1.r [0,1,2] _) ?_))|refine .inl (X5 (c1.r [0,1,2] _) ?_)|refine .inr (X5 (c2.r [0,1,2] _) ?_)|refine .inl (.inr (X5 (c2.r [0,1,2] _) ?_))|refine .inl (X5 (c2.r [0,1,2] _) ?_)|refine .mk ?_ ?_|refine AK ?_|refine AT ?_|fail));all_goals conv=>whnf)
 all_goals ((repeat' first|exact rfl|((conv=>whnf);first|done|exact suL|refine And.intro ?_ ?_|fail));all_goals conv=>whnf)
theorem okT_le (b:Bool):LeD (okT b) (tD b):=by cases b <;> exact LeD.b (by simp)
theorem andT_le (p q:Bool):LeD (andT p q) (tD (p && q)):=by
 cases p
 ·exact LeD.bf (by simp)
 ·cases q <;> exact LeD.b (by simp)
theorem ins_rz (row:Bool) (p q:Int) (a:Rf):Go.EYtdpigpahfiachaaGreatDoor.Fn Tryz.prog gl 73 [.agg (rfC a),.c (.ptr 0 0),.c (.ptr 1 0),.c (.ptr 2 0)] [(0,boB row),(1,inB1 p),(2,inB1 q)] 3 (.ret (.tup [(true,rfC (insZ row p q a).1),(false,[.d (tD (insZ row p q a).2)])])) [(0,boB row),(1,inB1 p),(2,inB1 q)] 3 [] :=
 fn_leT1 (ins_ref row p q a) (okT_le _)
theorem ins_bz (row:Bool) (p q:Int) (a b:Rf):Go.EYtdpigpahfiachaaGreatDoor.Fn Tryz.prog gl 121 [.agg (rfC a),.agg (rfC b),.c (.ptr 3 0)] (inH row p q) 4 (.ret (.tup [(true,rfC (bxZ (insZ row p q) a b).1),(true,rfC (bxZ (insZ row p q) a b).2.1),(false,[.d (tD (bxZ (insZ row p q) a b).2.2)])])) (inH row p q) 4 [] :=
 fn_leT2 (ins_box row p q a b) (andT_le _ _)
end Go.Proofs.YtdpigpahfiachaaGreatDoor
end
