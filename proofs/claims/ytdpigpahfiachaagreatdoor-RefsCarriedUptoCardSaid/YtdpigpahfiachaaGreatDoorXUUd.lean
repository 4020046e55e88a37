/- Proved: a part of what the law is proved with (the reckoner, contracts of functions, plain laws). Conditions: as each says. -/
import Derived.Test.YtdpigpahfiachaaGreatDoorXUMb
import Derived.Test.YtdpigpahfiachaaGreatDoorXUNf
section
namespace Go.Proofs.YtdpigpahfiachaaGreatDoor
open Go Go.EYtdpigpahfiachaaGreatDoor
set_option maxRecDepth 100000
set_option maxHeartbeats 4000000
variable {gl:List (Nat×List D)}
structure Bx where
 a:Int
 b:Int
 c:Int
 d:Int
abbrev bxC (z:Bx):List C:=[.d (iD z.a),.d (iD z.b),.d (iD z.c),.d (iD z.d)]
abbrev hasP (z:Bx) (a:Rf):Prop:=z.a≤a.c∧a.c≤z.c∧z.b≤a.r∧a.r≤z.d
theorem HasBx_d (z:Bx) (a:Rf):FnP Tryz.prog gl 88 [boxD z.a z.b z.c z.d,cellD a.c a.r] (.b (hasP z a) inferInstance):=by
 refine fnP_of_vc (nv:=9999) (cu:=[]) fitsF mixed Tryz.func88 rfl hoB rfl ?_
 ((repeat' ((conv=>whnf);(first|refine Fork.yes (by assumption) ?_|refine Fork.no (by assumption) ?_|refine Fork.nono (by assumption) ?_|(refine Fork.yes ?_ ?_;focus (simp[andPD];done))|(refine Fork.no ?_ ?_;focus (simp;done))|refine Fork.neg (fun _=>?_) (fun _=>?_)|refine Fork.mk (fun _=>?_) (fun _=>?_))));(all_goals (conv=>whnf)))
 all_goals first|exact LeD.bt (by omega)|exact LeD.bf (by omega)|exact LeD.b (by omega)
def caP (dc dr:Int) (a:Rf):Rf×Bool:=(⟨(shZ dc dr ⟨a.c,a.r,false,false⟩).1.c,(shZ dc dr ⟨a.c,a.r,false,false⟩).1.r,a.fc,a.fr⟩,(shZ dc dr ⟨a.c,a.r,false,false⟩).2)
def carZ (z:Bx) (dc dr:Int) (a:Rf):Rf×Bool:=if hasP z a then caP dc dr a else (a,true)
def carB (z:Bx) (dc dr:Int) (a b:Rf):Rf×Rf×Bool:=if hasP z a∧hasP z b then ((caP dc dr a).1,(caP dc dr b).1,(caP dc dr a).2 && (caP dc dr b).2) else (a,b,true)
theorem car_y (dc dr:Int) (a:Rf):Go.EYtdpigpahfiachaaGreatDoor.Fn Tryz.prog gl 86 [.agg (rfC a),.c (.ptr 0 0),.c (.ptr 1 0)] [(0,inB1 dc),(1,inB1 dr)] 2 (.ret (.tup [(true,rfC (caP dc dr a).1),(false,[.d (tD (caP dc dr a).2)])])) [(0,inB1 dc),(1,inB1 dr)] 2 []:=by
 have c1:FnP Tryz.prog gl 70 [.agg [iD a.c,iD a.r,.v (.bool false),.v (.bool false)],iD dc,iD dr] (.tup [rfD (shZ dc dr ⟨a.c,a.r,false,false⟩).1,tD (shZ dc dr ⟨a.c,a.r,false,false⟩).2]) :=
  fnP_argsL (Shift_z (gl:=gl) dc dr ⟨a.c,a.r,false,false⟩) (LeD.cons (refFF a.c a.r) (LeD.cons LeD.rfl (LeD.cons LeD.rfl LeD.nil)))
 unfold caP
 generalize shZ dc dr ⟨a.c,a.r,false,false⟩=y at *
 obtain ⟨⟨c,r,f,g⟩,ok⟩:=y
 obtain ⟨ac,ar,af,ag⟩:=a
 refine fn_of_vc (nv:=9999) (cu:=[]) fitsF mixed Tryz.func86 rfl hoB rfl rfl rfl rfl ?_
 ((repeat' ((conv=>whnf);first|exact .intro|refine .ya ?_|refine .na ?_|refine .ys ?_|refine .ns ?_|refine .neg (fun _=>?_) (fun _=>?_)|refine .mk (fun _=>?_) (fun _=>?_)|refine .inl (.inl (X1 (c1) ?_))|refine .inl (X1 (c1) ?_)|refine X1 (c1) ?_|refine .mk ?_ ?_|refine AK ?_|refine AT ?_|fail));all_goals conv=>whnf)
 all_goals ((repeat' first|exact rfl|((conv=>whnf);first|done|exact suL|refine And.intro ?_ ?_|fail));all_goals conv=>whnf)
abbrev caH (z:Bx) (dc dr:Int):List (Nat×Blk):=[(0,.var (bxC z) 77),(1,inB1 dc),(2,inB1 dr),(3,.var [.fn 86 [(1,0),(2,0)]] 121)]
theorem car_rz (z:Bx) (dc dr:Int) (a:Rf):Go.EYtdpigpahfiachaaGreatDoor.Fn Tryz.prog gl 87 [.agg (rfC a),.c (.ptr 0 0),.c (.ptr 3 0)] (caH z dc dr) 4 (.ret (.tup [(true,rfC (carZ z dc dr a).1),(false,[.d (tD (carZ z dc dr a).2)])])) (caH z dc dr) 4 []:=by
 have c0:=HasBx_d (gl:=gl) z a
 have c1:=car_y (gl:=gl) dc dr a
 unfold carZ
 by_cases h:hasP z a
 ·rw[if_pos h]
  generalize caP dc dr a=y at *
  obtain ⟨⟨c,r,f,g⟩,ok⟩:=y
  obtain ⟨ac,ar,af,ag⟩:=a
  refine fn_of_vc (nv:=9999) (cu:=[]) fitsF mixed Tryz.func87 rfl hoB rfl rfl rfl rfl ?_
  ((repeat' ((conv=>whnf);first|exact .intro|refine .ya ?_|refine .na ?_|refine .ys ?_|refine .ns ?_|refine .neg (fun _=>?_) (fun _=>?_)|refine .mk (fun _=>?_) (fun _=>?_)|refine .inr (X5 (c1.r [1,2] _) ?_)|refine .inl (.inr (X5 (c1.r [1,2] _) ?_))|refine .inl (X5 (c1.r [1,2] _) ?_)|refine .inl (.inl (X1 (c0) ?_))|refine .inl (X1 (c0) ?_)|refine X1 (c0) ?_|refine .mk ?_ ?_|refine AK ?_|refine AT ?_|fail));all_goals conv=>whnf)
  all_goals ((repeat' first|exact rfl|((conv=>whnf);first|done|exact suL|refine And.intro ?_ ?_|fail));all_goals conv=>whnf)
 ·rw[if_neg h]
  obtain ⟨ac,ar,af,ag⟩:=a
  refine fn_leT1 (d:=.v (.bool true)) ?_ (le_t1 rfl)
  refine fn_of_vc (nv:=9999) (cu:=[]) fitsF mixed Tryz.func87 rfl hoB rfl rfl rfl rfl ?_
  ((repeat' ((conv=>whnf);first|exact .intro|refine .ya ?_|refine .na ?_|refine .ys ?_|refine .ns ?_|refine .neg (fun _=>?_) (fun _=>?_)|refine .mk (fun _=>?_) (fun _=>?_)|refine .inr (X5 (c1.r [1,2] _) ?_)|refine .inl (.inr (X5 (c1.r [1,2] _) ?_))|refine .inl (X5 (c1.r [1,2] _) ?_)|refine .inl (.inl (X1 (c0) ?_))|refine .inl (X1 (c0) ?_)|refine X1 (c0) ?_|refine .mk ?_ ?_|refine AK ?_|refine AT ?_|fail));all_goals conv=>whnf)
  all_goals ((repeat' first|exact rfl|((conv=>whnf);first|done|exact suL|refine And.intro ?_ ?_|fail));all_goals conv=>whnf)
theorem car_bz (z:Bx) (dc dr:Int) (a b:Rf):Go.EYtdpigpahfiachaaGreatDoor.Fn Tryz.prog gl 89 [.agg (rfC a),.agg (rfC b),.c (.ptr 0 0),.c (.ptr 3 0)] (caH z dc dr) 4 (.ret (.tup [(true,rfC (carB z dc dr a b).1),(true,rfC (carB z dc dr a b).2.1),(false,[.d (tD (carB z dc dr a b).2.2)])])) (caH z dc dr) 4 []:=by
 have c0:=HasBx_d (gl:=gl) z a
 have c1:=HasBx_d (gl:=gl) z b
 have c2:=car_y (gl:=gl) dc dr a
 have c3:=car_y (gl:=gl) dc dr b
 unfold carB
 by_cases h:hasP z a <;> by_cases h':hasP z b
 ·rw[if_pos ⟨h,h'⟩]
  refine fn_leT2 (d:=andB (caP dc dr a).2 (caP dc dr b).2) ?_ (andB_le _ _)
  generalize caP dc dr a=y at *
  generalize caP dc dr b=y' at *
  obtain ⟨⟨c,r,f,g⟩,ok⟩:=y
  obtain ⟨⟨c',r',f',g'⟩,ok'⟩:=y'
  obtain ⟨ac,ar,af,ag⟩:=a
  obtain ⟨bc,br,bf,bg⟩:=b
  cases ok
  all_goals refine fn_of_vc (nv:=9999) (cu:=[]) fitsF mixed Tryz.func89 rfl hoB rfl rfl rfl rfl ?_
  all_goals ((repeat' ((conv=>whnf);first|exact .intro|refine .ya ?_|refine .na ?_|refine .ys ?_|refine .ns ?_|refine .neg (fun _=>?_) (fun _=>?_)|refine .mk (fun _=>?_) (fun _=>?_)|refine .inr (X5 (c2.r [1,2] _) ?_)|refine .inl (.inr (X5 (c2.r [1,2] _) ?_))|refine .inl (X5 (c2.r [1,2] _) ?_)|refine .inr (X5 (c3.r [1,2] _) ?_)|refine .inl (.inr (X5 (c3.r [1,2] _) ?_))|refine .inl (X5 (c3.r [1,2] _) ?_)|refine .inl (.inl (X1 (by first|exact c0|exact c1) ?_))|refine .inl (X1 (by first|exact c0|exact c1) ?_)|refine X1 (by first|exact c0|exact c1) ?_|refine .mk ?_ ?_|refine AK ?_|refine AT ?_|fail));all_goals conv=>whnf)
  all_goals ((repeat' first|exact rfl|((conv=>whnf);first|done|exact suL|refine And.intro ?_ ?_|fail));all_goals conv=>whnf)
 all_goals rw[if_neg (fun hh=>by first|exact h hh.1|exact h' hh.2)]
 all_goals refine fn_leT2 (d:=.v (.bool true)) ?_ (le_t1 rfl)
 all_goals obtain ⟨ac,ar,af,ag⟩:=a
 all_goals obtain ⟨bc,br,bf,bg⟩:=b
 all_goals refine fn_of_vc (nv:=9999) (cu:=[]) fitsF mixed Tryz.func89 rfl hoB rfl rfl rfl rfl ?_
 all_goals ((repeat' ((conv=>whnf);first|exact .intro|refine .ya ?_|refine .na ?_|refine .ys ?_|refine .ns ?_|refine .neg (fun _=>?_) (fun _=>?_)|refine .mk (fun _=>?_) (fun _=>?_)|refine .inl (.inl (X1 (by first|exact c0|exact c1) ?_))|refine .inl (X1 (by first|exact c0|exact c1) ?_)|refine X1 (by first|exact c0|exact c1) ?_|refine .mk ?_ ?_|refine AK ?_|refine AT ?_|fail));all_goals conv=>whnf)
 all_goals ((repeat' first|exact rfl|((conv=>whnf);first|done|exact suL|refine And.intro ?_ ?_|fail));all_goals conv=>whnf)
end Go.Proofs.YtdpigpahfiachaaGreatDoor
end
section
namespace Go.Proofs.YtdpigpahfiachaaGreatDoor
open Go Go.EYtdpigpahfiachaaGreatDoor
set_option maxRecDepth 100000
set_option maxHeartbeats 4000000
variable {gl:List (Nat×List D)}
abbrev onCaC:V:=.agg [.fn 87 [(0,0),(3,0)],.fn 89 [(0,0),(3,0)]]
def OnCa (gl:List (Nat×List D)) (z:Bx) (dc dr:Int) (n:Nd):Prop:=Go.EYtdpigpahfiachaaGreatDoor.Fn Tryz.prog gl 71 [onCaC,.agg (ndC n)] (caH z dc dr) 4 (.ret (.agg (ndC (chN (carZ z dc dr) (carB z dc dr) n)))) (caH z dc dr) 4 []
theorem onCa_k (z:Bx) (dc dr:Int) (k m:Int) (t:List UInt8) (a b:Rf) (ks:List Nd) (h5:¬ k=5) (h6:¬ k=6) (h0:ks≠[]) (hn:ks.length≤200) (ih:∀ x (h:x<ks.length),OnCa gl z dc dr ks[x]):OnCa gl z dc dr (.mk k m t a b ks):=by
 have c0:=Clone_x (gl:=gl) ks h0 hn
 have hlen:=kid_len ks
 unfold OnCa chN
 rw[if_neg h5,if_neg h6]
 refine fn_of_vc (nv:=9999) (cu:=[100017]) fitsF mixed Tryz.func71 rfl hoB rfl rfl rfl rfl ?_
 ((repeat' ((conv=>whnf);first|exact .intro|refine .ya ?_|refine .na ?_|refine .ys ?_|refine .ns ?_|refine .neg (fun _=>?_) (fun _=>?_)|refine .mk (fun _=>?_) (fun _=>?_)|refine .inr (X5 (c0.r [] _) ?_)|refine .inl (.inr (X5 (c0.r [] _) ?_))|refine .inl (X5 (c0.r [] _) ?_)|refine .mk ?_ ?_|refine AK ?_|refine AT ?_|fail));all_goals conv=>whnf)
 refine ⟨{ σ:=Nat,fr:=fun x=>[(58,.c (.d (iD (x:Int))))],ks:=[8],L:=fun x=>[(8,.rows 12 (Nd.csL (chT (carZ z dc dr) (carB z dc dr) x ks)) 28)],ex:=0,I:=fun x=>x≤ks.length,μ:=fun x=>ks.length - x },⟨0,Nat.zero_le _,?_⟩,fun (x:Nat) hx=>?_⟩
 ·((repeat' first|exact rfl|((conv=>whnf);first|done|exact suL|refine And.intro ?_ ?_|fail));all_goals conv=>whnf)
 ·replace hx:x≤ks.length:=hx
  by_cases hlt:x<ks.length
  ·have h2:(x:Int)<((Nd.csL ks).length:Nat):=by omega
   have e0:IntKind.i64.wrap ((x:Int)+1)=((x+1:Nat):Int):=by rw[wrapI (by omega)];rfl
   have g1:=chT_get (ρ:=(carZ z dc dr)) (β:=(carB z dc dr)) hlt
   have g2:=chT_set (ρ:=(carZ z dc dr)) (β:=(carB z dc dr)) hlt
   have hi:(x:Int)<((Nd.csL (chT (carZ z dc dr) (carB z dc dr) x ks)).length:Nat):=by rw[kid_len,chT_len];omega
   have c1:=ih x hlt
   unfold OnCa at c1
   generalize hch:chN (carZ z dc dr) (carB z dc dr) ks[x]=nq' at *
   generalize ks[x]=nq at *
   obtain ⟨k1,m1,t1,a1,b1,ks1⟩:=nq
   obtain ⟨k2,m2,t2,a2,b2,ks2⟩:=nq'
   ((repeat' ((conv=>whnf);first|exact .intro|refine .ya ?_|refine .na ?_|refine .ys ?_|refine .ns ?_|refine .neg (fun _=>?_) (fun _=>?_)|refine .mk (fun _=>?_) (fun _=>?_)|refine .inr (X5 (c1.r [0,1,2,3] _) ?_)|refine .inl (.inr (X5 (c1.r [0,1,2,3] _) ?_))|refine .inl (X5 (c1.r [0,1,2,3] _) ?_)|(first|refine ⟨⟨Int.natCast_nonneg _,hi⟩,?_⟩|refine ⟨Int.natCast_nonneg _,_,g1,?_⟩|refine ⟨_,g1,?_⟩)|refine .mk ?_ ?_|refine AK ?_|refine AT ?_|fail));all_goals conv=>whnf)
   all_goals refine ⟨x+1,⟨hlt,by show ks.length - (x+1)<ks.length - x;omega⟩,?_⟩
   all_goals ((repeat' first|exact rfl|((conv=>whnf);first|done|exact suL|refine And.intro ?_ ?_|fail));all_goals conv=>whnf)
   all_goals first
    | exact ceq e0
    | exact g2
    | exact congrArg (fun z=>Blk.rows 12 z 28) g2
  ·have h2:¬ (x:Int)<((Nd.csL ks).length:Nat):=by omega
   obtain rfl:x=ks.length:=by omega
   ((repeat' ((conv=>whnf);first|exact .intro|refine .ya ?_|refine .na ?_|refine .ys ?_|refine .ns ?_|refine .neg (fun _=>?_) (fun _=>?_)|refine .mk (fun _=>?_) (fun _=>?_)|refine .mk ?_ ?_|refine AK ?_|refine AT ?_|fail));all_goals conv=>whnf)
   ((repeat' first|exact rfl|((conv=>whnf);first|done|exact suL|refine And.intro ?_ ?_|fail));all_goals conv=>whnf)
   exact .inl (by rw[chT_all];rfl)
theorem onCa_0 (z:Bx) (dc dr:Int) (k m:Int) (t:List UInt8) (a b:Rf) (h5:¬ k=5) (h6:¬ k=6):OnCa gl z dc dr (.mk k m t a b []):=by
 have c0:=Clone_0 (gl:=gl)
 have h2:¬ (0:Int)<((([]:List (List D)).length:Nat):Int):=by decide
 unfold OnCa chN
 rw[if_neg h5,if_neg h6]
 refine fn_of_vc (nv:=9999) (cu:=[]) fitsF mixed Tryz.func71 rfl hoB rfl rfl rfl rfl ?_
 ((repeat' ((conv=>whnf);first|exact .intro|refine .ya ?_|refine .na ?_|refine .ys ?_|refine .ns ?_|refine .neg (fun _=>?_) (fun _=>?_)|refine .mk (fun _=>?_) (fun _=>?_)|refine .inl (.inl (X1 (c0) ?_))|refine .inl (X1 (c0) ?_)|refine X1 (c0) ?_|refine .mk ?_ ?_|refine AK ?_|refine AT ?_|fail));all_goals conv=>whnf)
 refine ⟨{ σ:=Unit,fr:=fun x=>[(58,.c (.d (iD 0)))],ks:=[],L:=fun x=>[],ex:=0,I:=fun x=>True,μ:=fun x=>0 },⟨(),trivial,?_⟩,fun _ _=>?_⟩
 ·((repeat' first|exact rfl|((conv=>whnf);first|done|exact suL|refine And.intro ?_ ?_|fail));all_goals conv=>whnf)
 ·((repeat' ((conv=>whnf);first|exact .intro|refine .ya ?_|refine .na ?_|refine .ys ?_|refine .ns ?_|refine .neg (fun _=>?_) (fun _=>?_)|refine .mk (fun _=>?_) (fun _=>?_)|refine .mk ?_ ?_|refine AK ?_|refine AT ?_|fail));all_goals conv=>whnf)
  ((repeat' first|exact rfl|((conv=>whnf);first|done|exact suL|refine And.intro ?_ ?_|fail));all_goals conv=>whnf)
theorem onCa_5 (z:Bx) (dc dr:Int)  (m:Int) (t:List UInt8) (a b:Rf) (_ha:okP a.c a.r):OnCa gl z dc dr (.mk 5 m t a b []):=by
 have c0:=Clone_0 (gl:=gl)
 have c1:=car_rz (gl:=gl) z dc dr a
 have h2:¬ (0:Int)<((([]:List (List D)).length:Nat):Int):=by decide
 unfold OnCa chN
 rw[if_pos rfl]
 generalize (carZ z dc dr) a=y at *
 obtain ⟨⟨c,r,f,g⟩,ok⟩:=y
 skip
 cases ok
 ·rw[if_neg (by simp)]
  refine fn_of_vc (nv:=9999) (cu:=[]) fitsF mixed Tryz.func71 rfl hoB rfl rfl rfl rfl ?_
  ((repeat' ((conv=>whnf);first|exact .intro|refine .ya ?_|refine .na ?_|refine .ys ?_|refine .ns ?_|refine .neg (fun _=>?_) (fun _=>?_)|refine .mk (fun _=>?_) (fun _=>?_)|refine .inr (X5 (c1.r [0,1,2,3] _) ?_)|refine .inl (.inr (X5 (c1.r [0,1,2,3] _) ?_))|refine .inl (X5 (c1.r [0,1,2,3] _) ?_)|refine .inl (.inl (X1 (c0) ?_))|refine .inl (X1 (c0) ?_)|refine X1 (c0) ?_|refine .mk ?_ ?_|refine AK ?_|refine AT ?_|fail));all_goals conv=>whnf)
  ((repeat' first|exact rfl|((conv=>whnf);first|done|exact suL|refine And.intro ?_ ?_|fail));all_goals conv=>whnf)
  (refine .inr ?_;repeat' first|exact .intro|exact .inr (.inl rfl)|exact lf0|exact ln0|((conv=>whnf);first|exact .intro|exact .inr (.inl rfl)|exact lf0|exact ln0|refine And.intro ?_ ?_|fail))
 ·refine fn_of_vc (nv:=9999) (cu:=[]) fitsF mixed Tryz.func71 rfl hoB rfl rfl rfl rfl ?_
  ((repeat' ((conv=>whnf);first|exact .intro|refine .ya ?_|refine .na ?_|refine .ys ?_|refine .ns ?_|refine .neg (fun _=>?_) (fun _=>?_)|refine .mk (fun _=>?_) (fun _=>?_)|refine .inr (X5 (c1.r [0,1,2,3] _) ?_)|refine .inl (.inr (X5 (c1.r [0,1,2,3] _) ?_))|refine .inl (X5 (c1.r [0,1,2,3] _) ?_)|refine .inl (.inl (X1 (c0) ?_))|refine .inl (X1 (c0) ?_)|refine X1 (c0) ?_|refine .mk ?_ ?_|refine AK ?_|refine AT ?_|fail));all_goals conv=>whnf)
  refine ⟨{ σ:=Unit,fr:=fun x=>[(58,.c (.d (iD 0)))],ks:=[],L:=fun x=>[],ex:=0,I:=fun x=>True,μ:=fun x=>0 },⟨(),trivial,?_⟩,fun _ _=>?_⟩
  ·((repeat' first|exact rfl|((conv=>whnf);first|done|exact suL|refine And.intro ?_ ?_|fail));all_goals conv=>whnf)
  ·((repeat' ((conv=>whnf);first|exact .intro|refine .ya ?_|refine .na ?_|refine .ys ?_|refine .ns ?_|refine .neg (fun _=>?_) (fun _=>?_)|refine .mk (fun _=>?_) (fun _=>?_)|refine .mk ?_ ?_|refine AK ?_|refine AT ?_|fail));all_goals conv=>whnf)
   ((repeat' first|exact rfl|((conv=>whnf);first|done|exact suL|refine And.intro ?_ ?_|fail));all_goals conv=>whnf)
theorem onCa_6 (z:Bx) (dc dr:Int)  (m:Int) (t:List UInt8) (a b:Rf) (_ha:okP a.c a.r) (_hb:okP b.c b.r):OnCa gl z dc dr (.mk 6 m t a b []):=by
 have c0:=Clone_0 (gl:=gl)
 have c1:=car_bz (gl:=gl) z dc dr a b
 have h2:¬ (0:Int)<((([]:List (List D)).length:Nat):Int):=by decide
 unfold OnCa chN
 rw[if_neg (by decide),if_pos rfl]
 generalize (carB z dc dr) a b=y at *
 obtain ⟨⟨c,r,f,g⟩,⟨c',r',f',g'⟩,ok⟩:=y
 skip
 cases ok
 ·rw[if_neg (by simp)]
  refine fn_of_vc (nv:=9999) (cu:=[]) fitsF mixed Tryz.func71 rfl hoB rfl rfl rfl rfl ?_
  ((repeat' ((conv=>whnf);first|exact .intro|refine .ya ?_|refine .na ?_|refine .ys ?_|refine .ns ?_|refine .neg (fun _=>?_) (fun _=>?_)|refine .mk (fun _=>?_) (fun _=>?_)|refine .inr (X5 (c1.r [0,1,2,3] _) ?_)|refine .inl (.inr (X5 (c1.r [0,1,2,3] _) ?_))|refine .inl (X5 (c1.r [0,1,2,3] _) ?_)|refine .inl (.inl (X1 (c0) ?_))|refine .inl (X1 (c0) ?_)|refine X1 (c0) ?_|refine .mk ?_ ?_|refine AK ?_|refine AT ?_|fail));all_goals conv=>whnf)
  ((repeat' first|exact rfl|((conv=>whnf);first|done|exact suL|refine And.intro ?_ ?_|fail));all_goals conv=>whnf)
  (refine .inr ?_;repeat' first|exact .intro|exact .inr (.inl rfl)|exact lf0|exact ln0|((conv=>whnf);first|exact .intro|exact .inr (.inl rfl)|exact lf0|exact ln0|refine And.intro ?_ ?_|fail))
 ·refine fn_of_vc (nv:=9999) (cu:=[]) fitsF mixed Tryz.func71 rfl hoB rfl rfl rfl rfl ?_
  ((repeat' ((conv=>whnf);first|exact .intro|refine .ya ?_|refine .na ?_|refine .ys ?_|refine .ns ?_|refine .neg (fun _=>?_) (fun _=>?_)|refine .mk (fun _=>?_) (fun _=>?_)|refine .inr (X5 (c1.r [0,1,2,3] _) ?_)|refine .inl (.inr (X5 (c1.r [0,1,2,3] _) ?_))|refine .inl (X5 (c1.r [0,1,2,3] _) ?_)|refine .inl (.inl (X1 (c0) ?_))|refine .inl (X1 (c0) ?_)|refine X1 (c0) ?_|refine .mk ?_ ?_|refine AK ?_|refine AT ?_|fail));all_goals conv=>whnf)
  all_goals
   refine ⟨{ σ:=Unit,fr:=fun x=>[(58,.c (.d (iD 0)))],ks:=[],L:=fun x=>[],ex:=0,I:=fun x=>True,μ:=fun x=>0 },⟨(),trivial,?_⟩,fun _ _=>?_⟩
   ·((repeat' first|exact rfl|((conv=>whnf);first|done|exact suL|refine And.intro ?_ ?_|fail));all_goals conv=>whnf)
   ·((repeat' ((conv=>whnf);first|exact .intro|refine .ya ?_|refine .na ?_|refine .ys ?_|refine .ns ?_|refine .neg (fun _=>?_) (fun _=>?_)|refine .mk (fun _=>?_) (fun _=>?_)|refine .mk ?_ ?_|refine AK ?_|refine AT ?_|fail));all_goals conv=>whnf)
    ((repeat' first|exact rfl|((conv=>whnf);first|done|exact suL|refine And.intro ?_ ?_|fail));all_goals conv=>whnf)
theorem onCa_all (z:Bx) (dc dr:Int)  (n:Nd):∀ {box:Prop},frmN n box→cntN n≤200→OnCa gl z dc dr n:=by
 match n with
 | .mk k m t a b ks =>
  intro box hf hc
  have hcl:cntL ks+1≤200:=hc
  have hlk:=len_cnt ks
  have hcx:∀ x (h:x<ks.length),cntN ks[x]≤200:=fun x h=>by
   have h1:=cntL_take h
   have h2:=cntL_le ks (x+1)
   omega
  have ih:∀ x (h:x<ks.length),OnCa gl z dc dr ks[x]:=fun x h=>onCa_all z dc dr  ks[x] (frm_kid hf x h).choose_spec (hcx x h)
  by_cases h5:k=5
  ·subst h5
   rw[frm_5] at hf
   obtain rfl:=List.eq_nil_of_length_eq_zero hf.1
   exact onCa_5 z dc dr  m t a b hf.2.2.2.2
  by_cases h6:k=6
  ·subst h6
   rw[frm_6] at hf
   obtain rfl:=List.eq_nil_of_length_eq_zero hf.2.1
   exact onCa_6 z dc dr  m t a b hf.2.2.2.2.1 hf.2.2.2.2.2
  by_cases h0:ks=[]
  ·subst h0
   exact onCa_0 z dc dr k m t a b h5 h6
  ·exact onCa_k z dc dr k m t a b ks h5 h6 h0 (by omega) ih
termination_by SizeOf.sizeOf n
decreasing_by
 simp only[Nd.mk.sizeOf_spec]
 have:=List.sizeOf_lt_of_mem (List.getElem_mem h)
 omega
end Go.Proofs.YtdpigpahfiachaaGreatDoor
end
section
namespace Go.Proofs.YtdpigpahfiachaaGreatDoor
open Go Go.EYtdpigpahfiachaaGreatDoor
set_option maxRecDepth 100000
set_option maxHeartbeats 4000000
variable {gl:List (Nat×List D)}
theorem Carried_y (n:Nd) (z:Bx) (dc dr:Int) (hs:boxP z.a z.b z.c z.d) (hc:cntN n≤200) (hf:frmN n False) (c1:FnP Tryz.prog gl 37 [.agg n.cs] (.v .nilIface)):FnP Tryz.prog gl 46 [.agg n.cs,boxD z.a z.b z.c z.d,iD dc,iD dr] (.tup [.agg (chN (carZ z dc dr) (carB z dc dr) n).cs,.v .nilIface]):=by
 have c0:=Boxed_d (gl:=gl) z.a z.b z.c z.d
 have c3:=onCa_all (gl:=gl) z dc dr n hf hc
 unfold OnCa at c3
 generalize chN (carZ z dc dr) (carB z dc dr) n=n' at *
 obtain ⟨k,m,t,a,b,ks⟩:=n
 obtain ⟨k',m',t',a',b',ks'⟩:=n'
 refine fnP_of_vc (nv:=9999) (cu:=[]) fitsF mixed Tryz.func46 rfl hoB rfl ?_
 ((repeat' ((conv=>whnf);first|exact .intro|refine .ya ?_|refine .na ?_|refine .ys ?_|refine .ns ?_|refine .neg (fun _=>?_) (fun _=>?_)|refine .mk (fun _=>?_) (fun _=>?_)|refine .inr (X5 (c3.r [1,2,3,5] _) ?_)|refine .inl (.inr (X5 (c3.r [1,2,3,5] _) ?_))|refine .inl (X5 (c3.r [1,2,3,5] _) ?_)|refine .inl (.inl (X1 (by first|exact c1|exact c0) ?_))|refine .inl (X1 (by first|exact c1|exact c0) ?_)|refine X1 (by first|exact c1|exact c0) ?_|refine .mk ?_ ?_|refine AK ?_|refine AT ?_|fail));all_goals conv=>whnf)
 all_goals exact LeD.rfl
theorem Carried_s (n:Nd) (z:Bx) (dc dr:Int) (hs:¬ boxP z.a z.b z.c z.d) (c1:FnP Tryz.prog gl 37 [.agg n.cs] (.v .nilIface)):FnP Tryz.prog gl 46 [.agg n.cs,boxD z.a z.b z.c z.d,iD dc,iD dr] (.tup [.agg n00.cs,erD 1]):=by
 have c0:=Boxed_d (gl:=gl) z.a z.b z.c z.d
 obtain ⟨k,m,t,a,b,ks⟩:=n
 refine FnP.le (r:=.tup [.agg [iD 0,iD 0,.str [],iD 0,iD 0,.v (.bool false),.v (.bool false),iD 0,iD 0,.v (.bool false),.v (.bool false),.v (.slice none 0 0)],erD 1]) ?_ (LeD.tup (LeD.cons n00_le (LeD.cons LeD.rfl LeD.nil)))
 refine fnP_of_vc (nv:=9999) (cu:=[]) fitsF mixed Tryz.func46 rfl hoB rfl ?_
 ((repeat' ((conv=>whnf);first|exact .intro|refine .ya ?_|refine .na ?_|refine .ys ?_|refine .ns ?_|refine .neg (fun _=>?_) (fun _=>?_)|refine .mk (fun _=>?_) (fun _=>?_)|refine .inl (.inl (X1 (by first|exact c1|exact c0) ?_))|refine .inl (X1 (by first|exact c1|exact c0) ?_)|refine X1 (by first|exact c1|exact c0) ?_|refine .mk ?_ ?_|refine AK ?_|refine AT ?_|fail));all_goals conv=>whnf)
 exact LeD.rfl
theorem Carried_n (n:Nd) (z:Bx) (dc dr:Int) (e:Int) (c1:FnP Tryz.prog gl 37 [.agg n.cs] (erD e)):FnP Tryz.prog gl 46 [.agg n.cs,boxD z.a z.b z.c z.d,iD dc,iD dr] (.tup [.agg n00.cs,erD e]):=by
 obtain ⟨k,m,t,a,b,ks⟩:=n
 refine FnP.le (r:=.tup [.agg [iD 0,iD 0,.str [],iD 0,iD 0,.v (.bool false),.v (.bool false),iD 0,iD 0,.v (.bool false),.v (.bool false),.v (.slice none 0 0)],erD e]) ?_ (LeD.tup (LeD.cons n00_le (LeD.cons LeD.rfl LeD.nil)))
 refine fnP_of_vc (nv:=9999) (cu:=[]) fitsF mixed Tryz.func46 rfl hoB rfl ?_
 ((repeat' ((conv=>whnf);first|exact .intro|refine .ya ?_|refine .na ?_|refine .ys ?_|refine .ns ?_|refine .neg (fun _=>?_) (fun _=>?_)|refine .mk (fun _=>?_) (fun _=>?_)|refine .inl (.inl (X1 (c1) ?_))|refine .inl (X1 (c1) ?_)|refine X1 (c1) ?_|refine .mk ?_ ?_|refine AK ?_|refine AT ?_|fail));all_goals conv=>whnf)
 exact LeD.rfl
end Go.Proofs.YtdpigpahfiachaaGreatDoor
end
