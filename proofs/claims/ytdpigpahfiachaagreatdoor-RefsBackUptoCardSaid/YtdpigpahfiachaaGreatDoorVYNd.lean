/- Proved: a part of what the law is proved with (the reckoner, contracts of functions, plain laws). Conditions: as each says. -/
import Derived.Test.YtdpigpahfiachaaGreatDoorVYNb
section
namespace Go.Proofs.YtdpigpahfiachaaGreatDoor
open Go Go.EYtdpigpahfiachaaGreatDoor
set_option maxRecDepth 100000
set_option maxHeartbeats 4000000
variable {gl:List (Nat×List D)}
abbrev onInC:V:=.agg [.fn 73 [(0,0),(1,0),(2,0)],.fn 121 [(3,0)]]
def OnIn (gl:List (Nat×List D)) (row:Bool) (p q:Int) (n:Nd):Prop:=Go.EYtdpigpahfiachaaGreatDoor.Fn Tryz.prog gl 71 [onInC,.agg (ndC n)] (inH row p q) 4 (.ret (.agg (ndC (chN (insZ row p q) (bxZ (insZ row p q)) n)))) (inH row p q) 4 []
theorem onIn_k (row:Bool) (p q:Int) (k m:Int) (t:List UInt8) (a b:Rf) (ks:List Nd) (h5:¬ k=5) (h6:¬ k=6) (h0:ks≠[]) (hn:ks.length≤200) (ih:∀ x (h:x<ks.length),OnIn gl row p q ks[x]):OnIn gl row p q (.mk k m t a b ks):=by
 have c0:=Clone_x (gl:=gl) ks h0 hn
 have hlen:=kid_len ks
 unfold OnIn chN
 rw[if_neg h5,if_neg h6]
 refine fn_of_vc (nv:=9999) (cu:=[100017]) fitsF mixed Tryz.func71 rfl hoB rfl rfl rfl rfl ?_
 ((repeat' ((conv=>whnf);first|exact .intro|refine .ya ?_|refine .na ?_|refine .ys ?_|refine .ns ?_|refine .neg (fun _=>?_) (fun _=>?_)|refine .mk (fun _=>?_) (fun _=>?_)|refine .inr (X5 (c0.r [] _) ?_)|refine .inl (.inr (X5 (c0.r [] _) ?_))|refine .inl (X5 (c0.r [] _) ?_)|refine .mk ?_ ?_|refine AK ?_|refine AT ?_|fail));all_goals conv=>whnf)
 refine ⟨{ σ:=Nat,fr:=fun x=>[(58,.c (.d (iD (x:Int))))],ks:=[8],L:=fun x=>[(8,.rows 12 (Nd.csL (chT (insZ row p q) (bxZ (insZ row p q)) x ks)) 28)],ex:=0,I:=fun x=>x≤ks.length,μ:=fun x=>ks.length - x },⟨0,Nat.zero_le _,?_⟩,fun (x:Nat) hx=>?_⟩
 ·((repeat' first|exact rfl|((conv=>whnf);first|done|exact suL|refine And.intro ?_ ?_|fail));all_goals conv=>whnf)
 ·replace hx:x≤ks.length:=hx
  by_cases hlt:x<ks.length
  ·have h2:(x:Int)<((Nd.csL ks).length:Nat):=by omega
   have e0:IntKind.i64.wrap ((x:Int)+1)=((x+1:Nat):Int):=by rw[wrapI (by omega)];rfl
   have g1:=chT_get (ρ:=(insZ row p q)) (β:=(bxZ (insZ row p q))) hlt
   have g2:=chT_set (ρ:=(insZ row p q)) (β:=(bxZ (insZ row p q))) hlt
   have hi:(x:Int)<((Nd.csL (chT (insZ row p q) (bxZ (insZ row p q)) x ks)).length:Nat):=by rw[kid_len,chT_len];omega
   have c1:=ih x hlt
   unfold OnIn at c1
   generalize hch:chN (insZ row p q) (bxZ (insZ row p q)) ks[x]=nq' at *
   generalize ks[x]=nq at *
   obtain ⟨k1,m1,t1,a1,b1,ks1⟩:=nq
   obtain ⟨k2,m2,t2,a2,b2,ks2⟩:=nq'
   ((repeat' ((conv=>whnf);first|exact .intro|refine .ya ?_|refine .na ?_|refine .ys ?_|refine .ns ?_|refine .neg (fun _=>?_) (fun _=>?_)|refine .mk (fun _=>?_) (fun _=>?_)|refine .inr (X5 (c1.r [0,1,2,3] _) ?_)|refine .inl (.inr (X5 (c1.r [0,1,2,3] _) ?_))|refine .inl (X5 (c1.r [0,1,2,3] _) ?_)|(first|refine ⟨⟨Int.natCast_nonneg _,hi⟩,?_⟩|refine ⟨Int.natCast_nonneg _,_,g1,?_⟩|refine ⟨_,g1,?_⟩)|refine .mk ?_ ?_|refine AK ?_|refine AT ?_|fail));all_goals conv=>whnf)
   all_goals refine ⟨x+1,⟨hlt,by show ks.length - (x+1)<ks.length - x;omega⟩,?_⟩
   all_goals ((repeat' first|exact rfl|((conv=>whnf);first|done|exact suL|refine And.intro ?_ ?_|fail));all_goals conv=>whnf)
   all_goals first
    | exact ceq e0
    | exact g2
    | exact congrArg (fun z=>Blk.rows 12 z 28) g2
  ·have h2:¬ (x:Int)<((Nd.csL ks).length:Nat):=by omega
   obtain rfl:x=ks.length:=by omega
   ((repeat' ((conv=>whnf);first|exact .intro|refine .ya ?_|refine .na ?_|refine .ys ?_|refine .ns ?_|refine .neg (fun _=>?_) (fun _=>?_)|refine .mk (fun _=>?_) (fun _=>?_)|refine .mk ?_ ?_|refine AK ?_|refine AT ?_|fail));all_goals conv=>whnf)
   ((repeat' first|exact rfl|((conv=>whnf);first|done|exact suL|refine And.intro ?_ ?_|fail));all_goals conv=>whnf)
   exact .inl (by rw[chT_all];rfl)
theorem onIn_0 (row:Bool) (p q:Int) (k m:Int) (t:List UInt8) (a b:Rf) (h5:¬ k=5) (h6:¬ k=6):OnIn gl row p q (.mk k m t a b []):=by
 have c0:=Clone_0 (gl:=gl)
 have h2:¬ (0:Int)<((([]:List (List D)).length:Nat):Int):=by decide
 unfold OnIn chN
 rw[if_neg h5,if_neg h6]
 refine fn_of_vc (nv:=9999) (cu:=[]) fitsF mixed Tryz.func71 rfl hoB rfl rfl rfl rfl ?_
 ((repeat' ((conv=>whnf);first|exact .intro|refine .ya ?_|refine .na ?_|refine .ys ?_|refine .ns ?_|refine .neg (fun _=>?_) (fun _=>?_)|refine .mk (fun _=>?_) (fun _=>?_)|refine .inl (.inl (X1 (c0) ?_))|refine .inl (X1 (c0) ?_)|refine X1 (c0) ?_|refine .mk ?_ ?_|refine AK ?_|refine AT ?_|fail));all_goals conv=>whnf)
 refine ⟨{ σ:=Unit,fr:=fun x=>[(58,.c (.d (iD 0)))],ks:=[],L:=fun x=>[],ex:=0,I:=fun x=>True,μ:=fun x=>0 },⟨(),trivial,?_⟩,fun _ _=>?_⟩
 ·((repeat' first|exact rfl|((conv=>whnf);first|done|exact suL|refine And.intro ?_ ?_|fail));all_goals conv=>whnf)
 ·((repeat' ((conv=>whnf);first|exact .intro|refine .ya ?_|refine .na ?_|refine .ys ?_|refine .ns ?_|refine .neg (fun _=>?_) (fun _=>?_)|refine .mk (fun _=>?_) (fun _=>?_)|refine .mk ?_ ?_|refine AK ?_|refine AT ?_|fail));all_goals conv=>whnf)
  ((repeat' first|exact rfl|((conv=>whnf);first|done|exact suL|refine And.intro ?_ ?_|fail));all_goals conv=>whnf)
theorem onIn_5 (row:Bool) (p q:Int)  (m:Int) (t:List UInt8) (a b:Rf) (_ha:okP a.c a.r):OnIn gl row p q (.mk 5 m t a b []):=by
 have c0:=Clone_0 (gl:=gl)
 have c1:=ins_rz (gl:=gl) row p q a
 have h2:¬ (0:Int)<((([]:List (List D)).length:Nat):Int):=by decide
 unfold OnIn chN
 rw[if_pos rfl]
 generalize (insZ row p q) a=y at *
 obtain ⟨⟨c,r,f,g⟩,ok⟩:=y
 skip
 cases ok
 ·rw[if_neg (by simp)]
  refine fn_of_vc (nv:=9999) (cu:=[]) fitsF mixed Tryz.func71 rfl hoB rfl rfl rfl rfl ?_
  ((repeat' ((conv=>whnf);first|exact .intro|refine .ya ?_|refine .na ?_|refine .ys ?_|refine .ns ?_|refine .neg (fun _=>?_) (fun _=>?_)|refine .mk (fun _=>?_) (fun _=>?_)|refine .inr (X5 (c1.r [0,1,2] _) ?_)|refine .inl (.inr (X5 (c1.r [0,1,2] _) ?_))|refine .inl (X5 (c1.r [0,1,2] _) ?_)|refine .inl (.inl (X1 (c0) ?_))|refine .inl (X1 (c0) ?_)|refine X1 (c0) ?_|refine .mk ?_ ?_|refine AK ?_|refine AT ?_|fail));all_goals conv=>whnf)
  ((repeat' first|exact rfl|((conv=>whnf);first|done|exact suL|refine And.intro ?_ ?_|fail));all_goals conv=>whnf)
  (refine .inr ?_;repeat' first|exact .intro|exact .inr (.inl rfl)|exact lf0|exact ln0|((conv=>whnf);first|exact .intro|exact .inr (.inl rfl)|exact lf0|exact ln0|refine And.intro ?_ ?_|fail))
 ·refine fn_of_vc (nv:=9999) (cu:=[]) fitsF mixed Tryz.func71 rfl hoB rfl rfl rfl rfl ?_
  ((repeat' ((conv=>whnf);first|exact .intro|refine .ya ?_|refine .na ?_|refine .ys ?_|refine .ns ?_|refine .neg (fun _=>?_) (fun _=>?_)|refine .mk (fun _=>?_) (fun _=>?_)|refine .inr (X5 (c1.r [0,1,2] _) ?_)|refine .inl (.inr (X5 (c1.r [0,1,2] _) ?_))|refine .inl (X5 (c1.r [0,1,2] _) ?_)|refine .inl (.inl (X1 (c0) ?_))|refine .inl (X1 (c0) ?_)|refine X1 (c0) ?_|refine .mk ?_ ?_|refine AK ?_|refine AT ?_|fail));all_goals conv=>whnf)
  refine ⟨{ σ:=Unit,fr:=fun x=>[(58,.c (.d (iD 0)))],ks:=[],L:=fun x=>[],ex:=0,I:=fun x=>True,μ:=fun x=>0 },⟨(),trivial,?_⟩,fun _ _=>?_⟩
  ·((repeat' first|exact rfl|((conv=>whnf);first|done|exact suL|refine And.intro ?_ ?_|fail));all_goals conv=>whnf)
  ·((repeat' ((conv=>whnf);first|exact .intro|refine .ya ?_|refine .na ?_|refine .ys ?_|refine .ns ?_|refine .neg (fun _=>?_) (fun _=>?_)|refine .mk (fun _=>?_) (fun _=>?_)|refine .mk ?_ ?_|refine AK ?_|refine AT ?_|fail));all_goals conv=>whnf)
   ((repeat' first|exact rfl|((conv=>whnf);first|done|exact suL|refine And.intro ?_ ?_|fail));all_goals conv=>whnf)
theorem onIn_6 (row:Bool) (p q:Int)  (m:Int) (t:List UInt8) (a b:Rf) (_ha:okP a.c a.r) (_hb:okP b.c b.r):OnIn gl row p q (.mk 6 m t a b []):=by
 have c0:=Clone_0 (gl:=gl)
 have c1:=ins_bz (gl:=gl) row p q a b
 have h2:¬ (0:Int)<((([]:List (List D)).length:Nat):Int):=by decide
 unfold OnIn chN
 rw[if_neg (by decide),if_pos rfl]
 generalize (bxZ (insZ row p q)) a b=y at *
 obtain ⟨⟨c,r,f,g⟩,⟨c',r',f',g'⟩,ok⟩:=y
 skip
 cases ok
 ·rw[if_neg (by simp)]
  refine fn_of_vc (nv:=9999) (cu:=[]) fitsF mixed Tryz.func71 rfl hoB rfl rfl rfl rfl ?_
  ((repeat' ((conv=>whnf);first|exact .intro|refine .ya ?_|refine .na ?_|refine .ys ?_|refine .ns ?_|refine .neg (fun _=>?_) (fun _=>?_)|refine .mk (fun _=>?_) (fun _=>?_)|refine .inr (X5 (c1.r [0,1,2,3] _) ?_)|refine .inl (.inr (X5 (c1.r [0,1,2,3] _) ?_))|refine .inl (X5 (c1.r [0,1,2,3] _) ?_)|refine .inl (.inl (X1 (c0) ?_))|refine .inl (X1 (c0) ?_)|refine X1 (c0) ?_|refine .mk ?_ ?_|refine AK ?_|refine AT ?_|fail));all_goals conv=>whnf)
  ((repeat' first|exact rfl|((conv=>whnf);first|done|exact suL|refine And.intro ?_ ?_|fail));all_goals conv=>whnf)
  (refine .inr ?_;repeat' first|exact .intro|exact .inr (.inl rfl)|exact lf0|exact ln0|((conv=>whnf);first|exact .intro|exact .inr (.inl rfl)|exact lf0|exact ln0|refine And.intro ?_ ?_|fail))
 ·refine fn_of_vc (nv:=9999) (cu:=[]) fitsF mixed Tryz.func71 rfl hoB rfl rfl rfl rfl ?_
  ((repeat' ((conv=>whnf);first|exact .intro|refine .ya ?_|refine .na ?_|refine .ys ?_|refine .ns ?_|refine .neg (fun _=>?_) (fun _=>?_)|refine .mk (fun _=>?_) (fun _=>?_)|refine .inr (X5 (c1.r [0,1,2,3] _) ?_)|refine .inl (.inr (X5 (c1.r [0,1,2,3] _) ?_))|refine .inl (X5 (c1.r [0,1,2,3] _) ?_)|refine .inl (.inl (X1 (c0) ?_))|refine .inl (X1 (c0) ?_)|refine X1 (c0) ?_|refine .mk ?_ ?_|refine AK ?_|refine AT ?_|fail));all_goals conv=>whnf)
  all_goals
   refine ⟨{ σ:=Unit,fr:=fun x=>[(58,.c (.d (iD 0)))],ks:=[],L:=fun x=>[],ex:=0,I:=fun x=>True,μ:=fun x=>0 },⟨(),trivial,?_⟩,fun _ _=>?_⟩
   ·((repeat' first|exact rfl|((conv=>whnf);first|done|exact suL|refine And.intro ?_ ?_|fail));all_goals conv=>whnf)
   ·((repeat' ((conv=>whnf);first|exact .intro|refine .ya ?_|refine .na ?_|refine .ys ?_|refine .ns ?_|refine .neg (fun _=>?_) (fun _=>?_)|refine .mk (fun _=>?_) (fun _=>?_)|refine .mk ?_ ?_|refine AK ?_|refine AT ?_|fail));all_goals conv=>whnf)
    ((repeat' first|exact rfl|((conv=>whnf);first|done|exact suL|refine And.intro ?_ ?_|fail));all_goals conv=>whnf)
theorem onIn_all (row:Bool) (p q:Int)  (n:Nd):∀ {box:Prop},frmN n box→cntN n≤200→OnIn gl row p q n:=by
 match n with
 | .mk k m t a b ks =>
  intro box hf hc
  have hcl:cntL ks+1≤200:=hc
  have hlk:=len_cnt ks
  have hcx:∀ x (h:x<ks.length),cntN ks[x]≤200:=fun x h=>by
   have h1:=cntL_take h
   have h2:=cntL_le ks (x+1)
   omega
  have ih:∀ x (h:x<ks.length),OnIn gl row p q ks[x]:=fun x h=>onIn_all row p q  ks[x] (frm_kid hf x h).choose_spec (hcx x h)
  by_cases h5:k=5
  ·subst h5
   rw[frm_5] at hf
   obtain rfl:=List.eq_nil_of_length_eq_zero hf.1
   exact onIn_5 row p q  m t a b hf.2.2.2.2
  by_cases h6:k=6
  ·subst h6
   rw[frm_6] at hf
   obtain rfl:=List.eq_nil_of_length_eq_zero hf.2.1
   exact onIn_6 row p q  m t a b hf.2.2.2.2.1 hf.2.2.2.2.2
  by_cases h0:ks=[]
  ·subst h0
   exact onIn_0 row p q k m t a b h5 h6
  ·exact onIn_k row p q k m t a b ks h5 h6 h0 (by omega) ih
termination_by SizeOf.sizeOf n
decreasing_by
 simp only[Nd.mk.sizeOf_spec]
 have:=List.sizeOf_lt_of_mem (List.getElem_mem h)
 omega
end Go.Proofs.YtdpigpahfiachaaGreatDoor
end
section
namespace Go.Proofs.YtdpigpahfiachaaGreatDoor
open Go Go.EYtdpigpahfiachaaGreatDoor
set_option maxRecDepth 100000
set_option maxHeartbeats 4000000
variable {gl:List (Nat×List D)}
theorem Inserted_y (n:Nd) (row:Bool) (p q:Int) (hs:spnP row p q) (hc:cntN n≤200) (hf:frmN n False) (c1:FnP Tryz.prog gl 37 [.agg n.cs] (.v .nilIface)):FnP Tryz.prog gl 39 [.agg n.cs,.v (.bool row),iD p,iD q] (.tup [.agg (chN (insZ row p q) (bxZ (insZ row p q)) n).cs,.v .nilIface]):=by
 have c0:=Span_d (gl:=gl) row p q
 have c2:=ins_each (gl:=gl) row p q
 have c3:=onIn_all (gl:=gl) row p q n hf hc
 unfold OnIn at c3
 generalize chN (insZ row p q) (bxZ (insZ row p q)) n=n' at *
 obtain ⟨k,m,t,a,b,ks⟩:=n
 obtain ⟨k',m',t',a',b',ks'⟩:=n'
 refine fnP_of_vc (nv:=9999) (cu:=[100006]) fitsF mixed Tryz.func39 rfl hoB rfl ?_
 ((repeat' ((conv=>whnf);first|exact .intro|refine .ya ?_|refine .na ?_|refine .ys ?_|refine .ns ?_|refine .neg (fun _=>?_) (fun _=>?_)|refine .mk (fun _=>?_) (fun _=>?_)|refine .inr (X5 (c2.r [1,2,3] _) ?_)|refine .inl (.inr (X5 (c2.r [1,2,3] _) ?_))|refine .inl (X5 (c2.r [1,2,3] _) ?_)|refine .inr (X5 (c3.r [1,2,3,5] _) ?_)|refine .inl (.inr (X5 (c3.r [1,2,3,5] _) ?_))|refine .inl (X5 (c3.r [1,2,3,5] _) ?_)|refine .inl (.inl (X1 (by first|exact c1|exact c0) ?_))|refine .inl (X1 (by first|exact c1|exact c0) ?_)|refine X1 (by first|exact c1|exact c0) ?_|refine .mk ?_ ?_|refine AK ?_|refine AT ?_|fail));all_goals conv=>whnf)
 all_goals exact LeD.rfl
theorem Inserted_s (n:Nd) (row:Bool) (p q:Int) (hs:¬ spnP row p q) (c1:FnP Tryz.prog gl 37 [.agg n.cs] (.v .nilIface)):FnP Tryz.prog gl 39 [.agg n.cs,.v (.bool row),iD p,iD q] (.tup [.agg n00.cs,erD 1]):=by
 have c0:=Span_d (gl:=gl) row p q
 obtain ⟨k,m,t,a,b,ks⟩:=n
 refine FnP.le (r:=.tup [.agg [iD 0,iD 0,.str [],iD 0,iD 0,.v (.bool false),.v (.bool false),iD 0,iD 0,.v (.bool false),.v (.bool false),.v (.slice none 0 0)],erD 1]) ?_ (LeD.tup (LeD.cons n00_le (LeD.cons LeD.rfl LeD.nil)))
 refine fnP_of_vc (nv:=9999) (cu:=[100006]) fitsF mixed Tryz.func39 rfl hoB rfl ?_
 ((repeat' ((conv=>whnf);first|exact .intro|refine .ya ?_|refine .na ?_|refine .ys ?_|refine .ns ?_|refine .neg (fun _=>?_) (fun _=>?_)|refine .mk (fun _=>?_) (fun _=>?_)|refine .inl (.inl (X1 (by first|exact c1|exact c0) ?_))|refine .inl (X1 (by first|exact c1|exact c0) ?_)|refine X1 (by first|exact c1|exact c0) ?_|refine .mk ?_ ?_|refine AK ?_|refine AT ?_|fail));all_goals conv=>whnf)
 exact LeD.rfl
end Go.Proofs.YtdpigpahfiachaaGreatDoor
end
