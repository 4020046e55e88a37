/- Proved: a part of what the law is proved with (the reckoner, contracts of functions, plain laws). Conditions: as each says. -/
import Derived.Test.YtdpigpahfiachaaGreatDoorXKk
import Derived.Test.YtdpigpahfiachaaGreatDoorXLb
import Derived.Test.YtdpigpahfiachaaGreatDoorXLf
import Derived.Test.YtdpigpahfiachaaGreatDoorXLg
import Derived.Test.YtdpigpahfiachaaGreatDoorXMMc
section
namespace Go.Proofs.YtdpigpahfiachaaGreatDoor
open Go Go.EYtdpigpahfiachaaGreatDoor
set_option maxRecDepth 100000
set_option maxHeartbeats 4000000
variable {gl:List (Nat×List D)}
theorem refShift_z (dc dr:Int) (a:Rf):FnP Tryz.prog gl 134 [rfD a,iD dc,iD dr] (.tup [rfD (shZ dc dr a).1,tD (shZ dc dr a).2]):=by
 unfold shZ
 by_cases h:shiftP a.c a.r a.fc a.fr dc dr
 ·rw[if_pos h];exact refShift_s h
 ·rw[if_neg h];exact refShift_n h
abbrev cMv (dc dr:Int):D:=.agg [iD 1,.v (.bool false),iD 0,iD 0,iD dc,iD dr,iD 0,iD 0,iD 0,iD 0]
theorem rref_mv (dc dr:Int) (a:Rf):FnP Tryz.prog gl 83 [cMv dc dr,rfD a] (.tup [rfD (shZ dc dr a).1,tD (shZ dc dr a).2]):=by
 have c1:=refShift_z (gl:=gl) dc dr a
 generalize shZ dc dr a=z at *
 obtain ⟨⟨c,r,f,g⟩,ok⟩:=z
 obtain ⟨c',r',f',g'⟩:=a
 refine fnP_of_vc (nv:=9999) (cu:=[]) fits mixed Tryz.func83 rfl hoB rfl ?_
 ((repeat' ((conv=>whnf);first|exact .intro|refine .ya ?_|refine .na ?_|refine .ys ?_|refine .ns ?_|refine .neg (fun _=>?_) (fun _=>?_)|refine .mk (fun _=>?_) (fun _=>?_)|refine .inl (.inl (X1 (c1) ?_))|refine .inl (X1 (c1) ?_)|refine X1 (c1) ?_|refine .mk ?_ ?_|refine AK ?_|refine AT ?_|fail));all_goals conv=>whnf)
 exact LeD.rfl
theorem rbox_mv (dc dr:Int) (a b:Rf):FnP Tryz.prog gl 84 [cMv dc dr,rfD a,rfD b] (.tup [rfD (shZ dc dr a).1,rfD (shZ dc dr b).1,andB (shZ dc dr a).2 (shZ dc dr b).2]):=by
 have c1:=rref_mv (gl:=gl) dc dr a
 have c2:=rref_mv (gl:=gl) dc dr b
 generalize shZ dc dr a=z at *
 generalize shZ dc dr b=y at *
 obtain ⟨⟨c,r,f,g⟩,ok⟩:=z
 obtain ⟨⟨c',r',f',g'⟩,ok'⟩:=y
 obtain ⟨ac,ar,af,ag⟩:=a
 obtain ⟨bc,br,bf,bg⟩:=b
 cases ok
 all_goals refine fnP_of_vc (nv:=9999) (cu:=[]) fits mixed Tryz.func84 rfl hoB rfl ?_
 all_goals ((repeat' ((conv=>whnf);first|exact .intro|refine .ya ?_|refine .na ?_|refine .ys ?_|refine .ns ?_|refine .neg (fun _=>?_) (fun _=>?_)|refine .mk (fun _=>?_) (fun _=>?_)|refine .inl (.inl (X1 (by first|exact c1|exact c2) ?_))|refine .inl (X1 (by first|exact c1|exact c2) ?_)|refine X1 (by first|exact c1|exact c2) ?_|refine .mk ?_ ?_|refine AK ?_|refine AT ?_|fail));all_goals conv=>whnf)
 all_goals exact LeD.rfl
end Go.Proofs.YtdpigpahfiachaaGreatDoor
end
section
namespace Go.Proofs.YtdpigpahfiachaaGreatDoor
open Go Go.EYtdpigpahfiachaaGreatDoor
set_option maxRecDepth 100000
set_option maxHeartbeats 4000000
variable {gl:List (Nat×List D)}
theorem noR_eq {b:Rf} (h:noR b):b=⟨0,0,false,false⟩:=by
 obtain ⟨c,r,f,g⟩:=b
 obtain ⟨⟨h1,h2,_⟩,h3,h4,_⟩:=h
 simp only at h1 h2 h3 h4
 subst h1;subst h2
 cases f <;> cases g <;> simp_all
theorem chL_snoc {ρ:Rf→Rf×Bool} {β:Rf→Rf→Rf×Rf×Bool} {ks:List Nd} {x:Nat} (h:x<ks.length):Nd.csL (chL ρ β (ks.take (x+1)))=Nd.csL (chL ρ β (ks.take x))++[(chN ρ β ks[x]).cs]:=by
 induction ks generalizing x with
 | nil=>simp at h
 | cons y r ih =>
  cases x with
  | zero=>simp[chL,Nd.csL]
  | succ x =>
   have h':x<r.length:=by simpa using h
   show _::_=_::_
   exact congrArg (List.cons (chN ρ β y).cs) (ih h')
abbrev OnR (gl:List (Nat×List D)) (dc dr:Int) (n:Nd):Prop:=FnP Tryz.prog gl 42 [cMv dc dr,.agg n.cs] (.agg (chN (shZ dc dr) (bxZ (shZ dc dr)) n).cs)
theorem bad_le:LeD (.agg [iD 4,iD 3,.str [],iD 0,iD 0,.v (.bool false),.v (.bool false),iD 0,iD 0,.v (.bool false),.v (.bool false),.v (.slice none 0 0)]) (.agg badN.cs):=by
 refine LeD.agg ?_
 repeat' first|exact LeD.rfl|exact LeD.bf (by simp)|exact LeD.nil0|refine LeD.cons ?_ ?_|exact LeD.nil
theorem onr_k (dc dr:Int) (k m:Int) (t:List UInt8) (a b:Rf) (ks:List Nd) (h5:¬ k=5) (h6:¬ k=6) (hn:ks.length≤200) (ih:∀ x (h:x<ks.length),OnR gl dc dr ks[x]):OnR gl dc dr (.mk k m t a b ks):=by
 have hlen:=kid_len ks
 unfold OnR chN
 rw[if_neg h5,if_neg h6]
 refine fnP_of_vc (nv:=9999) (cu:=[]) fits mixed Tryz.func42 rfl hoB rfl ?_
 ((repeat' ((conv=>whnf);first|exact .intro|refine .ya ?_|refine .na ?_|refine .ys ?_|refine .ns ?_|refine .neg (fun _=>?_) (fun _=>?_)|refine .mk (fun _=>?_) (fun _=>?_)|refine .mk ?_ ?_|refine AK ?_|refine AT ?_|fail));all_goals conv=>whnf)
 refine ⟨{ σ:=Nat,fr:=fun x=>[(11,.c (.d (iD (x:Int)))),(10,.c (.all 12 3))],ks:=[],L:=fun x=>[(3,.rows 12 (Nd.csL (chL (shZ dc dr) (bxZ (shZ dc dr)) (ks.take x))) 28)],ex:=1,I:=fun x=>x≤ks.length,μ:=fun x=>ks.length - x },⟨0,Nat.zero_le _,?_⟩,fun (x:Nat) hx=>?_⟩
 ·((repeat' first|exact rfl|((conv=>whnf);first|done|exact suL|refine And.intro ?_ ?_|fail));all_goals conv=>whnf)
  exact ⟨12,_,rfl,by decide,Nat.le_refl _⟩
 ·replace hx:x≤ks.length:=hx
  by_cases hlt:x<ks.length
  ·have h2:(x:Int)<((Nd.csL ks).length:Nat):=by omega
   have e0:IntKind.i64.wrap ((x:Int)+1)=((x+1:Nat):Int):=by rw[wrapI (by omega)];rfl
   have g1:=kid_get hlt
   have g2:=chL_snoc (ρ:=shZ dc dr) (β:=bxZ (shZ dc dr)) hlt
   have hq:(Nd.csL (chL (shZ dc dr) (bxZ (shZ dc dr)) (ks.take x))).length+1≤1000:=by rw[kid_len,chL_len,List.length_take];omega
   have c1:=ih x hlt
   unfold OnR at c1
   generalize hch:chN (shZ dc dr) (bxZ (shZ dc dr)) ks[x]=q' at *
   generalize ks[x]=q at *
   obtain ⟨k1,m1,t1,a1,b1,ks1⟩:=q
   obtain ⟨k2,m2,t2,a2,b2,ks2⟩:=q'
   change (Nd.csL ks)[((x:Nat):Int).toNat]?=some [iD k1,iD m1,.str t1,iD a1.c,iD a1.r,tD a1.fc,tD a1.fr,iD b1.c,iD b1.r,tD b1.fc,tD b1.fr,.lst 12 (Nd.csL ks1)] at g1
   ((repeat' ((conv=>whnf);first|exact .intro|refine .ya ?_|refine .na ?_|refine .ys ?_|refine .ns ?_|refine .neg (fun _=>?_) (fun _=>?_)|refine .mk (fun _=>?_) (fun _=>?_)|refine .inl (.inl (X1 (c1) ?_))|refine .inl (X1 (c1) ?_)|refine X1 (c1) ?_|(first|refine ⟨Int.natCast_nonneg _,_,g1,?_⟩|refine ⟨⟨rfl,by show (_+1) * 104≤_;omega,by show _+1≤maxLen;unfold maxLen;omega⟩,?_⟩)|refine .mk ?_ ?_|refine AK ?_|refine AT ?_|fail));all_goals conv=>whnf)
   all_goals refine ⟨x+1,⟨hlt,by show ks.length - (x+1)<ks.length - x;omega⟩,?_⟩
   all_goals ((repeat' first|exact rfl|((conv=>whnf);first|done|exact suL|refine And.intro ?_ ?_|fail));all_goals conv=>whnf)
   all_goals first
    | exact ceq e0
    | exact g2.symm
  ·have h2:¬ (x:Int)<((Nd.csL ks).length:Nat):=by omega
   obtain rfl:x=ks.length:=by omega
   ((repeat' ((conv=>whnf);first|exact .intro|refine .ya ?_|refine .na ?_|refine .ys ?_|refine .ns ?_|refine .neg (fun _=>?_) (fun _=>?_)|refine .mk (fun _=>?_) (fun _=>?_)|refine .mk ?_ ?_|refine AK ?_|refine AT ?_|fail));all_goals conv=>whnf)
   exact LeD.of (by rw[List.take_length];rfl)
theorem ref_le {k:Int} {c r:Int} {f g:Bool} {c' r':Int} {f' g':Bool} (fb gb:D) (hf:LeD fb (tD f')) (hg:LeD gb (tD g')):LeD (.agg [iD k,iD 0,.str [],iD c,iD r,tD f,tD g,iD c',iD r',fb,gb,.v (.slice none 0 0)]) (.agg (Nd.mk k 0 [] ⟨c,r,f,g⟩ ⟨c',r',f',g'⟩ []).cs):=by
 refine LeD.agg ?_
 repeat' first|exact LeD.rfl|exact hf|exact hg|exact LeD.nil0|refine LeD.cons ?_ ?_|exact LeD.nil
theorem onr_5 (dc dr:Int) (a:Rf):OnR gl dc dr (.mk 5 0 [] a ⟨0,0,false,false⟩ []):=by
 have c1:=rref_mv (gl:=gl) dc dr a
 unfold OnR chN
 rw[if_pos rfl]
 generalize shZ dc dr a=z at *
 obtain ⟨⟨c,r,f,g⟩,ok⟩:=z
 cases ok
 ·rw[if_neg (by simp)]
  refine fnP_of_vc (nv:=9999) (cu:=[]) fits mixed Tryz.func42 rfl hoB rfl ?_
  ((repeat' ((conv=>whnf);first|exact .intro|refine .ya ?_|refine .na ?_|refine .ys ?_|refine .ns ?_|refine .neg (fun _=>?_) (fun _=>?_)|refine .mk (fun _=>?_) (fun _=>?_)|refine .inl (.inl (X1 (c1) ?_))|refine .inl (X1 (c1) ?_)|refine X1 (c1) ?_|refine .mk ?_ ?_|refine AK ?_|refine AT ?_|fail));all_goals conv=>whnf)
  exact bad_le
 ·refine fnP_of_vc (nv:=9999) (cu:=[]) fits mixed Tryz.func42 rfl hoB rfl ?_
  ((repeat' ((conv=>whnf);first|exact .intro|refine .ya ?_|refine .na ?_|refine .ys ?_|refine .ns ?_|refine .neg (fun _=>?_) (fun _=>?_)|refine .mk (fun _=>?_) (fun _=>?_)|refine .inl (.inl (X1 (c1) ?_))|refine .inl (X1 (c1) ?_)|refine X1 (c1) ?_|refine .mk ?_ ?_|refine AK ?_|refine AT ?_|fail));all_goals conv=>whnf)
  exact ref_le _ _ (LeD.bf (by simp)) (LeD.bf (by simp))
theorem onr_6 (dc dr:Int) (a b:Rf):OnR gl dc dr (.mk 6 0 [] a b []):=by
 have c1:=rbox_mv (gl:=gl) dc dr a b
 unfold OnR chN bxZ
 rw[if_neg (by decide),if_pos rfl]
 generalize shZ dc dr a=z at *
 generalize shZ dc dr b=y at *
 obtain ⟨⟨c,r,f,g⟩,ok⟩:=z
 obtain ⟨⟨c',r',f',g'⟩,ok'⟩:=y
 cases ok <;> cases ok'
 ·rw[if_neg (by simp)]
  refine fnP_of_vc (nv:=9999) (cu:=[]) fits mixed Tryz.func42 rfl hoB rfl ?_
  ((repeat' ((conv=>whnf);first|exact .intro|refine .ya ?_|refine .na ?_|refine .ys ?_|refine .ns ?_|refine .neg (fun _=>?_) (fun _=>?_)|refine .mk (fun _=>?_) (fun _=>?_)|refine .inl (.inl (X1 (c1) ?_))|refine .inl (X1 (c1) ?_)|refine X1 (c1) ?_|refine .mk ?_ ?_|refine AK ?_|refine AT ?_|fail));all_goals conv=>whnf)
  exact bad_le
 ·rw[if_neg (by simp)]
  refine fnP_of_vc (nv:=9999) (cu:=[]) fits mixed Tryz.func42 rfl hoB rfl ?_
  ((repeat' ((conv=>whnf);first|exact .intro|refine .ya ?_|refine .na ?_|refine .ys ?_|refine .ns ?_|refine .neg (fun _=>?_) (fun _=>?_)|refine .mk (fun _=>?_) (fun _=>?_)|refine .inl (.inl (X1 (c1) ?_))|refine .inl (X1 (c1) ?_)|refine X1 (c1) ?_|refine .mk ?_ ?_|refine AK ?_|refine AT ?_|fail));all_goals conv=>whnf)
  exact bad_le
 ·rw[if_neg (by simp)]
  refine fnP_of_vc (nv:=9999) (cu:=[]) fits mixed Tryz.func42 rfl hoB rfl ?_
  ((repeat' ((conv=>whnf);first|exact .intro|refine .ya ?_|refine .na ?_|refine .ys ?_|refine .ns ?_|refine .neg (fun _=>?_) (fun _=>?_)|refine .mk (fun _=>?_) (fun _=>?_)|refine .inl (.inl (X1 (c1) ?_))|refine .inl (X1 (c1) ?_)|refine X1 (c1) ?_|refine .mk ?_ ?_|refine AK ?_|refine AT ?_|fail));all_goals conv=>whnf)
  exact bad_le
 ·refine fnP_of_vc (nv:=9999) (cu:=[]) fits mixed Tryz.func42 rfl hoB rfl ?_
  ((repeat' ((conv=>whnf);first|exact .intro|refine .ya ?_|refine .na ?_|refine .ys ?_|refine .ns ?_|refine .neg (fun _=>?_) (fun _=>?_)|refine .mk (fun _=>?_) (fun _=>?_)|refine .inl (.inl (X1 (c1) ?_))|refine .inl (X1 (c1) ?_)|refine X1 (c1) ?_|refine .mk ?_ ?_|refine AK ?_|refine AT ?_|fail));all_goals conv=>whnf)
  exact ref_le _ _ LeD.rfl LeD.rfl
theorem onr_mv (dc dr:Int) (n:Nd):∀ {box:Prop},frmN n box→cntN n≤200→OnR gl dc dr n:=by
 match n with
 | .mk k m t a b ks =>
  intro box hf hc
  have hcl:cntL ks+1≤200:=hc
  have hlk:=len_cnt ks
  have hcx:∀ x (h:x<ks.length),cntN ks[x]≤200:=fun x h=>by
   have h1:=cntL_take h
   have h2:=cntL_le ks (x+1)
   omega
  have hfx:∀ x (h:x<ks.length),∃ bx:Prop,frmN ks[x] bx:=fun x h=>by
   by_cases h7:k=7
   ·subst h7;rw[frm_7] at hf;exact ⟨_,frmL_iff.1 hf.2.2.2.2 x h⟩
   by_cases h8:k=8
   ·subst h8;rw[frm_8] at hf;exact ⟨_,frmL_iff.1 hf.2.2.2.2.2 x h⟩
   by_cases h9:k=9
   ·subst h9;rw[frm_9] at hf;exact ⟨_,frmL_iff.1 hf.2.2.2 x h⟩
   exfalso
   unfold frmN at hf
   omega
  have ih:∀ x (h:x<ks.length),OnR gl dc dr ks[x]:=fun x h=>onr_mv dc dr ks[x] (hfx x h).choose_spec (hcx x h)
  by_cases h5:k=5
  ·subst h5
   rw[frm_5] at hf
   obtain ⟨h1,rfl,rfl,h4,_⟩:=hf
   obtain rfl:=List.eq_nil_of_length_eq_zero h1
   rw[noR_eq h4]
   exact onr_5 dc dr a
  by_cases h6:k=6
  ·subst h6
   rw[frm_6] at hf
   obtain ⟨_,h1,rfl,rfl,_⟩:=hf
   obtain rfl:=List.eq_nil_of_length_eq_zero h1
   exact onr_6 dc dr a b
  exact onr_k dc dr k m t a b ks h5 h6 (by omega) ih
termination_by SizeOf.sizeOf n
decreasing_by
 simp only[Nd.mk.sizeOf_spec]
 have:=List.sizeOf_lt_of_mem (List.getElem_mem h)
 omega
end Go.Proofs.YtdpigpahfiachaaGreatDoor
end
section
namespace Go.Proofs.YtdpigpahfiachaaGreatDoor
open Go Go.EYtdpigpahfiachaaGreatDoor
set_option maxRecDepth 100000
set_option maxHeartbeats 4000000
variable {gl:List (Nat×List D)}
theorem prZ_ok {rf:List UInt8→Option Rf} {n:Nd} (h:(prZ rf n).2=0):cntN n≤200∧frmN n False:=by
 by_cases h1:cntN n≤200
 ·by_cases h2:frmN n False
  ·exact ⟨h1,h2⟩
  ·rw[prZ_f h1 h2] at h;cases h
 ·rw[prZ_k h1] at h;cases h
theorem Moved_y (n:Nd) (dc dr:Int) (hc:cntN n≤200) (hf:frmN n False) (c1:FnP Tryz.prog gl 37 [.agg n.cs] (.v .nilIface)):FnP Tryz.prog gl 36 [.agg n.cs,iD dc,iD dr] (.tup [.agg (chN (shZ dc dr) (bxZ (shZ dc dr)) n).cs,.v .nilIface]):=by
 have c2:=mov_each (gl:=gl) dc dr
 have c3:=on_mv (gl:=gl) dc dr n hf hc
 unfold OnMv at c3
 generalize chN (shZ dc dr) (bxZ (shZ dc dr)) n=n' at *
 obtain ⟨k,m,t,a,b,ks⟩:=n
 obtain ⟨k',m',t',a',b',ks'⟩:=n'
 refine fnP_of_vc (nv:=9999) (cu:=[100004]) fitsF mixed Tryz.func36 rfl hoB rfl ?_
 ((repeat' ((conv=>whnf);first|exact .intro|refine .ya ?_|refine .na ?_|refine .ys ?_|refine .ns ?_|refine .neg (fun _=>?_) (fun _=>?_)|refine .mk (fun _=>?_) (fun _=>?_)|refine .inr (X5 (c2.r [1,2] _) ?_)|refine .inl (.inr (X5 (c2.r [1,2] _) ?_))|refine .inl (X5 (c2.r [1,2] _) ?_)|refine .inr (X5 (c3.r [1,2,4] _) ?_)|refine .inl (.inr (X5 (c3.r [1,2,4] _) ?_))|refine .inl (X5 (c3.r [1,2,4] _) ?_)|refine .inl (.inl (X1 (c1) ?_))|refine .inl (X1 (c1) ?_)|refine X1 (c1) ?_|refine .mk ?_ ?_|refine AK ?_|refine AT ?_|fail));all_goals conv=>whnf)
 all_goals exact LeD.rfl
theorem Moved_n (n:Nd) (dc dr:Int) (e:Int) (c1:FnP Tryz.prog gl 37 [.agg n.cs] (erD e)):FnP Tryz.prog gl 36 [.agg n.cs,iD dc,iD dr] (.tup [.agg n00.cs,erD e]):=by
 obtain ⟨k,m,t,a,b,ks⟩:=n
 refine FnP.le (r:=.tup [.agg [iD 0,iD 0,.str [],iD 0,iD 0,.v (.bool false),.v (.bool false),iD 0,iD 0,.v (.bool false),.v (.bool false),.v (.slice none 0 0)],erD e]) ?_ (LeD.tup (LeD.cons n00_le (LeD.cons LeD.rfl LeD.nil)))
 refine fnP_of_vc (nv:=9999) (cu:=[]) fitsF mixed Tryz.func36 rfl hoB rfl ?_
 ((repeat' ((conv=>whnf);first|exact .intro|refine .ya ?_|refine .na ?_|refine .ys ?_|refine .ns ?_|refine .neg (fun _=>?_) (fun _=>?_)|refine .mk (fun _=>?_) (fun _=>?_)|refine .inl (.inl (X1 (c1) ?_))|refine .inl (X1 (c1) ?_)|refine X1 (c1) ?_|refine .mk ?_ ?_|refine AK ?_|refine AT ?_|fail));all_goals conv=>whnf)
 exact LeD.rfl
end Go.Proofs.YtdpigpahfiachaaGreatDoor
end
section
namespace Go.Proofs.YtdpigpahfiachaaGreatDoor
open Go Go.EYtdpigpahfiachaaGreatDoor
set_option maxRecDepth 100000
set_option maxHeartbeats 4000000
variable {gl:List (Nat×List D)}
abbrev zNd:D:=.agg [iD 0,iD 0,.str [],iD 0,iD 0,.v (.bool false),.v (.bool false),iD 0,iD 0,.v (.bool false),.v (.bool false),.v (.slice none 0 0)]
theorem same_z:FnP Tryz.prog gl 18 [.agg n00.cs,zNd] (.v (.bool true)):=fun w M xs hM hg hd=>by
 match xs,hd with
 | [x,y],⟨h1,h2,_⟩=>exact same_y n00 w M [x,y] hM hg ⟨h1,n00_le.1 _ _ _ h2,trivial⟩
theorem node_y (q:Nd) (he:Go.EYtdpigpahfiachaaGreatDoor.look gl 1=some errT):FnP Tryz.prog gl 43 [.agg q.cs,.v .nilIface,.agg q.cs,iD 0] (.v (.bool true)):=by
 have c1:FnP Tryz.prog gl 17 [.v .nilIface,iD 0] (.b ((0:Int)=0) inferInstance):=Error_d (gl:=gl) 0 0 he
 have c2:=same_y (gl:=gl) q
 obtain ⟨k,m,t,a,b,ks⟩:=q
 refine fnP_of_vc (nv:=9999) (cu:=[]) fits mixed Tryz.func43 rfl hoB rfl ?_
 ((repeat' ((conv=>whnf);first|exact .intro|refine .ya ?_|refine .na ?_|refine .ys ?_|refine .ns ?_|refine .neg (fun _=>?_) (fun _=>?_)|refine .mk (fun _=>?_) (fun _=>?_)|refine .inl (.inl (X1 (by first|exact c1|exact c2) ?_))|refine .inl (X1 (by first|exact c1|exact c2) ?_)|refine X1 (by first|exact c1|exact c2) ?_|refine .mk ?_ ?_|refine AK ?_|refine AT ?_|fail));all_goals conv=>whnf)
 all_goals first|exact LeD.rfl|exact LeD.vt rfl|exact LeD.vt (by simp)
theorem node_n (e:Int) (h0:e≠0) (he:Go.EYtdpigpahfiachaaGreatDoor.look gl 1=some errT):FnP Tryz.prog gl 43 [.agg n00.cs,erD e,zNd,iD e] (.v (.bool true)):=by
 have c1:FnP Tryz.prog gl 17 [erD e,iD e] (.b (e=e) inferInstance):=by
  have:=Error_d (gl:=gl) e e he
  unfold errD at this
  rwa [if_neg h0] at this
 have c2:=same_z (gl:=gl)
 generalize n00=q at *
 obtain ⟨k,m,t,a,b,ks⟩:=q
 refine fnP_of_vc (nv:=9999) (cu:=[]) fits mixed Tryz.func43 rfl hoB rfl ?_
 ((repeat' ((conv=>whnf);first|exact .intro|refine .ya ?_|refine .na ?_|refine .ys ?_|refine .ns ?_|refine .neg (fun _=>?_) (fun _=>?_)|refine .mk (fun _=>?_) (fun _=>?_)|refine .inl (.inl (X1 (by first|exact c1|exact c2) ?_))|refine .inl (X1 (by first|exact c1|exact c2) ?_)|refine X1 (by first|exact c1|exact c2) ?_|refine .mk ?_ ?_|refine AK ?_|refine AT ?_|fail));all_goals conv=>whnf)
 all_goals first|exact LeD.rfl|exact LeD.vt rfl|exact LeD.vt (by simp)
theorem RefsMoved_d (te:TypeId) (pe:Value) (hV:Has gl (glV te pe)) (hl:Go.EYtdpigpahfiachaaGreatDoor.look gl 0=some lvAll) (he:Go.EYtdpigpahfiachaaGreatDoor.look gl 1=some errT) {mx:Int} (hm:Go.EYtdpigpahfiachaaGreatDoor.look gl 3=some [iD mx]) (n:Nd) (ho:okN n) (dc dr:Int):FnP Tryz.prog gl 11 [.agg n.cs,iD dc,iD dr] (.v (.bool true)):=by
 obtain ⟨rf,hR,hE⟩:=refs_ok
 have c1:=rPrint_d (gl:=gl) hR hE n ho
 have c2:=fCheck_d te pe hV hl hR hm n ho
 by_cases h0:(prZ rf n).2=0
 ·obtain ⟨hc,hf⟩:=prZ_ok h0
  rw[h0] at c1 c2
  change FnP Tryz.prog gl 37 [_] (.v .nilIface) at c2
  have c3:=onr_mv (gl:=gl) dc dr n hf hc
  have c4:=Moved_y (gl:=gl) n dc dr hc hf c2
  unfold OnR at c3
  generalize chN (shZ dc dr) (bxZ (shZ dc dr)) n=q at *
  have c5:=node_y (gl:=gl) q he
  generalize (prZ rf n).1=s at *
  obtain ⟨k,m,t,a,b,ks⟩:=n
  obtain ⟨k',m',t',a',b',ks'⟩:=q
  refine fnP_of_vc (nv:=9999) (cu:=[]) fits mixed Tryz.func11 rfl hoB rfl ?_
  ((repeat' ((conv=>whnf);first|exact .intro|refine .ya ?_|refine .na ?_|refine .ys ?_|refine .ns ?_|refine .neg (fun _=>?_) (fun _=>?_)|refine .mk (fun _=>?_) (fun _=>?_)|refine .inl (.inl (X1 (by first|exact c1|exact c3|exact c4|exact c5) ?_))|refine .inl (X1 (by first|exact c1|exact c3|exact c4|exact c5) ?_)|refine X1 (by first|exact c1|exact c3|exact c4|exact c5) ?_|refine .mk ?_ ?_|refine AK ?_|refine AT ?_|fail));all_goals conv=>whnf)
  all_goals first|exact LeD.rfl|exact LeD.vt rfl|exact LeD.vt (by simp)
 ·have c5:=node_n (gl:=gl) (prZ rf n).2 h0 he
  simp only[errD,if_neg h0] at c2
  have c4:=Moved_n (gl:=gl) n dc dr _ c2
  generalize prZ rf n=z at *
  obtain ⟨s,e⟩:=z
  simp only at h0 c1 c2 c4 c5
  generalize n00=q at *
  obtain ⟨k,m,t,a,b,ks⟩:=n
  obtain ⟨k',m',t',a',b',ks'⟩:=q
  refine fnP_of_vc (nv:=9999) (cu:=[]) fits mixed Tryz.func11 rfl hoB rfl ?_
  ((repeat' ((conv=>whnf);first|exact .intro|refine .ya ?_|refine .na ?_|refine .ys ?_|refine .ns ?_|refine .neg (fun _=>?_) (fun _=>?_)|refine .mk (fun _=>?_) (fun _=>?_)|refine .inl (.inl (X1 (by first|exact c1|exact c4|exact c5) ?_))|refine .inl (X1 (by first|exact c1|exact c4|exact c5) ?_)|refine X1 (by first|exact c1|exact c4|exact c5) ?_|refine .mk ?_ ?_|refine AK ?_|refine AT ?_|fail));all_goals conv=>whnf)
  all_goals first|exact LeD.rfl|exact LeD.vt rfl|exact LeD.vt (by simp)
theorem RefsMoved_g (te:TypeId) (pe:Value) (mx:Int) (n:Nd) (ho:okN n) (dc dr:Int):FnP Tryz.prog (glU te pe mx) 11 [.agg n.cs,iD dc,iD dr] (.v (.bool true)) :=
 RefsMoved_d te pe (glU_has te pe mx) rfl rfl rfl n ho dc dr
end Go.Proofs.YtdpigpahfiachaaGreatDoor
end
