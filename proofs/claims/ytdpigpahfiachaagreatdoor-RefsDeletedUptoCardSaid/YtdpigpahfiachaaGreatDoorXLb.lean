/- Proved: a part of what the law is proved with (the reckoner, contracts of functions, plain laws). Conditions: as each says. -/
import Derived.Test.YtdpigpahfiachaaGreatDoorXHba
import Derived.Test.YtdpigpahfiachaaGreatDoorXKd
section
namespace Go.Proofs.YtdpigpahfiachaaGreatDoor
open Go Go.EYtdpigpahfiachaaGreatDoor
set_option maxRecDepth 100000
set_option maxHeartbeats 4000000
variable {gl:List (Nat×List D)}
theorem rCount_d (n:Nd):∀ (i:Nat),i≤200→FnP Tryz.prog gl 80 [.agg n.cs,iD i] (iD (min (cntN n) (i+1):Nat)):=by
 match n with
 | .mk k m t a b ks =>
  have ih:∀ x (h:x<ks.length),∀ (i:Nat),i≤200→FnP Tryz.prog gl 80 [.agg (ks[x]).cs,iD i] (iD (min (cntN ks[x]) (i+1):Nat)):=fun x h=>rCount_d ks[x]
  intro i hi
  have hlen:=kid_len ks
  have hpos:=cnt_pos (.mk k m t a b ks)
  by_cases h0:i=0
  ·subst h0
   have h1:((0:Nat):Int)≤0:=by decide
   refine fnP_of_vc (nv:=9999) (cu:=[]) fits mixed Tryz.func80 rfl hoB rfl ?_
   ((repeat' ((conv=>whnf);first|exact .intro|refine .ya ?_|refine .na ?_|refine .ys ?_|refine .ns ?_|refine .neg (fun _=>?_) (fun _=>?_)|refine .mk (fun _=>?_) (fun _=>?_)|refine .mk ?_ ?_|refine AK ?_|refine AT ?_|fail));all_goals conv=>whnf)
   exact LeD.of (congrArg (fun q:Nat=>iD (q:Int)) (by omega:(1:Nat)=_))
  ·have h1:¬ (i:Int)≤0:=by omega
   refine fnP_of_vc (nv:=9999) (cu:=[]) fits mixed Tryz.func80 rfl hoB rfl ?_
   ((repeat' ((conv=>whnf);first|exact .intro|refine .ya ?_|refine .na ?_|refine .ys ?_|refine .ns ?_|refine .neg (fun _=>?_) (fun _=>?_)|refine .mk (fun _=>?_) (fun _=>?_)|refine .mk ?_ ?_|refine AK ?_|refine AT ?_|fail));all_goals conv=>whnf)
   refine ⟨{ σ:=Nat,fr:=fun x=>[(6,.c (.d (iD (x:Int)))),(5,.c (.d (iD (min (1+cntL (ks.take x)) (i+1):Nat))))],ks:=[],L:=fun x=>[],ex:=0,I:=fun x=>x≤ks.length,μ:=fun x=>ks.length - x },⟨0,Nat.zero_le _,?_⟩,fun (x:Nat) hx=>?_⟩
   ·((repeat' first|exact rfl|((conv=>whnf);first|done|exact suL|refine And.intro ?_ ?_|fail));all_goals conv=>whnf)
   ·by_cases hlt:x<ks.length
    ·have h2:(x:Int)<((Nd.csL ks).length:Nat):=by omega
     have g1:=kid_get hlt
     have ht:=cntL_take hlt
     by_cases hc:1+cntL (ks.take x)≤i
     ·have h3:((min (1+cntL (ks.take x)) (i+1):Nat):Int)≤i:=by omega
      have c1:=ih x hlt (i - (1+cntL (ks.take x))) (by omega)
      have hxc:=len_cnt (ks.take x)
      rw[List.length_take,Nat.min_eq_left hx] at hxc
      have e0:IntKind.i64.wrap ((x:Int)+1)=((x+1:Nat):Int):=by rw[wrapI (by omega)];rfl
      have e1:IntKind.i64.wrap ((i:Int) - ((min (1+cntL (ks.take x)) (i+1):Nat):Int))=((i - (1+cntL (ks.take x)):Nat):Int):=by rw[wrapI (by omega)];omega
      have e2:∀ q:Nat,IntKind.i64.wrap (((min (1+cntL (ks.take x)) (i+1):Nat):Int)+((min q ((i - (1+cntL (ks.take x)))+1):Nat):Int))=((min (1+cntL (ks.take x)+q) (i+1):Nat):Int):=fun q=>by rw[wrapI (by omega)];omega
      generalize ks[x]=q at *
      obtain ⟨k1,m1,t1,a1,b1,ks1⟩:=q
      change (Nd.csL ks)[((x:Nat):Int).toNat]?=some [iD k1,iD m1,.str t1,iD a1.c,iD a1.r,tD a1.fc,tD a1.fr,iD b1.c,iD b1.r,tD b1.fc,tD b1.fr,.lst 12 (Nd.csL ks1)] at g1
      ((repeat' ((conv=>whnf);first|exact .intro|refine .ya ?_|refine .na ?_|refine .ys ?_|refine .ns ?_|refine .neg (fun _=>?_) (fun _=>?_)|refine .mk (fun _=>?_) (fun _=>?_)|refine .inl (.inl (X1 (c1) ?_))|refine .inl (X1 (c1) ?_)|refine X1 (c1) ?_|(first|refine ⟨Int.natCast_nonneg _,_,g1,?_⟩|rw[e1])|refine .mk ?_ ?_|refine AK ?_|refine AT ?_|fail));all_goals conv=>whnf)
      refine ⟨x+1,⟨hlt,by show ks.length - (x+1)<ks.length - x;omega⟩,?_⟩
      ((repeat' first|exact rfl|((conv=>whnf);first|done|exact suL|refine And.intro ?_ ?_|fail));all_goals conv=>whnf)
      ·exact ceq e0
      ·exact ceq (by rw[e2,ht,Nat.add_assoc])
     ·have h3:¬ ((min (1+cntL (ks.take x)) (i+1):Nat):Int)≤i:=by omega
      have:=cntL_le ks x
      ((repeat' ((conv=>whnf);first|exact .intro|refine .ya ?_|refine .na ?_|refine .ys ?_|refine .ns ?_|refine .neg (fun _=>?_) (fun _=>?_)|refine .mk (fun _=>?_) (fun _=>?_)|refine .mk ?_ ?_|refine AK ?_|refine AT ?_|fail));all_goals conv=>whnf)
      exact LeD.of (congrArg (fun q:Nat=>iD (q:Int)) (by unfold cntN;omega))
    ·have h2:¬ (x:Int)<((Nd.csL ks).length:Nat):=by omega
     ((repeat' ((conv=>whnf);first|exact .intro|refine .ya ?_|refine .na ?_|refine .ys ?_|refine .ns ?_|refine .neg (fun _=>?_) (fun _=>?_)|refine .mk (fun _=>?_) (fun _=>?_)|refine .mk ?_ ?_|refine AK ?_|refine AT ?_|fail));all_goals conv=>whnf)
     have hxl:x=ks.length:=by omega
     subst hxl
     rw[List.take_length] at *
     exact LeD.of (congrArg (fun q:Nat=>iD (q:Int)) (by unfold cntN;omega))
termination_by SizeOf.sizeOf n
decreasing_by
 simp only[Nd.mk.sizeOf_spec]
 have:=List.sizeOf_lt_of_mem (List.getElem_mem h)
 omega
end Go.Proofs.YtdpigpahfiachaaGreatDoor
end
section
namespace Go.Proofs.YtdpigpahfiachaaGreatDoor
open Go Go.EYtdpigpahfiachaaGreatDoor
set_option maxRecDepth 100000
set_option maxHeartbeats 4000000
variable {gl:List (Nat×List D)}
theorem rcalled_all (s:List UInt8):FnP Tryz.prog gl 125 [.str s] (.v (.bool (clZ s))):=by
 by_cases hs:s.length≤200
 ·cases h:clZ s with
  | true=>exact rcalled_y hs h
  | false=>exact rcalled_n hs h
 ·have h:clZ s=false:=by
   unfold clZ
   rw[decide_eq_false (show ¬ s.length≤10 by omega)]
   simp
  rw[h]
  have h1:¬ ((s.length:Nat):Int)<2:=by omega
  have h2:((s.length:Nat):Int)>10:=by omega
  refine fnP_of_vc (nv:=9999) (cu:=[]) fits mixed Tryz.func125 rfl hoB rfl ?_
  ((repeat' ((conv=>whnf);first|exact .intro|refine .ya ?_|refine .na ?_|refine .ys ?_|refine .ns ?_|refine .neg (fun _=>?_) (fun _=>?_)|refine .mk (fun _=>?_) (fun _=>?_)|refine .mk ?_ ?_|refine AK ?_|refine AT ?_|fail));all_goals conv=>whnf)
  exact LeD.rfl
theorem rFormed_d (n:Nd):∀ bx:Bool,FnP Tryz.prog gl 81 [.agg n.cs,.v (.bool bx)] (.b (frmN n (bx=true)) (Classical.propDecidable _)):=by
 match n with
 | .mk k m t a b ks =>
  have ih:∀ x (h:x<ks.length),∀ bx:Bool,FnP Tryz.prog gl 81 [.agg (ks[x]).cs,.v (.bool bx)] (.b (frmN ks[x] (bx=true)) (Classical.propDecidable _)):=fun x h=>rFormed_d ks[x]
  intro bx
  suffices hh:ks.length≤9223372036854775807→FnP Tryz.prog gl 81 [.agg (Nd.mk k m t a b ks).cs,.v (.bool bx)] (.b (frmN (.mk k m t a b ks) (bx=true)) (Classical.propDecidable _)) from fun w M xs hM hg hd=>(match xs,hd with
   | x::ys,hd=>hh (kids_le hd.1) w M (x::ys) hM hg hd
   | [],hd=>hd.elim)
  intro hks
  have hlen:=kid_len ks
  by_cases k1:k=1
  ·subst k1
   refine fnP_of_vc (nv:=9999) (cu:=[]) fits mixed Tryz.func81 rfl hoB rfl ?_
   ((repeat' ((conv=>whnf);first|exact .intro|refine .ya ?_|refine .na ?_|refine .ys ?_|refine .ns ?_|refine .neg (fun _=>?_) (fun _=>?_)|refine .mk (fun _=>?_) (fun _=>?_)|refine .mk ?_ ?_|refine AK ?_|refine AT ?_|fail));all_goals conv=>whnf)
   all_goals simp only[andPD] at *
   all_goals clear ih
   all_goals first
    | (refine LeD.b ?_;rw[frm_1];grind)
    | (refine LeD.bf ?_;rw[frm_1];grind)
    | (refine LeD.bt ?_;rw[frm_1];grind)
  by_cases k2:k=2
  ·subst k2
   refine fnP_of_vc (nv:=9999) (cu:=[]) fits mixed Tryz.func81 rfl hoB rfl ?_
   ((repeat' ((conv=>whnf);first|exact .intro|refine .ya ?_|refine .na ?_|refine .ys ?_|refine .ns ?_|refine .neg (fun _=>?_) (fun _=>?_)|refine .mk (fun _=>?_) (fun _=>?_)|refine .mk ?_ ?_|refine AK ?_|refine AT ?_|fail));all_goals conv=>whnf)
   all_goals simp only[andPD] at *
   all_goals clear ih
   all_goals first
    | (refine LeD.b ?_;rw[frm_2];grind)
    | (refine LeD.bf ?_;rw[frm_2];grind)
    | (refine LeD.bt ?_;rw[frm_2];grind)
  by_cases k3:k=3
  ·subst k3
   refine fnP_of_vc (nv:=9999) (cu:=[]) fits mixed Tryz.func81 rfl hoB rfl ?_
   ((repeat' ((conv=>whnf);first|exact .intro|refine .ya ?_|refine .na ?_|refine .ys ?_|refine .ns ?_|refine .neg (fun _=>?_) (fun _=>?_)|refine .mk (fun _=>?_) (fun _=>?_)|refine .mk ?_ ?_|refine AK ?_|refine AT ?_|fail));all_goals conv=>whnf)
   all_goals simp only[andPD] at *
   all_goals clear ih
   all_goals first
    | (refine LeD.b ?_;rw[frm_3];grind)
    | (refine LeD.bf ?_;rw[frm_3];grind)
    | (refine LeD.bt ?_;rw[frm_3];grind)
  by_cases k4:k=4
  ·subst k4
   refine fnP_of_vc (nv:=9999) (cu:=[]) fits mixed Tryz.func81 rfl hoB rfl ?_
   ((repeat' ((conv=>whnf);first|exact .intro|refine .ya ?_|refine .na ?_|refine .ys ?_|refine .ns ?_|refine .neg (fun _=>?_) (fun _=>?_)|refine .mk (fun _=>?_) (fun _=>?_)|refine .mk ?_ ?_|refine AK ?_|refine AT ?_|fail));all_goals conv=>whnf)
   all_goals simp only[andPD] at *
   all_goals clear ih
   all_goals first
    | (refine LeD.b ?_;rw[frm_4];grind)
    | (refine LeD.bf ?_;rw[frm_4];grind)
    | (refine LeD.bt ?_;rw[frm_4];grind)
  by_cases k5:k=5
  ·subst k5
   have c1:=In_d (gl:=gl) a.c a.r
   refine fnP_of_vc (nv:=9999) (cu:=[]) fits mixed Tryz.func81 rfl hoB rfl ?_
   ((repeat' ((conv=>whnf);first|exact .intro|refine .ya ?_|refine .na ?_|refine .ys ?_|refine .ns ?_|refine .neg (fun _=>?_) (fun _=>?_)|refine .mk (fun _=>?_) (fun _=>?_)|refine .inl (.inl (X1 (c1) ?_))|refine .inl (X1 (c1) ?_)|refine X1 (c1) ?_|refine .mk ?_ ?_|refine AK ?_|refine AT ?_|fail));all_goals conv=>whnf)
   all_goals simp only[andPD] at *
   all_goals clear ih c1
   all_goals first
    | (refine LeD.b ?_;rw[frm_5];grind)
    | (refine LeD.bf ?_;rw[frm_5];grind)
    | (refine LeD.bt ?_;rw[frm_5];grind)
  by_cases k6:k=6
  ·subst k6
   have c1:=In_d (gl:=gl) a.c a.r
   have c2:=In_d (gl:=gl) b.c b.r
   cases bx
   all_goals refine fnP_of_vc (nv:=9999) (cu:=[]) fits mixed Tryz.func81 rfl hoB rfl ?_
   all_goals ((repeat' ((conv=>whnf);first|exact .intro|refine .ya ?_|refine .na ?_|refine .ys ?_|refine .ns ?_|refine .neg (fun _=>?_) (fun _=>?_)|refine .mk (fun _=>?_) (fun _=>?_)|refine .inl (.inl (X1 (by first|exact c1|exact c2) ?_))|refine .inl (X1 (by first|exact c1|exact c2) ?_)|refine X1 (by first|exact c1|exact c2) ?_|refine .mk ?_ ?_|refine AK ?_|refine AT ?_|fail));all_goals conv=>whnf)
   all_goals simp only[andPD] at *
   all_goals clear ih c1 c2
   all_goals first
    | (refine LeD.b ?_;rw[frm_6];grind)
    | (refine LeD.bf ?_;rw[frm_6];grind)
    | (refine LeD.bt ?_;rw[frm_6];grind)
  by_cases k7:k=7
  ·subst k7
   by_cases hl:ks.length=1
   ·obtain ⟨x,rfl⟩:=List.length_eq_one_iff.1 hl
    obtain ⟨kx,mx,tx,ax,bx',sx⟩:=x
    have c1:FnP Tryz.prog gl 81 [.agg (Nd.mk kx mx tx ax bx' sx).cs,.v (.bool false)] (.b (frmN (.mk kx mx tx ax bx' sx) (false=true)) (Classical.propDecidable _)):=ih 0 (by simp) false
    have f7:frmL False [.mk kx mx tx ax bx' sx]↔frmN (.mk kx mx tx ax bx' sx) (false=true):=by simp[frmL]
    have g1:(Nd.csL [.mk kx mx tx ax bx' sx])[(0:Int).toNat]?=some [iD kx,iD mx,.str tx,iD ax.c,iD ax.r,tD ax.fc,tD ax.fr,iD bx'.c,iD bx'.r,tD bx'.fc,tD bx'.fr,.lst 12 (Nd.csL sx)]:=rfl
    refine fnP_of_vc (nv:=9999) (cu:=[]) fits mixed Tryz.func81 rfl hoB rfl ?_
    ((repeat' ((conv=>whnf);first|exact .intro|refine .ya ?_|refine .na ?_|refine .ys ?_|refine .ns ?_|refine .neg (fun _=>?_) (fun _=>?_)|refine .mk (fun _=>?_) (fun _=>?_)|refine .inl (.inl (X1 (c1) ?_))|refine .inl (X1 (c1) ?_)|refine X1 (c1) ?_|(refine ⟨Int.le_refl _,_,g1,?_⟩)|refine .mk ?_ ?_|refine AK ?_|refine AT ?_|fail));all_goals conv=>whnf)
    all_goals simp only[andPD] at *
    all_goals clear ih c1 g1
    all_goals first
     | (refine LeD.b ?_;rw[frm_7,f7];grind)
     | (refine LeD.bf ?_;rw[frm_7,f7];grind)
     | (refine LeD.bt ?_;rw[frm_7,f7];grind)
   ·have hl2:¬ (((Nd.csL ks).length:Nat):Int)=1:=by omega
    refine fnP_of_vc (nv:=9999) (cu:=[]) fits mixed Tryz.func81 rfl hoB rfl ?_
    ((repeat' ((conv=>whnf);first|exact .intro|refine .ya ?_|refine .na ?_|refine .ys ?_|refine .ns ?_|refine .neg (fun _=>?_) (fun _=>?_)|refine .mk (fun _=>?_) (fun _=>?_)|refine .mk ?_ ?_|refine AK ?_|refine AT ?_|fail));all_goals conv=>whnf)
    all_goals simp only[andPD] at *
    all_goals clear ih
    all_goals first
     | (refine LeD.b ?_;rw[frm_7];grind)
     | (refine LeD.bf ?_;rw[frm_7];grind)
     | (refine LeD.bt ?_;rw[frm_7];grind)
  by_cases k8:k=8
  ·subst k8
   by_cases hl:ks.length=2
   ·obtain ⟨x,y,rfl⟩:∃ x y,ks=[x,y]:=by
     match ks,hl with
     | [x,y],_=>exact ⟨x,y,rfl⟩
    obtain ⟨kx,mx,tx,ax,bx',sx⟩:=x
    obtain ⟨ky,my,ty,ay,by',sy⟩:=y
    have c1:FnP Tryz.prog gl 81 [.agg (Nd.mk kx mx tx ax bx' sx).cs,.v (.bool false)] (.b (frmN (.mk kx mx tx ax bx' sx) (false=true)) (Classical.propDecidable _)):=ih 0 (by simp) false
    have c2:FnP Tryz.prog gl 81 [.agg (Nd.mk ky my ty ay by' sy).cs,.v (.bool false)] (.b (frmN (.mk ky my ty ay by' sy) (false=true)) (Classical.propDecidable _)):=ih 1 (by simp) false
    have f8:frmL False [.mk kx mx tx ax bx' sx,.mk ky my ty ay by' sy]↔frmN (.mk kx mx tx ax bx' sx) (false=true)∧frmN (.mk ky my ty ay by' sy) (false=true):=by simp[frmL]
    have g1:(Nd.csL [.mk kx mx tx ax bx' sx,.mk ky my ty ay by' sy])[(0:Int).toNat]?=some [iD kx,iD mx,.str tx,iD ax.c,iD ax.r,tD ax.fc,tD ax.fr,iD bx'.c,iD bx'.r,tD bx'.fc,tD bx'.fr,.lst 12 (Nd.csL sx)]:=rfl
    have g2:(Nd.csL [.mk kx mx tx ax bx' sx,.mk ky my ty ay by' sy])[(1:Int).toNat]?=some [iD ky,iD my,.str ty,iD ay.c,iD ay.r,tD ay.fc,tD ay.fr,iD by'.c,iD by'.r,tD by'.fc,tD by'.fr,.lst 12 (Nd.csL sy)]:=rfl
    refine fnP_of_vc (nv:=9999) (cu:=[]) fits mixed Tryz.func81 rfl hoB rfl ?_
    ((repeat' ((conv=>whnf);first|exact .intro|refine .ya ?_|refine .na ?_|refine .ys ?_|refine .ns ?_|refine .neg (fun _=>?_) (fun _=>?_)|refine .mk (fun _=>?_) (fun _=>?_)|refine .inl (.inl (X1 (by first|exact c1|exact c2) ?_))|refine .inl (X1 (by first|exact c1|exact c2) ?_)|refine X1 (by first|exact c1|exact c2) ?_|(first|refine ⟨Int.le_refl _,_,g1,?_⟩|refine ⟨by decide,_,g2,?_⟩)|refine .mk ?_ ?_|refine AK ?_|refine AT ?_|fail));all_goals conv=>whnf)
    all_goals simp only[andPD] at *
    all_goals clear ih c1 c2 g1 g2
    all_goals first
     | (refine LeD.b ?_;rw[frm_8,f8];grind)
     | (refine LeD.bf ?_;rw[frm_8,f8];grind)
     | (refine LeD.bt ?_;rw[frm_8,f8];grind)
   ·have hl2:¬ (((Nd.csL ks).length:Nat):Int)=2:=by omega
    refine fnP_of_vc (nv:=9999) (cu:=[]) fits mixed Tryz.func81 rfl hoB rfl ?_
    ((repeat' ((conv=>whnf);first|exact .intro|refine .ya ?_|refine .na ?_|refine .ys ?_|refine .ns ?_|refine .neg (fun _=>?_) (fun _=>?_)|refine .mk (fun _=>?_) (fun _=>?_)|refine .mk ?_ ?_|refine AK ?_|refine AT ?_|fail));all_goals conv=>whnf)
    all_goals simp only[andPD] at *
    all_goals clear ih
    all_goals first
     | (refine LeD.b ?_;rw[frm_8];grind)
     | (refine LeD.bf ?_;rw[frm_8];grind)
     | (refine LeD.bt ?_;rw[frm_8];grind)
  by_cases k9:k=9
  ·subst k9
   cases hc:clZ t with
   | false =>
    have c0:=rcalled_all (gl:=gl) t
    rw[hc] at c0
    refine fnP_of_vc (nv:=9999) (cu:=[]) fits mixed Tryz.func81 rfl hoB rfl ?_
    ((repeat' ((conv=>whnf);first|exact .intro|refine .ya ?_|refine .na ?_|refine .ys ?_|refine .ns ?_|refine .neg (fun _=>?_) (fun _=>?_)|refine .mk (fun _=>?_) (fun _=>?_)|refine .inl (.inl (X1 (c0) ?_))|refine .inl (X1 (c0) ?_)|refine X1 (c0) ?_|refine .mk ?_ ?_|refine AK ?_|refine AT ?_|fail));all_goals conv=>whnf)
    all_goals exact LeD.bf (by rw[frm_9,hc];rintro ⟨h,_⟩;cases h)
   | true =>
    have c0:=rcalled_all (gl:=gl) t
    rw[hc] at c0
    have htn:¬ t=(⟨#[]⟩:ByteArray).data.toList:=by
     rintro rfl
     cases hc
    by_cases hz:(noR a∧noR b)∧m=0
    ·have hz':=hz
     obtain ⟨hz1,hm⟩:=hz
     obtain ⟨ha,hb⟩:=hz1
     refine fnP_of_vc (nv:=9999) (cu:=[]) fits mixed Tryz.func81 rfl hoB rfl ?_
     ((repeat' ((conv=>whnf);first|exact .intro|refine .ya ?_|refine .na ?_|refine .ys ?_|refine .ns ?_|refine .neg (fun _=>?_) (fun _=>?_)|refine .mk (fun _=>?_) (fun _=>?_)|refine .inl (.inl (X1 (c0) ?_))|refine .inl (X1 (c0) ?_)|refine X1 (c0) ?_|refine .mk ?_ ?_|refine AK ?_|refine AT ?_|fail));all_goals conv=>whnf)
     refine ⟨{ σ:=Nat,fr:=fun x=>[(8,.c (.d (iD (x:Int))))],ks:=[],L:=fun x=>[],ex:=0,I:=fun x=>x≤ks.length∧∀ y (h:y<ks.length),y<x→frmN ks[y] True,μ:=fun x=>ks.length - x },⟨0,⟨Nat.zero_le _,fun y h hy=>by omega⟩,?_⟩,fun (x:Nat) hx=>?_⟩
     ·((repeat' first|exact rfl|((conv=>whnf);first|done|exact suL|refine And.intro ?_ ?_|fail));all_goals conv=>whnf)
     ·obtain ⟨hx1,hx2⟩:=hx
      by_cases hlt:x<ks.length
      ·have h2:(x:Int)<((Nd.csL ks).length:Nat):=by omega
       have g1:=kid_get hlt
       have c1:=ih x hlt true
       have e0:IntKind.i64.wrap ((x:Int)+1)=((x+1:Nat):Int):=by rw[wrapI (by omega)];rfl
       have hf:∀ p:Prop,p=frmN ks[x] (true=true)→frmN ks[x] True=p:=fun p hp=>by rw[hp];simp
       obtain ⟨pq,hpq⟩:∃ p,p=frmN ks[x] (true=true):=⟨_,rfl⟩
       have hp:=hf pq hpq
       rw[← hpq] at c1
       have stop:¬ pq→¬ frmN (.mk 9 m t a b ks) (bx=true):=fun hn hh=>by
        rw[frm_9] at hh
        have:=frmL_iff.1 hh.2.2.2 x hlt
        rw[hp] at this
        exact hn this
       have step:pq→∀ y (h:y<ks.length),y<x+1→frmN ks[y] True:=fun hq y h hy=>by
        rcases Nat.lt_succ_iff_lt_or_eq.1 hy with hy|rfl
        ·exact hx2 y h hy
        ·rw[hp];exact hq
       clear hf hp hpq
       generalize ks[x]=q at g1 c1
       obtain ⟨k1',m1,t1,a1,b1,ks1⟩:=q
       change (Nd.csL ks)[((x:Nat):Int).toNat]?=some [iD k1',iD m1,.str t1,iD a1.c,iD a1.r,tD a1.fc,tD a1.fr,iD b1.c,iD b1.r,tD b1.fc,tD b1.fr,.lst 12 (Nd.csL ks1)] at g1
       ((repeat' ((conv=>whnf);first|exact .intro|refine .ya ?_|refine .na ?_|refine .ys ?_|refine .ns ?_|refine .neg (fun _=>?_) (fun _=>?_)|refine .mk (fun _=>?_) (fun _=>?_)|refine .inl (.inl (X1 (c1) ?_))|refine .inl (X1 (c1) ?_)|refine X1 (c1) ?_|(refine ⟨Int.natCast_nonneg _,_,g1,?_⟩)|refine .mk ?_ ?_|refine AK ?_|refine AT ?_|fail));all_goals conv=>whnf)
       ·rename_i h
        exact LeD.bf (stop h)
       ·rename_i h
        refine ⟨x+1,⟨⟨hlt,step h⟩,by show ks.length - (x+1)<ks.length - x;omega⟩,?_⟩
        ((repeat' first|exact rfl|((conv=>whnf);first|done|exact suL|refine And.intro ?_ ?_|fail));all_goals conv=>whnf)
        exact ceq e0
      ·have h2:¬ (x:Int)<((Nd.csL ks).length:Nat):=by omega
       ((repeat' ((conv=>whnf);first|exact .intro|refine .ya ?_|refine .na ?_|refine .ys ?_|refine .ns ?_|refine .neg (fun _=>?_) (fun _=>?_)|refine .mk (fun _=>?_) (fun _=>?_)|refine .mk ?_ ?_|refine AK ?_|refine AT ?_|fail));all_goals conv=>whnf)
       exact LeD.bt (by rw[frm_9];exact ⟨hc,⟨ha,hb⟩,hm,frmL_iff.2 fun y h=>hx2 y h (by omega)⟩)
    ·have hn:¬ frmN (.mk 9 m t a b ks) (bx=true):=fun hh=>by
      rw[frm_9] at hh
      exact hz ⟨hh.2.1,hh.2.2.1⟩
     by_cases ha:noR a
     ·by_cases hb:noR b
      ·have hm:¬ m=0:=fun hm=>hz ⟨⟨ha,hb⟩,hm⟩
       refine fnP_of_vc (nv:=9999) (cu:=[]) fits mixed Tryz.func81 rfl hoB rfl ?_
       ((repeat' ((conv=>whnf);first|exact .intro|refine .ya ?_|refine .na ?_|refine .ys ?_|refine .ns ?_|refine .neg (fun _=>?_) (fun _=>?_)|refine .mk (fun _=>?_) (fun _=>?_)|refine .inl (.inl (X1 (c0) ?_))|refine .inl (X1 (c0) ?_)|refine X1 (c0) ?_|refine .mk ?_ ?_|refine AK ?_|refine AT ?_|fail));all_goals conv=>whnf)
       exact LeD.bf hn
      ·refine fnP_of_vc (nv:=9999) (cu:=[]) fits mixed Tryz.func81 rfl hoB rfl ?_
       ((repeat' ((conv=>whnf);first|exact .intro|refine .ya ?_|refine .na ?_|refine .ys ?_|refine .ns ?_|refine .neg (fun _=>?_) (fun _=>?_)|refine .mk (fun _=>?_) (fun _=>?_)|refine .inl (.inl (X1 (c0) ?_))|refine .inl (X1 (c0) ?_)|refine X1 (c0) ?_|refine .mk ?_ ?_|refine AK ?_|refine AT ?_|fail));all_goals conv=>whnf)
       exact LeD.bf hn
     ·refine fnP_of_vc (nv:=9999) (cu:=[]) fits mixed Tryz.func81 rfl hoB rfl ?_
      ((repeat' ((conv=>whnf);first|exact .intro|refine .ya ?_|refine .na ?_|refine .ys ?_|refine .ns ?_|refine .neg (fun _=>?_) (fun _=>?_)|refine .mk (fun _=>?_) (fun _=>?_)|refine .inl (.inl (X1 (c0) ?_))|refine .inl (X1 (c0) ?_)|refine X1 (c0) ?_|refine .mk ?_ ?_|refine AK ?_|refine AT ?_|fail));all_goals conv=>whnf)
      exact LeD.bf hn
  have hk:k<1∨9<k:=by omega
  refine fnP_of_vc (nv:=9999) (cu:=[]) fits mixed Tryz.func81 rfl hoB rfl ?_
  ((repeat' ((conv=>whnf);first|exact .intro|refine .ya ?_|refine .na ?_|refine .ys ?_|refine .ns ?_|refine .neg (fun _=>?_) (fun _=>?_)|refine .mk (fun _=>?_) (fun _=>?_)|refine .mk ?_ ?_|refine AK ?_|refine AT ?_|fail));all_goals conv=>whnf)
  all_goals first|exact LeD.bf (frm_0 hk)|skip
termination_by SizeOf.sizeOf n
decreasing_by
 simp only[Nd.mk.sizeOf_spec]
 have:=List.sizeOf_lt_of_mem (List.getElem_mem h)
 omega
end Go.Proofs.YtdpigpahfiachaaGreatDoor
end
