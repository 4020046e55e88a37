/- Proved: a part of what the law is proved with (the reckoner, contracts of functions, plain laws). Conditions: as each says. -/
import Derived.Test.YtcdjjjokniinkaaGreatDoorYAu
import Derived.Test.YtcdjjjokniinkaaGreatDoorYBh
import Derived.Test.YtcdjjjokniinkaaGreatDoorYCc
import Derived.Test.YtcdjjjokniinkaaGreatDoorYEs
section
namespace Go.Proofs.YtcdjjjokniinkaaGreatDoor
open Go Go.EYtcdjjjokniinkaaGreatDoor
set_option maxRecDepth 100000
set_option maxHeartbeats 4000000
variable {gl:List (Nat×List D)}
abbrev nodB (n:Nd):Blk:=.var (ndC n) 38
theorem bare_d (k m:Int) (t:List UInt8) (a b:Rf) (ks:List Nd) (j:Nat):Go.EYtcdjjjokniinkaaGreatDoor.Fn Tryz.prog gl 112 [.c (.d (iD j)),.c (.ptr 0 0)] [(0,nodB (.mk k m t a b ks))] 1 (.ret (.c (.d (.b (ks.length=j∧t=[]) inferInstance)))) [(0,nodB (.mk k m t a b ks))] 1 []:=by
 have hlen:=kid_len ks
 refine fn_of_vc (nv:=9999) (cu:=[]) fits mixed Tryz.func112 rfl hoB rfl rfl rfl rfl ?_
 ((repeat' ((conv=>whnf);first|exact .intro|refine .ya ?_|refine .na ?_|refine .ys ?_|refine .ns ?_|refine .neg (fun _=>?_) (fun _=>?_)|refine .mk (fun _=>?_) (fun _=>?_)|refine .mk ?_ ?_|refine AK ?_|refine AT ?_|fail));all_goals conv=>whnf)
 all_goals ((repeat' first|exact rfl|((conv=>whnf);first|done|exact suL|refine And.intro ?_ ?_|fail));all_goals conv=>whnf)
 ·exact .inr (.inr (.inr (LeD.b ⟨fun h=>⟨by omega,h⟩,fun h=>h.2⟩)))
 ·exact .inr (.inr (.inr (LeD.bf fun h=>by omega)))
theorem kids_le {M:Nat→Prop} {w:World} {k m:Int} {t:List UInt8} {a b:Rf} {ks:List Nd} {x:Value} (h:DenD M w (.agg (Nd.mk k m t a b ks).cs) x):ks.length≤maxLen:=by
 obtain ⟨xs,_,hd⟩:=h.agg_inv
 obtain ⟨y,_,hy⟩:=All2.get hd (j:=11) (a:=.lst 12 (Nd.csL ks)) rfl
 rw[← kid_len]
 generalize Nd.csL ks=l at hy
 cases hy with
 | lst0 z a c hc=>exact Nat.zero_le _
 | lst z l b o c cs hb hM hl hc _ _ _=>exact Nat.le_trans hl hc
theorem called_all (s:List UInt8):FnP Tryz.prog gl 113 [.str s] (.v (.bool (clZ s))):=by
 by_cases hs:s.length≤200
 ·cases h:clZ s with
  | true=>exact called_y hs h
  | false=>exact called_n hs h
 ·have h:clZ s=false:=by
   unfold clZ
   rw[decide_eq_false (show ¬ s.length≤10 by omega)]
   simp
  rw[h]
  have h1:((s.length:Nat):Int)≥2:=by omega
  have h2:¬ ((s.length:Nat):Int)≤10:=by omega
  refine fnP_of_vc (nv:=9999) (cu:=[]) fits mixed Tryz.func113 rfl hoB rfl ?_
  ((repeat' ((conv=>whnf);first|exact .intro|refine .ya ?_|refine .na ?_|refine .ys ?_|refine .ns ?_|refine .neg (fun _=>?_) (fun _=>?_)|refine .mk (fun _=>?_) (fun _=>?_)|refine .mk ?_ ?_|refine AK ?_|refine AT ?_|fail));all_goals conv=>whnf)
  exact LeD.rfl
theorem form_d (n:Nd):∀ bx:Bool,FnP Tryz.prog gl 80 [.agg n.cs,.v (.bool bx)] (.b (frmN n (bx=true)) (Classical.propDecidable _)):=by
 match n with
 | .mk k m t a b ks =>
  have ih:∀ x (h:x<ks.length),∀ bx:Bool,FnP Tryz.prog gl 80 [.agg (ks[x]).cs,.v (.bool bx)] (.b (frmN ks[x] (bx=true)) (Classical.propDecidable _)):=fun x h=>form_d ks[x]
  intro bx
  suffices hh:ks.length≤9223372036854775807→FnP Tryz.prog gl 80 [.agg (Nd.mk k m t a b ks).cs,.v (.bool bx)] (.b (frmN (.mk k m t a b ks) (bx=true)) (Classical.propDecidable _)) from fun w M xs hM hg hd=>(match xs,hd with
   | x::ys,hd=>hh (kids_le hd.1) w M (x::ys) hM hg hd
   | [],hd=>hd.elim)
  intro hks
  have hlen:=kid_len ks
  by_cases k1:k=1
  ·subst k1
   have c0:=bare_d (gl:=gl) 1 m t a b ks 0
   refine fnP_of_vc (nv:=9999) (cu:=[]) fits mixed Tryz.func80 rfl hoB rfl ?_
   ((repeat' ((conv=>whnf);first|exact .intro|refine .ya ?_|refine .na ?_|refine .ys ?_|refine .ns ?_|refine .neg (fun _=>?_) (fun _=>?_)|refine .mk (fun _=>?_) (fun _=>?_)|refine .inr (X5 (c0.r [0] _) ?_)|refine .inl (.inr (X5 (c0.r [0] _) ?_))|refine .inl (X5 (c0.r [0] _) ?_)|refine .mk ?_ ?_|refine AK ?_|refine AT ?_|fail));all_goals conv=>whnf)
   all_goals simp only[andPD] at *
   all_goals clear ih c0
   all_goals first
    | (refine LeD.b ?_;rw[frm_1];grind)
    | (refine LeD.bf ?_;rw[frm_1];grind)
    | (refine LeD.bt ?_;rw[frm_1];grind)
  by_cases k2:k=2
  ·subst k2
   refine fnP_of_vc (nv:=9999) (cu:=[]) fits mixed Tryz.func80 rfl hoB rfl ?_
   ((repeat' ((conv=>whnf);first|exact .intro|refine .ya ?_|refine .na ?_|refine .ys ?_|refine .ns ?_|refine .neg (fun _=>?_) (fun _=>?_)|refine .mk (fun _=>?_) (fun _=>?_)|refine .mk ?_ ?_|refine AK ?_|refine AT ?_|fail));all_goals conv=>whnf)
   all_goals simp only[andPD] at *
   all_goals clear ih
   all_goals first
    | (refine LeD.b ?_;rw[frm_2];grind)
    | (refine LeD.bf ?_;rw[frm_2];grind)
    | (refine LeD.bt ?_;rw[frm_2];grind)
  by_cases k3:k=3
  ·subst k3
   have c0:=bare_d (gl:=gl) 3 m t a b ks 0
   refine fnP_of_vc (nv:=9999) (cu:=[]) fits mixed Tryz.func80 rfl hoB rfl ?_
   ((repeat' ((conv=>whnf);first|exact .intro|refine .ya ?_|refine .na ?_|refine .ys ?_|refine .ns ?_|refine .neg (fun _=>?_) (fun _=>?_)|refine .mk (fun _=>?_) (fun _=>?_)|refine .inr (X5 (c0.r [0] _) ?_)|refine .inl (.inr (X5 (c0.r [0] _) ?_))|refine .inl (X5 (c0.r [0] _) ?_)|refine .mk ?_ ?_|refine AK ?_|refine AT ?_|fail));all_goals conv=>whnf)
   all_goals simp only[andPD] at *
   all_goals clear ih c0
   all_goals first
    | (refine LeD.b ?_;rw[frm_3];grind)
    | (refine LeD.bf ?_;rw[frm_3];grind)
    | (refine LeD.bt ?_;rw[frm_3];grind)
  by_cases k4:k=4
  ·subst k4
   have c0:=bare_d (gl:=gl) 4 m t a b ks 0
   refine fnP_of_vc (nv:=9999) (cu:=[]) fits mixed Tryz.func80 rfl hoB rfl ?_
   ((repeat' ((conv=>whnf);first|exact .intro|refine .ya ?_|refine .na ?_|refine .ys ?_|refine .ns ?_|refine .neg (fun _=>?_) (fun _=>?_)|refine .mk (fun _=>?_) (fun _=>?_)|refine .inr (X5 (c0.r [0] _) ?_)|refine .inl (.inr (X5 (c0.r [0] _) ?_))|refine .inl (X5 (c0.r [0] _) ?_)|refine .mk ?_ ?_|refine AK ?_|refine AT ?_|fail));all_goals conv=>whnf)
   all_goals simp only[andPD] at *
   all_goals clear ih c0
   all_goals first
    | (refine LeD.b ?_;rw[frm_4];grind)
    | (refine LeD.bf ?_;rw[frm_4];grind)
    | (refine LeD.bt ?_;rw[frm_4];grind)
  by_cases k5:k=5
  ·subst k5
   have c0:=bare_d (gl:=gl) 5 m t a b ks 0
   by_cases ho:okP a.c a.r
   ·have c1:=Check_s (gl:=gl) ho
    refine fnP_of_vc (nv:=9999) (cu:=[]) fits mixed Tryz.func80 rfl hoB rfl ?_
    ((repeat' ((conv=>whnf);first|exact .intro|refine .ya ?_|refine .na ?_|refine .ys ?_|refine .ns ?_|refine .neg (fun _=>?_) (fun _=>?_)|refine .mk (fun _=>?_) (fun _=>?_)|refine .inr (X5 (c0.r [0] _) ?_)|refine .inl (.inr (X5 (c0.r [0] _) ?_))|refine .inl (X5 (c0.r [0] _) ?_)|refine .inl (.inl (X1 (c1) ?_))|refine .inl (X1 (c1) ?_)|refine X1 (c1) ?_|refine .mk ?_ ?_|refine AK ?_|refine AT ?_|fail));all_goals conv=>whnf)
    all_goals simp only[andPD] at *
    all_goals clear ih c0 c1
    all_goals first
     | (refine LeD.b ?_;rw[frm_5];grind)
     | (refine LeD.bf ?_;rw[frm_5];grind)
     | (refine LeD.bt ?_;rw[frm_5];grind)
   ·have c1:=Check_n (gl:=gl) ho
    refine fnP_of_vc (nv:=9999) (cu:=[]) fits mixed Tryz.func80 rfl hoB rfl ?_
    ((repeat' ((conv=>whnf);first|exact .intro|refine .ya ?_|refine .na ?_|refine .ys ?_|refine .ns ?_|refine .neg (fun _=>?_) (fun _=>?_)|refine .mk (fun _=>?_) (fun _=>?_)|refine .inr (X5 (c0.r [0] _) ?_)|refine .inl (.inr (X5 (c0.r [0] _) ?_))|refine .inl (X5 (c0.r [0] _) ?_)|refine .inl (.inl (X1 (c1) ?_))|refine .inl (X1 (c1) ?_)|refine X1 (c1) ?_|refine .mk ?_ ?_|refine AK ?_|refine AT ?_|fail));all_goals conv=>whnf)
    all_goals simp only[andPD] at *
    all_goals clear ih c0 c1
    all_goals first
     | (refine LeD.b ?_;rw[frm_5];grind)
     | (refine LeD.bf ?_;rw[frm_5];grind)
     | (refine LeD.bt ?_;rw[frm_5];grind)
  by_cases k6:k=6
  ·subst k6
   have c0:=bare_d (gl:=gl) 6 m t a b ks 0
   obtain ⟨e1,c1⟩:∃ e1,FnP Tryz.prog gl 15 [cellD a.c a.r] (errD e1)∧(e1=0∧okP a.c a.r∨e1=1∧¬ okP a.c a.r):=by
    by_cases ho:okP a.c a.r
    ·exact ⟨0,Check_s ho,.inl ⟨rfl,ho⟩⟩
    ·exact ⟨1,Check_n ho,.inr ⟨rfl,ho⟩⟩
   obtain ⟨e2,c2⟩:∃ e2,FnP Tryz.prog gl 15 [cellD b.c b.r] (errD e2)∧(e2=0∧okP b.c b.r∨e2=1∧¬ okP b.c b.r):=by
    by_cases ho:okP b.c b.r
    ·exact ⟨0,Check_s ho,.inl ⟨rfl,ho⟩⟩
    ·exact ⟨1,Check_n ho,.inr ⟨rfl,ho⟩⟩
   obtain ⟨c1,h1⟩:=c1
   obtain ⟨c2,h2⟩:=c2
   rcases h1 with ⟨rfl,h1⟩|⟨rfl,h1⟩ <;> rcases h2 with ⟨rfl,h2⟩|⟨rfl,h2⟩ <;> cases bx
   all_goals refine fnP_of_vc (nv:=9999) (cu:=[]) fits mixed Tryz.func80 rfl hoB rfl ?_
   all_goals ((repeat' ((conv=>whnf);first|exact .intro|refine .ya ?_|refine .na ?_|refine .ys ?_|refine .ns ?_|refine .neg (fun _=>?_) (fun _=>?_)|refine .mk (fun _=>?_) (fun _=>?_)|refine .inr (X5 (c0.r [0] _) ?_)|refine .inl (.inr (X5 (c0.r [0] _) ?_))|refine .inl (X5 (c0.r [0] _) ?_)|refine .inl (.inl (X1 (by first|exact c1|exact c2) ?_))|refine .inl (X1 (by first|exact c1|exact c2) ?_)|refine X1 (by first|exact c1|exact c2) ?_|refine .mk ?_ ?_|refine AK ?_|refine AT ?_|fail));all_goals conv=>whnf)
   all_goals simp only[andPD] at *
   all_goals clear ih c0 c1 c2
   all_goals first
    | (refine LeD.b ?_;rw[frm_6];grind)
    | (refine LeD.bf ?_;rw[frm_6];grind)
    | (refine LeD.bt ?_;rw[frm_6];grind)
  by_cases k7:k=7
  ·subst k7
   have c0:=bare_d (gl:=gl) 7 m t a b ks 1
   by_cases hl:ks.length=1
   ·obtain ⟨x,rfl⟩:=List.length_eq_one_iff.1 hl
    obtain ⟨kx,mx,tx,ax,bx',sx⟩:=x
    have c1:FnP Tryz.prog gl 80 [.agg (Nd.mk kx mx tx ax bx' sx).cs,.v (.bool false)] (.b (frmN (.mk kx mx tx ax bx' sx) (false=true)) (Classical.propDecidable _)):=ih 0 (by simp) false
    have f7:frmL False [.mk kx mx tx ax bx' sx]↔frmN (.mk kx mx tx ax bx' sx) (false=true):=by simp[frmL]
    have g1:(Nd.csL [.mk kx mx tx ax bx' sx])[(0:Int).toNat]?=some [iD kx,iD mx,.str tx,iD ax.c,iD ax.r,tD ax.fc,tD ax.fr,iD bx'.c,iD bx'.r,tD bx'.fc,tD bx'.fr,.lst 12 (Nd.csL sx)]:=rfl
    refine fnP_of_vc (nv:=9999) (cu:=[]) fits mixed Tryz.func80 rfl hoB rfl ?_
    ((repeat' ((conv=>whnf);first|exact .intro|refine .ya ?_|refine .na ?_|refine .ys ?_|refine .ns ?_|refine .neg (fun _=>?_) (fun _=>?_)|refine .mk (fun _=>?_) (fun _=>?_)|refine .inr (X5 (c0.r [0] _) ?_)|refine .inl (.inr (X5 (c0.r [0] _) ?_))|refine .inl (X5 (c0.r [0] _) ?_)|refine .inl (.inl (X1 (c1) ?_))|refine .inl (X1 (c1) ?_)|refine X1 (c1) ?_|(refine ⟨Int.le_refl _,_,g1,?_⟩)|refine .mk ?_ ?_|refine AK ?_|refine AT ?_|fail));all_goals conv=>whnf)
    all_goals simp only[andPD] at *
    all_goals clear ih c0 c1 g1
    all_goals first
     | (refine LeD.b ?_;rw[frm_7,f7];grind)
     | (refine LeD.bf ?_;rw[frm_7,f7];grind)
     | (refine LeD.bt ?_;rw[frm_7,f7];grind)
   ·have hl2:¬ (ks.length=1∧t=[]):=fun h=>hl h.1
    refine fnP_of_vc (nv:=9999) (cu:=[]) fits mixed Tryz.func80 rfl hoB rfl ?_
    ((repeat' ((conv=>whnf);first|exact .intro|refine .ya ?_|refine .na ?_|refine .ys ?_|refine .ns ?_|refine .neg (fun _=>?_) (fun _=>?_)|refine .mk (fun _=>?_) (fun _=>?_)|refine .inr (X5 (c0.r [0] _) ?_)|refine .inl (.inr (X5 (c0.r [0] _) ?_))|refine .inl (X5 (c0.r [0] _) ?_)|refine .mk ?_ ?_|refine AK ?_|refine AT ?_|fail));all_goals conv=>whnf)
    all_goals simp only[andPD] at *
    all_goals clear ih c0
    all_goals first
     | (refine LeD.b ?_;rw[frm_7];grind)
     | (refine LeD.bf ?_;rw[frm_7];grind)
     | (refine LeD.bt ?_;rw[frm_7];grind)
  by_cases k8:k=8
  ·subst k8
   have c0:=bare_d (gl:=gl) 8 m t a b ks 2
   by_cases hl:ks.length=2
   ·obtain ⟨x,y,rfl⟩:∃ x y,ks=[x,y]:=by
     match ks,hl with
     | [x,y],_=>exact ⟨x,y,rfl⟩
    obtain ⟨kx,mx,tx,ax,bx',sx⟩:=x
    obtain ⟨ky,my,ty,ay,by',sy⟩:=y
    have c1:FnP Tryz.prog gl 80 [.agg (Nd.mk kx mx tx ax bx' sx).cs,.v (.bool false)] (.b (frmN (.mk kx mx tx ax bx' sx) (false=true)) (Classical.propDecidable _)):=ih 0 (by simp) false
    have c2:FnP Tryz.prog gl 80 [.agg (Nd.mk ky my ty ay by' sy).cs,.v (.bool false)] (.b (frmN (.mk ky my ty ay by' sy) (false=true)) (Classical.propDecidable _)):=ih 1 (by simp) false
    have f8:frmL False [.mk kx mx tx ax bx' sx,.mk ky my ty ay by' sy]↔frmN (.mk kx mx tx ax bx' sx) (false=true)∧frmN (.mk ky my ty ay by' sy) (false=true):=by simp[frmL]
    have g1:(Nd.csL [.mk kx mx tx ax bx' sx,.mk ky my ty ay by' sy])[(0:Int).toNat]?=some [iD kx,iD mx,.str tx,iD ax.c,iD ax.r,tD ax.fc,tD ax.fr,iD bx'.c,iD bx'.r,tD bx'.fc,tD bx'.fr,.lst 12 (Nd.csL sx)]:=rfl
    have g2:(Nd.csL [.mk kx mx tx ax bx' sx,.mk ky my ty ay by' sy])[(1:Int).toNat]?=some [iD ky,iD my,.str ty,iD ay.c,iD ay.r,tD ay.fc,tD ay.fr,iD by'.c,iD by'.r,tD by'.fc,tD by'.fr,.lst 12 (Nd.csL sy)]:=rfl
    refine fnP_of_vc (nv:=9999) (cu:=[]) fits mixed Tryz.func80 rfl hoB rfl ?_
    ((repeat' ((conv=>whnf);first|exact .intro|refine .ya ?_|refine .na ?_|refine .ys ?_|refine .ns ?_|refine .neg (fun _=>?_) (fun _=>?_)|refine .mk (fun _=>?_) (fun _=>?_)|refine .inr (X5 (c0.r [0] _) ?_)|refine .inl (.inr (X5 (c0.r [0] _) ?_))|refine .inl (X5 (c0.r [0] _) ?_)|refine .inl (.inl (X1 (by first|exact c1|exact c2) ?_))|refine .inl (X1 (by first|exact c1|exact c2) ?_)|refine X1 (by first|exact c1|exact c2) ?_|(first|refine ⟨Int.le_refl _,_,g1,?_⟩|refine ⟨by decide,_,g2,?_⟩)|refine .mk ?_ ?_|refine AK ?_|refine AT ?_|fail));all_goals conv=>whnf)
    all_goals simp only[andPD] at *
    all_goals clear ih c0 c1 c2 g1 g2
    all_goals first
     | (refine LeD.b ?_;rw[frm_8,f8];grind)
     | (refine LeD.bf ?_;rw[frm_8,f8];grind)
     | (refine LeD.bt ?_;rw[frm_8,f8];grind)
   ·have hl2:¬ (ks.length=2∧t=[]):=fun h=>hl h.1
    refine fnP_of_vc (nv:=9999) (cu:=[]) fits mixed Tryz.func80 rfl hoB rfl ?_
    ((repeat' ((conv=>whnf);first|exact .intro|refine .ya ?_|refine .na ?_|refine .ys ?_|refine .ns ?_|refine .neg (fun _=>?_) (fun _=>?_)|refine .mk (fun _=>?_) (fun _=>?_)|refine .inr (X5 (c0.r [0] _) ?_)|refine .inl (.inr (X5 (c0.r [0] _) ?_))|refine .inl (X5 (c0.r [0] _) ?_)|refine .mk ?_ ?_|refine AK ?_|refine AT ?_|fail));all_goals conv=>whnf)
    all_goals simp only[andPD] at *
    all_goals clear ih c0
    all_goals first
     | (refine LeD.b ?_;rw[frm_8];grind)
     | (refine LeD.bf ?_;rw[frm_8];grind)
     | (refine LeD.bt ?_;rw[frm_8];grind)
  by_cases k9:k=9
  ·subst k9
   cases hc:clZ t with
   | false =>
    have c0:=called_all (gl:=gl) t
    rw[hc] at c0
    refine fnP_of_vc (nv:=9999) (cu:=[]) fits mixed Tryz.func80 rfl hoB rfl ?_
    ((repeat' ((conv=>whnf);first|exact .intro|refine .ya ?_|refine .na ?_|refine .ys ?_|refine .ns ?_|refine .neg (fun _=>?_) (fun _=>?_)|refine .mk (fun _=>?_) (fun _=>?_)|refine .inl (.inl (X1 (c0) ?_))|refine .inl (X1 (c0) ?_)|refine X1 (c0) ?_|refine .mk ?_ ?_|refine AK ?_|refine AT ?_|fail));all_goals conv=>whnf)
    all_goals exact LeD.bf (by rw[frm_9,hc];rintro ⟨h,_⟩;cases h)
   | true =>
    have c0:=called_all (gl:=gl) t
    rw[hc] at c0
    by_cases hz:(noR a∧noR b)∧m=0
    ·have hz':=hz
     obtain ⟨hz1,hm⟩:=hz
     obtain ⟨ha,hb⟩:=hz1
     refine fnP_of_vc (nv:=9999) (cu:=[]) fits mixed Tryz.func80 rfl hoB rfl ?_
     ((repeat' ((conv=>whnf);first|exact .intro|refine .ya ?_|refine .na ?_|refine .ys ?_|refine .ns ?_|refine .neg (fun _=>?_) (fun _=>?_)|refine .mk (fun _=>?_) (fun _=>?_)|refine .inl (.inl (X1 (c0) ?_))|refine .inl (X1 (c0) ?_)|refine X1 (c0) ?_|refine .mk ?_ ?_|refine AK ?_|refine AT ?_|fail));all_goals conv=>whnf)
     refine ⟨{ σ:=Nat,fr:=fun x=>[(198,.c (.d (iD (x:Int))))],ks:=[],L:=fun x=>[],ex:=0,I:=fun x=>x≤ks.length∧∀ y (h:y<ks.length),y<x→frmN ks[y] True,μ:=fun x=>ks.length - x },⟨0,⟨Nat.zero_le _,fun y h hy=>by omega⟩,?_⟩,fun (x:Nat) hx=>?_⟩
     ·((repeat' first|exact rfl|((conv=>whnf);first|done|exact suL|refine And.intro ?_ ?_|fail));all_goals conv=>whnf)
     ·obtain ⟨hx1,hx2⟩:=hx
      by_cases hlt:x<ks.length
      ·have h2:(x:Int)<((Nd.csL ks).length:Nat):=by omega
       have g1:=kid_get hlt
       have c1:=ih x hlt true
       have e0:IntKind.i64.wrap ((x:Int)+1)=((x+1:Nat):Int):=by rw[wrapI (by omega)];rfl
       have hf:∀ p:Prop,p=frmN ks[x] (true=true)→frmN ks[x] True=p:=fun p hp=>by rw[hp];simp
       obtain ⟨pq,hpq⟩:∃ p,p=frmN ks[x] (true=true):=⟨_,rfl⟩
       have hp:=hf pq hpq
       rw[← hpq] at c1
       have stop:¬ pq→¬ frmN (.mk 9 m t a b ks) (bx=true):=fun hn hh=>by
        rw[frm_9] at hh
        have:=frmL_iff.1 hh.2.2.2 x hlt
        rw[hp] at this
        exact hn this
       have step:pq→∀ y (h:y<ks.length),y<x+1→frmN ks[y] True:=fun hq y h hy=>by
        rcases Nat.lt_succ_iff_lt_or_eq.1 hy with hy|rfl
        ·exact hx2 y h hy
        ·rw[hp];exact hq
       clear hf hp hpq
       generalize ks[x]=q at g1 c1
       obtain ⟨k1',m1,t1,a1,b1,ks1⟩:=q
       change (Nd.csL ks)[((x:Nat):Int).toNat]?=some [iD k1',iD m1,.str t1,iD a1.c,iD a1.r,tD a1.fc,tD a1.fr,iD b1.c,iD b1.r,tD b1.fc,tD b1.fr,.lst 12 (Nd.csL ks1)] at g1
       ((repeat' ((conv=>whnf);first|exact .intro|refine .ya ?_|refine .na ?_|refine .ys ?_|refine .ns ?_|refine .neg (fun _=>?_) (fun _=>?_)|refine .mk (fun _=>?_) (fun _=>?_)|refine .inl (.inl (X1 (c1) ?_))|refine .inl (X1 (c1) ?_)|refine X1 (c1) ?_|(refine ⟨Int.natCast_nonneg _,_,g1,?_⟩)|refine .mk ?_ ?_|refine AK ?_|refine AT ?_|fail));all_goals conv=>whnf)
       ·rename_i h
        exact LeD.bf (stop h)
       ·rename_i h
        refine ⟨x+1,⟨⟨hlt,step h⟩,by show ks.length - (x+1)<ks.length - x;omega⟩,?_⟩
        ((repeat' first|exact rfl|((conv=>whnf);first|done|exact suL|refine And.intro ?_ ?_|fail));all_goals conv=>whnf)
        exact ceq e0
      ·have h2:¬ (x:Int)<((Nd.csL ks).length:Nat):=by omega
       ((repeat' ((conv=>whnf);first|exact .intro|refine .ya ?_|refine .na ?_|refine .ys ?_|refine .ns ?_|refine .neg (fun _=>?_) (fun _=>?_)|refine .mk (fun _=>?_) (fun _=>?_)|refine .mk ?_ ?_|refine AK ?_|refine AT ?_|fail));all_goals conv=>whnf)
       exact LeD.bt (by rw[frm_9];exact ⟨hc,⟨ha,hb⟩,hm,frmL_iff.2 fun y h=>hx2 y h (by omega)⟩)
    ·have hn:¬ frmN (.mk 9 m t a b ks) (bx=true):=fun hh=>by
      rw[frm_9] at hh
      exact hz ⟨hh.2.1,hh.2.2.1⟩
     by_cases ha:noR a
     ·by_cases hb:noR b
      ·have hm:¬ m=0:=fun hm=>hz ⟨⟨ha,hb⟩,hm⟩
       refine fnP_of_vc (nv:=9999) (cu:=[]) fits mixed Tryz.func80 rfl hoB rfl ?_
       ((repeat' ((conv=>whnf);first|exact .intro|refine .ya ?_|refine .na ?_|refine .ys ?_|refine .ns ?_|refine .neg (fun _=>?_) (fun _=>?_)|refine .mk (fun _=>?_) (fun _=>?_)|refine .inl (.inl (X1 (c0) ?_))|refine .inl (X1 (c0) ?_)|refine X1 (c0) ?_|refine .mk ?_ ?_|refine AK ?_|refine AT ?_|fail));all_goals conv=>whnf)
       exact LeD.bf hn
      ·refine fnP_of_vc (nv:=9999) (cu:=[]) fits mixed Tryz.func80 rfl hoB rfl ?_
       ((repeat' ((conv=>whnf);first|exact .intro|refine .ya ?_|refine .na ?_|refine .ys ?_|refine .ns ?_|refine .neg (fun _=>?_) (fun _=>?_)|refine .mk (fun _=>?_) (fun _=>?_)|refine .inl (.inl (X1 (c0) ?_))|refine .inl (X1 (c0) ?_)|refine X1 (c0) ?_|refine .mk ?_ ?_|refine AK ?_|refine AT ?_|fail));all_goals conv=>whnf)
       exact LeD.bf hn
     ·refine fnP_of_vc (nv:=9999) (cu:=[]) fits mixed Tryz.func80 rfl hoB rfl ?_
      ((repeat' ((conv=>whnf);first|exact .intro|refine .ya ?_|refine .na ?_|refine .ys ?_|refine .ns ?_|refine .neg (fun _=>?_) (fun _=>?_)|refine .mk (fun _=>?_) (fun _=>?_)|refine .inl (.inl (X1 (c0) ?_))|refine .inl (X1 (c0) ?_)|refine X1 (c0) ?_|refine .mk ?_ ?_|refine AK ?_|refine AT ?_|fail));all_goals conv=>whnf)
      exact LeD.bf hn
  have hk:k<1∨9<k:=by omega
  refine fnP_of_vc (nv:=9999) (cu:=[]) fits mixed Tryz.func80 rfl hoB rfl ?_
  ((repeat' ((conv=>whnf);first|exact .intro|refine .ya ?_|refine .na ?_|refine .ys ?_|refine .ns ?_|refine .neg (fun _=>?_) (fun _=>?_)|refine .mk (fun _=>?_) (fun _=>?_)|refine .mk ?_ ?_|refine AK ?_|refine AT ?_|fail));all_goals conv=>whnf)
  all_goals first|exact LeD.bf (frm_0 hk)|skip
termination_by SizeOf.sizeOf n
decreasing_by
 simp only[Nd.mk.sizeOf_spec]
 have:=List.sizeOf_lt_of_mem (List.getElem_mem h)
 omega
end Go.Proofs.YtcdjjjokniinkaaGreatDoor
end
section
namespace Go.Proofs.YtcdjjjokniinkaaGreatDoor
open Go Go.EYtcdjjjokniinkaaGreatDoor
set_option maxRecDepth 100000
set_option maxHeartbeats 4000000
variable {gl:List (Nat×List D)}
theorem firstOf {p:Nat→Prop} (n:Nat):(∀ k,k<n→p k)∨∃ m,m<n∧(∀ k,k<m→p k)∧¬ p m:=by
 induction n with
 | zero=>exact .inl fun k h=>absurd h (Nat.not_lt_zero k)
 | succ n ih =>
  rcases ih with h|⟨m,h1,h2,h3⟩
  ·by_cases hn:p n
   ·exact .inl fun k hk=>by
     rcases Nat.lt_succ_iff_lt_or_eq.1 hk with hk|rfl
     ·exact h k hk
     ·exact hn
   ·exact .inr ⟨n,Nat.lt_succ_self n,h,hn⟩
  ·exact .inr ⟨m,by omega,h2,h3⟩
theorem Compact_c (m:List (Int×Int)) (hl:m.length≤1099511627776):(Go.EYtcdjjjokniinkaaGreatDoor.Fn Tryz.prog gl 40 [.c (.all 2 0)] [(0,.rows 2 (m.map rowC) 28)] 1 (.ret (.c (.all 2 0))) [(0,.rows 2 (m.map rowC) 28)] 1 []∧dedC m=m)∨
 Go.EYtcdjjjokniinkaaGreatDoor.Fn Tryz.prog gl 40 [.c (.all 2 0)] [(0,.rows 2 (m.map rowC) 28)] 1 (.ret (.c (.own 2 0 0 (dedC m).length))) [(0,.rows 2 ((dedC m++List.replicate (m.length - (dedC m).length) (0,0)).map rowC) 28)] 1 []:=by
 rcases firstOf (p:=fun j=>∀ (h0:0<j) (h:j<m.length),m[j - 1]≠m[j]) m.length with h0|⟨j0,hj,h0,hx⟩
 ·refine .inl ⟨Compact_n (gl:=gl) m hl fun j a b=>h0 j b a b,?_⟩
  have hd:=dedC_upto (m:=m) (Nat.le_refl _) fun j a b _=>h0 j b a b
  rwa [List.take_length] at hd
 ·have hne:∃ (a:0<j0) (b:j0<m.length),m[j0 - 1]'(Nat.lt_of_le_of_lt (Nat.sub_le _ _) b)=m[j0]:=by
   refine Classical.byContradiction fun hh=>hx fun a b e=>hh ⟨a,b,e⟩
  obtain ⟨a,b,e⟩:=hne
  exact .inr (Compact_s (gl:=gl) m hl j0 a b (fun j a' b' h=>h0 j h a' b') e)
def refsZ (n:Nd):List (Int×Int):=dedC (sortC (cellsN n))
theorem rCells_d (n:Nd) {box:Prop} (hf:frmN n box) (hc:cntN n≤200):FnP Tryz.prog gl 28 [.agg n.cs] (.lst 2 ((refsZ n).map rowC)):=by
 have c0:=look_h (gl:=gl) n hf hc [] (by simp;omega)
 rw[List.nil_append] at c0
 have hl:=(cellsN_few n hf).1
 have c1:=Sort_x (gl:=gl) (cellsN n) (by omega)
 have hsl:(sortC (cellsN n)).length≤1048576:=by rw[sortC_len];omega
 unfold refsZ
 generalize cellsN n=cs at *
 have c2:=Compact_c (gl:=gl) (sortC cs) (by omega)
 obtain ⟨k,m,t,a,b,ks⟩:=n
 rcases c2 with ⟨c2,hd⟩|c2
 ·rw[hd]
  refine fnP_of_vc (nv:=9999) (cu:=[4]) fitsG mixed Tryz.func28 rfl hoB rfl ?_
  refine ⟨{ σ:=Unit,fr:=fun _=>[],ks:=[1,2],L:=fun _=>[(1,.var [.all 2 3] 41),(3,.rows 2 (([]:List (Int×Int)).map rowC) 28),(2,.var [.fn 58 [(1,0),(2,0)]] 107)],ex:=1,I:=fun _=>True,μ:=fun _=>0 },?_,fun _ _=>?_⟩
  ·((repeat' ((conv=>whnf);first|exact .intro|refine .ya ?_|refine .na ?_|refine .ys ?_|refine .ns ?_|refine .neg (fun _=>?_) (fun _=>?_)|refine .mk (fun _=>?_) (fun _=>?_)|refine .mk ?_ ?_|refine AK ?_|refine AT ?_|fail));all_goals conv=>whnf)
   refine ⟨(),trivial,?_⟩
   ((repeat' first|exact rfl|((conv=>whnf);first|done|exact suL|refine And.intro ?_ ?_|fail));all_goals conv=>whnf)
   all_goals first|exact .inr (.inr (.inl ⟨rfl,2,3,rfl,by decide⟩))|exact ⟨2,_,rfl,by decide,by decide⟩|skip
  ((repeat' ((conv=>whnf);first|exact .intro|refine .ya ?_|refine .na ?_|refine .ys ?_|refine .ns ?_|refine .neg (fun _=>?_) (fun _=>?_)|refine .mk (fun _=>?_) (fun _=>?_)|refine .inr (X5 (c0.r [1,3,2] _) ?_)|refine .inl (.inr (X5 (c0.r [1,3,2] _) ?_))|refine .inl (X5 (c0.r [1,3,2] _) ?_)|refine .inr (X5 (c1.r [3] _) ?_)|refine .inl (.inr (X5 (c1.r [3] _) ?_))|refine .inl (X5 (c1.r [3] _) ?_)|refine .inr (X5 (c2.r [3] _) ?_)|refine .inl (.inr (X5 (c2.r [3] _) ?_))|refine .inl (X5 (c2.r [3] _) ?_)|refine .mk ?_ ?_|refine AK ?_|refine AT ?_|fail));all_goals conv=>whnf)
  all_goals exact LeD.rfl
 ·refine fnP_of_vc (nv:=9999) (cu:=[4]) fitsG mixed Tryz.func28 rfl hoB rfl ?_
  refine ⟨{ σ:=Unit,fr:=fun _=>[],ks:=[1,2],L:=fun _=>[(1,.var [.all 2 3] 41),(3,.rows 2 (([]:List (Int×Int)).map rowC) 28),(2,.var [.fn 58 [(1,0),(2,0)]] 107)],ex:=1,I:=fun _=>True,μ:=fun _=>0 },?_,fun _ _=>?_⟩
  ·((repeat' ((conv=>whnf);first|exact .intro|refine .ya ?_|refine .na ?_|refine .ys ?_|refine .ns ?_|refine .neg (fun _=>?_) (fun _=>?_)|refine .mk (fun _=>?_) (fun _=>?_)|refine .mk ?_ ?_|refine AK ?_|refine AT ?_|fail));all_goals conv=>whnf)
   refine ⟨(),trivial,?_⟩
   ((repeat' first|exact rfl|((conv=>whnf);first|done|exact suL|refine And.intro ?_ ?_|fail));all_goals conv=>whnf)
   all_goals first|exact .inr (.inr (.inl ⟨rfl,2,3,rfl,by decide⟩))|exact ⟨2,_,rfl,by decide,by decide⟩|skip
  ((repeat' ((conv=>whnf);first|exact .intro|refine .ya ?_|refine .na ?_|refine .ys ?_|refine .ns ?_|refine .neg (fun _=>?_) (fun _=>?_)|refine .mk (fun _=>?_) (fun _=>?_)|refine .inr (X5 (c0.r [1,3,2] _) ?_)|refine .inl (.inr (X5 (c0.r [1,3,2] _) ?_))|refine .inl (X5 (c0.r [1,3,2] _) ?_)|refine .inr (X5 (c1.r [3] _) ?_)|refine .inl (.inr (X5 (c1.r [3] _) ?_))|refine .inl (X5 (c1.r [3] _) ?_)|refine .inr (X5 (c2.r [3] _) ?_)|refine .inl (.inr (X5 (c2.r [3] _) ?_))|refine .inl (X5 (c2.r [3] _) ?_)|refine .mk ?_ ?_|refine AK ?_|refine AT ?_|fail));all_goals conv=>whnf)
  all_goals refine LeD.of (congrArg (D.lst 2) ?_)
  all_goals rw[List.drop_zero,List.map_append,List.take_left' (List.length_map _)]
end Go.Proofs.YtcdjjjokniinkaaGreatDoor
end
section
namespace Go.Proofs.YtcdjjjokniinkaaGreatDoor
open Go Go.EYtcdjjjokniinkaaGreatDoor
set_option maxRecDepth 100000
set_option maxHeartbeats 4000000
variable {gl:List (Nat×List D)}
theorem Of_y (n:Nd) {box:Prop} (hf:frmN n box) (hc:cntN n≤200) (c0:FnP Tryz.prog gl 27 [.agg n.cs] (.v .nilIface)):FnP Tryz.prog gl 11 [.agg n.cs] (.tup [.lst 2 ((refsZ n).map rowC),.v .nilIface]):=by
 have c1:=rCells_d (gl:=gl) n hf hc
 generalize refsZ n=l at *
 obtain ⟨k,m,t,a,b,ks⟩:=n
 refine fnP_of_vc (nv:=9999) (cu:=[]) fits mixed Tryz.func11 rfl hoB rfl ?_
 ((repeat' ((conv=>whnf);first|exact .intro|refine .ya ?_|refine .na ?_|refine .ys ?_|refine .ns ?_|refine .neg (fun _=>?_) (fun _=>?_)|refine .mk (fun _=>?_) (fun _=>?_)|refine .inl (.inl (X1 (by first|exact c0|exact c1) ?_))|refine .inl (X1 (by first|exact c0|exact c1) ?_)|refine X1 (by first|exact c0|exact c1) ?_|refine .mk ?_ ?_|refine AK ?_|refine AT ?_|fail));all_goals conv=>whnf)
 all_goals exact LeD.rfl
theorem Of_n (n:Nd) (e:Int) (c0:FnP Tryz.prog gl 27 [.agg n.cs] (erD e)):FnP Tryz.prog gl 11 [.agg n.cs] (.tup [.v (.slice none 0 0),erD e]):=by
 obtain ⟨k,m,t,a,b,ks⟩:=n
 refine fnP_of_vc (nv:=9999) (cu:=[]) fits mixed Tryz.func11 rfl hoB rfl ?_
 ((repeat' ((conv=>whnf);first|exact .intro|refine .ya ?_|refine .na ?_|refine .ys ?_|refine .ns ?_|refine .neg (fun _=>?_) (fun _=>?_)|refine .mk (fun _=>?_) (fun _=>?_)|refine .inl (.inl (X1 (c0) ?_))|refine .inl (X1 (c0) ?_)|refine X1 (c0) ?_|refine .mk ?_ ?_|refine AK ?_|refine AT ?_|fail));all_goals conv=>whnf)
 all_goals exact LeD.rfl
theorem rOf_d (n:Nd) {box:Prop} (hf:frmN n box) (hc:cntN n≤200):FnP Tryz.prog gl 10 [.agg n.cs] (.lst 2 ((refsZ n).map rowC)):=by
 have c0:=seen_h (gl:=gl) n hf hc (List.replicate 2700 false) List.length_replicate
 have hms:=marks_sorted (cellsN n) (cellsN_few n hf).2
 have hml:=markL_len (cellsN n) (List.replicate 2700 false)
 rw[List.length_replicate] at hml
 unfold refsZ
 rw[← hms]
 clear hms
 generalize markL (cellsN n) (List.replicate 2700 false)=ms at *
 obtain ⟨k,m,t,a,b,ks⟩:=n
 refine fnP_of_vc (nv:=9999) (cu:=[]) fits mixed Tryz.func10 rfl hoB rfl ?_
 ((repeat' ((conv=>whnf);first|exact .intro|refine .ya ?_|refine .na ?_|refine .ys ?_|refine .ns ?_|refine .neg (fun _=>?_) (fun _=>?_)|refine .mk (fun _=>?_) (fun _=>?_)|refine .inr (X5 (c0.r [1] _) ?_)|refine .inl (.inr (X5 (c0.r [1] _) ?_))|refine .inl (X5 (c0.r [1] _) ?_)|refine .mk ?_ ?_|refine AK ?_|refine AT ?_|fail));all_goals conv=>whnf)
 refine ⟨{ σ:=Nat,fr:=fun x=>[(5,.c (.d (iD (x:Int)))),(4,.c (.all 2 2))],ks:=[],L:=fun x=>[(2,.rows 2 ((ofU ms x).map rowC) 28)],ex:=1,I:=fun x=>x≤2700,μ:=fun x=>2700 - x },⟨0,Nat.zero_le _,?_⟩,fun (x:Nat) hx=>?_⟩
 ·((repeat' first|exact rfl|((conv=>whnf);first|done|exact suL|refine And.intro ?_ ?_|fail));all_goals conv=>whnf)
  all_goals first|exact .inr (.inr (.inl ⟨rfl,2,2,rfl,by decide⟩))|exact ⟨2,_,rfl,by decide,by decide⟩|skip
 ·replace hx:x≤2700:=hx
  by_cases hlt:x<2700
  ·have h2:(x:Int)<2700:=by omega
   have g1:=get_map (f:=rowB) (show x<ms.length by omega)
   have hsu:=ofU_succ ms x
   rw[List.getElem?_eq_getElem (by omega),Option.getD_some] at hsu
   have hol:=ofU_len ms x
   have hrl:((ofU ms x).map rowC).length=(ofU ms x).length:=List.length_map _
   have b1:(((ofU ms x).map rowC).length+1) * 16≤140737488355328:=by omega
   have b2:((ofU ms x).map rowC).length+1≤maxLen:=by unfold maxLen;omega
   have e0:IntKind.i64.wrap ((x:Int)+1)=((x+1:Nat):Int):=by rw[wrapI (by omega)];rfl
   have e3:(x:Int).tmod 27=((x % 27:Nat):Int):=(Int.ofNat_tmod x 27).symm
   have e4:IntKind.i64.wrap ((x:Int).tdiv 27)=((x / 27:Nat):Int):=by
    have h:(x:Int).tdiv 27=((x / 27:Nat):Int):=(Int.ofNat_tdiv x 27).symm
    rw[h]
    exact wrapI (by omega)
   generalize ms[x]'(by omega)=b at *
   cases b with
   | true =>
    rw[if_pos rfl] at hsu
    ((repeat' ((conv=>whnf);first|exact .intro|refine .ya ?_|refine .na ?_|refine .ys ?_|refine .ns ?_|refine .neg (fun _=>?_) (fun _=>?_)|refine .mk (fun _=>?_) (fun _=>?_)|(first|refine ⟨⟨Int.natCast_nonneg _,h2⟩,?_⟩|refine ⟨_,g1,?_⟩|refine ⟨⟨rfl,b1,b2⟩,?_⟩)|refine .mk ?_ ?_|refine AK ?_|refine AT ?_|fail));all_goals conv=>whnf)
    all_goals refine ⟨x+1,⟨hlt,by show 2700 - (x+1)<2700 - x;omega⟩,?_⟩
    all_goals ((repeat' first|exact rfl|((conv=>whnf);first|done|exact suL|refine And.intro ?_ ?_|fail));all_goals conv=>whnf)
    all_goals first|exact ceq e0|(rw[hsu,List.map_append,e3,e4];rfl)|skip
   | false =>
    rw[if_neg (by simp)] at hsu
    ((repeat' ((conv=>whnf);first|exact .intro|refine .ya ?_|refine .na ?_|refine .ys ?_|refine .ns ?_|refine .neg (fun _=>?_) (fun _=>?_)|refine .mk (fun _=>?_) (fun _=>?_)|(first|refine ⟨⟨Int.natCast_nonneg _,h2⟩,?_⟩|refine ⟨_,g1,?_⟩)|refine .mk ?_ ?_|refine AK ?_|refine AT ?_|fail));all_goals conv=>whnf)
    all_goals refine ⟨x+1,⟨hlt,by show 2700 - (x+1)<2700 - x;omega⟩,?_⟩
    all_goals ((repeat' first|exact rfl|((conv=>whnf);first|done|exact suL|refine And.intro ?_ ?_|fail));all_goals conv=>whnf)
    all_goals first|exact ceq e0|(rw[hsu];done)|skip
  ·have h2:¬ (x:Int)<2700:=by omega
   obtain rfl:x=2700:=by omega
   ((repeat' ((conv=>whnf);first|exact .intro|refine .ya ?_|refine .na ?_|refine .ys ?_|refine .ns ?_|refine .neg (fun _=>?_) (fun _=>?_)|refine .mk (fun _=>?_) (fun _=>?_)|refine .mk ?_ ?_|refine AK ?_|refine AT ?_|fail));all_goals conv=>whnf)
   all_goals exact LeD.rfl
end Go.Proofs.YtcdjjjokniinkaaGreatDoor
end
