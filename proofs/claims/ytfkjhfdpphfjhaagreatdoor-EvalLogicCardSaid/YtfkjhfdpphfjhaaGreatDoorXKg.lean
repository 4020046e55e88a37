/- Proved: a part of what the law is proved with (the reckoner, contracts of functions, plain laws). Conditions: as each says. -/
import Derived.Lib.ReplaceLaws
import Derived.Test.YtfkjhfdpphfjhaaGreatDoorXBa
import Derived.Test.YtfkjhfdpphfjhaaGreatDoorXET
import Derived.Test.YtfkjhfdpphfjhaaGreatDoorXFp
import Derived.Test.YtfkjhfdpphfjhaaGreatDoorXGf
import Derived.Test.YtfkjhfdpphfjhaaGreatDoorXGl
import Derived.Test.YtfkjhfdpphfjhaaGreatDoorXLaysB
import Derived.Test.YtfkjhfdpphfjhaaGreatDoorXOa
import Derived.Test.YtfkjhfdpphfjhaaGreatDoorXPe
import Derived.Test.YtfkjhfdpphfjhaaGreatDoorXSd
namespace Go.Proofs.YtfkjhfdpphfjhaaGreatDoor
open Go Go.EYtfkjhfdpphfjhaaGreatDoor
set_option maxRecDepth 100000
section
set_option maxHeartbeats 4000000
variable {gl:List (Nat×List D)}
abbrev bld0:Blk:=.var [.d (.v (.pointer none)),.all 1 1] 156
abbrev bld1:Blk:=.var [.ptr 0 0,.all 1 1] 156
abbrev bytB (s:List UInt8):Blk:=.rows 1 (s.map u8D) 5
theorem lays240:Lays.n240 Tryz.prog Tryz.lays155_ren:={ Tryz.lays155 with }
theorem x72:Builder.X72 Tryz.prog Tryz.lays155_ren:=⟨by kernel_rfl,by kernel_rfl⟩
theorem copyCheck_1 (s:List UInt8):Go.EYtfkjhfdpphfjhaaGreatDoor.Fn Tryz.prog gl 153 [.c (.ptr 0 0)] [(0,bld1),(1,bytB s)] 2 (.ret (.tup [])) [(0,bld1),(1,bytB s)] 2 []:=by
 refine ⟨Nat.le_refl _,fun k B h _=>(by rw[h];rfl),fun k hk=>(by cases hk),fun w M0 adr xs hW hG hd=>?_⟩
 obtain ⟨x,rfl,b,m,ha,rfl⟩:=All2.one_iff.1 hd
 have hloc:=hW.loc 0 _ rfl
 rw[ha] at hloc
 obtain ⟨ys,h1,h2⟩:=hloc
 obtain ⟨y0,y1,rfl,h3,h4⟩:∃ y0 y1,ys=[y0,y1]∧DenC adr (Mut M0 adr [(0,bld1),(1,bytB s)]) w (.ptr 0 0) y0∧DenC adr (Mut M0 adr [(0,bld1),(1,bytB s)]) w (.all 1 1) y1:=by
  match ys,h2 with
  | [y0,y1],h2=>exact ⟨y0,y1,rfl,h2.1,h2.2.1⟩
 obtain ⟨b',m',ha',rfl⟩:=h3
 rw[ha] at ha'
 cases ha'
 refine .inl ⟨by unfold HasBody;kernel_rfl,(Any.Builder_copyCheck_used lays240 x72 b w (by simp[World.cell?,h1])).mono ?_⟩
 rintro e w' ⟨rfl,rfl⟩
 exact ⟨adr,Evo.refl _ _,hW,fun _ _ _=>rfl,fun k B b' m' hk he=>.inl ⟨k,B,m',hk,he⟩,.tuple #[],rfl,[],rfl,trivial⟩
theorem copyCheck_0 (s:List UInt8):Go.EYtfkjhfdpphfjhaaGreatDoor.Fn Tryz.prog gl 153 [.c (.ptr 0 0)] [(0,bld0),(1,bytB s)] 2 (.ret (.tup [])) [(0,bld1),(1,bytB s)] 2 []:=by
 refine ⟨Nat.le_refl _,fun k B h _=>?_,fun k hk=>(by cases hk),fun w M0 adr xs hW hG hd=>?_⟩
 ·match k,h with
  | 0,_=>rfl
  | 1,_=>rfl
  | k+2,h=>cases h
 obtain ⟨x,rfl,b,m,ha,rfl⟩:=All2.one_iff.1 hd
 have hloc:=hW.loc 0 _ rfl
 rw[ha] at hloc
 obtain ⟨ys,h1,h2⟩:=hloc
 obtain ⟨y0,y1,rfl,h3,h4⟩:∃ y0 y1,ys=[y0,y1]∧DenC adr (Mut M0 adr [(0,bld0),(1,bytB s)]) w (.d (.v (.pointer none))) y0∧DenC adr (Mut M0 adr [(0,bld0),(1,bytB s)]) w (.all 1 1) y1:=by
  match ys,h2 with
  | [y0,y1],h2=>exact ⟨y0,y1,rfl,h2.1,h2.2.1⟩
 obtain rfl:=DenD.v_inv h3
 refine .inl ⟨by unfold HasBody;kernel_rfl,(Any.Builder_copyCheck_fresh lays240 x72 b w (by simp[World.cell?,h1]) (by simp[World.shape?,h1];rfl) (by simp[World.frozen?,h1])).mono ?_⟩
 rintro e w' ⟨rfl,rfl⟩
 have hx0:Ok gl M0 (Trk adr [(0,bld0),(1,bytB s)]) ⟨w,adr,[0,1],[]⟩ 0 adr [] [(0,bld0),(1,bytB s)] 2 ⟨#[],[]⟩ w :=
  ⟨rfl,rfl,fun t s h=>(by cases h),hW,hG,Evo.refl _ _,fun k B b' m' hk he=>.inl ⟨k,B,m',hk,he⟩,fun k hk=>⟨(by simp at hk;omega),rfl⟩⟩
 have hx1:=hx0.setVar (o:=0) (vs:=[.ptr 0 0]) (us:=[.pointer (some ⟨b,0,none⟩)]) rfl ha h1 h2 ⟨⟨b,m,ha,rfl⟩,trivial⟩ (by simp)
 have hw:w.setCell ⟨b,0,none⟩ (.pointer (some ⟨b,0,none⟩))=w.setRow b (over [.pointer none,y1] 0 [.pointer (some ⟨b,0,none⟩)]).toArray:=by
  rw[setCell_eq_setRow w b 0 _ _ _ _ h1]
  rfl
 rw[hw]
 exact ⟨adr,hx1.base,hx1.wok,fun _ _ _=>rfl,hx1.new,.tuple #[],rfl,[],rfl,trivial⟩
theorem WriteByte_d {B0:Blk} (hB:B0=bld0∨B0=bld1) (s:List UInt8) (c:UInt8) (hs:s.length+1≤140737488355328):Go.EYtfkjhfdpphfjhaaGreatDoor.Fn Tryz.prog gl 103 [.c (.ptr 0 0),.c (.d (.v (.int .u8 (c.toNat:Int))))] [(0,B0),(1,bytB s)] 2 (.ret (.c (.d (.v .nilIface)))) [(0,bld1),(1,bytB (s++[c]))] 2 [1]:=by
 have h1:((s.map u8D).length+1) * 1≤140737488355328:=by rw[List.length_map];omega
 have h2:(s.map u8D).length+1≤maxLen:=by rw[List.length_map];unfold maxLen;omega
 rcases hB with rfl|rfl
 ·have c1:=copyCheck_0 (gl:=gl) s
  refine S1 Tryz.func103 rfl ?_
  ((repeat' ((conv=>whnf);first|exact .intro|refine G ?_|intro _|refine C5 c1 [0,1] ?_|(refine ⟨⟨rfl,h1,h2⟩,?_⟩)|refine .mk ?_ ?_|refine H ?_|fail));all_goals conv=>whnf)
  ((repeat' first|exact rfl|((conv=>whnf);first|done|exact suL|refine And.intro ?_ ?_|fail));all_goals conv=>whnf)
  exact (List.map_append (l₁:=s) (l₂:=[c])).symm
 ·have c1:=copyCheck_1 (gl:=gl) s
  refine S1 Tryz.func103 rfl ?_
  ((repeat' ((conv=>whnf);first|exact .intro|refine G ?_|intro _|refine C5 c1 [0,1] ?_|(refine ⟨⟨rfl,h1,h2⟩,?_⟩)|refine .mk ?_ ?_|refine H ?_|fail));all_goals conv=>whnf)
  ((repeat' first|exact rfl|((conv=>whnf);first|done|exact suL|refine And.intro ?_ ?_|fail));all_goals conv=>whnf)
  exact (List.map_append (l₁:=s) (l₂:=[c])).symm
theorem WriteString_d {B0:Blk} (hB:B0=bld0∨B0=bld1) (s t:List UInt8) (hs:s.length+t.length≤140737488355328):Go.EYtfkjhfdpphfjhaaGreatDoor.Fn Tryz.prog gl 154 [.c (.ptr 0 0),.c (.d (.str t))] [(0,B0),(1,bytB s)] 2 (.ret (.tup [(false,[.d (iD (t.length:Int))]),(false,[.d (.v .nilIface)])])) [(0,bld1),(1,bytB (s++t))] 2 [1]:=by
 have h1:((s.map u8D).length+t.length) * 1≤140737488355328:=by rw[List.length_map];omega
 have h2:(s.map u8D).length+t.length≤maxLen:=by rw[List.length_map];unfold maxLen;omega
 rcases hB with rfl|rfl
 ·have c1:=copyCheck_0 (gl:=gl) s
  refine S1 Tryz.func154 rfl ?_
  ((repeat' ((conv=>whnf);first|exact .intro|refine G ?_|intro _|refine C5 c1 [0,1] ?_|(refine ⟨⟨h1,h2⟩,?_⟩)|refine .mk ?_ ?_|refine H ?_|fail));all_goals conv=>whnf)
  ((repeat' first|exact rfl|((conv=>whnf);first|done|exact suL|refine And.intro ?_ ?_|fail));all_goals conv=>whnf)
  exact List.map_append.symm
 ·have c1:=copyCheck_1 (gl:=gl) s
  refine S1 Tryz.func154 rfl ?_
  ((repeat' ((conv=>whnf);first|exact .intro|refine G ?_|intro _|refine C5 c1 [0,1] ?_|(refine ⟨⟨h1,h2⟩,?_⟩)|refine .mk ?_ ?_|refine H ?_|fail));all_goals conv=>whnf)
  ((repeat' first|exact rfl|((conv=>whnf);first|done|exact suL|refine And.intro ?_ ?_|fail));all_goals conv=>whnf)
  exact List.map_append.symm
end
section
set_option maxHeartbeats 4000000
variable {gl:List (Nat×List D)}
abbrev nodB (n:Nd):Blk:=.var (ndC n) 28
theorem bare_d (k m:Int) (t:List UInt8) (a b:Rf) (ks:List Nd) (j:Nat):Go.EYtfkjhfdpphfjhaaGreatDoor.Fn Tryz.prog gl 152 [.c (.d (iD j)),.c (.ptr 0 0)] [(0,nodB (.mk k m t a b ks))] 1 (.ret (.c (.d (.b (ks.length=j∧t=[]) inferInstance)))) [(0,nodB (.mk k m t a b ks))] 1 []:=by
 have hlen:=kid_len ks
 refine S1 Tryz.func152 rfl ?_
 ((repeat' ((conv=>whnf);first|exact .intro|refine G ?_|intro _|refine .mk ?_ ?_|refine H ?_|fail));all_goals conv=>whnf)
 all_goals ((repeat' first|exact rfl|((conv=>whnf);first|done|exact suL|refine And.intro ?_ ?_|fail));all_goals conv=>whnf)
 ·exact .inr (.inr (.inr (LeD.b ⟨fun h=>⟨by omega,h⟩,fun h=>h.2⟩)))
 ·exact .inr (.inr (.inr (LeD.bf fun h=>by omega)))
theorem kids_le {M:Nat→Prop} {w:World} {k m:Int} {t:List UInt8} {a b:Rf} {ks:List Nd} {x:Value} (h:DenD M w (.agg (Nd.mk k m t a b ks).cs) x):ks.length≤maxLen:=by
 obtain ⟨xs,_,hd⟩:=h.agg_inv
 obtain ⟨y,_,hy⟩:=All2.get hd (j:=11) (a:=.lst 12 (Nd.csL ks)) rfl
 rw[← kid_len]
 generalize Nd.csL ks=l at hy
 cases hy with
 | lst0 z a c hc=>exact Nat.zero_le _
 | lst z l b o c cs hb hM hl hc _ _ _=>exact Nat.le_trans hl hc
theorem called_all (s:List UInt8):FnP Tryz.prog gl 148 [.str s] (.v (.bool (clZ s))):=by
 by_cases hs:s.length≤200
 ·cases h:clZ s with
  | true=>exact called_y hs h
  | false=>exact called_n hs h
 ·have h:clZ s=false:=by
   unfold clZ
   rw[decide_eq_false (show ¬ s.length≤10 by omega)]
   simp
  rw[h]
  have h1:((s.length:Nat):Int)≥2:=by omega
  have h2:¬ ((s.length:Nat):Int)≤10:=by omega
  refine S0 Tryz.func148 rfl ?_
  ((repeat' ((conv=>whnf);first|exact .intro|refine G ?_|intro _|refine .mk ?_ ?_|refine H ?_|fail));all_goals conv=>whnf)
  exact LeD.rfl
theorem form_d (n:Nd):∀ bx:Bool,FnP Tryz.prog gl 102 [.agg n.cs,.v (.bool bx)] (.b (frmN n (bx=true)) (Classical.propDecidable _)):=by
 match n with
 | .mk k m t a b ks =>
  have ih:∀ x (h:x<ks.length),∀ bx:Bool,FnP Tryz.prog gl 102 [.agg (ks[x]).cs,.v (.bool bx)] (.b (frmN ks[x] (bx=true)) (Classical.propDecidable _)):=fun x h=>form_d ks[x]
  intro bx
  suffices hh:ks.length≤9223372036854775807→FnP Tryz.prog gl 102 [.agg (Nd.mk k m t a b ks).cs,.v (.bool bx)] (.b (frmN (.mk k m t a b ks) (bx=true)) (Classical.propDecidable _)) from fun w M xs hM hg hd=>(match xs,hd with
   | x::ys,hd=>hh (kids_le hd.1) w M (x::ys) hM hg hd
   | [],hd=>hd.elim)
  intro hks
  have hlen:=kid_len ks
  by_cases k1:k=1
  ·subst k1
   have c0:=bare_d (gl:=gl) 1 m t a b ks 0
   refine S0 Tryz.func102 rfl ?_
   ((repeat' ((conv=>whnf);first|exact .intro|refine G ?_|intro _|refine C5 c0 [0] ?_|refine .mk ?_ ?_|refine H ?_|fail));all_goals conv=>whnf)
   all_goals simp only[andPD] at *
   all_goals clear ih c0
   all_goals first
    | (refine LeD.b ?_;rw[frm_1];grind)
    | (refine LeD.bf ?_;rw[frm_1];grind)
    | (refine LeD.bt ?_;rw[frm_1];grind)
  by_cases k2:k=2
  ·subst k2
   refine S0 Tryz.func102 rfl ?_
   ((repeat' ((conv=>whnf);first|exact .intro|refine G ?_|intro _|refine .mk ?_ ?_|refine H ?_|fail));all_goals conv=>whnf)
   all_goals simp only[andPD] at *
   all_goals clear ih
   all_goals first
    | (refine LeD.b ?_;rw[frm_2];grind)
    | (refine LeD.bf ?_;rw[frm_2];grind)
    | (refine LeD.bt ?_;rw[frm_2];grind)
  by_cases k3:k=3
  ·subst k3
   have c0:=bare_d (gl:=gl) 3 m t a b ks 0
   refine S0 Tryz.func102 rfl ?_
   ((repeat' ((conv=>whnf);first|exact .intro|refine G ?_|intro _|refine C5 c0 [0] ?_|refine .mk ?_ ?_|refine H ?_|fail));all_goals conv=>whnf)
   all_goals simp only[andPD] at *
   all_goals clear ih c0
   all_goals first
    | (refine LeD.b ?_;rw[frm_3];grind)
    | (refine LeD.bf ?_;rw[frm_3];grind)
    | (refine LeD.bt ?_;rw[frm_3];grind)
  by_cases k4:k=4
  ·subst k4
   have c0:=bare_d (gl:=gl) 4 m t a b ks 0
   refine S0 Tryz.func102 rfl ?_
   ((repeat' ((conv=>whnf);first|exact .intro|refine G ?_|intro _|refine C5 c0 [0] ?_|refine .mk ?_ ?_|refine H ?_|fail));all_goals conv=>whnf)
   all_goals simp only[andPD] at *
   all_goals clear ih c0
   all_goals first
    | (refine LeD.b ?_;rw[frm_4];grind)
    | (refine LeD.bf ?_;rw[frm_4];grind)
    | (refine LeD.bt ?_;rw[frm_4];grind)
  by_cases k5:k=5
  ·subst k5
   have c0:=bare_d (gl:=gl) 5 m t a b ks 0
   by_cases ho:okP a.c a.r
   ·have c1:=Check_s (gl:=gl) ho
    refine S0 Tryz.func102 rfl ?_
    ((repeat' ((conv=>whnf);first|exact .intro|refine G ?_|intro _|refine C5 c0 [0] ?_|refine C1 c1 ?_|refine .mk ?_ ?_|refine H ?_|fail));all_goals conv=>whnf)
    all_goals simp only[andPD] at *
    all_goals clear ih c0 c1
    all_goals first
     | (refine LeD.b ?_;rw[frm_5];grind)
     | (refine LeD.bf ?_;rw[frm_5];grind)
     | (refine LeD.bt ?_;rw[frm_5];grind)
   ·have c1:=Check_n (gl:=gl) ho
    refine S0 Tryz.func102 rfl ?_
    ((repeat' ((conv=>whnf);first|exact .intro|refine G ?_|intro _|refine C5 c0 [0] ?_|refine C1 c1 ?_|refine .mk ?_ ?_|refine H ?_|fail));all_goals conv=>whnf)
    all_goals simp only[andPD] at *
    all_goals clear ih c0 c1
    all_goals first
     | (refine LeD.b ?_;rw[frm_5];grind)
     | (refine LeD.bf ?_;rw[frm_5];grind)
     | (refine LeD.bt ?_;rw[frm_5];grind)
  by_cases k6:k=6
  ·subst k6
   have c0:=bare_d (gl:=gl) 6 m t a b ks 0
   obtain ⟨e1,c1⟩:∃ e1,FnP Tryz.prog gl 37 [cellD a.c a.r] (errD e1)∧(e1=0∧okP a.c a.r∨e1=1∧¬ okP a.c a.r):=by
    by_cases ho:okP a.c a.r
    ·exact ⟨0,Check_s ho,.inl ⟨rfl,ho⟩⟩
    ·exact ⟨1,Check_n ho,.inr ⟨rfl,ho⟩⟩
   obtain ⟨e2,c2⟩:∃ e2,FnP Tryz.prog gl 37 [cellD b.c b.r] (errD e2)∧(e2=0∧okP b.c b.r∨e2=1∧¬ okP b.c b.r):=by
    by_cases ho:okP b.c b.r
    ·exact ⟨0,Check_s ho,.inl ⟨rfl,ho⟩⟩
    ·exact ⟨1,Check_n ho,.inr ⟨rfl,ho⟩⟩
   obtain ⟨c1,h1⟩:=c1
   obtain ⟨c2,h2⟩:=c2
   rcases h1 with ⟨rfl,h1⟩|⟨rfl,h1⟩ <;> rcases h2 with ⟨rfl,h2⟩|⟨rfl,h2⟩ <;> cases bx
   all_goals refine S0 Tryz.func102 rfl ?_
   all_goals ((repeat' ((conv=>whnf);first|exact .intro|refine G ?_|intro _|refine C5 c0 [0] ?_|refine C1 c1 ?_|refine C1 c2 ?_|refine .mk ?_ ?_|refine H ?_|fail));all_goals conv=>whnf)
   all_goals simp only[andPD] at *
   all_goals clear ih c0 c1 c2
   all_goals first
    | (refine LeD.b ?_;rw[frm_6];grind)
    | (refine LeD.bf ?_;rw[frm_6];grind)
    | (refine LeD.bt ?_;rw[frm_6];grind)
  by_cases k7:k=7
  ·subst k7
   have c0:=bare_d (gl:=gl) 7 m t a b ks 1
   by_cases hl:ks.length=1
   ·obtain ⟨x,rfl⟩:=List.length_eq_one_iff.1 hl
    obtain ⟨kx,mx,tx,ax,bx',sx⟩:=x
    have c1:FnP Tryz.prog gl 102 [.agg (Nd.mk kx mx tx ax bx' sx).cs,.v (.bool false)] (.b (frmN (.mk kx mx tx ax bx' sx) (false=true)) (Classical.propDecidable _)):=ih 0 (by simp) false
    have f7:frmL False [.mk kx mx tx ax bx' sx]↔frmN (.mk kx mx tx ax bx' sx) (false=true):=by simp[frmL]
    have g1:(Nd.csL [.mk kx mx tx ax bx' sx])[(0:Int).toNat]?=some [iD kx,iD mx,.str tx,iD ax.c,iD ax.r,tD ax.fc,tD ax.fr,iD bx'.c,iD bx'.r,tD bx'.fc,tD bx'.fr,.lst 12 (Nd.csL sx)]:=rfl
    refine S0 Tryz.func102 rfl ?_
    ((repeat' ((conv=>whnf);first|exact .intro|refine G ?_|intro _|refine C5 c0 [0] ?_|refine C1 c1 ?_|(refine ⟨Int.le_refl _,_,g1,?_⟩)|refine .mk ?_ ?_|refine H ?_|fail));all_goals conv=>whnf)
    all_goals simp only[andPD] at *
    all_goals clear ih c0 c1 g1
    all_goals first
     | (refine LeD.b ?_;rw[frm_7,f7];grind)
     | (refine LeD.bf ?_;rw[frm_7,f7];grind)
     | (refine LeD.bt ?_;rw[frm_7,f7];grind)
   ·have hl2:¬ (ks.length=1∧t=[]):=fun h=>hl h.1
    refine S0 Tryz.func102 rfl ?_
    ((repeat' ((conv=>whnf);first|exact .intro|refine G ?_|intro _|refine C5 c0 [0] ?_|refine .mk ?_ ?_|refine H ?_|fail));all_goals conv=>whnf)
    all_goals simp only[andPD] at *
    all_goals clear ih c0
    all_goals first
     | (refine LeD.b ?_;rw[frm_7];grind)
     | (refine LeD.bf ?_;rw[frm_7];grind)
     | (refine LeD.bt ?_;rw[frm_7];grind)
  by_cases k8:k=8
  ·subst k8
   have c0:=bare_d (gl:=gl) 8 m t a b ks 2
   by_cases hl:ks.length=2
   ·obtain ⟨x,y,rfl⟩:∃ x y,ks=[x,y]:=by
     match ks,hl with
     | [x,y],_=>exact ⟨x,y,rfl⟩
    obtain ⟨kx,mx,tx,ax,bx',sx⟩:=x
    obtain ⟨ky,my,ty,ay,by',sy⟩:=y
    have c1:FnP Tryz.prog gl 102 [.agg (Nd.mk kx mx tx ax bx' sx).cs,.v (.bool false)] (.b (frmN (.mk kx mx tx ax bx' sx) (false=true)) (Classical.propDecidable _)):=ih 0 (by simp) false
    have c2:FnP Tryz.prog gl 102 [.agg (Nd.mk ky my ty ay by' sy).cs,.v (.bool false)] (.b (frmN (.mk ky my ty ay by' sy) (false=true)) (Classical.propDecidable _)):=ih 1 (by simp) false
    have f8:frmL False [.mk kx mx tx ax bx' sx,.mk ky my ty ay by' sy]↔frmN (.mk kx mx tx ax bx' sx) (false=true)∧frmN (.mk ky my ty ay by' sy) (false=true):=by simp[frmL]
    have g1:(Nd.csL [.mk kx mx tx ax bx' sx,.mk ky my ty ay by' sy])[(0:Int).toNat]?=some [iD kx,iD mx,.str tx,iD ax.c,iD ax.r,tD ax.fc,tD ax.fr,iD bx'.c,iD bx'.r,tD bx'.fc,tD bx'.fr,.lst 12 (Nd.csL sx)]:=rfl
    have g2:(Nd.csL [.mk kx mx tx ax bx' sx,.mk ky my ty ay by' sy])[(1:Int).toNat]?=some [iD ky,iD my,.str ty,iD ay.c,iD ay.r,tD ay.fc,tD ay.fr,iD by'.c,iD by'.r,tD by'.fc,tD by'.fr,.lst 12 (Nd.csL sy)]:=rfl
    refine S0 Tryz.func102 rfl ?_
    ((repeat' ((conv=>whnf);first|exact .intro|refine G ?_|intro _|refine C5 c0 [0] ?_|refine C1 c1 ?_|refine C1 c2 ?_|(first|refine ⟨Int.le_refl _,_,g1,?_⟩|refine ⟨by decide,_,g2,?_⟩)|refine .mk ?_ ?_|refine H ?_|fail));all_goals conv=>whnf)
    all_goals simp only[andPD] at *
    all_goals clear ih c0 c1 c2 g1 g2
    all_goals first
     | (refine LeD.b ?_;rw[frm_8,f8];grind)
     | (refine LeD.bf ?_;rw[frm_8,f8];grind)
     | (refine LeD.bt ?_;rw[frm_8,f8];grind)
   ·have hl2:¬ (ks.length=2∧t=[]):=fun h=>hl h.1
    refine S0 Tryz.func102 rfl ?_
    ((repeat' ((conv=>whnf);first|exact .intro|refine G ?_|intro _|refine C5 c0 [0] ?_|refine .mk ?_ ?_|refine H ?_|fail));all_goals conv=>whnf)
    all_goals simp only[andPD] at *
    all_goals clear ih c0
    all_goals first
     | (refine LeD.b ?_;rw[frm_8];grind)
     | (refine LeD.bf ?_;rw[frm_8];grind)
     | (refine LeD.bt ?_;rw[frm_8];grind)
  by_cases k9:k=9
  ·subst k9
   cases hc:clZ t with
   | false =>
    have c0:=called_all (gl:=gl) t
    rw[hc] at c0
    refine S0 Tryz.func102 rfl ?_
    ((repeat' ((conv=>whnf);first|exact .intro|refine G ?_|intro _|refine C1 c0 ?_|refine .mk ?_ ?_|refine H ?_|fail));all_goals conv=>whnf)
    all_goals exact LeD.bf (by rw[frm_9,hc];rintro ⟨h,_⟩;cases h)
   | true =>
    have c0:=called_all (gl:=gl) t
    rw[hc] at c0
    by_cases hz:(noR a∧noR b)∧m=0
    ·have hz':=hz
     obtain ⟨hz1,hm⟩:=hz
     obtain ⟨ha,hb⟩:=hz1
     refine S0 Tryz.func102 rfl ?_
     ((repeat' ((conv=>whnf);first|exact .intro|refine G ?_|intro _|refine C1 c0 ?_|refine .mk ?_ ?_|refine H ?_|fail));all_goals conv=>whnf)
     refine ⟨{ σ:=Nat,fr:=fun x=>[(198,.c (.d (iD (x:Int))))],ks:=[],L:=fun x=>[],ex:=0,I:=fun x=>x≤ks.length∧∀ y (h:y<ks.length),y<x→frmN ks[y] True,μ:=fun x=>ks.length - x },⟨0,⟨Nat.zero_le _,fun y h hy=>by omega⟩,?_⟩,fun (x:Nat) hx=>?_⟩
     ·((repeat' first|exact rfl|((conv=>whnf);first|done|exact suL|refine And.intro ?_ ?_|fail));all_goals conv=>whnf)
     ·obtain ⟨hx1,hx2⟩:=hx
      by_cases hlt:x<ks.length
      ·have h2:(x:Int)<((Nd.csL ks).length:Nat):=by omega
       have g1:=kid_get hlt
       have c1:=ih x hlt true
       have e0:IntKind.i64.wrap ((x:Int)+1)=((x+1:Nat):Int):=by rw[wrapI (by omega)];rfl
       have hf:∀ p:Prop,p=frmN ks[x] (true=true)→frmN ks[x] True=p:=fun p hp=>by rw[hp];simp
       obtain ⟨pq,hpq⟩:∃ p,p=frmN ks[x] (true=true):=⟨_,rfl⟩
       have hp:=hf pq hpq
       rw[← hpq] at c1
       have stop:¬ pq→¬ frmN (.mk 9 m t a b ks) (bx=true):=fun hn hh=>by
        rw[frm_9] at hh
        have:=frmL_iff.1 hh.2.2.2 x hlt
        rw[hp] at this
        exact hn this
       have step:pq→∀ y (h:y<ks.length),y<x+1→frmN ks[y] True:=fun hq y h hy=>by
        rcases Nat.lt_succ_iff_lt_or_eq.1 hy with hy|rfl
        ·exact hx2 y h hy
        ·rw[hp];exact hq
       clear hf hp hpq
       generalize ks[x]=q at g1 c1
       obtain ⟨k1',m1,t1,a1,b1,ks1⟩:=q
       change (Nd.csL ks)[((x:Nat):Int).toNat]?=some [iD k1',iD m1,.str t1,iD a1.c,iD a1.r,tD a1.fc,tD a1.fr,iD b1.c,iD b1.r,tD b1.fc,tD b1.fr,.lst 12 (Nd.csL ks1)] at g1
       ((repeat' ((conv=>whnf);first|exact .intro|refine G ?_|intro _|refine C1 c1 ?_|(refine ⟨Int.natCast_nonneg _,_,g1,?_⟩)|refine .mk ?_ ?_|refine H ?_|fail));all_goals conv=>whnf)
       ·rename_i h
        exact LeD.bf (stop h)
       ·rename_i h
        refine ⟨x+1,⟨⟨hlt,step h⟩,by show ks.length - (x+1)<ks.length - x;omega⟩,?_⟩
        ((repeat' first|exact rfl|((conv=>whnf);first|done|exact suL|refine And.intro ?_ ?_|fail));all_goals conv=>whnf)
        exact ceq e0
      ·have h2:¬ (x:Int)<((Nd.csL ks).length:Nat):=by omega
       ((repeat' ((conv=>whnf);first|exact .intro|refine G ?_|intro _|refine .mk ?_ ?_|refine H ?_|fail));all_goals conv=>whnf)
       exact LeD.bt (by rw[frm_9];exact ⟨hc,⟨ha,hb⟩,hm,frmL_iff.2 fun y h=>hx2 y h (by omega)⟩)
    ·have hn:¬ frmN (.mk 9 m t a b ks) (bx=true):=fun hh=>by
      rw[frm_9] at hh
      exact hz ⟨hh.2.1,hh.2.2.1⟩
     by_cases ha:noR a
     ·by_cases hb:noR b
      ·have hm:¬ m=0:=fun hm=>hz ⟨⟨ha,hb⟩,hm⟩
       refine S0 Tryz.func102 rfl ?_
       ((repeat' ((conv=>whnf);first|exact .intro|refine G ?_|intro _|refine C1 c0 ?_|refine .mk ?_ ?_|refine H ?_|fail));all_goals conv=>whnf)
       exact LeD.bf hn
      ·refine S0 Tryz.func102 rfl ?_
       ((repeat' ((conv=>whnf);first|exact .intro|refine G ?_|intro _|refine C1 c0 ?_|refine .mk ?_ ?_|refine H ?_|fail));all_goals conv=>whnf)
       exact LeD.bf hn
     ·refine S0 Tryz.func102 rfl ?_
      ((repeat' ((conv=>whnf);first|exact .intro|refine G ?_|intro _|refine C1 c0 ?_|refine .mk ?_ ?_|refine H ?_|fail));all_goals conv=>whnf)
      exact LeD.bf hn
  have hk:k<1∨9<k:=by omega
  refine S0 Tryz.func102 rfl ?_
  ((repeat' ((conv=>whnf);first|exact .intro|refine G ?_|intro _|refine .mk ?_ ?_|refine H ?_|fail));all_goals conv=>whnf)
  all_goals first|exact LeD.bf (frm_0 hk)|skip
termination_by SizeOf.sizeOf n
decreasing_by
 simp only[Nd.mk.sizeOf_spec]
 have:=List.sizeOf_lt_of_mem (List.getElem_mem h)
 omega
end
section
set_option maxHeartbeats 4000000
variable {gl:List (Nat×List D)}
theorem tight_d (n:Nd):FnP Tryz.prog gl 158 [.agg n.cs] (iD (tgtN n)):=by
 obtain ⟨k,m,t,a,b,ks⟩:=n
 by_cases hk:k=8
 ·subst hk
  by_cases h6:m≤6
  ·rw[show tgtN (.mk 8 m t a b ks)=1 by simp[tgtN,h6]]
   refine S0 Tryz.func158 rfl ?_
   ((repeat' ((conv=>whnf);first|exact .intro|refine G ?_|intro _|refine .mk ?_ ?_|refine H ?_|fail));all_goals conv=>whnf)
   exact LeD.rfl
  ·by_cases h7:m=7
   ·rw[show tgtN (.mk 8 m t a b ks)=2 by simp[tgtN,h7]]
    refine S0 Tryz.func158 rfl ?_
    ((repeat' ((conv=>whnf);first|exact .intro|refine G ?_|intro _|refine .mk ?_ ?_|refine H ?_|fail));all_goals conv=>whnf)
    exact LeD.rfl
   ·by_cases h9:m≤9
    ·rw[show tgtN (.mk 8 m t a b ks)=3 by simp[tgtN,h6,h7,h9]]
     refine S0 Tryz.func158 rfl ?_
     ((repeat' ((conv=>whnf);first|exact .intro|refine G ?_|intro _|refine .mk ?_ ?_|refine H ?_|fail));all_goals conv=>whnf)
     exact LeD.rfl
    ·rw[show tgtN (.mk 8 m t a b ks)=4 by simp[tgtN,h6,h7,h9]]
     refine S0 Tryz.func158 rfl ?_
     ((repeat' ((conv=>whnf);first|exact .intro|refine G ?_|intro _|refine .mk ?_ ?_|refine H ?_|fail));all_goals conv=>whnf)
     exact LeD.rfl
 ·rw[show tgtN (.mk k m t a b ks)=5 by simp[tgtN,hk]]
  refine S0 Tryz.func158 rfl ?_
  ((repeat' ((conv=>whnf);first|exact .intro|refine G ?_|intro _|refine .mk ?_ ?_|refine H ?_|fail));all_goals conv=>whnf)
  exact LeD.rfl
abbrev sgnA:Array Value:=#[.string ⟨#[]⟩,.string ⟨#[61]⟩,.string ⟨#[60,62]⟩,.string ⟨#[60]⟩,.string ⟨#[60,61]⟩,.string ⟨#[62]⟩,.string ⟨#[62,61]⟩,.string ⟨#[38]⟩,.string ⟨#[43]⟩,.string ⟨#[45]⟩,.string ⟨#[42]⟩,.string ⟨#[47]⟩]
theorem sgn_idx (m:Int) (h:1≤m∧m≤11) (w:World):(Instr.index 250 (.agg sgnA) (.int .i64 m)).run Tryz.prog w=.ok (.string ⟨(sgnN m).toArray⟩) w:=by
 have hm:m=1∨m=2∨m=3∨m=4∨m=5∨m=6∨m=7∨m=8∨m=9∨m=10∨m=11:=by omega
 clear h
 rcases hm with rfl|rfl|rfl|rfl|rfl|rfl|rfl|rfl|rfl|rfl|rfl
 all_goals exact (by kernel_rfl:Eq _ _)
theorem sgn_calls (m:Int) (h:1≤m∧m≤11) (w:World):Calls Tryz.prog 159 #[.int .i64 m] w fun e w'=>e=.returned (.string ⟨(sgnN m).toArray⟩)∧w'=w:=by
 go_enter Tryz.func159,Tryz.ntmps159
 go_wp2
 rw[sgn_idx m h w]
 simp only[Result.andThen]
 rw[Oper.upon_value]
 go_wp2
 go_ret
 exact ⟨rfl,rfl⟩
theorem sgn_d (m:Int) (h:1≤m∧m≤11):FnP Tryz.prog gl 159 [iD m] (.str (sgnN m)) :=
 FnP.of_below (xs:=[.int .i64 m]) (v:=.string ⟨(sgnN m).toArray⟩) hoB (fun M w ys hd=>by
  obtain ⟨y,rfl,h1⟩:=All2.one_iff.1 hd
  rw[DenD.v_inv h1]) (fun _ _=>.str _) (fun M w hg=>(sgn_calls m h w).mono fun e w' hh=>by
   obtain ⟨rfl,rfl⟩:=hh
   exact ⟨rfl,RowKit.Below.refl _ _⟩)
theorem idx_cons {c:UInt8} {r:List UInt8} (h:c≠34):Lib.index (c::r) [34]=if Lib.index r [34]==-1 then -1 else Lib.index r [34]+1:=by
 have h3:¬ (34:UInt8)=c:=fun e=>h e.symm
 rw[Lib.index]
 simp[h3,List.isPrefixOf]
theorem idx_hit (r:List UInt8):Lib.index (34::r) [34]=0:=by simp[Lib.index,List.isPrefixOf]
theorem replK (t:List UInt8):Lib.replaceK [34] [34,34] (Lib.count t [34]) t=dqN t:=by
 induction t with
 | nil=>rfl
 | cons c r ih =>
  by_cases hc:c=34
  ·subst hc
   rw[Lib.count_hit (i:=0) (by simp) (idx_hit r),Nat.add_comm,Lib.replaceK_hit _ _ _ _ 0 (idx_hit r)]
   simp[dqN,ih]
  ·rcases Lib.index_spec r [34] with ⟨h,_⟩|⟨i,h,_,_,_⟩
   ·have h1:Lib.index (c::r) [34]=-1:=by rw[idx_cons hc,h];rfl
    rw[Lib.count_miss h1]
    rw[Lib.count_miss h] at ih
    simp only[Lib.replaceK] at ih ⊢
    rw[dqN,if_neg hc,← ih]
   ·have h1:Lib.index (c::r) [34]=((i+1:Nat):Int):=by
     rw[idx_cons hc,h,if_neg (by simp)]
     omega
    rw[Lib.count_hit (by simp) h1,Nat.add_comm,Lib.replaceK_hit _ _ _ _ _ h1]
    rw[Lib.count_hit (by simp) h,Nat.add_comm,Lib.replaceK_hit _ _ _ _ _ h] at ih
    rw[dqN,if_neg hc,← ih]
    simp
theorem replAll (t:List UInt8):Lib.replaceAll t [34] [34,34]=dqN t:=by
 unfold Lib.replaceAll Lib.replace Lib.replaceNum
 rw[if_neg (by decide),if_pos (.inl (by decide))]
 exact replK t
theorem xtra:Builder.Extra Tryz.prog Tryz.lays155_ren:={ sizeBuilder:=by kernel_rfl,liesBuilder:=by kernel_rfl,t5:=Tryz.underlying5,a5:=Tryz.isAgg5,z5:=Tryz.sizeOf5,v5:=Tryz.zeroValue5,infoByte:=by kernel_rfl,cellsByte:=by kernel_rfl,sizeByte:=by kernel_rfl,neB5:=by decide }
theorem Replace_d {mx:Int} (hm:Go.EYtfkjhfdpphfjhaaGreatDoor.look gl 4=some [iD mx]) (s:List UInt8) (hs:s.length≤1048576):FnP Tryz.prog gl 155 [.str s,.str [34],.str [34,34]] (.str (dqN s)):=by
 intro w M xs hM hg hd
 obtain ⟨y0,ys,rfl,h0,h1⟩:=All2.cons_iff.1 hd
 obtain rfl:=str2 h1
 obtain rfl:=DenD.str_inv h0
 obtain ⟨_,ys,h2,_,h4⟩:=hg _ _ hm
 obtain ⟨y,rfl,h5⟩:=All2.one_iff.1 h4
 obtain rfl:=DenD.v_inv h5
 refine .inl ⟨by unfold HasBody;kernel_rfl,?_⟩
 have hsz:(⟨s.toArray⟩:ByteArray).size=s.length:=rfl
 have hcnt:=Lib.countB_le (⟨#[34]⟩:ByteArray) (by decide) _ ⟨s.toArray⟩ (Nat.le_refl _)
 have h:=Any.strings_ReplaceAll Tryz.lays155 xtra ⟨s.toArray⟩ ⟨[34].toArray⟩ ⟨[34,34].toArray⟩ mx w (by omega) (globCell h2 0 _ rfl) (by decide) (by
  show s.length+Lib.countB ⟨s.toArray⟩ ⟨#[34]⟩ * 2≤_
  omega)
 refine h.mono ?_
 rintro e w' ⟨rfl,hb⟩
 refine ⟨Evo.of_below hb _,_,rfl,?_⟩
 have:(Lib.replaceAll s [34] [34,34])=dqN s:=replAll s
 show DenD M w' (.str (dqN s)) (.string ⟨(Lib.replaceAll s [34] [34,34]).toArray⟩)
 rw[this]
 exact .str _
end
section
theorem nmR_len (a:Rf):(nmR a).length≤5:=by
 have:=digs_len a.r.toNat
 unfold nmR nameL
 cases a.fc <;> cases a.fr <;> simp <;> omega
theorem brN_len (s:List UInt8) (p:Prop) [Decidable p]:(brN s p).length≤s.length+2:=by
 unfold brN
 split <;> simp
theorem sgn_len:∀ m:Fin 12,(sgnN m.val).length≤2:=by decide
theorem sgnN_len {m:Int} (h:1≤m∧m≤11):(sgnN m).length≤2:=by
 have:=sgn_len ⟨m.toNat,by omega⟩
 rwa [show (((⟨m.toNat,by omega⟩:Fin 12).val:Nat):Int)=m by show ((m.toNat:Nat):Int)=m;omega] at this
theorem txN_len:∀ m:Fin 7,(tx.getD m.val []).length≤8:=by decide
theorem com_len:∀ ls:List (List UInt8),(comN ls).length≤(ls.map fun t=>t.length+1).sum
 | []=>Nat.le_refl _
 | s::r=>by
  have:∀ r:List (List UInt8),((r.map fun t=>(44:UInt8)::t).flatten).length=(r.map fun t=>t.length+1).sum:=fun r=>by
   induction r with
   | nil=>rfl
   | cons t r ih=>simp[ih];omega
  simp only[comN,List.length_append,this,List.map_cons,List.sum_cons]
  omega
theorem wr_len (n:Nd):∀ {box:Prop},frmN n box→okN n→(wrN n).length+3≤cntN n * 2097200:=by
 match n with
 | .mk k m t a b ks =>
  intro box hf ho
  have ih:∀ x (h:x<ks.length),∀ {box:Prop},frmN ks[x] box→okN ks[x]→(wrN ks[x]).length+3≤cntN ks[x] * 2097200:=fun x h=>wr_len ks[x]
  obtain ⟨hm,ht,hk⟩:=ho
  have hc:cntN (.mk k m t a b ks)=cntL ks+1:=rfl
  rw[hc]
  have hd:=dqN_len t
  have ha:=nmR_len a
  have hb:=nmR_len b
  by_cases k1:k=1
  ·subst k1
   rw[wrN,if_pos rfl]
   have:=itoa_len hm
   omega
  by_cases k2:k=2
  ·subst k2
   rw[wrN,if_neg (by decide),if_pos rfl]
   simp only[List.length_cons,List.length_append,List.length_nil]
   omega
  by_cases k3:k=3
  ·subst k3
   rw[wrN,if_neg (by decide),if_neg (by decide),if_pos rfl]
   split <;> simp[tT,tF] <;> omega
  by_cases k4:k=4
  ·subst k4
   rw[frm_4] at hf
   have:=txN_len ⟨m.toNat,by omega⟩
   rw[wrN,if_neg (by decide),if_neg (by decide),if_neg (by decide),if_pos rfl]
   simp only at this
   omega
  by_cases k5:k=5
  ·subst k5
   rw[wrN,if_neg (by decide),if_neg (by decide),if_neg (by decide),if_neg (by decide),if_pos rfl]
   omega
  by_cases k6:k=6
  ·subst k6
   rw[wrN,if_neg (by decide),if_neg (by decide),if_neg (by decide),if_neg (by decide),if_neg (by decide),if_pos rfl]
   simp only[List.length_cons,List.length_append]
   omega
  by_cases k7:k=7
  ·subst k7
   rw[frm_7] at hf
   obtain ⟨x,rfl⟩:=List.length_eq_one_iff.1 hf.1
   have h1:=ih 0 (by simp) (frmL_iff.1 hf.2.2.2.2 0 (by simp)) (okL_get hk (by simp))
   rw[wrN,if_neg (by decide),if_neg (by decide),if_neg (by decide),if_neg (by decide),if_neg (by decide),if_neg (by decide),if_pos rfl]
   have h2:=brN_len (wrN x) (tgtN x<5)
   simp only[wrL,wr7,cntL,List.length_cons,List.getElem_cons_zero] at *
   omega
  by_cases k8:k=8
  ·subst k8
   rw[frm_8] at hf
   obtain ⟨x,y,rfl⟩:∃ x y,ks=[x,y]:=by
    match ks,hf.1 with
    | [x,y],_=>exact ⟨x,y,rfl⟩
   have h1:=ih 0 (by simp) (frmL_iff.1 hf.2.2.2.2.2 0 (by simp)) (okL_get hk (by simp))
   have h2:=ih 1 (by simp) (frmL_iff.1 hf.2.2.2.2.2 1 (by simp)) (okL_get hk (by simp))
   rw[wrN,if_neg (by decide),if_neg (by decide),if_neg (by decide),if_neg (by decide),if_neg (by decide),if_neg (by decide),if_neg (by decide),if_pos rfl]
   have h3:=brN_len (wrN x) (tgtN x<tgtN (.mk 8 m t a b [x,y]))
   have h4:=brN_len (wrN y) (tgtN y≤tgtN (.mk 8 m t a b [x,y]))
   have h5:=sgnN_len ⟨hf.2.2.2.1,hf.2.2.2.2.1⟩
   simp only[wrL,wr8,cntL,List.length_append,List.getElem_cons_zero,List.getElem_cons_succ] at *
   omega
  by_cases k9:k=9
  ·subst k9
   rw[frm_9] at hf
   have hfl:=frmL_iff.1 hf.2.2.2
   rw[wrN,if_neg (by decide),if_neg (by decide),if_neg (by decide),if_neg (by decide),if_neg (by decide),if_neg (by decide),if_neg (by decide),if_neg (by decide),if_pos rfl]
   have h1:=com_len (wrL ks)
   have h2:((wrL ks).map fun t=>t.length+1).sum≤cntL ks * 2097200:=by
    have:∀ l:List Nd,(∀ x (h:x<l.length),(wrN l[x]).length+3≤cntN l[x] * 2097200)→((wrL l).map fun t=>t.length+1).sum≤cntL l * 2097200:=fun l hl=>by
     induction l with
     | nil=>simp[wrL]
     | cons y r ihl =>
      have h3:=hl 0 (by simp)
      have h4:=ihl fun x h=>hl (x+1) (by simpa using h)
      simp only[wrL,cntL,List.map_cons,List.sum_cons,List.getElem_cons_zero] at *
      omega
    exact this ks fun x h=>ih x h (hfl x h) (okL_get hk h)
   simp only[List.length_append,List.length_cons,List.length_nil]
   omega
  exact absurd hf (frm_0 (by omega))
termination_by SizeOf.sizeOf n
decreasing_by
 simp only[Nd.mk.sizeOf_spec]
 have:=List.sizeOf_lt_of_mem (List.getElem_mem h)
 omega
end
section
set_option maxHeartbeats 4000000
variable {gl:List (Nat×List D)}
def WrOk (gl:List (Nat×List D)) (n:Nd):Prop:=∀ s:List UInt8,s.length+cntN n * 2097200≤140737488355328→
 Go.EYtfkjhfdpphfjhaaGreatDoor.Fn Tryz.prog gl 104 [.c (.ptr 0 0),.agg (ndC n)] [(0,bld1),(1,bytB s)] 2 (.ret (.tup [])) [(0,bld1),(1,bytB (s++wrN n))] 2 [1]
theorem brackets_d {n:Nd} (hw:WrOk gl n) (hl:(wrN n).length+3≤cntN n * 2097200) (p:Prop) [i:Decidable p] (s:List UInt8) (hs:s.length+cntN n * 2097200+2≤140737488355328) :
 Go.EYtfkjhfdpphfjhaaGreatDoor.Fn Tryz.prog gl 157 [.c (.ptr 0 0),.agg (ndC n),.c (.d (.b p i))] [(0,bld1),(1,bytB s)] 2 (.ret (.tup [])) [(0,bld1),(1,bytB (s++brN (wrN n) p))] 2 [1]:=by
 obtain ⟨k,m,t,a,b,ks⟩:=n
 by_cases hp:p
 ·have c1:=WriteByte_d (gl:=gl) (.inr rfl) s 40 (by omega)
  have c2:=hw (s++[40]) (by rw[List.length_append,List.length_singleton];omega)
  have c3:=WriteByte_d (gl:=gl) (.inr rfl) (s++[40]++wrN (.mk k m t a b ks)) 41 (by rw[List.length_append,List.length_append,List.length_singleton];omega)
  rw[show s++brN (wrN (.mk k m t a b ks)) p=s++[40]++wrN (.mk k m t a b ks)++[41] by unfold brN;rw[if_pos hp];simp]
  refine S1 Tryz.func157 rfl ?_
  ((repeat' ((conv=>whnf);first|exact .intro|refine G ?_|intro _|refine C5 c1 [0,1] ?_|refine C5 c2 [0,1] ?_|refine C5 c3 [0,1] ?_|refine .mk ?_ ?_|refine H ?_|fail));all_goals conv=>whnf)
  ((repeat' first|exact rfl|((conv=>whnf);first|done|exact suL|refine And.intro ?_ ?_|fail));all_goals conv=>whnf)
 ·have c2:=hw s (by omega)
  rw[show brN (wrN (.mk k m t a b ks)) p=wrN (.mk k m t a b ks) by unfold brN;rw[if_neg hp]]
  refine S1 Tryz.func157 rfl ?_
  ((repeat' ((conv=>whnf);first|exact .intro|refine G ?_|intro _|refine C5 c2 [0,1] ?_|refine .mk ?_ ?_|refine H ?_|fail));all_goals conv=>whnf)
  ((repeat' first|exact rfl|((conv=>whnf);first|done|exact suL|refine And.intro ?_ ?_|fail));all_goals conv=>whnf)
theorem write_leaf (te:TypeId) (pe:Value) (hV:Has gl (glV te pe)) {mx:Int} (hm:Go.EYtfkjhfdpphfjhaaGreatDoor.look gl 4=some [iD mx]) (k m:Int) (t:List UInt8) (a b:Rf) (ks:List Nd) {box:Prop} (hk:1≤k∧k≤6) (hf:frmN (.mk k m t a b ks) box) (ho:okN (.mk k m t a b ks)):WrOk gl (.mk k m t a b ks):=by
 intro s hs
 have hl:=wr_len _ hf ho
 obtain ⟨hmI,ht,_⟩:=ho
 have c9:=WriteString_d (gl:=gl) (.inr rfl) s (wrN (.mk k m t a b ks)) (by omega)
 have hk':k=1∨k=2∨k=3∨k=4∨k=5∨k=6:=by omega
 rcases hk' with rfl|rfl|rfl|rfl|rfl|rfl
 ·have c1:=Num_d (gl:=gl) m
  have c2:=FnP.moreG (Show_3 te pe 1 m [] hmI) hV
  rw[show show3 1 m []=wrN (.mk 1 m t a b ks) by rw[wrN];rfl] at c2
  refine S1 Tryz.func104 rfl ?_
  ((repeat' ((conv=>whnf);first|exact .intro|refine G ?_|intro _|refine C5 c9 [0,1] ?_|refine C1 c1 ?_|refine C1 c2 ?_|refine .mk ?_ ?_|refine H ?_|fail));all_goals conv=>whnf)
  ((repeat' first|exact rfl|((conv=>whnf);first|done|exact suL|refine And.intro ?_ ?_|fail));all_goals conv=>whnf)
 ·have c1:=Replace_d hm t ht
  rw[show wrN (.mk 2 m t a b ks)=[34]++dqN t++[34] by rw[wrN,if_neg (by decide),if_pos rfl];simp] at c9 hl ⊢
  have hd:=dqN_len t
  have q1:1+(dqN t).length≤9223372036854775807:=by omega
  have q2:([34]++dqN t).length+1≤9223372036854775807:=by rw[List.length_append,List.length_singleton];omega
  refine S1 Tryz.func104 rfl ?_
  ((repeat' ((conv=>whnf);first|exact .intro|refine G ?_|intro _|refine C5 c9 [0,1] ?_|refine C1 c1 ?_|(first|refine ⟨q1,?_⟩|refine ⟨q2,?_⟩)|refine .mk ?_ ?_|refine H ?_|fail));all_goals conv=>whnf)
  ((repeat' first|exact rfl|((conv=>whnf);first|done|exact suL|refine And.intro ?_ ?_|fail));all_goals conv=>whnf)
 ·by_cases h1:m=1
  ·have c1:=Is_y (gl:=gl) (inferInstanceAs (Decidable (m=1))) h1
   have c2:=FnP.moreG (Show_3 te pe 3 1 [] (by decide)) hV
   rw[show show3 3 1 []=wrN (.mk 3 m t a b ks) by rw[wrN,if_neg (by decide),if_neg (by decide),if_pos rfl,if_pos h1];rfl] at c2
   refine S1 Tryz.func104 rfl ?_
   ((repeat' ((conv=>whnf);first|exact .intro|refine G ?_|intro _|refine C5 c9 [0,1] ?_|refine C1 c1 ?_|refine C1 c2 ?_|refine .mk ?_ ?_|refine H ?_|fail));all_goals conv=>whnf)
   ((repeat' first|exact rfl|((conv=>whnf);first|done|exact suL|refine And.intro ?_ ?_|fail));all_goals conv=>whnf)
  ·have c1:=Is_n (gl:=gl) (inferInstanceAs (Decidable (m=1))) h1
   have c2:=FnP.moreG (Show_3 te pe 3 0 [] (by decide)) hV
   rw[show show3 3 0 []=wrN (.mk 3 m t a b ks) by rw[wrN,if_neg (by decide),if_neg (by decide),if_pos rfl,if_neg h1];rfl] at c2
   refine S1 Tryz.func104 rfl ?_
   ((repeat' ((conv=>whnf);first|exact .intro|refine G ?_|intro _|refine C5 c9 [0,1] ?_|refine C1 c1 ?_|refine C1 c2 ?_|refine .mk ?_ ?_|refine H ?_|fail));all_goals conv=>whnf)
   ((repeat' first|exact rfl|((conv=>whnf);first|done|exact suL|refine And.intro ?_ ?_|fail));all_goals conv=>whnf)
 ·rw[frm_4] at hf
  have c1:=Wrong_d (gl:=gl) m
  have c2:=FnP.moreG (Show_3 te pe 4 m [] hmI) hV
  rw[show show3 4 m []=wrN (.mk 4 m t a b ks) by rw[wrN,if_neg (by decide),if_neg (by decide),if_neg (by decide),if_pos rfl];unfold show3;rw[if_neg (by decide),if_neg (by decide),if_neg (by decide),if_pos rfl,if_pos (by omega)]] at c2
  refine S1 Tryz.func104 rfl ?_
  ((repeat' ((conv=>whnf);first|exact .intro|refine G ?_|intro _|refine C5 c9 [0,1] ?_|refine C1 c1 ?_|refine C1 c2 ?_|refine .mk ?_ ?_|refine H ?_|fail));all_goals conv=>whnf)
  ((repeat' first|exact rfl|((conv=>whnf);first|done|exact suL|refine And.intro ?_ ?_|fail));all_goals conv=>whnf)
 ·rw[frm_5] at hf
  have c1:=RefName_s (gl:=gl) (fc:=a.fc) (fr:=a.fr) hf.2.2.2.2
  rw[show nameL a.c a.r a.fc a.fr=wrN (.mk 5 m t a b ks) by rw[wrN,if_neg (by decide),if_neg (by decide),if_neg (by decide),if_neg (by decide),if_pos rfl];rfl] at c1
  refine S1 Tryz.func104 rfl ?_
  ((repeat' ((conv=>whnf);first|exact .intro|refine G ?_|intro _|refine C5 c9 [0,1] ?_|refine C1 c1 ?_|refine .mk ?_ ?_|refine H ?_|fail));all_goals conv=>whnf)
  ((repeat' first|exact rfl|((conv=>whnf);first|done|exact suL|refine And.intro ?_ ?_|fail));all_goals conv=>whnf)
 ·rw[frm_6] at hf
  have c1:=RefName_s (gl:=gl) (fc:=a.fc) (fr:=a.fr) hf.2.2.2.2.1
  have c2:=RefName_s (gl:=gl) (fc:=b.fc) (fr:=b.fr) hf.2.2.2.2.2
  have hb:=nmR_len b
  have ha:=nmR_len a
  rw[show wrN (.mk 6 m t a b ks)=nmR a++58::nmR b by rw[wrN,if_neg (by decide),if_neg (by decide),if_neg (by decide),if_neg (by decide),if_neg (by decide),if_pos rfl]] at c9 hl ⊢
  have c3:=WriteString_d (gl:=gl) (.inr rfl) s (nmR a) (by omega)
  have c4:=WriteString_d (gl:=gl) (.inr rfl) (s++nmR a) ([58]++nmR b) (by rw[List.length_append,List.length_append];simp;omega)
  have q1:1+(nmR b).length≤9223372036854775807:=by omega
  rw[show s++(nmR a++58::nmR b)=s++nmR a++([58]++nmR b) by simp]
  refine S1 Tryz.func104 rfl ?_
  ((repeat' ((conv=>whnf);first|exact .intro|refine G ?_|intro _|refine C5 c3 [0,1] ?_|refine C5 c4 [0,1] ?_|refine C1 c1 ?_|refine C1 c2 ?_|(refine ⟨q1,?_⟩)|refine .mk ?_ ?_|refine H ?_|fail));all_goals conv=>whnf)
  ((repeat' first|exact rfl|((conv=>whnf);first|done|exact suL|refine And.intro ?_ ?_|fail));all_goals conv=>whnf)
end
end Go.Proofs.YtfkjhfdpphfjhaaGreatDoor
