/- Proved: a part of what the law is proved with (the reckoner, contracts of functions, plain laws). Conditions: as each says. -/
import Derived.Shelf.Strings.Builder1
import Derived.Shelf.Strings.Replace
import Derived.Test.YtcdjjjokniinkaaGreatDoorProg
import Derived.Lib.ReplaceLaws
import Derived.Test.YtcdjjjokniinkaaGreatDoorYBase
import Derived.Test.YtcdjjjokniinkaaGreatDoorYCc
import Derived.Test.YtcdjjjokniinkaaGreatDoorYCg
import Derived.Test.YtcdjjjokniinkaaGreatDoorYET
import Derived.Test.YtcdjjjokniinkaaGreatDoorYGd
import Derived.Test.YtcdjjjokniinkaaGreatDoorYPe
import Derived.Test.YtcdjjjokniinkaaGreatDoorYSd
import Derived.Test.YtcdjjjokniinkaaGreatDoorYSg
section
namespace Go.Proofs
open Go.Shelf
def Tryz.lays169_ren:Go.Shelf.Ren:=⟨fun|169=>83|n=>n,fun|70=>137|9=>9|0=>0|72=>139|37=>83|127=>184|3=>3|5=>5|n=>n,fun|n=>n⟩
theorem Tryz.lays169:Go.Proofs.Lays.n169 Tryz.prog Tryz.lays169_ren:={
 mixed:=by kernel_rfl
 f169:=Tryz.func83.trans (congrArg some (by kernel_rfl))
 t0:=Tryz.underlying0
 a0:=Tryz.isAgg0
 z0:=Tryz.sizeOf0
 v0:=Tryz.zeroValue0
 t3:=Tryz.underlying3
 a3:=Tryz.isAgg3
 z3:=Tryz.sizeOf3
 v3:=Tryz.zeroValue3
 t9:=Tryz.underlying9
 a9:=Tryz.isAgg9
 z9:=Tryz.sizeOf9
 v9:=Tryz.zeroValue9
 t37:=Tryz.underlying83
 a37:=Tryz.isAgg83
 z37:=Tryz.sizeOf83
 v37:=Tryz.zeroValue83
 t70:=Tryz.underlying137
 a70:=Tryz.isAgg137
 z70:=Tryz.sizeOf137
 v70:=Tryz.zeroValue137
 t72:=Tryz.underlying139
 a72:=Tryz.isAgg139
 z72:=Tryz.sizeOf139
 v72:=Tryz.zeroValue139
 t127:=Tryz.underlying184
 a127:=Tryz.isAgg184
 z127:=Tryz.sizeOf184
 v127:=Tryz.zeroValue184 }
def Tryz.lays155_ren:Go.Shelf.Ren:=⟨fun|155=>118|154=>149|138=>173|165=>174|143=>175|166=>115|197=>176|169=>83|195=>189|218=>190|240=>114|241=>191|219=>192|260=>193|276=>147|277=>204|217=>205|225=>206|224=>207|267=>208|266=>218|314=>219|n=>n,fun|9=>9|3=>3|4=>4|72=>139|0=>0|76=>179|105=>238|21=>21|5=>5|70=>137|20=>20|37=>83|75=>24|127=>184|164=>143|46=>123|119=>256|139=>259|138=>258|146=>265|51=>167|80=>129|n=>n,fun|1=>3|3=>4|4=>5|n=>n⟩
theorem Tryz.lays155:Go.Proofs.Lays.n155 Tryz.prog Tryz.lays155_ren:={
 mixed:=by kernel_rfl
 f138:=Tryz.func173.trans (congrArg some (by kernel_rfl))
 f143:=Tryz.func175.trans (congrArg some (by kernel_rfl))
 f154:=Tryz.func149.trans (congrArg some (by kernel_rfl))
 f155:=Tryz.func118.trans (congrArg some (by kernel_rfl))
 f165:=Tryz.func174.trans (congrArg some (by kernel_rfl))
 f166:=Tryz.func115.trans (congrArg some (by kernel_rfl))
 f169:=Tryz.func83.trans (congrArg some (by kernel_rfl))
 f195:=Tryz.func189.trans (congrArg some (by kernel_rfl))
 f197:=Tryz.func176.trans (congrArg some (by kernel_rfl))
 f217:=Tryz.func205.trans (congrArg some (by kernel_rfl))
 f218:=Tryz.func190.trans (congrArg some (by kernel_rfl))
 f219:=Tryz.func192.trans (congrArg some (by kernel_rfl))
 f224:=Tryz.func207.trans (congrArg some (by kernel_rfl))
 f225:=Tryz.func206.trans (congrArg some (by kernel_rfl))
 f240:=Tryz.func114.trans (congrArg some (by kernel_rfl))
 f241:=Tryz.func191.trans (congrArg some (by kernel_rfl))
 f260:=Tryz.func193.trans (congrArg some (by kernel_rfl))
 f266:=Tryz.func218.trans (congrArg some (by kernel_rfl))
 f267:=Tryz.func208.trans (congrArg some (by kernel_rfl))
 f276:=Tryz.func147.trans (congrArg some (by kernel_rfl))
 f277:=Tryz.func204.trans (congrArg some (by kernel_rfl))
 f314:=Tryz.func219.trans (congrArg some (by kernel_rfl))
 t0:=Tryz.underlying0
 a0:=Tryz.isAgg0
 z0:=Tryz.sizeOf0
 v0:=Tryz.zeroValue0
 t3:=Tryz.underlying3
 a3:=Tryz.isAgg3
 z3:=Tryz.sizeOf3
 v3:=Tryz.zeroValue3
 t4:=Tryz.underlying4
 a4:=Tryz.isAgg4
 z4:=Tryz.sizeOf4
 v4:=Tryz.zeroValue4
 t5:=Tryz.underlying5
 a5:=Tryz.isAgg5
 z5:=Tryz.sizeOf5
 v5:=Tryz.zeroValue5
 t9:=Tryz.underlying9
 a9:=Tryz.isAgg9
 z9:=Tryz.sizeOf9
 v9:=Tryz.zeroValue9
 t20:=Tryz.underlying20
 a20:=Tryz.isAgg20
 z20:=Tryz.sizeOf20
 v20:=Tryz.zeroValue20
 t21:=Tryz.underlying21
 a21:=Tryz.isAgg21
 z21:=Tryz.sizeOf21
 v21:=Tryz.zeroValue21
 t37:=Tryz.underlying83
 a37:=Tryz.isAgg83
 z37:=Tryz.sizeOf83
 v37:=Tryz.zeroValue83
 t46:=Tryz.underlying123
 a46:=Tryz.isAgg123
 z46:=Tryz.sizeOf123
 v46:=Tryz.zeroValue123
 t51:=Tryz.underlying167
 a51:=Tryz.isAgg167
 z51:=Tryz.sizeOf167
 v51:=Tryz.zeroValue167
 t70:=Tryz.underlying137
 a70:=Tryz.isAgg137
 z70:=Tryz.sizeOf137
 v70:=Tryz.zeroValue137
 t72:=Tryz.underlying139
 a72:=Tryz.isAgg139
 z72:=Tryz.sizeOf139
 v72:=Tryz.zeroValue139
 t75:=Tryz.underlying24
 a75:=Tryz.isAgg24
 z75:=Tryz.sizeOf24
 v75:=Tryz.zeroValue24
 t76:=Tryz.underlying179
 a76:=Tryz.isAgg179
 z76:=Tryz.sizeOf179
 v76:=Tryz.zeroValue179
 t105:=Tryz.underlying238
 a105:=Tryz.isAgg238
 z105:=Tryz.sizeOf238
 v105:=Tryz.zeroValue238
 t119:=Tryz.underlying256
 a119:=Tryz.isAgg256
 z119:=Tryz.sizeOf256
 t127:=Tryz.underlying184
 a127:=Tryz.isAgg184
 z127:=Tryz.sizeOf184
 v127:=Tryz.zeroValue184
 t138:=Tryz.underlying258
 a138:=Tryz.isAgg258
 z138:=Tryz.sizeOf258
 v138:=Tryz.zeroValue258
 t139:=Tryz.underlying259
 a139:=Tryz.isAgg259
 z139:=Tryz.sizeOf259
 v139:=Tryz.zeroValue259
 t146:=Tryz.underlying265
 a146:=Tryz.isAgg265
 z146:=Tryz.sizeOf265
 v146:=Tryz.zeroValue265
 t164:=Tryz.underlying143
 a164:=Tryz.isAgg143
 z164:=Tryz.sizeOf143
 v164:=Tryz.zeroValue143
 g1:=by kernel_rfl
 g3:=by kernel_rfl
 g4:=by kernel_rfl }
end Go.Proofs
end
section
namespace Go.Proofs.YtcdjjjokniinkaaGreatDoor
open Go Go.EYtcdjjjokniinkaaGreatDoor
set_option maxRecDepth 100000
set_option maxHeartbeats 4000000
variable {gl:List (Nat×List D)}
abbrev bld0:Blk:=.var [.d (.v (.pointer none)),.all 1 1] 139
abbrev bld1:Blk:=.var [.ptr 0 0,.all 1 1] 139
abbrev bytB (s:List UInt8):Blk:=.rows 1 (s.map u8D) 5
theorem lays240:Lays.n240 Tryz.prog Tryz.lays155_ren:={ Tryz.lays155 with }
theorem x72:Builder.X72 Tryz.prog Tryz.lays155_ren:=⟨by kernel_rfl,by kernel_rfl⟩
theorem copyCheck_1 (s:List UInt8):Go.EYtcdjjjokniinkaaGreatDoor.Fn Tryz.prog gl 114 [.c (.ptr 0 0)] [(0,bld1),(1,bytB s)] 2 (.ret (.tup [])) [(0,bld1),(1,bytB s)] 2 []:=by
 refine ⟨Nat.le_refl _,fun k B h _=>(by rw[h];rfl),fun k hk=>(by cases hk),fun w M0 adr xs hW hG hd=>?_⟩
 obtain ⟨x,rfl,b,m,ha,rfl⟩:=All2.one_iff.1 hd
 have hloc:=hW.loc 0 _ rfl
 rw[ha] at hloc
 obtain ⟨ys,h1,h2⟩:=hloc
 obtain ⟨y0,y1,rfl,h3,h4⟩:∃ y0 y1,ys=[y0,y1]∧DenC adr (Mut M0 adr [(0,bld1),(1,bytB s)]) w (.ptr 0 0) y0∧DenC adr (Mut M0 adr [(0,bld1),(1,bytB s)]) w (.all 1 1) y1:=by
  match ys,h2 with
  | [y0,y1],h2=>exact ⟨y0,y1,rfl,h2.1,h2.2.1⟩
 obtain ⟨b',m',ha',rfl⟩:=h3
 rw[ha] at ha'
 cases ha'
 refine .inl ⟨by unfold HasBody;kernel_rfl,(Any.Builder_copyCheck_used lays240 x72 b w (by simp[World.cell?,h1])).mono ?_⟩
 rintro e w' ⟨rfl,rfl⟩
 exact ⟨adr,Evo.refl _ _,hW,fun _ _ _=>rfl,fun k B b' m' hk he=>.inl ⟨k,B,m',hk,he⟩,.tuple #[],rfl,[],rfl,trivial⟩
theorem copyCheck_0 (s:List UInt8):Go.EYtcdjjjokniinkaaGreatDoor.Fn Tryz.prog gl 114 [.c (.ptr 0 0)] [(0,bld0),(1,bytB s)] 2 (.ret (.tup [])) [(0,bld1),(1,bytB s)] 2 []:=by
 refine ⟨Nat.le_refl _,fun k B h _=>?_,fun k hk=>(by cases hk),fun w M0 adr xs hW hG hd=>?_⟩
 ·match k,h with
  | 0,_=>rfl
  | 1,_=>rfl
  | k+2,h=>cases h
 obtain ⟨x,rfl,b,m,ha,rfl⟩:=All2.one_iff.1 hd
 have hloc:=hW.loc 0 _ rfl
 rw[ha] at hloc
 obtain ⟨ys,h1,h2⟩:=hloc
 obtain ⟨y0,y1,rfl,h3,h4⟩:∃ y0 y1,ys=[y0,y1]∧DenC adr (Mut M0 adr [(0,bld0),(1,bytB s)]) w (.d (.v (.pointer none))) y0∧DenC adr (Mut M0 adr [(0,bld0),(1,bytB s)]) w (.all 1 1) y1:=by
  match ys,h2 with
  | [y0,y1],h2=>exact ⟨y0,y1,rfl,h2.1,h2.2.1⟩
 obtain rfl:=DenD.v_inv h3
 refine .inl ⟨by unfold HasBody;kernel_rfl,(Any.Builder_copyCheck_fresh lays240 x72 b w (by simp[World.cell?,h1]) (by simp[World.shape?,h1];rfl) (by simp[World.frozen?,h1])).mono ?_⟩
 rintro e w' ⟨rfl,rfl⟩
 have hx0:Ok gl M0 (Trk adr [(0,bld0),(1,bytB s)]) ⟨w,adr,[0,1],[]⟩ 0 adr [] [(0,bld0),(1,bytB s)] 2 ⟨#[],[]⟩ w :=
  ⟨rfl,rfl,fun t s h=>(by cases h),hW,hG,Evo.refl _ _,fun k B b' m' hk he=>.inl ⟨k,B,m',hk,he⟩,fun k hk=>⟨(by simp at hk;omega),rfl⟩⟩
 have hx1:=hx0.setVar (o:=0) (vs:=[.ptr 0 0]) (us:=[.pointer (some ⟨b,0,none⟩)]) rfl ha h1 h2 ⟨⟨b,m,ha,rfl⟩,trivial⟩ (by simp)
 have hw:w.setCell ⟨b,0,none⟩ (.pointer (some ⟨b,0,none⟩))=w.setRow b (over [.pointer none,y1] 0 [.pointer (some ⟨b,0,none⟩)]).toArray:=by
  rw[setCell_eq_setRow w b 0 _ _ _ _ h1]
  rfl
 rw[hw]
 exact ⟨adr,hx1.base,hx1.wok,fun _ _ _=>rfl,hx1.new,.tuple #[],rfl,[],rfl,trivial⟩
theorem WriteByte_d {B0:Blk} (hB:B0=bld0∨B0=bld1) (s:List UInt8) (c:UInt8) (hs:s.length+1≤140737488355328):Go.EYtcdjjjokniinkaaGreatDoor.Fn Tryz.prog gl 81 [.c (.ptr 0 0),.c (.d (.v (.int .u8 (c.toNat:Int))))] [(0,B0),(1,bytB s)] 2 (.ret (.c (.d (.v .nilIface)))) [(0,bld1),(1,bytB (s++[c]))] 2 [1]:=by
 have h1:((s.map u8D).length+1) * 1≤140737488355328:=by rw[List.length_map];omega
 have h2:(s.map u8D).length+1≤maxLen:=by rw[List.length_map];unfold maxLen;omega
 rcases hB with rfl|rfl
 ·have c1:=copyCheck_0 (gl:=gl) s
  refine fn_of_vc (nv:=9999) (cu:=[]) fits mixed Tryz.func81 rfl hoB rfl rfl rfl rfl ?_
  ((repeat' ((conv=>whnf);first|exact .intro|refine .ya ?_|refine .na ?_|refine .ys ?_|refine .ns ?_|refine .neg (fun _=>?_) (fun _=>?_)|refine .mk (fun _=>?_) (fun _=>?_)|refine .inr (X5 (c1.r [0,1] _) ?_)|refine .inl (.inr (X5 (c1.r [0,1] _) ?_))|refine .inl (X5 (c1.r [0,1] _) ?_)|(refine ⟨⟨rfl,h1,h2⟩,?_⟩)|refine .mk ?_ ?_|refine AK ?_|refine AT ?_|fail));all_goals conv=>whnf)
  ((repeat' first|exact rfl|((conv=>whnf);first|done|exact suL|refine And.intro ?_ ?_|fail));all_goals conv=>whnf)
  exact (List.map_append (l₁:=s) (l₂:=[c])).symm
 ·have c1:=copyCheck_1 (gl:=gl) s
  refine fn_of_vc (nv:=9999) (cu:=[]) fits mixed Tryz.func81 rfl hoB rfl rfl rfl rfl ?_
  ((repeat' ((conv=>whnf);first|exact .intro|refine .ya ?_|refine .na ?_|refine .ys ?_|refine .ns ?_|refine .neg (fun _=>?_) (fun _=>?_)|refine .mk (fun _=>?_) (fun _=>?_)|refine .inr (X5 (c1.r [0,1] _) ?_)|refine .inl (.inr (X5 (c1.r [0,1] _) ?_))|refine .inl (X5 (c1.r [0,1] _) ?_)|(refine ⟨⟨rfl,h1,h2⟩,?_⟩)|refine .mk ?_ ?_|refine AK ?_|refine AT ?_|fail));all_goals conv=>whnf)
  ((repeat' first|exact rfl|((conv=>whnf);first|done|exact suL|refine And.intro ?_ ?_|fail));all_goals conv=>whnf)
  exact (List.map_append (l₁:=s) (l₂:=[c])).symm
theorem WriteString_d {B0:Blk} (hB:B0=bld0∨B0=bld1) (s t:List UInt8) (hs:s.length+t.length≤140737488355328):Go.EYtcdjjjokniinkaaGreatDoor.Fn Tryz.prog gl 115 [.c (.ptr 0 0),.c (.d (.str t))] [(0,B0),(1,bytB s)] 2 (.ret (.tup [(false,[.d (iD (t.length:Int))]),(false,[.d (.v .nilIface)])])) [(0,bld1),(1,bytB (s++t))] 2 [1]:=by
 have h1:((s.map u8D).length+t.length) * 1≤140737488355328:=by rw[List.length_map];omega
 have h2:(s.map u8D).length+t.length≤maxLen:=by rw[List.length_map];unfold maxLen;omega
 rcases hB with rfl|rfl
 ·have c1:=copyCheck_0 (gl:=gl) s
  refine fn_of_vc (nv:=9999) (cu:=[]) fits mixed Tryz.func115 rfl hoB rfl rfl rfl rfl ?_
  ((repeat' ((conv=>whnf);first|exact .intro|refine .ya ?_|refine .na ?_|refine .ys ?_|refine .ns ?_|refine .neg (fun _=>?_) (fun _=>?_)|refine .mk (fun _=>?_) (fun _=>?_)|refine .inr (X5 (c1.r [0,1] _) ?_)|refine .inl (.inr (X5 (c1.r [0,1] _) ?_))|refine .inl (X5 (c1.r [0,1] _) ?_)|(refine ⟨⟨h1,h2⟩,?_⟩)|refine .mk ?_ ?_|refine AK ?_|refine AT ?_|fail));all_goals conv=>whnf)
  ((repeat' first|exact rfl|((conv=>whnf);first|done|exact suL|refine And.intro ?_ ?_|fail));all_goals conv=>whnf)
  exact List.map_append.symm
 ·have c1:=copyCheck_1 (gl:=gl) s
  refine fn_of_vc (nv:=9999) (cu:=[]) fits mixed Tryz.func115 rfl hoB rfl rfl rfl rfl ?_
  ((repeat' ((conv=>whnf);first|exact .intro|refine .ya ?_|refine .na ?_|refine .ys ?_|refine .ns ?_|refine .neg (fun _=>?_) (fun _=>?_)|refine .mk (fun _=>?_) (fun _=>?_)|refine .inr (X5 (c1.r [0,1] _) ?_)|refine .inl (.inr (X5 (c1.r [0,1] _) ?_))|refine .inl (X5 (c1.r [0,1] _) ?_)|(refine ⟨⟨h1,h2⟩,?_⟩)|refine .mk ?_ ?_|refine AK ?_|refine AT ?_|fail));all_goals conv=>whnf)
  ((repeat' first|exact rfl|((conv=>whnf);first|done|exact suL|refine And.intro ?_ ?_|fail));all_goals conv=>whnf)
  exact List.map_append.symm
end Go.Proofs.YtcdjjjokniinkaaGreatDoor
end
section
namespace Go.Proofs.YtcdjjjokniinkaaGreatDoor
open Go Go.EYtcdjjjokniinkaaGreatDoor
set_option maxRecDepth 100000
set_option maxHeartbeats 4000000
variable {gl:List (Nat×List D)}
theorem tight_d (n:Nd):FnP Tryz.prog gl 123 [.agg n.cs] (iD (tgtN n)):=by
 obtain ⟨k,m,t,a,b,ks⟩:=n
 by_cases hk:k=8
 ·subst hk
  by_cases h6:m≤6
  ·rw[show tgtN (.mk 8 m t a b ks)=1 by simp[tgtN,h6]]
   refine fnP_of_vc (nv:=9999) (cu:=[]) fits mixed Tryz.func123 rfl hoB rfl ?_
   ((repeat' ((conv=>whnf);first|exact .intro|refine .ya ?_|refine .na ?_|refine .ys ?_|refine .ns ?_|refine .neg (fun _=>?_) (fun _=>?_)|refine .mk (fun _=>?_) (fun _=>?_)|refine .mk ?_ ?_|refine AK ?_|refine AT ?_|fail));all_goals conv=>whnf)
   exact LeD.rfl
  ·by_cases h7:m=7
   ·rw[show tgtN (.mk 8 m t a b ks)=2 by simp[tgtN,h7]]
    refine fnP_of_vc (nv:=9999) (cu:=[]) fits mixed Tryz.func123 rfl hoB rfl ?_
    ((repeat' ((conv=>whnf);first|exact .intro|refine .ya ?_|refine .na ?_|refine .ys ?_|refine .ns ?_|refine .neg (fun _=>?_) (fun _=>?_)|refine .mk (fun _=>?_) (fun _=>?_)|refine .mk ?_ ?_|refine AK ?_|refine AT ?_|fail));all_goals conv=>whnf)
    exact LeD.rfl
   ·by_cases h9:m≤9
    ·rw[show tgtN (.mk 8 m t a b ks)=3 by simp[tgtN,h6,h7,h9]]
     refine fnP_of_vc (nv:=9999) (cu:=[]) fits mixed Tryz.func123 rfl hoB rfl ?_
     ((repeat' ((conv=>whnf);first|exact .intro|refine .ya ?_|refine .na ?_|refine .ys ?_|refine .ns ?_|refine .neg (fun _=>?_) (fun _=>?_)|refine .mk (fun _=>?_) (fun _=>?_)|refine .mk ?_ ?_|refine AK ?_|refine AT ?_|fail));all_goals conv=>whnf)
     exact LeD.rfl
    ·rw[show tgtN (.mk 8 m t a b ks)=4 by simp[tgtN,h6,h7,h9]]
     refine fnP_of_vc (nv:=9999) (cu:=[]) fits mixed Tryz.func123 rfl hoB rfl ?_
     ((repeat' ((conv=>whnf);first|exact .intro|refine .ya ?_|refine .na ?_|refine .ys ?_|refine .ns ?_|refine .neg (fun _=>?_) (fun _=>?_)|refine .mk (fun _=>?_) (fun _=>?_)|refine .mk ?_ ?_|refine AK ?_|refine AT ?_|fail));all_goals conv=>whnf)
     exact LeD.rfl
 ·rw[show tgtN (.mk k m t a b ks)=5 by simp[tgtN,hk]]
  refine fnP_of_vc (nv:=9999) (cu:=[]) fits mixed Tryz.func123 rfl hoB rfl ?_
  ((repeat' ((conv=>whnf);first|exact .intro|refine .ya ?_|refine .na ?_|refine .ys ?_|refine .ns ?_|refine .neg (fun _=>?_) (fun _=>?_)|refine .mk (fun _=>?_) (fun _=>?_)|refine .mk ?_ ?_|refine AK ?_|refine AT ?_|fail));all_goals conv=>whnf)
  exact LeD.rfl
abbrev sgnA:Array Value:=#[.string ⟨#[]⟩,.string ⟨#[61]⟩,.string ⟨#[60,62]⟩,.string ⟨#[60]⟩,.string ⟨#[60,61]⟩,.string ⟨#[62]⟩,.string ⟨#[62,61]⟩,.string ⟨#[38]⟩,.string ⟨#[43]⟩,.string ⟨#[45]⟩,.string ⟨#[42]⟩,.string ⟨#[47]⟩]
theorem sgn_idx (m:Int) (h:1≤m∧m≤11) (w:World):(Instr.index 219 (.agg sgnA) (.int .i64 m)).run Tryz.prog w=.ok (.string ⟨(sgnN m).toArray⟩) w:=by
 have hm:m=1∨m=2∨m=3∨m=4∨m=5∨m=6∨m=7∨m=8∨m=9∨m=10∨m=11:=by omega
 clear h
 rcases hm with rfl|rfl|rfl|rfl|rfl|rfl|rfl|rfl|rfl|rfl|rfl
 all_goals exact (by kernel_rfl:Eq _ _)
theorem sgn_calls (m:Int) (h:1≤m∧m≤11) (w:World):Calls Tryz.prog 124 #[.int .i64 m] w fun e w'=>e=.returned (.string ⟨(sgnN m).toArray⟩)∧w'=w:=by
 go_enter Tryz.func124,Tryz.ntmps124
 go_wp2
 rw[sgn_idx m h w]
 simp only[Result.andThen]
 rw[Oper.upon_value]
 go_wp2
 go_ret
 exact ⟨rfl,rfl⟩
theorem sgn_d (m:Int) (h:1≤m∧m≤11):FnP Tryz.prog gl 124 [iD m] (.str (sgnN m)) :=
 FnP.of_below (xs:=[.int .i64 m]) (v:=.string ⟨(sgnN m).toArray⟩) hoB (fun M w ys hd=>by
  obtain ⟨y,rfl,h1⟩:=All2.one_iff.1 hd
  rw[DenD.v_inv h1]) (fun _ _=>.str _) (fun M w hg=>(sgn_calls m h w).mono fun e w' hh=>by
   obtain ⟨rfl,rfl⟩:=hh
   exact ⟨rfl,RowKit.Below.refl _ _⟩)
theorem idx_cons {c:UInt8} {r:List UInt8} (h:c≠34):Lib.index (c::r) [34]=if Lib.index r [34]==-1 then -1 else Lib.index r [34]+1:=by
 have h3:¬ (34:UInt8)=c:=fun e=>h e.symm
 rw[Lib.index]
 simp[h3,List.isPrefixOf]
theorem idx_hit (r:List UInt8):Lib.index (34::r) [34]=0:=by simp[Lib.index,List.isPrefixOf]
theorem replK (t:List UInt8):Lib.replaceK [34] [34,34] (Lib.count t [34]) t=dqN t:=by
 induction t with
 | nil=>rfl
 | cons c r ih =>
  by_cases hc:c=34
  ·subst hc
   rw[Lib.count_hit (i:=0) (by simp) (idx_hit r),Nat.add_comm,Lib.replaceK_hit _ _ _ _ 0 (idx_hit r)]
   simp[dqN,ih]
  ·rcases Lib.index_spec r [34] with ⟨h,_⟩|⟨i,h,_,_,_⟩
   ·have h1:Lib.index (c::r) [34]=-1:=by rw[idx_cons hc,h];rfl
    rw[Lib.count_miss h1]
    rw[Lib.count_miss h] at ih
    simp only[Lib.replaceK] at ih ⊢
    rw[dqN,if_neg hc,← ih]
   ·have h1:Lib.index (c::r) [34]=((i+1:Nat):Int):=by
     rw[idx_cons hc,h,if_neg (by simp)]
     omega
    rw[Lib.count_hit (by simp) h1,Nat.add_comm,Lib.replaceK_hit _ _ _ _ _ h1]
    rw[Lib.count_hit (by simp) h,Nat.add_comm,Lib.replaceK_hit _ _ _ _ _ h] at ih
    rw[dqN,if_neg hc,← ih]
    simp
theorem replAll (t:List UInt8):Lib.replaceAll t [34] [34,34]=dqN t:=by
 unfold Lib.replaceAll Lib.replace Lib.replaceNum
 rw[if_neg (by decide),if_pos (.inl (by decide))]
 exact replK t
theorem xtra:Builder.Extra Tryz.prog Tryz.lays155_ren:={ sizeBuilder:=by kernel_rfl,liesBuilder:=by kernel_rfl,t5:=Tryz.underlying5,a5:=Tryz.isAgg5,z5:=Tryz.sizeOf5,v5:=Tryz.zeroValue5,infoByte:=by kernel_rfl,cellsByte:=by kernel_rfl,sizeByte:=by kernel_rfl,neB5:=by decide }
theorem Replace_d {mx:Int} (hm:Go.EYtcdjjjokniinkaaGreatDoor.look gl 3=some [iD mx]) (s:List UInt8) (hs:s.length≤1048576):FnP Tryz.prog gl 118 [.str s,.str [34],.str [34,34]] (.str (dqN s)):=by
 intro w M xs hM hg hd
 obtain ⟨y0,ys,rfl,h0,h1⟩:=All2.cons_iff.1 hd
 obtain rfl:=str2 h1
 obtain rfl:=DenD.str_inv h0
 obtain ⟨_,ys,h2,_,h4⟩:=hg _ _ hm
 obtain ⟨y,rfl,h5⟩:=All2.one_iff.1 h4
 obtain rfl:=DenD.v_inv h5
 refine .inl ⟨by unfold HasBody;kernel_rfl,?_⟩
 have hsz:(⟨s.toArray⟩:ByteArray).size=s.length:=rfl
 have hcnt:=Lib.countB_le (⟨#[34]⟩:ByteArray) (by decide) _ ⟨s.toArray⟩ (Nat.le_refl _)
 have h:=Any.strings_ReplaceAll Tryz.lays155 xtra ⟨s.toArray⟩ ⟨[34].toArray⟩ ⟨[34,34].toArray⟩ mx w (by omega) (globCell h2 0 _ rfl) (by decide) (by
  show s.length+Lib.countB ⟨s.toArray⟩ ⟨#[34]⟩ * 2≤_
  omega)
 refine h.mono ?_
 rintro e w' ⟨rfl,hb⟩
 refine ⟨Evo.of_below hb _,_,rfl,?_⟩
 have:(Lib.replaceAll s [34] [34,34])=dqN s:=replAll s
 show DenD M w' (.str (dqN s)) (.string ⟨(Lib.replaceAll s [34] [34,34]).toArray⟩)
 rw[this]
 exact .str _
end Go.Proofs.YtcdjjjokniinkaaGreatDoor
end
section
namespace Go.Proofs.YtcdjjjokniinkaaGreatDoor
open Go Go.EYtcdjjjokniinkaaGreatDoor
set_option maxRecDepth 100000
theorem nmR_len (a:Rf):(nmR a).length≤5:=by
 have:=digs_len a.r.toNat
 unfold nmR nameL
 cases a.fc <;> cases a.fr <;> simp <;> omega
theorem brN_len (s:List UInt8) (p:Prop) [Decidable p]:(brN s p).length≤s.length+2:=by
 unfold brN
 split <;> simp
theorem sgn_len:∀ m:Fin 12,(sgnN m.val).length≤2:=by decide
theorem sgnN_len {m:Int} (h:1≤m∧m≤11):(sgnN m).length≤2:=by
 have:=sgn_len ⟨m.toNat,by omega⟩
 rwa [show (((⟨m.toNat,by omega⟩:Fin 12).val:Nat):Int)=m by show ((m.toNat:Nat):Int)=m;omega] at this
theorem txN_len:∀ m:Fin 7,(tx.getD m.val []).length≤8:=by decide
theorem com_len:∀ ls:List (List UInt8),(comN ls).length≤(ls.map fun t=>t.length+1).sum
 | []=>Nat.le_refl _
 | s::r=>by
  have:∀ r:List (List UInt8),((r.map fun t=>(44:UInt8)::t).flatten).length=(r.map fun t=>t.length+1).sum:=fun r=>by
   induction r with
   | nil=>rfl
   | cons t r ih=>simp[ih];omega
  simp only[comN,List.length_append,this,List.map_cons,List.sum_cons]
  omega
theorem wr_len (n:Nd):∀ {box:Prop},frmN n box→okN n→(wrN n).length+3≤cntN n * 2097200:=by
 match n with
 | .mk k m t a b ks =>
  intro box hf ho
  have ih:∀ x (h:x<ks.length),∀ {box:Prop},frmN ks[x] box→okN ks[x]→(wrN ks[x]).length+3≤cntN ks[x] * 2097200:=fun x h=>wr_len ks[x]
  obtain ⟨hm,ht,hk⟩:=ho
  have hc:cntN (.mk k m t a b ks)=cntL ks+1:=rfl
  rw[hc]
  have hd:=dqN_len t
  have ha:=nmR_len a
  have hb:=nmR_len b
  by_cases k1:k=1
  ·subst k1
   rw[wrN,if_pos rfl]
   have:=itoa_len hm
   omega
  by_cases k2:k=2
  ·subst k2
   rw[wrN,if_neg (by decide),if_pos rfl]
   simp only[List.length_cons,List.length_append,List.length_nil]
   omega
  by_cases k3:k=3
  ·subst k3
   rw[wrN,if_neg (by decide),if_neg (by decide),if_pos rfl]
   split <;> simp[tT,tF] <;> omega
  by_cases k4:k=4
  ·subst k4
   rw[frm_4] at hf
   have:=txN_len ⟨m.toNat,by omega⟩
   rw[wrN,if_neg (by decide),if_neg (by decide),if_neg (by decide),if_pos rfl]
   simp only at this
   omega
  by_cases k5:k=5
  ·subst k5
   rw[wrN,if_neg (by decide),if_neg (by decide),if_neg (by decide),if_neg (by decide),if_pos rfl]
   omega
  by_cases k6:k=6
  ·subst k6
   rw[wrN,if_neg (by decide),if_neg (by decide),if_neg (by decide),if_neg (by decide),if_neg (by decide),if_pos rfl]
   simp only[List.length_cons,List.length_append]
   omega
  by_cases k7:k=7
  ·subst k7
   rw[frm_7] at hf
   obtain ⟨x,rfl⟩:=List.length_eq_one_iff.1 hf.1
   have h1:=ih 0 (by simp) (frmL_iff.1 hf.2.2.2.2 0 (by simp)) (okL_get hk (by simp))
   rw[wrN,if_neg (by decide),if_neg (by decide),if_neg (by decide),if_neg (by decide),if_neg (by decide),if_neg (by decide),if_pos rfl]
   have h2:=brN_len (wrN x) (tgtN x<5)
   simp only[wrL,wr7,cntL,List.length_cons,List.getElem_cons_zero] at *
   omega
  by_cases k8:k=8
  ·subst k8
   rw[frm_8] at hf
   obtain ⟨x,y,rfl⟩:∃ x y,ks=[x,y]:=by
    match ks,hf.1 with
    | [x,y],_=>exact ⟨x,y,rfl⟩
   have h1:=ih 0 (by simp) (frmL_iff.1 hf.2.2.2.2.2 0 (by simp)) (okL_get hk (by simp))
   have h2:=ih 1 (by simp) (frmL_iff.1 hf.2.2.2.2.2 1 (by simp)) (okL_get hk (by simp))
   rw[wrN,if_neg (by decide),if_neg (by decide),if_neg (by decide),if_neg (by decide),if_neg (by decide),if_neg (by decide),if_neg (by decide),if_pos rfl]
   have h3:=brN_len (wrN x) (tgtN x<tgtN (.mk 8 m t a b [x,y]))
   have h4:=brN_len (wrN y) (tgtN y≤tgtN (.mk 8 m t a b [x,y]))
   have h5:=sgnN_len ⟨hf.2.2.2.1,hf.2.2.2.2.1⟩
   simp only[wrL,wr8,cntL,List.length_append,List.getElem_cons_zero,List.getElem_cons_succ] at *
   omega
  by_cases k9:k=9
  ·subst k9
   rw[frm_9] at hf
   have hfl:=frmL_iff.1 hf.2.2.2
   rw[wrN,if_neg (by decide),if_neg (by decide),if_neg (by decide),if_neg (by decide),if_neg (by decide),if_neg (by decide),if_neg (by decide),if_neg (by decide),if_pos rfl]
   have h1:=com_len (wrL ks)
   have h2:((wrL ks).map fun t=>t.length+1).sum≤cntL ks * 2097200:=by
    have:∀ l:List Nd,(∀ x (h:x<l.length),(wrN l[x]).length+3≤cntN l[x] * 2097200)→((wrL l).map fun t=>t.length+1).sum≤cntL l * 2097200:=fun l hl=>by
     induction l with
     | nil=>simp[wrL]
     | cons y r ihl =>
      have h3:=hl 0 (by simp)
      have h4:=ihl fun x h=>hl (x+1) (by simpa using h)
      simp only[wrL,cntL,List.map_cons,List.sum_cons,List.getElem_cons_zero] at *
      omega
    exact this ks fun x h=>ih x h (hfl x h) (okL_get hk h)
   simp only[List.length_append,List.length_cons,List.length_nil]
   omega
  exact absurd hf (frm_0 (by omega))
termination_by SizeOf.sizeOf n
decreasing_by
 simp only[Nd.mk.sizeOf_spec]
 have:=List.sizeOf_lt_of_mem (List.getElem_mem h)
 omega
end Go.Proofs.YtcdjjjokniinkaaGreatDoor
end
section
namespace Go.Proofs.YtcdjjjokniinkaaGreatDoor
open Go Go.EYtcdjjjokniinkaaGreatDoor
set_option maxRecDepth 100000
variable {gl:List (Nat×List D)}
def Gives1 (gl:List (Nat×List D)) (f:Nat) (vs:List V) (s:List UInt8) (i d:Nat):Rs Nd→Prop
 | .ok n j=>Go.EYtcdjjjokniinkaaGreatDoor.Fn Tryz.prog gl f vs [(0,rdB s i d)] 1 (.ret (.agg (ndC n))) [(0,rdB s j d)] 1 []
 | .no a e=>Go.EYtcdjjjokniinkaaGreatDoor.Fn Tryz.prog gl f vs [(0,rdB s i d)] 1 (.panic (.d (fltD a e))) [] 1 []
theorem neg1_ok {s:List UInt8} {i j d:Nat} {n:Nd} (hi:i<s.length) (hs:s.length≤200) (h:Gives1 gl 91 [.c (.ptr 0 0)] s (i+1) d (.ok n j)) :
 Go.EYtcdjjjokniinkaaGreatDoor.Fn Tryz.prog gl 129 [.c (.ptr 1 0)] [(0,rdB s i d),(1,rpB)] 2 (.ret (.agg (ndC (negN n)))) [(0,rdB s j d),(1,rpB)] 2 []:=by
 obtain ⟨k,m,t,a,b,ks⟩:=n
 have e1:IntKind.i64.wrap (((i:Nat):Int)+1)=((i+1:Nat):Int):=by rw[wrapI (by omega)];rfl
 unfold Gives1 at h
 refine fn_of_vc (nv:=9999) (cu:=[]) fits mixed Tryz.func129 rfl hoB rfl rfl rfl rfl ?_
 ((repeat' ((conv=>whnf);first|exact .intro|refine .ya ?_|refine .na ?_|refine .ys ?_|refine .ns ?_|refine .neg (fun _=>?_) (fun _=>?_)|refine .mk (fun _=>?_) (fun _=>?_)|refine .inr (X5 (h.r [0] _) ?_)|refine .inl (.inr (X5 (h.r [0] _) ?_))|refine .inl (X5 (h.r [0] _) ?_)|(rw[e1])|refine .mk ?_ ?_|refine AK ?_|refine AT ?_|fail));all_goals conv=>whnf)
 ((repeat' first|exact rfl|((conv=>whnf);first|done|exact suL|refine And.intro ?_ ?_|fail));all_goals conv=>whnf)
 (refine .inr ?_;repeat' first|exact .intro|exact .inr (.inl rfl)|exact lf0|exact ln0|((conv=>whnf);first|exact .intro|exact .inr (.inl rfl)|exact lf0|exact ln0|refine And.intro ?_ ?_|fail))
theorem neg1_no {s:List UInt8} {i p d:Nat} {e:Int} (hi:i<s.length) (hs:s.length≤200) (h:Gives1 gl 91 [.c (.ptr 0 0)] s (i+1) d (.no p e)) :
 Go.EYtcdjjjokniinkaaGreatDoor.Fn Tryz.prog gl 129 [.c (.ptr 1 0)] [(0,rdB s i d),(1,rpB)] 2 (.panic (.d (fltD p e))) [] 2 []:=by
 have e1:IntKind.i64.wrap (((i:Nat):Int)+1)=((i+1:Nat):Int):=by rw[wrapI (by omega)];rfl
 unfold Gives1 at h
 refine fn_of_vc (nv:=9999) (cu:=[]) fits mixed Tryz.func129 rfl hoB rfl rfl rfl rfl ?_
 ((repeat' ((conv=>whnf);first|exact .intro|refine .ya ?_|refine .na ?_|refine .ys ?_|refine .ns ?_|refine .neg (fun _=>?_) (fun _=>?_)|refine .mk (fun _=>?_) (fun _=>?_)|refine .inr (X5 (h.r [0] _) ?_)|refine .inl (.inr (X5 (h.r [0] _) ?_))|refine .inl (X5 (h.r [0] _) ?_)|(rw[e1])|refine .mk ?_ ?_|refine AK ?_|refine AT ?_|fail));all_goals conv=>whnf)
 ((repeat' first|exact rfl|((conv=>whnf);first|done|exact suL|refine And.intro ?_ ?_|fail));all_goals conv=>whnf)
theorem prim1_ok {s:List UInt8} {i j d:Nat} {n:Nd} (hi:i<s.length) (hj:j≤s.length) (hs:s.length≤200) (h:Gives1 gl 67 [.c (.ptr 0 0),.c (.d (iD 0))] s (i+1) d (.ok n j)) (hq:s[skp s j]?=some 41) :
 Go.EYtcdjjjokniinkaaGreatDoor.Fn Tryz.prog gl 150 [.c (.ptr 1 0)] [(0,rdB s i d),(1,rpB)] 2 (.ret (.agg (ndC n))) [(0,rdB s (skp s j+1) d),(1,rpB)] 2 []:=by
 obtain ⟨k,m,t,a,b,ks⟩:=n
 have e1:IntKind.i64.wrap (((i:Nat):Int)+1)=((i+1:Nat):Int):=by rw[wrapI (by omega)];rfl
 have c2:=want_y (gl:=gl) (d:=d) hj hs hq
 unfold Gives1 at h
 refine fn_of_vc (nv:=9999) (cu:=[]) fits mixed Tryz.func150 rfl hoB rfl rfl rfl rfl ?_
 ((repeat' ((conv=>whnf);first|exact .intro|refine .ya ?_|refine .na ?_|refine .ys ?_|refine .ns ?_|refine .neg (fun _=>?_) (fun _=>?_)|refine .mk (fun _=>?_) (fun _=>?_)|refine .inr (X5 (h.r [0] _) ?_)|refine .inl (.inr (X5 (h.r [0] _) ?_))|refine .inl (X5 (h.r [0] _) ?_)|refine .inr (X5 (c2.r [0] _) ?_)|refine .inl (.inr (X5 (c2.r [0] _) ?_))|refine .inl (X5 (c2.r [0] _) ?_)|(rw[e1])|refine .mk ?_ ?_|refine AK ?_|refine AT ?_|fail));all_goals conv=>whnf)
 ((repeat' first|exact rfl|((conv=>whnf);first|done|exact suL|refine And.intro ?_ ?_|fail));all_goals conv=>whnf)
theorem prim1_n {s:List UInt8} {i j d:Nat} {n:Nd} (hi:i<s.length) (hj:j≤s.length) (hs:s.length≤200) (h:Gives1 gl 67 [.c (.ptr 0 0),.c (.d (iD 0))] s (i+1) d (.ok n j)) (hq:s[skp s j]?≠some 41) :
 Go.EYtcdjjjokniinkaaGreatDoor.Fn Tryz.prog gl 150 [.c (.ptr 1 0)] [(0,rdB s i d),(1,rpB)] 2 (.panic (.d (fltD (skp s j) 2))) [] 2 []:=by
 obtain ⟨k,m,t,a,b,ks⟩:=n
 have e1:IntKind.i64.wrap (((i:Nat):Int)+1)=((i+1:Nat):Int):=by rw[wrapI (by omega)];rfl
 have c2:=want_n (gl:=gl) (d:=d) hj hs hq
 unfold Gives1 at h
 refine fn_of_vc (nv:=9999) (cu:=[]) fits mixed Tryz.func150 rfl hoB rfl rfl rfl rfl ?_
 ((repeat' ((conv=>whnf);first|exact .intro|refine .ya ?_|refine .na ?_|refine .ys ?_|refine .ns ?_|refine .neg (fun _=>?_) (fun _=>?_)|refine .mk (fun _=>?_) (fun _=>?_)|refine .inr (X5 (h.r [0] _) ?_)|refine .inl (.inr (X5 (h.r [0] _) ?_))|refine .inl (X5 (h.r [0] _) ?_)|refine .inr (X5 (c2.r [0] _) ?_)|refine .inl (.inr (X5 (c2.r [0] _) ?_))|refine .inl (X5 (c2.r [0] _) ?_)|(rw[e1])|refine .mk ?_ ?_|refine AK ?_|refine AT ?_|fail));all_goals conv=>whnf)
 ((repeat' first|exact rfl|((conv=>whnf);first|done|exact suL|refine And.intro ?_ ?_|fail));all_goals conv=>whnf)
theorem prim1_no {s:List UInt8} {i p d:Nat} {e:Int} (hi:i<s.length) (hs:s.length≤200) (h:Gives1 gl 67 [.c (.ptr 0 0),.c (.d (iD 0))] s (i+1) d (.no p e)) :
 Go.EYtcdjjjokniinkaaGreatDoor.Fn Tryz.prog gl 150 [.c (.ptr 1 0)] [(0,rdB s i d),(1,rpB)] 2 (.panic (.d (fltD p e))) [] 2 []:=by
 have e1:IntKind.i64.wrap (((i:Nat):Int)+1)=((i+1:Nat):Int):=by rw[wrapI (by omega)];rfl
 unfold Gives1 at h
 refine fn_of_vc (nv:=9999) (cu:=[]) fits mixed Tryz.func150 rfl hoB rfl rfl rfl rfl ?_
 ((repeat' ((conv=>whnf);first|exact .intro|refine .ya ?_|refine .na ?_|refine .ys ?_|refine .ns ?_|refine .neg (fun _=>?_) (fun _=>?_)|refine .mk (fun _=>?_) (fun _=>?_)|refine .inr (X5 (h.r [0] _) ?_)|refine .inl (.inr (X5 (h.r [0] _) ?_))|refine .inl (X5 (h.r [0] _) ?_)|(rw[e1])|refine .mk ?_ ?_|refine AK ?_|refine AT ?_|fail));all_goals conv=>whnf)
 ((repeat' first|exact rfl|((conv=>whnf);first|done|exact suL|refine And.intro ?_ ?_|fail));all_goals conv=>whnf)
theorem prim2_ok {s w:List UInt8} {i j d:Nat} {n:Nd} (h:Gives1 gl 157 [.c (.ptr 0 0),.c (.d (.str w))] s i d (.ok n j)) :
 Go.EYtcdjjjokniinkaaGreatDoor.Fn Tryz.prog gl 156 [.c (.ptr 1 0),.c (.ptr 2 0)] [(0,rdB s i d),(1,rpB),(2,txB w)] 3 (.ret (.agg (ndC n))) [(0,rdB s j d),(1,rpB),(2,txB w)] 3 []:=by
 obtain ⟨k,m,t,a,b,ks⟩:=n
 unfold Gives1 at h
 refine fn_of_vc (nv:=9999) (cu:=[]) fits mixed Tryz.func156 rfl hoB rfl rfl rfl rfl ?_
 ((repeat' ((conv=>whnf);first|exact .intro|refine .ya ?_|refine .na ?_|refine .ys ?_|refine .ns ?_|refine .neg (fun _=>?_) (fun _=>?_)|refine .mk (fun _=>?_) (fun _=>?_)|refine .inr (X5 (h.r [0] _) ?_)|refine .inl (.inr (X5 (h.r [0] _) ?_))|refine .inl (X5 (h.r [0] _) ?_)|refine .mk ?_ ?_|refine AK ?_|refine AT ?_|fail));all_goals conv=>whnf)
 ((repeat' first|exact rfl|((conv=>whnf);first|done|exact suL|refine And.intro ?_ ?_|fail));all_goals conv=>whnf)
theorem prim2_no {s w:List UInt8} {i p d:Nat} {e:Int} (h:Gives1 gl 157 [.c (.ptr 0 0),.c (.d (.str w))] s i d (.no p e)) :
 Go.EYtcdjjjokniinkaaGreatDoor.Fn Tryz.prog gl 156 [.c (.ptr 1 0),.c (.ptr 2 0)] [(0,rdB s i d),(1,rpB),(2,txB w)] 3 (.panic (.d (fltD p e))) [] 3 []:=by
 unfold Gives1 at h
 refine fn_of_vc (nv:=9999) (cu:=[]) fits mixed Tryz.func156 rfl hoB rfl rfl rfl rfl ?_
 ((repeat' ((conv=>whnf);first|exact .intro|refine .ya ?_|refine .na ?_|refine .ys ?_|refine .ns ?_|refine .neg (fun _=>?_) (fun _=>?_)|refine .mk (fun _=>?_) (fun _=>?_)|refine .inr (X5 (h.r [0] _) ?_)|refine .inl (.inr (X5 (h.r [0] _) ?_))|refine .inl (X5 (h.r [0] _) ?_)|refine .mk ?_ ?_|refine AK ?_|refine AT ?_|fail));all_goals conv=>whnf)
 ((repeat' first|exact rfl|((conv=>whnf);first|done|exact suL|refine And.intro ?_ ?_|fail));all_goals conv=>whnf)
end Go.Proofs.YtcdjjjokniinkaaGreatDoor
end
section
namespace Go.Proofs.YtcdjjjokniinkaaGreatDoor
open Go Go.EYtcdjjjokniinkaaGreatDoor
set_option maxRecDepth 100000
variable {gl:List (Nat×List D)}
theorem HasPrefix_d (s p:List UInt8) {b:Bool} (hb:b=(decide (p.length≤s.length) && decide (s.take p.length=p))):FnP Tryz.prog gl 64 [.str s,.str p] (.v (.bool b)):=by
 have c1:FnP Tryz.prog gl 90 [.str s,.str p] (.v (.bool b)):=by
  by_cases h1:(s.length:Int)≥(p.length:Int)
  ·have h1':p.length≤s.length:=by omega
   refine fnP_of_vc (nv:=9999) (cu:=[]) fits mixed Tryz.func90 rfl hoB rfl ?_
   ((repeat' ((conv=>whnf);first|exact .intro|refine .ya ?_|refine .na ?_|refine .ys ?_|refine .ns ?_|refine .neg (fun _=>?_) (fun _=>?_)|refine .mk (fun _=>?_) (fun _=>?_)|refine .mk ?_ ?_|refine AK ?_|refine AT ?_|fail));all_goals conv=>whnf)
   refine ⟨⟨Int.le_refl 0,(show (0:Int)≤((p.length:Nat):Int) by omega),(show ((p.length:Nat):Int)≤((s.length:Nat):Int) by omega)⟩,?_⟩
   subst hb
   by_cases h2:s.take p.length=p
   ·simp only[h1',h2,decide_true,Bool.and_self]
    ((repeat' ((conv=>whnf);first|exact .intro|refine .ya ?_|refine .na ?_|refine .ys ?_|refine .ns ?_|refine .neg (fun _=>?_) (fun _=>?_)|refine .mk (fun _=>?_) (fun _=>?_)|refine .mk ?_ ?_|refine AK ?_|refine AT ?_|fail));all_goals conv=>whnf)
    all_goals first|exact LeD.rfl|exact LeD.vt (show (s.take ((p.length:Nat):Int).toNat).drop 0=p by rw[Int.toNat_natCast];exact h2)
   ·simp only[h1',h2,decide_true,decide_false,Bool.and_false]
    ((repeat' ((conv=>whnf);first|exact .intro|refine .ya ?_|refine .na ?_|refine .ys ?_|refine .ns ?_|refine .neg (fun _=>?_) (fun _=>?_)|refine .mk (fun _=>?_) (fun _=>?_)|refine .mk ?_ ?_|refine AK ?_|refine AT ?_|fail));all_goals conv=>whnf)
    all_goals first|exact LeD.rfl|exact LeD.vf (fun h=>h2 (by have h:(s.take ((p.length:Nat):Int).toNat).drop 0=p:=h;rw[Int.toNat_natCast] at h;exact h))
  ·have h1':¬ p.length≤s.length:=by omega
   subst hb
   simp only[h1',decide_false,Bool.false_and]
   refine fnP_of_vc (nv:=9999) (cu:=[]) fits mixed Tryz.func90 rfl hoB rfl ?_
   ((repeat' ((conv=>whnf);first|exact .intro|refine .ya ?_|refine .na ?_|refine .ys ?_|refine .ns ?_|refine .neg (fun _=>?_) (fun _=>?_)|refine .mk (fun _=>?_) (fun _=>?_)|refine .mk ?_ ?_|refine AK ?_|refine AT ?_|fail));all_goals conv=>whnf)
   all_goals exact LeD.rfl
 refine fnP_of_vc (nv:=9999) (cu:=[]) fits mixed Tryz.func64 rfl hoB rfl ?_
 ((repeat' ((conv=>whnf);first|exact .intro|refine .ya ?_|refine .na ?_|refine .ys ?_|refine .ns ?_|refine .neg (fun _=>?_) (fun _=>?_)|refine .mk (fun _=>?_) (fun _=>?_)|refine .inl (.inl (X1 (c1) ?_))|refine .inl (X1 (c1) ?_)|refine X1 (c1) ?_|refine .mk ?_ ?_|refine AK ?_|refine AT ?_|fail));all_goals conv=>whnf)
 exact LeD.rfl
theorem opOf_d (op:Nat) (t:List UInt8) (h:(op,t) ∈ [(1,[61]),(2,[60,62]),(3,[60]),(4,[60,61]),(5,[62]),(6,[62,61]),(7,[38]),(8,[43]),(9,[45]),(10,[42]),(11,[47])]):FnP Tryz.prog gl 92 [.str t] (iD (op:Int)):=by
 simp only[List.mem_cons,Prod.mk.injEq,List.not_mem_nil,or_false] at h
 rcases h with ⟨rfl,rfl⟩|⟨rfl,rfl⟩|⟨rfl,rfl⟩|⟨rfl,rfl⟩|⟨rfl,rfl⟩|⟨rfl,rfl⟩|⟨rfl,rfl⟩|⟨rfl,rfl⟩|⟨rfl,rfl⟩|⟨rfl,rfl⟩|⟨rfl,rfl⟩
 all_goals
  refine fnP_of_vc (nv:=9999) (cu:=[]) fits mixed Tryz.func92 rfl hoB rfl ?_
  ((repeat' ((conv=>whnf);first|exact .intro|refine .ya ?_|refine .na ?_|refine .ys ?_|refine .ns ?_|refine .neg (fun _=>?_) (fun _=>?_)|refine .mk (fun _=>?_) (fun _=>?_)|refine .mk ?_ ?_|refine AK ?_|refine AT ?_|fail));all_goals conv=>whnf)
  all_goals first|exact LeD.rfl|(exfalso;simp_all;done)
end Go.Proofs.YtcdjjjokniinkaaGreatDoor
end
section
namespace Go.Proofs.YtcdjjjokniinkaaGreatDoor
open Go Go.EYtcdjjjokniinkaaGreatDoor
set_option maxRecDepth 100000
variable {gl:List (Nat×List D)}
def litN (t:List UInt8):Nat→Nat→Option (Int×Nat)
 | 0,_=>none
 | f+1,n=>match litZ (t.take n) with
  | some q=>some (q.2,n)
  | none=>litN t f (n+1)
theorem litN_len (t:List UInt8):∀ (f n:Nat) (m:Int) (l:Nat),litN t f n=some (m,l)→n≤l∧l<n+f
 | 0,n,m,l,h=>by cases h
 | f+1,n,m,l,h=>by
  unfold litN at h
  split at h
  ·cases h;omega
  ·have:=litN_len t f (n+1) m l h;omega
def litF (t:List UInt8):Option (Int×Nat):=litN t t.length 1
theorem litF_len (t:List UInt8) (m:Int) (l:Nat) (h:litF t=some (m,l)):1≤l∧l≤t.length:=by
 have:=litN_len t _ _ _ _ h
 omega
def parZ (rf:List UInt8→Option Rf):Par:=⟨plZ rf,clZ,rf,litF,litF_len⟩
end Go.Proofs.YtcdjjjokniinkaaGreatDoor
end
