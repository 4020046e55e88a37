/- Proved: a part of what the law is proved with (the reckoner, contracts of functions, plain laws). Conditions: as each says. -/
import Derived.Shelf.Strings.Builder1
import Derived.Shelf.Strings.Replace
import Derived.Test.YtdpigpahfiachaaGreatDoorProg
import Derived.Lib.ReplaceLaws
import Derived.Test.YtdpigpahfiachaaGreatDoorVET
import Derived.Test.YtdpigpahfiachaaGreatDoorVEs
import Derived.Test.YtdpigpahfiachaaGreatDoorVKd
import Derived.Test.YtdpigpahfiachaaGreatDoorVPc
import Derived.Test.YtdpigpahfiachaaGreatDoorVPd
import Derived.Test.YtdpigpahfiachaaGreatDoorVSd
section
namespace Go.Proofs
open Go.Shelf
def Tryz.lays169_ren:Go.Shelf.Ren:=⟨fun|169=>66|n=>n,fun|70=>113|9=>9|0=>0|72=>116|37=>114|127=>164|3=>3|5=>5|n=>n,fun|n=>n⟩
theorem Tryz.lays169:Go.Proofs.Lays.n169 Tryz.prog Tryz.lays169_ren:={
 mixed:=by kernel_rfl
 f169:=Tryz.func66.trans (congrArg some (by kernel_rfl))
 t0:=Tryz.underlying0
 a0:=Tryz.isAgg0
 z0:=Tryz.sizeOf0
 v0:=Tryz.zeroValue0
 t3:=Tryz.underlying3
 a3:=Tryz.isAgg3
 z3:=Tryz.sizeOf3
 v3:=Tryz.zeroValue3
 t9:=Tryz.underlying9
 a9:=Tryz.isAgg9
 z9:=Tryz.sizeOf9
 v9:=Tryz.zeroValue9
 t37:=Tryz.underlying114
 a37:=Tryz.isAgg114
 z37:=Tryz.sizeOf114
 v37:=Tryz.zeroValue114
 t70:=Tryz.underlying113
 a70:=Tryz.isAgg113
 z70:=Tryz.sizeOf113
 v70:=Tryz.zeroValue113
 t72:=Tryz.underlying116
 a72:=Tryz.isAgg116
 z72:=Tryz.sizeOf116
 v72:=Tryz.zeroValue116
 t127:=Tryz.underlying164
 a127:=Tryz.isAgg164
 z127:=Tryz.sizeOf164
 v127:=Tryz.zeroValue164 }
def Tryz.lays155_ren:Go.Shelf.Ren:=⟨fun|155=>114|154=>158|138=>192|165=>193|143=>101|166=>111|197=>194|169=>66|195=>213|218=>214|240=>110|241=>215|219=>150|260=>216|276=>156|277=>234|217=>178|225=>179|224=>180|267=>181|266=>206|314=>207|n=>n,fun|9=>9|3=>3|4=>4|72=>116|0=>0|76=>153|105=>232|21=>21|5=>5|70=>113|20=>20|37=>114|75=>32|127=>164|164=>176|46=>188|119=>262|139=>265|138=>264|146=>245|51=>244|80=>119|n=>n,fun|1=>3|3=>4|4=>5|n=>n⟩
theorem Tryz.lays155:Go.Proofs.Lays.n155 Tryz.prog Tryz.lays155_ren:={
 mixed:=by kernel_rfl
 f138:=Tryz.func192.trans (congrArg some (by kernel_rfl))
 f143:=Tryz.func101.trans (congrArg some (by kernel_rfl))
 f154:=Tryz.func158.trans (congrArg some (by kernel_rfl))
 f155:=Tryz.func114.trans (congrArg some (by kernel_rfl))
 f165:=Tryz.func193.trans (congrArg some (by kernel_rfl))
 f166:=Tryz.func111.trans (congrArg some (by kernel_rfl))
 f169:=Tryz.func66.trans (congrArg some (by kernel_rfl))
 f195:=Tryz.func213.trans (congrArg some (by kernel_rfl))
 f197:=Tryz.func194.trans (congrArg some (by kernel_rfl))
 f217:=Tryz.func178.trans (congrArg some (by kernel_rfl))
 f218:=Tryz.func214.trans (congrArg some (by kernel_rfl))
 f219:=Tryz.func150.trans (congrArg some (by kernel_rfl))
 f224:=Tryz.func180.trans (congrArg some (by kernel_rfl))
 f225:=Tryz.func179.trans (congrArg some (by kernel_rfl))
 f240:=Tryz.func110.trans (congrArg some (by kernel_rfl))
 f241:=Tryz.func215.trans (congrArg some (by kernel_rfl))
 f260:=Tryz.func216.trans (congrArg some (by kernel_rfl))
 f266:=Tryz.func206.trans (congrArg some (by kernel_rfl))
 f267:=Tryz.func181.trans (congrArg some (by kernel_rfl))
 f276:=Tryz.func156.trans (congrArg some (by kernel_rfl))
 f277:=Tryz.func234.trans (congrArg some (by kernel_rfl))
 f314:=Tryz.func207.trans (congrArg some (by kernel_rfl))
 t0:=Tryz.underlying0
 a0:=Tryz.isAgg0
 z0:=Tryz.sizeOf0
 v0:=Tryz.zeroValue0
 t3:=Tryz.underlying3
 a3:=Tryz.isAgg3
 z3:=Tryz.sizeOf3
 v3:=Tryz.zeroValue3
 t4:=Tryz.underlying4
 a4:=Tryz.isAgg4
 z4:=Tryz.sizeOf4
 v4:=Tryz.zeroValue4
 t5:=Tryz.underlying5
 a5:=Tryz.isAgg5
 z5:=Tryz.sizeOf5
 v5:=Tryz.zeroValue5
 t9:=Tryz.underlying9
 a9:=Tryz.isAgg9
 z9:=Tryz.sizeOf9
 v9:=Tryz.zeroValue9
 t20:=Tryz.underlying20
 a20:=Tryz.isAgg20
 z20:=Tryz.sizeOf20
 v20:=Tryz.zeroValue20
 t21:=Tryz.underlying21
 a21:=Tryz.isAgg21
 z21:=Tryz.sizeOf21
 v21:=Tryz.zeroValue21
 t37:=Tryz.underlying114
 a37:=Tryz.isAgg114
 z37:=Tryz.sizeOf114
 v37:=Tryz.zeroValue114
 t46:=Tryz.underlying188
 a46:=Tryz.isAgg188
 z46:=Tryz.sizeOf188
 v46:=Tryz.zeroValue188
 t51:=Tryz.underlying244
 a51:=Tryz.isAgg244
 z51:=Tryz.sizeOf244
 v51:=Tryz.zeroValue244
 t70:=Tryz.underlying113
 a70:=Tryz.isAgg113
 z70:=Tryz.sizeOf113
 v70:=Tryz.zeroValue113
 t72:=Tryz.underlying116
 a72:=Tryz.isAgg116
 z72:=Tryz.sizeOf116
 v72:=Tryz.zeroValue116
 t75:=Tryz.underlying32
 a75:=Tryz.isAgg32
 z75:=Tryz.sizeOf32
 v75:=Tryz.zeroValue32
 t76:=Tryz.underlying153
 a76:=Tryz.isAgg153
 z76:=Tryz.sizeOf153
 v76:=Tryz.zeroValue153
 t105:=Tryz.underlying232
 a105:=Tryz.isAgg232
 z105:=Tryz.sizeOf232
 v105:=Tryz.zeroValue232
 t119:=Tryz.underlying262
 a119:=Tryz.isAgg262
 z119:=Tryz.sizeOf262
 t127:=Tryz.underlying164
 a127:=Tryz.isAgg164
 z127:=Tryz.sizeOf164
 v127:=Tryz.zeroValue164
 t138:=Tryz.underlying264
 a138:=Tryz.isAgg264
 z138:=Tryz.sizeOf264
 v138:=Tryz.zeroValue264
 t139:=Tryz.underlying265
 a139:=Tryz.isAgg265
 z139:=Tryz.sizeOf265
 v139:=Tryz.zeroValue265
 t146:=Tryz.underlying245
 a146:=Tryz.isAgg245
 z146:=Tryz.sizeOf245
 v146:=Tryz.zeroValue245
 t164:=Tryz.underlying176
 a164:=Tryz.isAgg176
 z164:=Tryz.sizeOf176
 v164:=Tryz.zeroValue176
 g1:=by kernel_rfl
 g3:=by kernel_rfl
 g4:=by kernel_rfl }
end Go.Proofs
end
section
namespace Go.Proofs.YtdpigpahfiachaaGreatDoor
open Go Go.EYtdpigpahfiachaaGreatDoor
set_option maxRecDepth 100000
set_option maxHeartbeats 4000000
variable {gl:List (Nat×List D)}
abbrev bld0:Blk:=.var [.d (.v (.pointer none)),.all 1 1] 116
abbrev bld1:Blk:=.var [.ptr 0 0,.all 1 1] 116
abbrev bytB (s:List UInt8):Blk:=.rows 1 (s.map u8D) 5
theorem lays240:Lays.n240 Tryz.prog Tryz.lays155_ren:={ Tryz.lays155 with }
theorem x72:Builder.X72 Tryz.prog Tryz.lays155_ren:=⟨by kernel_rfl,by kernel_rfl⟩
theorem copyCheck_1 (s:List UInt8):Go.EYtdpigpahfiachaaGreatDoor.Fn Tryz.prog gl 110 [.c (.ptr 0 0)] [(0,bld1),(1,bytB s)] 2 (.ret (.tup [])) [(0,bld1),(1,bytB s)] 2 []:=by
 refine ⟨Nat.le_refl _,fun k B h _=>(by rw[h];rfl),fun k hk=>(by cases hk),fun w M0 adr xs hW hG hd=>?_⟩
 obtain ⟨x,rfl,b,m,ha,rfl⟩:=All2.one_iff.1 hd
 have hloc:=hW.loc 0 _ rfl
 rw[ha] at hloc
 obtain ⟨ys,h1,h2⟩:=hloc
 obtain ⟨y0,y1,rfl,h3,h4⟩:∃ y0 y1,ys=[y0,y1]∧DenC adr (Mut M0 adr [(0,bld1),(1,bytB s)]) w (.ptr 0 0) y0∧DenC adr (Mut M0 adr [(0,bld1),(1,bytB s)]) w (.all 1 1) y1:=by
  match ys,h2 with
  | [y0,y1],h2=>exact ⟨y0,y1,rfl,h2.1,h2.2.1⟩
 obtain ⟨b',m',ha',rfl⟩:=h3
 rw[ha] at ha'
 cases ha'
 refine .inl ⟨by unfold HasBody;kernel_rfl,(Any.Builder_copyCheck_used lays240 x72 b w (by simp[World.cell?,h1])).mono ?_⟩
 rintro e w' ⟨rfl,rfl⟩
 exact ⟨adr,Evo.refl _ _,hW,fun _ _ _=>rfl,fun k B b' m' hk he=>.inl ⟨k,B,m',hk,he⟩,.tuple #[],rfl,[],rfl,trivial⟩
theorem copyCheck_0 (s:List UInt8):Go.EYtdpigpahfiachaaGreatDoor.Fn Tryz.prog gl 110 [.c (.ptr 0 0)] [(0,bld0),(1,bytB s)] 2 (.ret (.tup [])) [(0,bld1),(1,bytB s)] 2 []:=by
 refine ⟨Nat.le_refl _,fun k B h _=>?_,fun k hk=>(by cases hk),fun w M0 adr xs hW hG hd=>?_⟩
 ·match k,h with
  | 0,_=>rfl
  | 1,_=>rfl
  | k+2,h=>cases h
 obtain ⟨x,rfl,b,m,ha,rfl⟩:=All2.one_iff.1 hd
 have hloc:=hW.loc 0 _ rfl
 rw[ha] at hloc
 obtain ⟨ys,h1,h2⟩:=hloc
 obtain ⟨y0,y1,rfl,h3,h4⟩:∃ y0 y1,ys=[y0,y1]∧DenC adr (Mut M0 adr [(0,bld0),(1,bytB s)]) w (.d (.v (.pointer none))) y0∧DenC adr (Mut M0 adr [(0,bld0),(1,bytB s)]) w (.all 1 1) y1:=by
  match ys,h2 with
  | [y0,y1],h2=>exact ⟨y0,y1,rfl,h2.1,h2.2.1⟩
 obtain rfl:=DenD.v_inv h3
 refine .inl ⟨by unfold HasBody;kernel_rfl,(Any.Builder_copyCheck_fresh lays240 x72 b w (by simp[World.cell?,h1]) (by simp[World.shape?,h1];rfl) (by simp[World.frozen?,h1])).mono ?_⟩
 rintro e w' ⟨rfl,rfl⟩
 have hx0:Ok gl M0 (Trk adr [(0,bld0),(1,bytB s)]) ⟨w,adr,[0,1],[]⟩ 0 adr [] [(0,bld0),(1,bytB s)] 2 ⟨#[],[]⟩ w :=
  ⟨rfl,rfl,fun t s h=>(by cases h),hW,hG,Evo.refl _ _,fun k B b' m' hk he=>.inl ⟨k,B,m',hk,he⟩,fun k hk=>⟨(by simp at hk;omega),rfl⟩⟩
 have hx1:=hx0.setVar (o:=0) (vs:=[.ptr 0 0]) (us:=[.pointer (some ⟨b,0,none⟩)]) rfl ha h1 h2 ⟨⟨b,m,ha,rfl⟩,trivial⟩ (by simp)
 have hw:w.setCell ⟨b,0,none⟩ (.pointer (some ⟨b,0,none⟩))=w.setRow b (over [.pointer none,y1] 0 [.pointer (some ⟨b,0,none⟩)]).toArray:=by
  rw[setCell_eq_setRow w b 0 _ _ _ _ h1]
  rfl
 rw[hw]
 exact ⟨adr,hx1.base,hx1.wok,fun _ _ _=>rfl,hx1.new,.tuple #[],rfl,[],rfl,trivial⟩
theorem WriteByte_d {B0:Blk} (hB:B0=bld0∨B0=bld1) (s:List UInt8) (c:UInt8) (hs:s.length+1≤140737488355328):Go.EYtdpigpahfiachaaGreatDoor.Fn Tryz.prog gl 64 [.c (.ptr 0 0),.c (.d (.v (.int .u8 (c.toNat:Int))))] [(0,B0),(1,bytB s)] 2 (.ret (.c (.d (.v .nilIface)))) [(0,bld1),(1,bytB (s++[c]))] 2 [1]:=by
 have h1:((s.map u8D).length+1) * 1≤140737488355328:=by rw[List.length_map];omega
 have h2:(s.map u8D).length+1≤maxLen:=by rw[List.length_map];unfold maxLen;omega
 rcases hB with rfl|rfl
 ·have c1:=copyCheck_0 (gl:=gl) s
  refine fn_of_vc (nv:=9999) (cu:=[]) fits mixed Tryz.func64 rfl hoB rfl rfl rfl rfl ?_
  ((repeat' ((conv=>whnf);first|exact .intro|refine .ya ?_|refine .na ?_|refine .ys ?_|refine .ns ?_|refine .neg (fun _=>?_) (fun _=>?_)|refine .mk (fun _=>?_) (fun _=>?_)|refine .inr (X5 (c1.r [0,1] _) ?_)|refine .inl (.inr (X5 (c1.r [0,1] _) ?_))|refine .inl (X5 (c1.r [0,1] _) ?_)|(refine ⟨⟨rfl,h1,h2⟩,?_⟩)|refine .mk ?_ ?_|refine AK ?_|refine AT ?_|fail));all_goals conv=>whnf)
  ((repeat' first|exact rfl|((conv=>whnf);first|done|exact suL|refine And.intro ?_ ?_|fail));all_goals conv=>whnf)
  exact (List.map_append (l₁:=s) (l₂:=[c])).symm
 ·have c1:=copyCheck_1 (gl:=gl) s
  refine fn_of_vc (nv:=9999) (cu:=[]) fits mixed Tryz.func64 rfl hoB rfl rfl rfl rfl ?_
  ((repeat' ((conv=>whnf);first|exact .intro|refine .ya ?_|refine .na ?_|refine .ys ?_|refine .ns ?_|refine .neg (fun _=>?_) (fun _=>?_)|refine .mk (fun _=>?_) (fun _=>?_)|refine .inr (X5 (c1.r [0,1] _) ?_)|refine .inl (.inr (X5 (c1.r [0,1] _) ?_))|refine .inl (X5 (c1.r [0,1] _) ?_)|(refine ⟨⟨rfl,h1,h2⟩,?_⟩)|refine .mk ?_ ?_|refine AK ?_|refine AT ?_|fail));all_goals conv=>whnf)
  ((repeat' first|exact rfl|((conv=>whnf);first|done|exact suL|refine And.intro ?_ ?_|fail));all_goals conv=>whnf)
  exact (List.map_append (l₁:=s) (l₂:=[c])).symm
theorem WriteString_d {B0:Blk} (hB:B0=bld0∨B0=bld1) (s t:List UInt8) (hs:s.length+t.length≤140737488355328):Go.EYtdpigpahfiachaaGreatDoor.Fn Tryz.prog gl 111 [.c (.ptr 0 0),.c (.d (.str t))] [(0,B0),(1,bytB s)] 2 (.ret (.tup [(false,[.d (iD (t.length:Int))]),(false,[.d (.v .nilIface)])])) [(0,bld1),(1,bytB (s++t))] 2 [1]:=by
 have h1:((s.map u8D).length+t.length) * 1≤140737488355328:=by rw[List.length_map];omega
 have h2:(s.map u8D).length+t.length≤maxLen:=by rw[List.length_map];unfold maxLen;omega
 rcases hB with rfl|rfl
 ·have c1:=copyCheck_0 (gl:=gl) s
  refine fn_of_vc (nv:=9999) (cu:=[]) fits mixed Tryz.func111 rfl hoB rfl rfl rfl rfl ?_
  ((repeat' ((conv=>whnf);first|exact .intro|refine .ya ?_|refine .na ?_|refine .ys ?_|refine .ns ?_|refine .neg (fun _=>?_) (fun _=>?_)|refine .mk (fun _=>?_) (fun _=>?_)|refine .inr (X5 (c1.r [0,1] _) ?_)|refine .inl (.inr (X5 (c1.r [0,1] _) ?_))|refine .inl (X5 (c1.r [0,1] _) ?_)|(refine ⟨⟨h1,h2⟩,?_⟩)|refine .mk ?_ ?_|refine AK ?_|refine AT ?_|fail));all_goals conv=>whnf)
  ((repeat' first|exact rfl|((conv=>whnf);first|done|exact suL|refine And.intro ?_ ?_|fail));all_goals conv=>whnf)
  exact List.map_append.symm
 ·have c1:=copyCheck_1 (gl:=gl) s
  refine fn_of_vc (nv:=9999) (cu:=[]) fits mixed Tryz.func111 rfl hoB rfl rfl rfl rfl ?_
  ((repeat' ((conv=>whnf);first|exact .intro|refine .ya ?_|refine .na ?_|refine .ys ?_|refine .ns ?_|refine .neg (fun _=>?_) (fun _=>?_)|refine .mk (fun _=>?_) (fun _=>?_)|refine .inr (X5 (c1.r [0,1] _) ?_)|refine .inl (.inr (X5 (c1.r [0,1] _) ?_))|refine .inl (X5 (c1.r [0,1] _) ?_)|(refine ⟨⟨h1,h2⟩,?_⟩)|refine .mk ?_ ?_|refine AK ?_|refine AT ?_|fail));all_goals conv=>whnf)
  ((repeat' first|exact rfl|((conv=>whnf);first|done|exact suL|refine And.intro ?_ ?_|fail));all_goals conv=>whnf)
  exact List.map_append.symm
end Go.Proofs.YtdpigpahfiachaaGreatDoor
end
section
namespace Go.Proofs.YtdpigpahfiachaaGreatDoor
open Go Go.EYtdpigpahfiachaaGreatDoor
set_option maxRecDepth 100000
set_option maxHeartbeats 4000000
variable {gl:List (Nat×List D)}
theorem tight_d (n:Nd):FnP Tryz.prog gl 119 [.agg n.cs] (iD (tgtN n)):=by
 obtain ⟨k,m,t,a,b,ks⟩:=n
 by_cases hk:k=8
 ·subst hk
  by_cases h6:m≤6
  ·rw[show tgtN (.mk 8 m t a b ks)=1 by simp[tgtN,h6]]
   refine fnP_of_vc (nv:=9999) (cu:=[]) fits mixed Tryz.func119 rfl hoB rfl ?_
   ((repeat' ((conv=>whnf);first|exact .intro|refine .ya ?_|refine .na ?_|refine .ys ?_|refine .ns ?_|refine .neg (fun _=>?_) (fun _=>?_)|refine .mk (fun _=>?_) (fun _=>?_)|refine .mk ?_ ?_|refine AK ?_|refine AT ?_|fail));all_goals conv=>whnf)
   exact LeD.rfl
  ·by_cases h7:m=7
   ·rw[show tgtN (.mk 8 m t a b ks)=2 by simp[tgtN,h7]]
    refine fnP_of_vc (nv:=9999) (cu:=[]) fits mixed Tryz.func119 rfl hoB rfl ?_
    ((repeat' ((conv=>whnf);first|exact .intro|refine .ya ?_|refine .na ?_|refine .ys ?_|refine .ns ?_|refine .neg (fun _=>?_) (fun _=>?_)|refine .mk (fun _=>?_) (fun _=>?_)|refine .mk ?_ ?_|refine AK ?_|refine AT ?_|fail));all_goals conv=>whnf)
    exact LeD.rfl
   ·by_cases h9:m≤9
    ·rw[show tgtN (.mk 8 m t a b ks)=3 by simp[tgtN,h6,h7,h9]]
     refine fnP_of_vc (nv:=9999) (cu:=[]) fits mixed Tryz.func119 rfl hoB rfl ?_
     ((repeat' ((conv=>whnf);first|exact .intro|refine .ya ?_|refine .na ?_|refine .ys ?_|refine .ns ?_|refine .neg (fun _=>?_) (fun _=>?_)|refine .mk (fun _=>?_) (fun _=>?_)|refine .mk ?_ ?_|refine AK ?_|refine AT ?_|fail));all_goals conv=>whnf)
     exact LeD.rfl
    ·rw[show tgtN (.mk 8 m t a b ks)=4 by simp[tgtN,h6,h7,h9]]
     refine fnP_of_vc (nv:=9999) (cu:=[]) fits mixed Tryz.func119 rfl hoB rfl ?_
     ((repeat' ((conv=>whnf);first|exact .intro|refine .ya ?_|refine .na ?_|refine .ys ?_|refine .ns ?_|refine .neg (fun _=>?_) (fun _=>?_)|refine .mk (fun _=>?_) (fun _=>?_)|refine .mk ?_ ?_|refine AK ?_|refine AT ?_|fail));all_goals conv=>whnf)
     exact LeD.rfl
 ·rw[show tgtN (.mk k m t a b ks)=5 by simp[tgtN,hk]]
  refine fnP_of_vc (nv:=9999) (cu:=[]) fits mixed Tryz.func119 rfl hoB rfl ?_
  ((repeat' ((conv=>whnf);first|exact .intro|refine .ya ?_|refine .na ?_|refine .ys ?_|refine .ns ?_|refine .neg (fun _=>?_) (fun _=>?_)|refine .mk (fun _=>?_) (fun _=>?_)|refine .mk ?_ ?_|refine AK ?_|refine AT ?_|fail));all_goals conv=>whnf)
  exact LeD.rfl
abbrev sgnA:Array Value:=#[.string ⟨#[]⟩,.string ⟨#[61]⟩,.string ⟨#[60,62]⟩,.string ⟨#[60]⟩,.string ⟨#[60,61]⟩,.string ⟨#[62]⟩,.string ⟨#[62,61]⟩,.string ⟨#[38]⟩,.string ⟨#[43]⟩,.string ⟨#[45]⟩,.string ⟨#[42]⟩,.string ⟨#[47]⟩]
theorem sgn_idx (m:Int) (h:1≤m∧m≤11) (w:World):(Instr.index 196 (.agg sgnA) (.int .i64 m)).run Tryz.prog w=.ok (.string ⟨(sgnN m).toArray⟩) w:=by
 have hm:m=1∨m=2∨m=3∨m=4∨m=5∨m=6∨m=7∨m=8∨m=9∨m=10∨m=11:=by omega
 clear h
 rcases hm with rfl|rfl|rfl|rfl|rfl|rfl|rfl|rfl|rfl|rfl|rfl
 all_goals exact (by kernel_rfl:Eq _ _)
theorem sgn_calls (m:Int) (h:1≤m∧m≤11) (w:World):Calls Tryz.prog 120 #[.int .i64 m] w fun e w'=>e=.returned (.string ⟨(sgnN m).toArray⟩)∧w'=w:=by
 go_enter Tryz.func120,Tryz.ntmps120
 go_wp2
 rw[sgn_idx m h w]
 simp only[Result.andThen]
 rw[Oper.upon_value]
 go_wp2
 go_ret
 exact ⟨rfl,rfl⟩
theorem sgn_d (m:Int) (h:1≤m∧m≤11):FnP Tryz.prog gl 120 [iD m] (.str (sgnN m)) :=
 FnP.of_below (xs:=[.int .i64 m]) (v:=.string ⟨(sgnN m).toArray⟩) hoB (fun M w ys hd=>by
  obtain ⟨y,rfl,h1⟩:=All2.one_iff.1 hd
  rw[DenD.v_inv h1]) (fun _ _=>.str _) (fun M w hg=>(sgn_calls m h w).mono fun e w' hh=>by
   obtain ⟨rfl,rfl⟩:=hh
   exact ⟨rfl,RowKit.Below.refl _ _⟩)
theorem idx_cons {c:UInt8} {r:List UInt8} (h:c≠34):Lib.index (c::r) [34]=if Lib.index r [34]==-1 then -1 else Lib.index r [34]+1:=by
 have h3:¬ (34:UInt8)=c:=fun e=>h e.symm
 rw[Lib.index]
 simp[h3,List.isPrefixOf]
theorem idx_hit (r:List UInt8):Lib.index (34::r) [34]=0:=by simp[Lib.index,List.isPrefixOf]
theorem replK (t:List UInt8):Lib.replaceK [34] [34,34] (Lib.count t [34]) t=dqN t:=by
 induction t with
 | nil=>rfl
 | cons c r ih =>
  by_cases hc:c=34
  ·subst hc
   rw[Lib.count_hit (i:=0) (by simp) (idx_hit r),Nat.add_comm,Lib.replaceK_hit _ _ _ _ 0 (idx_hit r)]
   simp[dqN,ih]
  ·rcases Lib.index_spec r [34] with ⟨h,_⟩|⟨i,h,_,_,_⟩
   ·have h1:Lib.index (c::r) [34]=-1:=by rw[idx_cons hc,h];rfl
    rw[Lib.count_miss h1]
    rw[Lib.count_miss h] at ih
    simp only[Lib.replaceK] at ih ⊢
    rw[dqN,if_neg hc,← ih]
   ·have h1:Lib.index (c::r) [34]=((i+1:Nat):Int):=by
     rw[idx_cons hc,h,if_neg (by simp)]
     omega
    rw[Lib.count_hit (by simp) h1,Nat.add_comm,Lib.replaceK_hit _ _ _ _ _ h1]
    rw[Lib.count_hit (by simp) h,Nat.add_comm,Lib.replaceK_hit _ _ _ _ _ h] at ih
    rw[dqN,if_neg hc,← ih]
    simp
theorem replAll (t:List UInt8):Lib.replaceAll t [34] [34,34]=dqN t:=by
 unfold Lib.replaceAll Lib.replace Lib.replaceNum
 rw[if_neg (by decide),if_pos (.inl (by decide))]
 exact replK t
theorem xtra:Builder.Extra Tryz.prog Tryz.lays155_ren:={ sizeBuilder:=by kernel_rfl,liesBuilder:=by kernel_rfl,t5:=Tryz.underlying5,a5:=Tryz.isAgg5,z5:=Tryz.sizeOf5,v5:=Tryz.zeroValue5,infoByte:=by kernel_rfl,cellsByte:=by kernel_rfl,sizeByte:=by kernel_rfl,neB5:=by decide }
theorem Replace_d {mx:Int} (hm:Go.EYtdpigpahfiachaaGreatDoor.look gl 3=some [iD mx]) (s:List UInt8) (hs:s.length≤1048576):FnP Tryz.prog gl 114 [.str s,.str [34],.str [34,34]] (.str (dqN s)):=by
 intro w M xs hM hg hd
 obtain ⟨y0,ys,rfl,h0,h1⟩:=All2.cons_iff.1 hd
 obtain rfl:=str2 h1
 obtain rfl:=DenD.str_inv h0
 obtain ⟨_,ys,h2,_,h4⟩:=hg _ _ hm
 obtain ⟨y,rfl,h5⟩:=All2.one_iff.1 h4
 obtain rfl:=DenD.v_inv h5
 refine .inl ⟨by unfold HasBody;kernel_rfl,?_⟩
 have hsz:(⟨s.toArray⟩:ByteArray).size=s.length:=rfl
 have hcnt:=Lib.countB_le (⟨#[34]⟩:ByteArray) (by decide) _ ⟨s.toArray⟩ (Nat.le_refl _)
 have h:=Any.strings_ReplaceAll Tryz.lays155 xtra ⟨s.toArray⟩ ⟨[34].toArray⟩ ⟨[34,34].toArray⟩ mx w (by omega) (globCell h2 0 _ rfl) (by decide) (by
  show s.length+Lib.countB ⟨s.toArray⟩ ⟨#[34]⟩ * 2≤_
  omega)
 refine h.mono ?_
 rintro e w' ⟨rfl,hb⟩
 refine ⟨Evo.of_below hb _,_,rfl,?_⟩
 have:(Lib.replaceAll s [34] [34,34])=dqN s:=replAll s
 show DenD M w' (.str (dqN s)) (.string ⟨(Lib.replaceAll s [34] [34,34]).toArray⟩)
 rw[this]
 exact .str _
end Go.Proofs.YtdpigpahfiachaaGreatDoor
end
