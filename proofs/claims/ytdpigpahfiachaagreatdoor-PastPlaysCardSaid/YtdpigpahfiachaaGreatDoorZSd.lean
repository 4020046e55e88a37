/- Proved: a part of what the law is proved with (the reckoner, contracts of functions, plain laws). Conditions: as each says. -/
import Derived.Shelf.Strings.Prefix
import Derived.Shelf.Strings.SlTrimAscii
import Derived.Shelf.Strconv.AtoiAll
import Derived.Shelf.Strconv.Itoa3
import Derived.Shelf.Strings.Search3
import Derived.Test.YtdpigpahfiachaaGreatDoorProg
import Derived.Test.YtdpigpahfiachaaGreatDoorZBd
import Derived.Test.YtdpigpahfiachaaGreatDoorZBg
import Derived.Test.YtdpigpahfiachaaGreatDoorZRa
section
namespace Go.Proofs
open Go.Shelf
def Tryz.lays101_ren:Go.Shelf.Ren:=⟨fun|101=>225|208=>236|206=>98|n=>n,fun|9=>9|4=>4|3=>3|n=>n,fun|n=>n⟩
theorem Tryz.lays101:Go.Proofs.Lays.n101 Tryz.prog Tryz.lays101_ren:={
 mixed:=by kernel_rfl
 f101:=Tryz.func225.trans (congrArg some (by kernel_rfl))
 f206:=Tryz.func98.trans (congrArg some (by kernel_rfl))
 f208:=Tryz.func236.trans (congrArg some (by kernel_rfl))
 t3:=Tryz.underlying3
 a3:=Tryz.isAgg3
 z3:=Tryz.sizeOf3
 v3:=Tryz.zeroValue3
 t4:=Tryz.underlying4
 a4:=Tryz.isAgg4
 z4:=Tryz.sizeOf4
 v4:=Tryz.zeroValue4
 t9:=Tryz.underlying9
 a9:=Tryz.isAgg9
 z9:=Tryz.sizeOf9
 v9:=Tryz.zeroValue9 }
def Tryz.lays160_ren:Go.Shelf.Ren:=⟨fun|160=>155|232=>185|231=>184|227=>186|234=>188|233=>187|236=>190|235=>189|228=>209|271=>211|151=>210|197=>194|120=>229|152=>228|260=>216|137=>239|119=>240|224=>180|225=>179|217=>178|266=>206|n=>n,fun|9=>9|4=>4|3=>3|5=>5|117=>227|116=>226|0=>0|124=>230|21=>21|105=>232|46=>188|119=>262|139=>265|138=>264|n=>n,fun|3=>4|4=>5|n=>n⟩
theorem Tryz.lays160:Go.Proofs.Lays.n160 Tryz.prog Tryz.lays160_ren:={
 mixed:=by kernel_rfl
 f119:=Tryz.func240.trans (congrArg some (by kernel_rfl))
 f120:=Tryz.func229.trans (congrArg some (by kernel_rfl))
 f137:=Tryz.func239.trans (congrArg some (by kernel_rfl))
 f151:=Tryz.func210.trans (congrArg some (by kernel_rfl))
 f152:=Tryz.func228.trans (congrArg some (by kernel_rfl))
 f160:=Tryz.func155.trans (congrArg some (by kernel_rfl))
 f197:=Tryz.func194.trans (congrArg some (by kernel_rfl))
 f217:=Tryz.func178.trans (congrArg some (by kernel_rfl))
 f224:=Tryz.func180.trans (congrArg some (by kernel_rfl))
 f225:=Tryz.func179.trans (congrArg some (by kernel_rfl))
 f227:=Tryz.func186.trans (congrArg some (by kernel_rfl))
 f228:=Tryz.func209.trans (congrArg some (by kernel_rfl))
 f231:=Tryz.func184.trans (congrArg some (by kernel_rfl))
 f232:=Tryz.func185.trans (congrArg some (by kernel_rfl))
 f233:=Tryz.func187.trans (congrArg some (by kernel_rfl))
 f234:=Tryz.func188.trans (congrArg some (by kernel_rfl))
 f235:=Tryz.func189.trans (congrArg some (by kernel_rfl))
 f236:=Tryz.func190.trans (congrArg some (by kernel_rfl))
 f260:=Tryz.func216.trans (congrArg some (by kernel_rfl))
 f266:=Tryz.func206.trans (congrArg some (by kernel_rfl))
 f271:=Tryz.func211.trans (congrArg some (by kernel_rfl))
 t0:=Tryz.underlying0
 a0:=Tryz.isAgg0
 z0:=Tryz.sizeOf0
 v0:=Tryz.zeroValue0
 t3:=Tryz.underlying3
 a3:=Tryz.isAgg3
 z3:=Tryz.sizeOf3
 v3:=Tryz.zeroValue3
 t4:=Tryz.underlying4
 a4:=Tryz.isAgg4
 z4:=Tryz.sizeOf4
 v4:=Tryz.zeroValue4
 t5:=Tryz.underlying5
 a5:=Tryz.isAgg5
 z5:=Tryz.sizeOf5
 v5:=Tryz.zeroValue5
 t9:=Tryz.underlying9
 a9:=Tryz.isAgg9
 z9:=Tryz.sizeOf9
 v9:=Tryz.zeroValue9
 t21:=Tryz.underlying21
 a21:=Tryz.isAgg21
 z21:=Tryz.sizeOf21
 v21:=Tryz.zeroValue21
 t46:=Tryz.underlying188
 a46:=Tryz.isAgg188
 z46:=Tryz.sizeOf188
 v46:=Tryz.zeroValue188
 t105:=Tryz.underlying232
 a105:=Tryz.isAgg232
 z105:=Tryz.sizeOf232
 v105:=Tryz.zeroValue232
 t116:=Tryz.underlying226
 a116:=Tryz.isAgg226
 z116:=Tryz.sizeOf226
 t117:=Tryz.underlying227
 a117:=Tryz.isAgg227
 z117:=Tryz.sizeOf227
 v117:=Tryz.zeroValue227
 t119:=Tryz.underlying262
 a119:=Tryz.isAgg262
 z119:=Tryz.sizeOf262
 t124:=Tryz.underlying230
 a124:=Tryz.isAgg230
 z124:=Tryz.sizeOf230
 v124:=Tryz.zeroValue230
 t138:=Tryz.underlying264
 a138:=Tryz.isAgg264
 z138:=Tryz.sizeOf264
 v138:=Tryz.zeroValue264
 t139:=Tryz.underlying265
 a139:=Tryz.isAgg265
 z139:=Tryz.sizeOf265
 v139:=Tryz.zeroValue265
 g3:=by kernel_rfl
 g4:=by kernel_rfl }
def Tryz.laysC172_ren:Go.Shelf.Ren:=⟨fun|172=>226|244=>237|245=>238|247=>246|279=>247|280=>248|281=>249|282=>250|287=>253|316=>254|171=>157|205=>255|321=>256|322=>257|243=>191|246=>212|283=>230|284=>231|285=>232|286=>233|129=>242|317=>241|318=>243|319=>244|320=>245|337=>251|338=>252|n=>n,fun|9=>9|3=>3|75=>32|76=>153|4=>4|5=>5|167=>273|37=>114|0=>0|85=>274|2=>2|168=>276|53=>239|175=>280|46=>188|210=>284|127=>164|145=>290|143=>288|21=>21|171=>256|173=>259|212=>270|51=>244|20=>20|213=>271|232=>285|233=>286|80=>119|n=>n,fun|15=>7|16=>8|17=>6|18=>9|19=>10|n=>n⟩
theorem Tryz.laysC172:Go.Proofs.LaysC.n172 Tryz.prog Tryz.laysC172_ren:={
 mixed:=by kernel_rfl
 f129:=Tryz.func242.trans (congrArg some (by kernel_rfl))
 f171:=Tryz.func157.trans (congrArg some (by kernel_rfl))
 f172:=Tryz.func226.trans (congrArg some (by kernel_rfl))
 f205:=Tryz.func255.trans (congrArg some (by kernel_rfl))
 f243:=Tryz.func191.trans (congrArg some (by kernel_rfl))
 f244:=Tryz.func237.trans (congrArg some (by kernel_rfl))
 f245:=Tryz.func238.trans (congrArg some (by kernel_rfl))
 f246:=Tryz.func212.trans (congrArg some (by kernel_rfl))
 f247:=Tryz.func246.trans (congrArg some (by kernel_rfl))
 f279:=Tryz.func247.trans (congrArg some (by kernel_rfl))
 f280:=Tryz.func248.trans (congrArg some (by kernel_rfl))
 f281:=Tryz.func249.trans (congrArg some (by kernel_rfl))
 f282:=Tryz.func250.trans (congrArg some (by kernel_rfl))
 f283:=Tryz.func230.trans (congrArg some (by kernel_rfl))
 f284:=Tryz.func231.trans (congrArg some (by kernel_rfl))
 f285:=Tryz.func232.trans (congrArg some (by kernel_rfl))
 f286:=Tryz.func233.trans (congrArg some (by kernel_rfl))
 f287:=Tryz.func253.trans (congrArg some (by kernel_rfl))
 f316:=Tryz.func254.trans (congrArg some (by kernel_rfl))
 f317:=Tryz.func241.trans (congrArg some (by kernel_rfl))
 f318:=Tryz.func243.trans (congrArg some (by kernel_rfl))
 f319:=Tryz.func244.trans (congrArg some (by kernel_rfl))
 f320:=Tryz.func245.trans (congrArg some (by kernel_rfl))
 f321:=Tryz.func256.trans (congrArg some (by kernel_rfl))
 f322:=Tryz.func257.trans (congrArg some (by kernel_rfl))
 f337:=Tryz.func251.trans (congrArg some (by kernel_rfl))
 f338:=Tryz.func252.trans (congrArg some (by kernel_rfl))
 t0:=Tryz.underlying0
 a0:=Tryz.isAgg0
 z0:=Tryz.sizeOf0
 v0:=Tryz.zeroValue0
 t2:=Tryz.underlying2
 a2:=Tryz.isAgg2
 z2:=Tryz.sizeOf2
 v2:=Tryz.zeroValue2
 t3:=Tryz.underlying3
 a3:=Tryz.isAgg3
 z3:=Tryz.sizeOf3
 v3:=Tryz.zeroValue3
 t4:=Tryz.underlying4
 a4:=Tryz.isAgg4
 z4:=Tryz.sizeOf4
 v4:=Tryz.zeroValue4
 t5:=Tryz.underlying5
 a5:=Tryz.isAgg5
 z5:=Tryz.sizeOf5
 v5:=Tryz.zeroValue5
 t9:=Tryz.underlying9
 a9:=Tryz.isAgg9
 z9:=Tryz.sizeOf9
 v9:=Tryz.zeroValue9
 t20:=Tryz.underlying20
 a20:=Tryz.isAgg20
 z20:=Tryz.sizeOf20
 v20:=Tryz.zeroValue20
 t21:=Tryz.underlying21
 a21:=Tryz.isAgg21
 z21:=Tryz.sizeOf21
 v21:=Tryz.zeroValue21
 t37:=Tryz.underlying114
 a37:=Tryz.isAgg114
 z37:=Tryz.sizeOf114
 v37:=Tryz.zeroValue114
 t46:=Tryz.underlying188
 a46:=Tryz.isAgg188
 z46:=Tryz.sizeOf188
 v46:=Tryz.zeroValue188
 t51:=Tryz.underlying244
 a51:=Tryz.isAgg244
 z51:=Tryz.sizeOf244
 v51:=Tryz.zeroValue244
 t53:=Tryz.underlying239
 a53:=Tryz.isAgg239
 z53:=Tryz.sizeOf239
 v53:=Tryz.zeroValue239
 t75:=Tryz.underlying32
 a75:=Tryz.isAgg32
 z75:=Tryz.sizeOf32
 v75:=Tryz.zeroValue32
 t76:=Tryz.underlying153
 a76:=Tryz.isAgg153
 z76:=Tryz.sizeOf153
 v76:=Tryz.zeroValue153
 t85:=Tryz.underlying274
 a85:=Tryz.isAgg274
 z85:=Tryz.sizeOf274
 v85:=Tryz.zeroValue274
 t127:=Tryz.underlying164
 a127:=Tryz.isAgg164
 z127:=Tryz.sizeOf164
 v127:=Tryz.zeroValue164
 t143:=Tryz.underlying288
 a143:=Tryz.isAgg288
 z143:=Tryz.sizeOf288
 v143:=Tryz.zeroValue288
 t145:=Tryz.underlying290
 a145:=Tryz.isAgg290
 z145:=Tryz.sizeOf290
 v145:=Tryz.zeroValue290
 t167:=Tryz.underlying273
 a167:=Tryz.isAgg273
 z167:=Tryz.sizeOf273
 v167:=Tryz.zeroValue273
 t168:=Tryz.underlying276
 a168:=Tryz.isAgg276
 z168:=Tryz.sizeOf276
 v168:=Tryz.zeroValue276
 t171:=Tryz.underlying256
 a171:=Tryz.isAgg256
 z171:=Tryz.sizeOf256
 v171:=Tryz.zeroValue256
 t173:=Tryz.underlying259
 a173:=Tryz.isAgg259
 z173:=Tryz.sizeOf259
 v173:=Tryz.zeroValue259
 t175:=Tryz.underlying280
 a175:=Tryz.isAgg280
 z175:=Tryz.sizeOf280
 v175:=Tryz.zeroValue280
 t210:=Tryz.underlying284
 a210:=Tryz.isAgg284
 z210:=Tryz.sizeOf284
 v210:=Tryz.zeroValue284
 t212:=Tryz.underlying270
 a212:=Tryz.isAgg270
 z212:=Tryz.sizeOf270
 v212:=Tryz.zeroValue270
 t213:=Tryz.underlying271
 a213:=Tryz.isAgg271
 z213:=Tryz.sizeOf271
 t232:=Tryz.underlying285
 a232:=Tryz.isAgg285
 z232:=Tryz.sizeOf285
 v232:=Tryz.zeroValue285
 t233:=Tryz.underlying286
 a233:=Tryz.isAgg286
 z233:=Tryz.sizeOf286
 v233:=Tryz.zeroValue286
 g15:=by kernel_rfl
 g16:=by kernel_rfl
 g17:=by kernel_rfl
 g18:=by kernel_rfl
 g19:=by kernel_rfl
 t80:=Tryz.underlying119
 a80:=Tryz.isAgg119
 z80:=Tryz.sizeOf119
 v80:=Tryz.zeroValue119
 i0:=by kernel_rfl
 i2:=by kernel_rfl
 i3:=by kernel_rfl
 i4:=by kernel_rfl
 i5:=by kernel_rfl
 i9:=by kernel_rfl
 i20:=by kernel_rfl
 i21:=by kernel_rfl
 i37:=by kernel_rfl
 i46:=by kernel_rfl
 i51:=by kernel_rfl
 i53:=by kernel_rfl
 i75:=by kernel_rfl
 i76:=by kernel_rfl
 i80:=by kernel_rfl
 i85:=by kernel_rfl
 i127:=by kernel_rfl
 i143:=by kernel_rfl
 i145:=by kernel_rfl
 i167:=by kernel_rfl
 i168:=by kernel_rfl
 i171:=by kernel_rfl
 i173:=by kernel_rfl
 i175:=by kernel_rfl
 i210:=by kernel_rfl
 i212:=by kernel_rfl
 i232:=by kernel_rfl
 i233:=by kernel_rfl
 m15:=by kernel_rfl
 m16:=by kernel_rfl
 m17:=by kernel_rfl
 m18:=by kernel_rfl
 m19:=by kernel_rfl
 c0:=by kernel_rfl
 c2:=by kernel_rfl
 c3:=by kernel_rfl
 c4:=by kernel_rfl
 c5:=by kernel_rfl
 c9:=by kernel_rfl
 c20:=by kernel_rfl
 c21:=by kernel_rfl
 c37:=by kernel_rfl
 c46:=by kernel_rfl
 c51:=by kernel_rfl
 c53:=by kernel_rfl
 c75:=by kernel_rfl
 c76:=by kernel_rfl
 c80:=by kernel_rfl
 c85:=by kernel_rfl
 c127:=by kernel_rfl
 c143:=by kernel_rfl
 c145:=by kernel_rfl
 c167:=by kernel_rfl
 c168:=by kernel_rfl
 c171:=by kernel_rfl
 c173:=by kernel_rfl
 c175:=by kernel_rfl
 c210:=by kernel_rfl
 c212:=by kernel_rfl
 c213:=by kernel_rfl
 c232:=by kernel_rfl
 c233:=by kernel_rfl }
end Go.Proofs
end
section
namespace Go.Proofs.YtdpigpahfiachaaGreatDoor
open Go Go.EYtdpigpahfiachaaGreatDoor
set_option maxRecDepth 100000
variable {gl:List (Nat×List D)}
theorem str1 {s:List UInt8} {M:Nat→Prop} {w:World} {ys:List Value} (h:DenL M w [.str s] ys):ys=[.string ⟨s.toArray⟩]:=by
 obtain ⟨y,rfl,h1⟩:=All2.one_iff.1 h
 rw[DenD.str_inv h1]
theorem str2 {s t:List UInt8} {M:Nat→Prop} {w:World} {ys:List Value} (h:DenL M w [.str s,.str t] ys):ys=[.string ⟨s.toArray⟩,.string ⟨t.toArray⟩]:=by
 obtain ⟨y,ys,rfl,h1,h2⟩:=All2.cons_iff.1 h
 obtain ⟨z,rfl,h3⟩:=All2.one_iff.1 h2
 rw[DenD.str_inv h1,DenD.str_inv h3]
def unsg (s:List UInt8):List UInt8:=if s.head?=some 45 then s.tail else s
theorem unsg_eq (s:List UInt8):Lib.trimPrefix s [45]=unsg s:=by
 cases s with
 | nil=>rfl
 | cons a l =>
  by_cases h:a=45
  ·subst h;simp[Lib.trimPrefix,Lib.hasPrefix,unsg]
  ·have h':¬ (45:UInt8)=a:=fun e=>h e.symm
   simp[Lib.trimPrefix,Lib.hasPrefix,unsg,h,h']
theorem TrimPrefix_d (s:List UInt8):FnP Tryz.prog gl 225 [.str s,.str [45]] (.str (unsg s)) :=
 FnP.of_below (xs:=[.string ⟨s.toArray⟩,.string ⟨[45].toArray⟩]) (v:=.string ⟨(unsg s).toArray⟩) hoB (fun M w ys hd=>str2 hd) (fun _ _=>.str _) (fun M w hg=>by
  have h:=Any.strings_TrimPrefix Tryz.lays101 ⟨s.toArray⟩ ⟨[45].toArray⟩ w
  refine h.mono ?_
  rintro e w' ⟨rfl,rfl⟩
  refine ⟨?_,RowKit.Below.refl _ _⟩
  show Ending.returned (Value.string ⟨(Lib.trimPrefix s [45]).toArray⟩)=_
  rw[unsg_eq])
abbrev D10:List UInt8:=[48,49,50,51,52,53,54,55,56,57]
theorem Trim_d (s:List UInt8) (hs:s.length≤9223372036854775807):FnP Tryz.prog gl 155 [.str s,.str D10] (.str (Lib.trimS s D10)) :=
 FnP.of_below (xs:=[.string ⟨s.toArray⟩,.string ⟨D10.toArray⟩]) (v:=.string ⟨(Lib.trimS s D10).toArray⟩) hoB (fun M w ys hd=>str2 hd) (fun _ _=>.str _) (fun M w hg=>by
  have h:=Any.strings_Trim_laid Tryz.lays160 (by kernel_rfl) ⟨s.toArray⟩ ⟨D10.toArray⟩ w (by simpa[ByteArray.size] using hs) (by decide) (ascii_of_all (by decide))
  refine h.mono ?_
  rintro e w' ⟨rfl,hb⟩
  exact ⟨rfl,hb⟩)
theorem Atoi_s (s:List UInt8) (v:Int) (hs:s.length≤140737488355328) (h:Lib.atoiAll s=.ok v):FnP Tryz.prog gl 226 [.str s] (.tup [iD v,.v .nilIface]) :=
 FnP.of_below (xs:=[.string ⟨s.toArray⟩]) (v:=.tuple #[.int .i64 v,.nilIface]) hoB (fun M w ys hd=>str1 hd) (fun _ _=>DenD.tup_mk (xs:=[.int .i64 v,.nilIface]) ⟨.v _,.v _,trivial⟩) (fun M w hg=>by
  have h:=Any.strconv_Atoi_ok Tryz.laysC172 ⟨s.toArray⟩ (by have:(⟨s.toArray⟩:ByteArray).size=s.length:=rfl;omega) v h w
  refine h.mono ?_
  rintro e w' ⟨rfl,hb⟩
  refine ⟨rfl,?_⟩
  rcases hb with rfl|⟨t,rfl⟩
  ·exact RowKit.Below.refl _ _
  ·exact Lib.bytesWorld_below _ _ _)
def errR (gl:List (Nat×List D)):Prop:=∃ t p,Go.EYtdpigpahfiachaaGreatDoor.look gl 8=some [.v (.iface t p)]
theorem Atoi_r (s:List UInt8) (hs:s.length≤140737488355328) (h:Lib.atoiAll s=.range) (hr:errR gl):FnP Tryz.prog gl 226 [.str s] (.tup [iD (Lib.atoiSat s),.ifc 276 false [.imm []]]):=by
 obtain ⟨t,p,hl⟩:=hr
 intro w M xs hM hg hd
 obtain rfl:=str1 hd
 obtain ⟨_,ys,h2,_,h4⟩:=hg _ _ hl
 obtain ⟨y,rfl,h5⟩:=All2.one_iff.1 h4
 obtain rfl:=DenD.v_inv h5
 refine .inl ⟨by unfold HasBody;kernel_rfl,?_⟩
 have h:=Any.strconv_Atoi_range Tryz.laysC172 ⟨s.toArray⟩ (by have:(⟨s.toArray⟩:ByteArray).size=s.length:=rfl;omega) h (.iface t p) w (globCell h2 0 _ rfl) (.inr ⟨_,_,rfl⟩)
 refine h.mono ?_
 rintro e w' ⟨N,rfl,hN,hc,hb⟩
 refine ⟨Evo.of_below hb _,_,rfl,DenD.tup_mk (xs:=[.int .i64 (Lib.atoiSat s),.iface 276 (.pointer (some ⟨N,0,none⟩))]) ⟨.v _,.ifc1 _ _ _ ?_,trivial⟩⟩
 exact DenD.imm [] N 0 (fun _=>undef) (Array.getElem?_eq_some_iff.1 hc).1 (fun hm=>absurd (hM N hm) (by omega)) (fun j d h=>by simp at h) (fun j d h=>by simp at h)
end Go.Proofs.YtdpigpahfiachaaGreatDoor
end
