/- Proved: a part of what the law is proved with (the reckoner, contracts of functions, plain laws). Conditions: as each says. -/
import Derived.Shelf.Strings.Prefix
import Derived.Shelf.Strings.SlTrimAscii
import Derived.Shelf.Strconv.AtoiAll
import Derived.Shelf.Strconv.Itoa3
import Derived.Shelf.Strings.Search3
import Derived.Test.YtcdjjjokniinkaaGreatDoorProg
import Derived.Test.YtcdjjjokniinkaaGreatDoorYBf
import Derived.Test.YtcdjjjokniinkaaGreatDoorYRa
section
namespace Go.Proofs
open Go.Shelf
def Tryz.lays101_ren:Go.Shelf.Ren:=⟨fun|101=>194|208=>209|206=>90|n=>n,fun|9=>9|4=>4|3=>3|n=>n,fun|n=>n⟩
theorem Tryz.lays101:Go.Proofs.Lays.n101 Tryz.prog Tryz.lays101_ren:={
 mixed:=by kernel_rfl
 f101:=Tryz.func194.trans (congrArg some (by kernel_rfl))
 f206:=Tryz.func90.trans (congrArg some (by kernel_rfl))
 f208:=Tryz.func209.trans (congrArg some (by kernel_rfl))
 t3:=Tryz.underlying3
 a3:=Tryz.isAgg3
 z3:=Tryz.sizeOf3
 v3:=Tryz.zeroValue3
 t4:=Tryz.underlying4
 a4:=Tryz.isAgg4
 z4:=Tryz.sizeOf4
 v4:=Tryz.zeroValue4
 t9:=Tryz.underlying9
 a9:=Tryz.isAgg9
 z9:=Tryz.sizeOf9
 v9:=Tryz.zeroValue9 }
def Tryz.lays160_ren:Go.Shelf.Ren:=⟨fun|160=>146|232=>166|231=>165|227=>167|234=>169|233=>168|236=>171|235=>170|228=>185|271=>187|151=>186|197=>176|120=>199|152=>198|260=>193|137=>212|119=>213|224=>207|225=>206|217=>205|266=>218|n=>n,fun|9=>9|4=>4|3=>3|5=>5|117=>232|116=>231|0=>0|124=>235|21=>21|105=>238|46=>123|119=>256|139=>259|138=>258|n=>n,fun|3=>4|4=>5|n=>n⟩
theorem Tryz.lays160:Go.Proofs.Lays.n160 Tryz.prog Tryz.lays160_ren:={
 mixed:=by kernel_rfl
 f119:=Tryz.func213.trans (congrArg some (by kernel_rfl))
 f120:=Tryz.func199.trans (congrArg some (by kernel_rfl))
 f137:=Tryz.func212.trans (congrArg some (by kernel_rfl))
 f151:=Tryz.func186.trans (congrArg some (by kernel_rfl))
 f152:=Tryz.func198.trans (congrArg some (by kernel_rfl))
 f160:=Tryz.func146.trans (congrArg some (by kernel_rfl))
 f197:=Tryz.func176.trans (congrArg some (by kernel_rfl))
 f217:=Tryz.func205.trans (congrArg some (by kernel_rfl))
 f224:=Tryz.func207.trans (congrArg some (by kernel_rfl))
 f225:=Tryz.func206.trans (congrArg some (by kernel_rfl))
 f227:=Tryz.func167.trans (congrArg some (by kernel_rfl))
 f228:=Tryz.func185.trans (congrArg some (by kernel_rfl))
 f231:=Tryz.func165.trans (congrArg some (by kernel_rfl))
 f232:=Tryz.func166.trans (congrArg some (by kernel_rfl))
 f233:=Tryz.func168.trans (congrArg some (by kernel_rfl))
 f234:=Tryz.func169.trans (congrArg some (by kernel_rfl))
 f235:=Tryz.func170.trans (congrArg some (by kernel_rfl))
 f236:=Tryz.func171.trans (congrArg some (by kernel_rfl))
 f260:=Tryz.func193.trans (congrArg some (by kernel_rfl))
 f266:=Tryz.func218.trans (congrArg some (by kernel_rfl))
 f271:=Tryz.func187.trans (congrArg some (by kernel_rfl))
 t0:=Tryz.underlying0
 a0:=Tryz.isAgg0
 z0:=Tryz.sizeOf0
 v0:=Tryz.zeroValue0
 t3:=Tryz.underlying3
 a3:=Tryz.isAgg3
 z3:=Tryz.sizeOf3
 v3:=Tryz.zeroValue3
 t4:=Tryz.underlying4
 a4:=Tryz.isAgg4
 z4:=Tryz.sizeOf4
 v4:=Tryz.zeroValue4
 t5:=Tryz.underlying5
 a5:=Tryz.isAgg5
 z5:=Tryz.sizeOf5
 v5:=Tryz.zeroValue5
 t9:=Tryz.underlying9
 a9:=Tryz.isAgg9
 z9:=Tryz.sizeOf9
 v9:=Tryz.zeroValue9
 t21:=Tryz.underlying21
 a21:=Tryz.isAgg21
 z21:=Tryz.sizeOf21
 v21:=Tryz.zeroValue21
 t46:=Tryz.underlying123
 a46:=Tryz.isAgg123
 z46:=Tryz.sizeOf123
 v46:=Tryz.zeroValue123
 t105:=Tryz.underlying238
 a105:=Tryz.isAgg238
 z105:=Tryz.sizeOf238
 v105:=Tryz.zeroValue238
 t116:=Tryz.underlying231
 a116:=Tryz.isAgg231
 z116:=Tryz.sizeOf231
 t117:=Tryz.underlying232
 a117:=Tryz.isAgg232
 z117:=Tryz.sizeOf232
 v117:=Tryz.zeroValue232
 t119:=Tryz.underlying256
 a119:=Tryz.isAgg256
 z119:=Tryz.sizeOf256
 t124:=Tryz.underlying235
 a124:=Tryz.isAgg235
 z124:=Tryz.sizeOf235
 v124:=Tryz.zeroValue235
 t138:=Tryz.underlying258
 a138:=Tryz.isAgg258
 z138:=Tryz.sizeOf258
 v138:=Tryz.zeroValue258
 t139:=Tryz.underlying259
 a139:=Tryz.isAgg259
 z139:=Tryz.sizeOf259
 v139:=Tryz.zeroValue259
 g3:=by kernel_rfl
 g4:=by kernel_rfl }
def Tryz.laysC172_ren:Go.Shelf.Ren:=⟨fun|172=>195|244=>210|245=>211|247=>220|279=>221|280=>222|281=>223|282=>224|287=>227|316=>228|171=>148|205=>229|321=>230|322=>231|243=>172|246=>188|283=>200|284=>201|285=>202|286=>203|129=>103|317=>214|318=>215|319=>216|320=>217|337=>225|338=>226|n=>n,fun|9=>9|3=>3|75=>24|76=>179|4=>4|5=>5|167=>267|37=>83|0=>0|85=>268|2=>2|168=>270|53=>169|175=>273|46=>123|210=>277|127=>184|145=>283|143=>281|21=>21|171=>251|173=>253|212=>263|51=>167|20=>20|213=>264|232=>278|233=>279|80=>129|n=>n,fun|15=>7|16=>8|17=>6|18=>9|19=>10|n=>n⟩
theorem Tryz.laysC172:Go.Proofs.LaysC.n172 Tryz.prog Tryz.laysC172_ren:={
 mixed:=by kernel_rfl
 f129:=Tryz.func103.trans (congrArg some (by kernel_rfl))
 f171:=Tryz.func148.trans (congrArg some (by kernel_rfl))
 f172:=Tryz.func195.trans (congrArg some (by kernel_rfl))
 f205:=Tryz.func229.trans (congrArg some (by kernel_rfl))
 f243:=Tryz.func172.trans (congrArg some (by kernel_rfl))
 f244:=Tryz.func210.trans (congrArg some (by kernel_rfl))
 f245:=Tryz.func211.trans (congrArg some (by kernel_rfl))
 f246:=Tryz.func188.trans (congrArg some (by kernel_rfl))
 f247:=Tryz.func220.trans (congrArg some (by kernel_rfl))
 f279:=Tryz.func221.trans (congrArg some (by kernel_rfl))
 f280:=Tryz.func222.trans (congrArg some (by kernel_rfl))
 f281:=Tryz.func223.trans (congrArg some (by kernel_rfl))
 f282:=Tryz.func224.trans (congrArg some (by kernel_rfl))
 f283:=Tryz.func200.trans (congrArg some (by kernel_rfl))
 f284:=Tryz.func201.trans (congrArg some (by kernel_rfl))
 f285:=Tryz.func202.trans (congrArg some (by kernel_rfl))
 f286:=Tryz.func203.trans (congrArg some (by kernel_rfl))
 f287:=Tryz.func227.trans (congrArg some (by kernel_rfl))
 f316:=Tryz.func228.trans (congrArg some (by kernel_rfl))
 f317:=Tryz.func214.trans (congrArg some (by kernel_rfl))
 f318:=Tryz.func215.trans (congrArg some (by kernel_rfl))
 f319:=Tryz.func216.trans (congrArg some (by kernel_rfl))
 f320:=Tryz.func217.trans (congrArg some (by kernel_rfl))
 f321:=Tryz.func230.trans (congrArg some (by kernel_rfl))
 f322:=Tryz.func231.trans (congrArg some (by kernel_rfl))
 f337:=Tryz.func225.trans (congrArg some (by kernel_rfl))
 f338:=Tryz.func226.trans (congrArg some (by kernel_rfl))
 t0:=Tryz.underlying0
 a0:=Tryz.isAgg0
 z0:=Tryz.sizeOf0
 v0:=Tryz.zeroValue0
 t2:=Tryz.underlying2
 a2:=Tryz.isAgg2
 z2:=Tryz.sizeOf2
 v2:=Tryz.zeroValue2
 t3:=Tryz.underlying3
 a3:=Tryz.isAgg3
 z3:=Tryz.sizeOf3
 v3:=Tryz.zeroValue3
 t4:=Tryz.underlying4
 a4:=Tryz.isAgg4
 z4:=Tryz.sizeOf4
 v4:=Tryz.zeroValue4
 t5:=Tryz.underlying5
 a5:=Tryz.isAgg5
 z5:=Tryz.sizeOf5
 v5:=Tryz.zeroValue5
 t9:=Tryz.underlying9
 a9:=Tryz.isAgg9
 z9:=Tryz.sizeOf9
 v9:=Tryz.zeroValue9
 t20:=Tryz.underlying20
 a20:=Tryz.isAgg20
 z20:=Tryz.sizeOf20
 v20:=Tryz.zeroValue20
 t21:=Tryz.underlying21
 a21:=Tryz.isAgg21
 z21:=Tryz.sizeOf21
 v21:=Tryz.zeroValue21
 t37:=Tryz.underlying83
 a37:=Tryz.isAgg83
 z37:=Tryz.sizeOf83
 v37:=Tryz.zeroValue83
 t46:=Tryz.underlying123
 a46:=Tryz.isAgg123
 z46:=Tryz.sizeOf123
 v46:=Tryz.zeroValue123
 t51:=Tryz.underlying167
 a51:=Tryz.isAgg167
 z51:=Tryz.sizeOf167
 v51:=Tryz.zeroValue167
 t53:=Tryz.underlying169
 a53:=Tryz.isAgg169
 z53:=Tryz.sizeOf169
 v53:=Tryz.zeroValue169
 t75:=Tryz.underlying24
 a75:=Tryz.isAgg24
 z75:=Tryz.sizeOf24
 v75:=Tryz.zeroValue24
 t76:=Tryz.underlying179
 a76:=Tryz.isAgg179
 z76:=Tryz.sizeOf179
 v76:=Tryz.zeroValue179
 t85:=Tryz.underlying268
 a85:=Tryz.isAgg268
 z85:=Tryz.sizeOf268
 v85:=Tryz.zeroValue268
 t127:=Tryz.underlying184
 a127:=Tryz.isAgg184
 z127:=Tryz.sizeOf184
 v127:=Tryz.zeroValue184
 t143:=Tryz.underlying281
 a143:=Tryz.isAgg281
 z143:=Tryz.sizeOf281
 v143:=Tryz.zeroValue281
 t145:=Tryz.underlying283
 a145:=Tryz.isAgg283
 z145:=Tryz.sizeOf283
 v145:=Tryz.zeroValue283
 t167:=Tryz.underlying267
 a167:=Tryz.isAgg267
 z167:=Tryz.sizeOf267
 v167:=Tryz.zeroValue267
 t168:=Tryz.underlying270
 a168:=Tryz.isAgg270
 z168:=Tryz.sizeOf270
 v168:=Tryz.zeroValue270
 t171:=Tryz.underlying251
 a171:=Tryz.isAgg251
 z171:=Tryz.sizeOf251
 v171:=Tryz.zeroValue251
 t173:=Tryz.underlying253
 a173:=Tryz.isAgg253
 z173:=Tryz.sizeOf253
 v173:=Tryz.zeroValue253
 t175:=Tryz.underlying273
 a175:=Tryz.isAgg273
 z175:=Tryz.sizeOf273
 v175:=Tryz.zeroValue273
 t210:=Tryz.underlying277
 a210:=Tryz.isAgg277
 z210:=Tryz.sizeOf277
 v210:=Tryz.zeroValue277
 t212:=Tryz.underlying263
 a212:=Tryz.isAgg263
 z212:=Tryz.sizeOf263
 v212:=Tryz.zeroValue263
 t213:=Tryz.underlying264
 a213:=Tryz.isAgg264
 z213:=Tryz.sizeOf264
 t232:=Tryz.underlying278
 a232:=Tryz.isAgg278
 z232:=Tryz.sizeOf278
 v232:=Tryz.zeroValue278
 t233:=Tryz.underlying279
 a233:=Tryz.isAgg279
 z233:=Tryz.sizeOf279
 v233:=Tryz.zeroValue279
 g15:=by kernel_rfl
 g16:=by kernel_rfl
 g17:=by kernel_rfl
 g18:=by kernel_rfl
 g19:=by kernel_rfl
 t80:=Tryz.underlying129
 a80:=Tryz.isAgg129
 z80:=Tryz.sizeOf129
 v80:=Tryz.zeroValue129
 i0:=by kernel_rfl
 i2:=by kernel_rfl
 i3:=by kernel_rfl
 i4:=by kernel_rfl
 i5:=by kernel_rfl
 i9:=by kernel_rfl
 i20:=by kernel_rfl
 i21:=by kernel_rfl
 i37:=by kernel_rfl
 i46:=by kernel_rfl
 i51:=by kernel_rfl
 i53:=by kernel_rfl
 i75:=by kernel_rfl
 i76:=by kernel_rfl
 i80:=by kernel_rfl
 i85:=by kernel_rfl
 i127:=by kernel_rfl
 i143:=by kernel_rfl
 i145:=by kernel_rfl
 i167:=by kernel_rfl
 i168:=by kernel_rfl
 i171:=by kernel_rfl
 i173:=by kernel_rfl
 i175:=by kernel_rfl
 i210:=by kernel_rfl
 i212:=by kernel_rfl
 i232:=by kernel_rfl
 i233:=by kernel_rfl
 m15:=by kernel_rfl
 m16:=by kernel_rfl
 m17:=by kernel_rfl
 m18:=by kernel_rfl
 m19:=by kernel_rfl
 c0:=by kernel_rfl
 c2:=by kernel_rfl
 c3:=by kernel_rfl
 c4:=by kernel_rfl
 c5:=by kernel_rfl
 c9:=by kernel_rfl
 c20:=by kernel_rfl
 c21:=by kernel_rfl
 c37:=by kernel_rfl
 c46:=by kernel_rfl
 c51:=by kernel_rfl
 c53:=by kernel_rfl
 c75:=by kernel_rfl
 c76:=by kernel_rfl
 c80:=by kernel_rfl
 c85:=by kernel_rfl
 c127:=by kernel_rfl
 c143:=by kernel_rfl
 c145:=by kernel_rfl
 c167:=by kernel_rfl
 c168:=by kernel_rfl
 c171:=by kernel_rfl
 c173:=by kernel_rfl
 c175:=by kernel_rfl
 c210:=by kernel_rfl
 c212:=by kernel_rfl
 c213:=by kernel_rfl
 c232:=by kernel_rfl
 c233:=by kernel_rfl }
def Tryz.laysM171_ren:Go.Shelf.Ren:=⟨fun|171=>148|243=>172|246=>188|283=>200|284=>201|285=>202|286=>203|129=>103|317=>214|318=>215|319=>216|320=>217|337=>225|338=>226|n=>n,fun|3=>3|9=>9|2=>2|4=>4|171=>251|0=>0|53=>169|37=>83|5=>5|173=>253|212=>263|51=>167|20=>20|213=>264|46=>123|232=>278|233=>279|n=>n,fun|17=>6|18=>9|19=>10|n=>n⟩
theorem Tryz.laysM171:Go.Proofs.LaysM.n171 Tryz.prog Tryz.laysM171_ren:={
 mixed:=by kernel_rfl
 f129:=Tryz.func103.trans (congrArg some (by kernel_rfl))
 f171:=Tryz.func148.trans (congrArg some (by kernel_rfl))
 f243:=Tryz.func172.trans (congrArg some (by kernel_rfl))
 f246:=Tryz.func188.trans (congrArg some (by kernel_rfl))
 f283:=Tryz.func200.trans (congrArg some (by kernel_rfl))
 f284:=Tryz.func201.trans (congrArg some (by kernel_rfl))
 f285:=Tryz.func202.trans (congrArg some (by kernel_rfl))
 f286:=Tryz.func203.trans (congrArg some (by kernel_rfl))
 f317:=Tryz.func214.trans (congrArg some (by kernel_rfl))
 f318:=Tryz.func215.trans (congrArg some (by kernel_rfl))
 f319:=Tryz.func216.trans (congrArg some (by kernel_rfl))
 f320:=Tryz.func217.trans (congrArg some (by kernel_rfl))
 f337:=Tryz.func225.trans (congrArg some (by kernel_rfl))
 f338:=Tryz.func226.trans (congrArg some (by kernel_rfl))
 t0:=Tryz.underlying0
 a0:=Tryz.isAgg0
 z0:=Tryz.sizeOf0
 v0:=Tryz.zeroValue0
 t2:=Tryz.underlying2
 a2:=Tryz.isAgg2
 z2:=Tryz.sizeOf2
 v2:=Tryz.zeroValue2
 t3:=Tryz.underlying3
 a3:=Tryz.isAgg3
 z3:=Tryz.sizeOf3
 v3:=Tryz.zeroValue3
 t4:=Tryz.underlying4
 a4:=Tryz.isAgg4
 z4:=Tryz.sizeOf4
 v4:=Tryz.zeroValue4
 t5:=Tryz.underlying5
 a5:=Tryz.isAgg5
 z5:=Tryz.sizeOf5
 v5:=Tryz.zeroValue5
 t9:=Tryz.underlying9
 a9:=Tryz.isAgg9
 z9:=Tryz.sizeOf9
 v9:=Tryz.zeroValue9
 t20:=Tryz.underlying20
 a20:=Tryz.isAgg20
 z20:=Tryz.sizeOf20
 v20:=Tryz.zeroValue20
 t37:=Tryz.underlying83
 a37:=Tryz.isAgg83
 z37:=Tryz.sizeOf83
 v37:=Tryz.zeroValue83
 t46:=Tryz.underlying123
 a46:=Tryz.isAgg123
 z46:=Tryz.sizeOf123
 v46:=Tryz.zeroValue123
 t51:=Tryz.underlying167
 a51:=Tryz.isAgg167
 z51:=Tryz.sizeOf167
 v51:=Tryz.zeroValue167
 t53:=Tryz.underlying169
 a53:=Tryz.isAgg169
 z53:=Tryz.sizeOf169
 v53:=Tryz.zeroValue169
 t171:=Tryz.underlying251
 a171:=Tryz.isAgg251
 z171:=Tryz.sizeOf251
 v171:=Tryz.zeroValue251
 t173:=Tryz.underlying253
 a173:=Tryz.isAgg253
 z173:=Tryz.sizeOf253
 v173:=Tryz.zeroValue253
 t212:=Tryz.underlying263
 a212:=Tryz.isAgg263
 z212:=Tryz.sizeOf263
 v212:=Tryz.zeroValue263
 t213:=Tryz.underlying264
 a213:=Tryz.isAgg264
 z213:=Tryz.sizeOf264
 t232:=Tryz.underlying278
 a232:=Tryz.isAgg278
 z232:=Tryz.sizeOf278
 v232:=Tryz.zeroValue278
 t233:=Tryz.underlying279
 a233:=Tryz.isAgg279
 z233:=Tryz.sizeOf279
 v233:=Tryz.zeroValue279
 g17:=by kernel_rfl
 g18:=by kernel_rfl
 g19:=by kernel_rfl
 i0:=by kernel_rfl
 i2:=by kernel_rfl
 i3:=by kernel_rfl
 i4:=by kernel_rfl
 i5:=by kernel_rfl
 i9:=by kernel_rfl
 i20:=by kernel_rfl
 i37:=by kernel_rfl
 i46:=by kernel_rfl
 i51:=by kernel_rfl
 i53:=by kernel_rfl
 i171:=by kernel_rfl
 i173:=by kernel_rfl
 i212:=by kernel_rfl
 i232:=by kernel_rfl
 i233:=by kernel_rfl
 m17:=by kernel_rfl
 m18:=by kernel_rfl
 m19:=by kernel_rfl }
end Go.Proofs
end
section
namespace Go.Proofs.YtcdjjjokniinkaaGreatDoor
open Go Go.EYtcdjjjokniinkaaGreatDoor
set_option maxRecDepth 100000
variable {gl:List (Nat×List D)}
theorem str1 {s:List UInt8} {M:Nat→Prop} {w:World} {ys:List Value} (h:DenL M w [.str s] ys):ys=[.string ⟨s.toArray⟩]:=by
 obtain ⟨y,rfl,h1⟩:=All2.one_iff.1 h
 rw[DenD.str_inv h1]
theorem str2 {s t:List UInt8} {M:Nat→Prop} {w:World} {ys:List Value} (h:DenL M w [.str s,.str t] ys):ys=[.string ⟨s.toArray⟩,.string ⟨t.toArray⟩]:=by
 obtain ⟨y,ys,rfl,h1,h2⟩:=All2.cons_iff.1 h
 obtain ⟨z,rfl,h3⟩:=All2.one_iff.1 h2
 rw[DenD.str_inv h1,DenD.str_inv h3]
def unsg (s:List UInt8):List UInt8:=if s.head?=some 45 then s.tail else s
theorem unsg_eq (s:List UInt8):Lib.trimPrefix s [45]=unsg s:=by
 cases s with
 | nil=>rfl
 | cons a l =>
  by_cases h:a=45
  ·subst h;simp[Lib.trimPrefix,Lib.hasPrefix,unsg]
  ·have h':¬ (45:UInt8)=a:=fun e=>h e.symm
   simp[Lib.trimPrefix,Lib.hasPrefix,unsg,h,h']
theorem TrimPrefix_d (s:List UInt8):FnP Tryz.prog gl 194 [.str s,.str [45]] (.str (unsg s)) :=
 FnP.of_below (xs:=[.string ⟨s.toArray⟩,.string ⟨[45].toArray⟩]) (v:=.string ⟨(unsg s).toArray⟩) hoB (fun M w ys hd=>str2 hd) (fun _ _=>.str _) (fun M w hg=>by
  have h:=Any.strings_TrimPrefix Tryz.lays101 ⟨s.toArray⟩ ⟨[45].toArray⟩ w
  refine h.mono ?_
  rintro e w' ⟨rfl,rfl⟩
  refine ⟨?_,RowKit.Below.refl _ _⟩
  show Ending.returned (Value.string ⟨(Lib.trimPrefix s [45]).toArray⟩)=_
  rw[unsg_eq])
abbrev D10:List UInt8:=[48,49,50,51,52,53,54,55,56,57]
theorem Trim_d (s:List UInt8) (hs:s.length≤9223372036854775807):FnP Tryz.prog gl 146 [.str s,.str D10] (.str (Lib.trimS s D10)) :=
 FnP.of_below (xs:=[.string ⟨s.toArray⟩,.string ⟨D10.toArray⟩]) (v:=.string ⟨(Lib.trimS s D10).toArray⟩) hoB (fun M w ys hd=>str2 hd) (fun _ _=>.str _) (fun M w hg=>by
  have h:=Any.strings_Trim_laid Tryz.lays160 (by kernel_rfl) ⟨s.toArray⟩ ⟨D10.toArray⟩ w (by simpa[ByteArray.size] using hs) (by decide) (ascii_of_all (by decide))
  refine h.mono ?_
  rintro e w' ⟨rfl,hb⟩
  exact ⟨rfl,hb⟩)
theorem Atoi_s (s:List UInt8) (v:Int) (hs:s.length≤140737488355328) (h:Lib.atoiAll s=.ok v):FnP Tryz.prog gl 195 [.str s] (.tup [iD v,.v .nilIface]) :=
 FnP.of_below (xs:=[.string ⟨s.toArray⟩]) (v:=.tuple #[.int .i64 v,.nilIface]) hoB (fun M w ys hd=>str1 hd) (fun _ _=>DenD.tup_mk (xs:=[.int .i64 v,.nilIface]) ⟨.v _,.v _,trivial⟩) (fun M w hg=>by
  have h:=Any.strconv_Atoi_ok Tryz.laysC172 ⟨s.toArray⟩ (by have:(⟨s.toArray⟩:ByteArray).size=s.length:=rfl;omega) v h w
  refine h.mono ?_
  rintro e w' ⟨rfl,hb⟩
  refine ⟨rfl,?_⟩
  rcases hb with rfl|⟨t,rfl⟩
  ·exact RowKit.Below.refl _ _
  ·exact Lib.bytesWorld_below _ _ _)
def errR (gl:List (Nat×List D)):Prop:=∃ t p,Go.EYtcdjjjokniinkaaGreatDoor.look gl 8=some [.v (.iface t p)]
theorem Atoi_r (s:List UInt8) (hs:s.length≤140737488355328) (h:Lib.atoiAll s=.range) (hr:errR gl):FnP Tryz.prog gl 195 [.str s] (.tup [iD (Lib.atoiSat s),.ifc 270 false [.imm []]]):=by
 obtain ⟨t,p,hl⟩:=hr
 intro w M xs hM hg hd
 obtain rfl:=str1 hd
 obtain ⟨_,ys,h2,_,h4⟩:=hg _ _ hl
 obtain ⟨y,rfl,h5⟩:=All2.one_iff.1 h4
 obtain rfl:=DenD.v_inv h5
 refine .inl ⟨by unfold HasBody;kernel_rfl,?_⟩
 have h:=Any.strconv_Atoi_range Tryz.laysC172 ⟨s.toArray⟩ (by have:(⟨s.toArray⟩:ByteArray).size=s.length:=rfl;omega) h (.iface t p) w (globCell h2 0 _ rfl) (.inr ⟨_,_,rfl⟩)
 refine h.mono ?_
 rintro e w' ⟨N,rfl,hN,hc,hb⟩
 refine ⟨Evo.of_below hb _,_,rfl,DenD.tup_mk (xs:=[.int .i64 (Lib.atoiSat s),.iface 270 (.pointer (some ⟨N,0,none⟩))]) ⟨.v _,.ifc1 _ _ _ ?_,trivial⟩⟩
 exact DenD.imm [] N 0 (fun _=>undef) (Array.getElem?_eq_some_iff.1 hc).1 (fun hm=>absurd (hM N hm) (by omega)) (fun j d h=>by simp at h) (fun j d h=>by simp at h)
end Go.Proofs.YtcdjjjokniinkaaGreatDoor
end
