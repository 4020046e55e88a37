/- Proved: a part of what the law is proved with (the reckoner, contracts of functions, plain laws). Conditions: as each says. -/
import Derived.Shelf.Strings.Prefix
import Derived.Shelf.Strings.SlTrimAscii
import Derived.Shelf.Strconv.AtoiAll
import Derived.Shelf.Strconv.Itoa3
import Derived.Test.YtfcmhmglpcimiaaGreatDoorProg
import Derived.Test.YtfcmhmglpcimiaaGreatDoorKBg
import Derived.Test.YtfcmhmglpcimiaaGreatDoorKRa
namespace Go.Proofs
open Go.Shelf
def Tryz.lays101_ren:Go.Shelf.Ren:=⟨fun|101=>163|208=>171|206=>70|n=>n,fun|9=>9|4=>4|3=>3|n=>n,fun|n=>n⟩
theorem Tryz.lays101:Go.Proofs.Lays.n101 Tryz.prog Tryz.lays101_ren:={
 mixed:=by kernel_rfl
 f101:=Tryz.func163.trans (congrArg some (by kernel_rfl))
 f206:=Tryz.func70.trans (congrArg some (by kernel_rfl))
 f208:=Tryz.func171.trans (congrArg some (by kernel_rfl))
 t3:=Tryz.underlying3
 a3:=Tryz.isAgg3
 z3:=Tryz.sizeOf3
 v3:=Tryz.zeroValue3
 t4:=Tryz.underlying4
 a4:=Tryz.isAgg4
 z4:=Tryz.sizeOf4
 v4:=Tryz.zeroValue4
 t9:=Tryz.underlying9
 a9:=Tryz.isAgg9
 z9:=Tryz.sizeOf9
 v9:=Tryz.zeroValue9 }
def Tryz.lays160_ren:Go.Shelf.Ren:=⟨fun|160=>143|232=>157|231=>156|227=>158|234=>160|233=>159|236=>162|235=>161|228=>167|271=>170|151=>169|197=>168|120=>176|152=>175|260=>174|137=>182|119=>183|224=>184|225=>185|217=>190|266=>194|n=>n,fun|9=>9|4=>4|3=>3|5=>5|117=>235|116=>234|0=>0|124=>238|21=>21|105=>242|46=>172|119=>253|139=>256|138=>255|n=>n,fun|3=>3|4=>4|n=>n⟩
theorem Tryz.lays160:Go.Proofs.Lays.n160 Tryz.prog Tryz.lays160_ren:={
 mixed:=by kernel_rfl
 f119:=Tryz.func183.trans (congrArg some (by kernel_rfl))
 f120:=Tryz.func176.trans (congrArg some (by kernel_rfl))
 f137:=Tryz.func182.trans (congrArg some (by kernel_rfl))
 f151:=Tryz.func169.trans (congrArg some (by kernel_rfl))
 f152:=Tryz.func175.trans (congrArg some (by kernel_rfl))
 f160:=Tryz.func143.trans (congrArg some (by kernel_rfl))
 f197:=Tryz.func168.trans (congrArg some (by kernel_rfl))
 f217:=Tryz.func190.trans (congrArg some (by kernel_rfl))
 f224:=Tryz.func184.trans (congrArg some (by kernel_rfl))
 f225:=Tryz.func185.trans (congrArg some (by kernel_rfl))
 f227:=Tryz.func158.trans (congrArg some (by kernel_rfl))
 f228:=Tryz.func167.trans (congrArg some (by kernel_rfl))
 f231:=Tryz.func156.trans (congrArg some (by kernel_rfl))
 f232:=Tryz.func157.trans (congrArg some (by kernel_rfl))
 f233:=Tryz.func159.trans (congrArg some (by kernel_rfl))
 f234:=Tryz.func160.trans (congrArg some (by kernel_rfl))
 f235:=Tryz.func161.trans (congrArg some (by kernel_rfl))
 f236:=Tryz.func162.trans (congrArg some (by kernel_rfl))
 f260:=Tryz.func174.trans (congrArg some (by kernel_rfl))
 f266:=Tryz.func194.trans (congrArg some (by kernel_rfl))
 f271:=Tryz.func170.trans (congrArg some (by kernel_rfl))
 t0:=Tryz.underlying0
 a0:=Tryz.isAgg0
 z0:=Tryz.sizeOf0
 v0:=Tryz.zeroValue0
 t3:=Tryz.underlying3
 a3:=Tryz.isAgg3
 z3:=Tryz.sizeOf3
 v3:=Tryz.zeroValue3
 t4:=Tryz.underlying4
 a4:=Tryz.isAgg4
 z4:=Tryz.sizeOf4
 v4:=Tryz.zeroValue4
 t5:=Tryz.underlying5
 a5:=Tryz.isAgg5
 z5:=Tryz.sizeOf5
 v5:=Tryz.zeroValue5
 t9:=Tryz.underlying9
 a9:=Tryz.isAgg9
 z9:=Tryz.sizeOf9
 v9:=Tryz.zeroValue9
 t21:=Tryz.underlying21
 a21:=Tryz.isAgg21
 z21:=Tryz.sizeOf21
 v21:=Tryz.zeroValue21
 t46:=Tryz.underlying172
 a46:=Tryz.isAgg172
 z46:=Tryz.sizeOf172
 v46:=Tryz.zeroValue172
 t105:=Tryz.underlying242
 a105:=Tryz.isAgg242
 z105:=Tryz.sizeOf242
 v105:=Tryz.zeroValue242
 t116:=Tryz.underlying234
 a116:=Tryz.isAgg234
 z116:=Tryz.sizeOf234
 t117:=Tryz.underlying235
 a117:=Tryz.isAgg235
 z117:=Tryz.sizeOf235
 v117:=Tryz.zeroValue235
 t119:=Tryz.underlying253
 a119:=Tryz.isAgg253
 z119:=Tryz.sizeOf253
 t124:=Tryz.underlying238
 a124:=Tryz.isAgg238
 z124:=Tryz.sizeOf238
 v124:=Tryz.zeroValue238
 t138:=Tryz.underlying255
 a138:=Tryz.isAgg255
 z138:=Tryz.sizeOf255
 v138:=Tryz.zeroValue255
 t139:=Tryz.underlying256
 a139:=Tryz.isAgg256
 z139:=Tryz.sizeOf256
 v139:=Tryz.zeroValue256
 g3:=by kernel_rfl
 g4:=by kernel_rfl }
def Tryz.laysC172_ren:Go.Shelf.Ren:=⟨fun|172=>164|244=>172|245=>173|247=>177|279=>178|280=>179|281=>180|282=>181|287=>186|316=>187|171=>189|205=>188|321=>191|322=>192|243=>193|246=>195|283=>196|284=>197|285=>198|286=>199|129=>107|317=>200|318=>201|319=>202|320=>203|337=>204|338=>205|n=>n,fun|9=>9|3=>3|75=>25|76=>239|4=>4|5=>5|167=>247|37=>124|0=>0|85=>248|2=>2|168=>250|53=>196|175=>260|46=>172|210=>264|127=>267|145=>270|143=>268|21=>21|171=>272|173=>274|212=>277|51=>194|20=>20|213=>278|232=>279|233=>280|80=>203|n=>n,fun|15=>5|16=>6|17=>8|18=>9|19=>10|n=>n⟩
theorem Tryz.laysC172:Go.Proofs.LaysC.n172 Tryz.prog Tryz.laysC172_ren:={
 mixed:=by kernel_rfl
 f129:=Tryz.func107.trans (congrArg some (by kernel_rfl))
 f171:=Tryz.func189.trans (congrArg some (by kernel_rfl))
 f172:=Tryz.func164.trans (congrArg some (by kernel_rfl))
 f205:=Tryz.func188.trans (congrArg some (by kernel_rfl))
 f243:=Tryz.func193.trans (congrArg some (by kernel_rfl))
 f244:=Tryz.func172.trans (congrArg some (by kernel_rfl))
 f245:=Tryz.func173.trans (congrArg some (by kernel_rfl))
 f246:=Tryz.func195.trans (congrArg some (by kernel_rfl))
 f247:=Tryz.func177.trans (congrArg some (by kernel_rfl))
 f279:=Tryz.func178.trans (congrArg some (by kernel_rfl))
 f280:=Tryz.func179.trans (congrArg some (by kernel_rfl))
 f281:=Tryz.func180.trans (congrArg some (by kernel_rfl))
 f282:=Tryz.func181.trans (congrArg some (by kernel_rfl))
 f283:=Tryz.func196.trans (congrArg some (by kernel_rfl))
 f284:=Tryz.func197.trans (congrArg some (by kernel_rfl))
 f285:=Tryz.func198.trans (congrArg some (by kernel_rfl))
 f286:=Tryz.func199.trans (congrArg some (by kernel_rfl))
 f287:=Tryz.func186.trans (congrArg some (by kernel_rfl))
 f316:=Tryz.func187.trans (congrArg some (by kernel_rfl))
 f317:=Tryz.func200.trans (congrArg some (by kernel_rfl))
 f318:=Tryz.func201.trans (congrArg some (by kernel_rfl))
 f319:=Tryz.func202.trans (congrArg some (by kernel_rfl))
 f320:=Tryz.func203.trans (congrArg some (by kernel_rfl))
 f321:=Tryz.func191.trans (congrArg some (by kernel_rfl))
 f322:=Tryz.func192.trans (congrArg some (by kernel_rfl))
 f337:=Tryz.func204.trans (congrArg some (by kernel_rfl))
 f338:=Tryz.func205.trans (congrArg some (by kernel_rfl))
 t0:=Tryz.underlying0
 a0:=Tryz.isAgg0
 z0:=Tryz.sizeOf0
 v0:=Tryz.zeroValue0
 t2:=Tryz.underlying2
 a2:=Tryz.isAgg2
 z2:=Tryz.sizeOf2
 v2:=Tryz.zeroValue2
 t3:=Tryz.underlying3
 a3:=Tryz.isAgg3
 z3:=Tryz.sizeOf3
 v3:=Tryz.zeroValue3
 t4:=Tryz.underlying4
 a4:=Tryz.isAgg4
 z4:=Tryz.sizeOf4
 v4:=Tryz.zeroValue4
 t5:=Tryz.underlying5
 a5:=Tryz.isAgg5
 z5:=Tryz.sizeOf5
 v5:=Tryz.zeroValue5
 t9:=Tryz.underlying9
 a9:=Tryz.isAgg9
 z9:=Tryz.sizeOf9
 v9:=Tryz.zeroValue9
 t20:=Tryz.underlying20
 a20:=Tryz.isAgg20
 z20:=Tryz.sizeOf20
 v20:=Tryz.zeroValue20
 t21:=Tryz.underlying21
 a21:=Tryz.isAgg21
 z21:=Tryz.sizeOf21
 v21:=Tryz.zeroValue21
 t37:=Tryz.underlying124
 a37:=Tryz.isAgg124
 z37:=Tryz.sizeOf124
 v37:=Tryz.zeroValue124
 t46:=Tryz.underlying172
 a46:=Tryz.isAgg172
 z46:=Tryz.sizeOf172
 v46:=Tryz.zeroValue172
 t51:=Tryz.underlying194
 a51:=Tryz.isAgg194
 z51:=Tryz.sizeOf194
 v51:=Tryz.zeroValue194
 t53:=Tryz.underlying196
 a53:=Tryz.isAgg196
 z53:=Tryz.sizeOf196
 v53:=Tryz.zeroValue196
 t75:=Tryz.underlying25
 a75:=Tryz.isAgg25
 z75:=Tryz.sizeOf25
 v75:=Tryz.zeroValue25
 t76:=Tryz.underlying239
 a76:=Tryz.isAgg239
 z76:=Tryz.sizeOf239
 v76:=Tryz.zeroValue239
 t85:=Tryz.underlying248
 a85:=Tryz.isAgg248
 z85:=Tryz.sizeOf248
 v85:=Tryz.zeroValue248
 t127:=Tryz.underlying267
 a127:=Tryz.isAgg267
 z127:=Tryz.sizeOf267
 v127:=Tryz.zeroValue267
 t143:=Tryz.underlying268
 a143:=Tryz.isAgg268
 z143:=Tryz.sizeOf268
 v143:=Tryz.zeroValue268
 t145:=Tryz.underlying270
 a145:=Tryz.isAgg270
 z145:=Tryz.sizeOf270
 v145:=Tryz.zeroValue270
 t167:=Tryz.underlying247
 a167:=Tryz.isAgg247
 z167:=Tryz.sizeOf247
 v167:=Tryz.zeroValue247
 t168:=Tryz.underlying250
 a168:=Tryz.isAgg250
 z168:=Tryz.sizeOf250
 v168:=Tryz.zeroValue250
 t171:=Tryz.underlying272
 a171:=Tryz.isAgg272
 z171:=Tryz.sizeOf272
 v171:=Tryz.zeroValue272
 t173:=Tryz.underlying274
 a173:=Tryz.isAgg274
 z173:=Tryz.sizeOf274
 v173:=Tryz.zeroValue274
 t175:=Tryz.underlying260
 a175:=Tryz.isAgg260
 z175:=Tryz.sizeOf260
 v175:=Tryz.zeroValue260
 t210:=Tryz.underlying264
 a210:=Tryz.isAgg264
 z210:=Tryz.sizeOf264
 v210:=Tryz.zeroValue264
 t212:=Tryz.underlying277
 a212:=Tryz.isAgg277
 z212:=Tryz.sizeOf277
 v212:=Tryz.zeroValue277
 t213:=Tryz.underlying278
 a213:=Tryz.isAgg278
 z213:=Tryz.sizeOf278
 t232:=Tryz.underlying279
 a232:=Tryz.isAgg279
 z232:=Tryz.sizeOf279
 v232:=Tryz.zeroValue279
 t233:=Tryz.underlying280
 a233:=Tryz.isAgg280
 z233:=Tryz.sizeOf280
 v233:=Tryz.zeroValue280
 g15:=by kernel_rfl
 g16:=by kernel_rfl
 g17:=by kernel_rfl
 g18:=by kernel_rfl
 g19:=by kernel_rfl
 t80:=Tryz.underlying203
 a80:=Tryz.isAgg203
 z80:=Tryz.sizeOf203
 v80:=Tryz.zeroValue203
 i0:=by kernel_rfl
 i2:=by kernel_rfl
 i3:=by kernel_rfl
 i4:=by kernel_rfl
 i5:=by kernel_rfl
 i9:=by kernel_rfl
 i20:=by kernel_rfl
 i21:=by kernel_rfl
 i37:=by kernel_rfl
 i46:=by kernel_rfl
 i51:=by kernel_rfl
 i53:=by kernel_rfl
 i75:=by kernel_rfl
 i76:=by kernel_rfl
 i80:=by kernel_rfl
 i85:=by kernel_rfl
 i127:=by kernel_rfl
 i143:=by kernel_rfl
 i145:=by kernel_rfl
 i167:=by kernel_rfl
 i168:=by kernel_rfl
 i171:=by kernel_rfl
 i173:=by kernel_rfl
 i175:=by kernel_rfl
 i210:=by kernel_rfl
 i212:=by kernel_rfl
 i232:=by kernel_rfl
 i233:=by kernel_rfl
 m15:=by kernel_rfl
 m16:=by kernel_rfl
 m17:=by kernel_rfl
 m18:=by kernel_rfl
 m19:=by kernel_rfl
 c0:=by kernel_rfl
 c2:=by kernel_rfl
 c3:=by kernel_rfl
 c4:=by kernel_rfl
 c5:=by kernel_rfl
 c9:=by kernel_rfl
 c20:=by kernel_rfl
 c21:=by kernel_rfl
 c37:=by kernel_rfl
 c46:=by kernel_rfl
 c51:=by kernel_rfl
 c53:=by kernel_rfl
 c75:=by kernel_rfl
 c76:=by kernel_rfl
 c80:=by kernel_rfl
 c85:=by kernel_rfl
 c127:=by kernel_rfl
 c143:=by kernel_rfl
 c145:=by kernel_rfl
 c167:=by kernel_rfl
 c168:=by kernel_rfl
 c171:=by kernel_rfl
 c173:=by kernel_rfl
 c175:=by kernel_rfl
 c210:=by kernel_rfl
 c212:=by kernel_rfl
 c213:=by kernel_rfl
 c232:=by kernel_rfl
 c233:=by kernel_rfl }
end Go.Proofs
namespace Go.Proofs.YtfcmhmglpcimiaaGreatDoor
open Go Go.EYtfcmhmglpcimiaaGreatDoor
set_option maxRecDepth 100000
section
variable {gl:List (Nat×List D)}
theorem str1 {s:List UInt8} {M:Nat→Prop} {w:World} {ys:List Value} (h:DenL M w [.str s] ys):ys=[.string ⟨s.toArray⟩]:=by
 obtain ⟨y,rfl,h1⟩:=All2.one_iff.1 h
 rw[DenD.str_inv h1]
theorem str2 {s t:List UInt8} {M:Nat→Prop} {w:World} {ys:List Value} (h:DenL M w [.str s,.str t] ys):ys=[.string ⟨s.toArray⟩,.string ⟨t.toArray⟩]:=by
 obtain ⟨y,ys,rfl,h1,h2⟩:=All2.cons_iff.1 h
 obtain ⟨z,rfl,h3⟩:=All2.one_iff.1 h2
 rw[DenD.str_inv h1,DenD.str_inv h3]
def unsg (s:List UInt8):List UInt8:=if s.head?=some 45 then s.tail else s
theorem unsg_eq (s:List UInt8):Lib.trimPrefix s [45]=unsg s:=by
 cases s with
 | nil=>rfl
 | cons a l =>
  by_cases h:a=45
  ·subst h;simp[Lib.trimPrefix,Lib.hasPrefix,unsg]
  ·have h':¬ (45:UInt8)=a:=fun e=>h e.symm
   simp[Lib.trimPrefix,Lib.hasPrefix,unsg,h,h']
theorem TrimPrefix_d (s:List UInt8):FnP Tryz.prog gl 163 [.str s,.str [45]] (.str (unsg s)) :=
 FnP.of_below (xs:=[.string ⟨s.toArray⟩,.string ⟨[45].toArray⟩]) (v:=.string ⟨(unsg s).toArray⟩) hoB (fun M w ys hd=>str2 hd) (fun _ _=>.str _) (fun M w hg=>by
  have h:=Any.strings_TrimPrefix Tryz.lays101 ⟨s.toArray⟩ ⟨[45].toArray⟩ w
  refine h.mono ?_
  rintro e w' ⟨rfl,rfl⟩
  refine ⟨?_,RowKit.Below.refl _ _⟩
  show Ending.returned (Value.string ⟨(Lib.trimPrefix s [45]).toArray⟩)=_
  rw[unsg_eq])
abbrev D10:List UInt8:=[48,49,50,51,52,53,54,55,56,57]
theorem Trim_d (s:List UInt8) (hs:s.length≤9223372036854775807):FnP Tryz.prog gl 143 [.str s,.str D10] (.str (Lib.trimS s D10)) :=
 FnP.of_below (xs:=[.string ⟨s.toArray⟩,.string ⟨D10.toArray⟩]) (v:=.string ⟨(Lib.trimS s D10).toArray⟩) hoB (fun M w ys hd=>str2 hd) (fun _ _=>.str _) (fun M w hg=>by
  have h:=Any.strings_Trim_laid Tryz.lays160 (by kernel_rfl) ⟨s.toArray⟩ ⟨D10.toArray⟩ w (by simpa[ByteArray.size] using hs) (by decide) (ascii_of_all (by decide))
  refine h.mono ?_
  rintro e w' ⟨rfl,hb⟩
  exact ⟨rfl,hb⟩)
theorem Atoi_s (s:List UInt8) (v:Int) (hs:s.length≤140737488355328) (h:Lib.atoiAll s=.ok v):FnP Tryz.prog gl 164 [.str s] (.tup [iD v,.v .nilIface]) :=
 FnP.of_below (xs:=[.string ⟨s.toArray⟩]) (v:=.tuple #[.int .i64 v,.nilIface]) hoB (fun M w ys hd=>str1 hd) (fun _ _=>DenD.tup_mk (xs:=[.int .i64 v,.nilIface]) ⟨.v _,.v _,trivial⟩) (fun M w hg=>by
  have h:=Any.strconv_Atoi_ok Tryz.laysC172 ⟨s.toArray⟩ (by have:(⟨s.toArray⟩:ByteArray).size=s.length:=rfl;omega) v h w
  refine h.mono ?_
  rintro e w' ⟨rfl,hb⟩
  refine ⟨rfl,?_⟩
  rcases hb with rfl|⟨t,rfl⟩
  ·exact RowKit.Below.refl _ _
  ·exact Lib.bytesWorld_below _ _ _)
def errR (gl:List (Nat×List D)):Prop:=∃ t p,Go.EYtfcmhmglpcimiaaGreatDoor.look gl 6=some [.v (.iface t p)]
theorem Atoi_r (s:List UInt8) (hs:s.length≤140737488355328) (h:Lib.atoiAll s=.range) (hr:errR gl):FnP Tryz.prog gl 164 [.str s] (.tup [iD (Lib.atoiSat s),.ifc 250 false [.imm []]]):=by
 obtain ⟨t,p,hl⟩:=hr
 intro w M xs hM hg hd
 obtain rfl:=str1 hd
 obtain ⟨_,ys,h2,_,h4⟩:=hg _ _ hl
 obtain ⟨y,rfl,h5⟩:=All2.one_iff.1 h4
 obtain rfl:=DenD.v_inv h5
 refine .inl ⟨by unfold HasBody;kernel_rfl,?_⟩
 have h:=Any.strconv_Atoi_range Tryz.laysC172 ⟨s.toArray⟩ (by have:(⟨s.toArray⟩:ByteArray).size=s.length:=rfl;omega) h (.iface t p) w (globCell h2 0 _ rfl) (.inr ⟨_,_,rfl⟩)
 refine h.mono ?_
 rintro e w' ⟨N,rfl,hN,hc,hb⟩
 refine ⟨Evo.of_below hb _,_,rfl,DenD.tup_mk (xs:=[.int .i64 (Lib.atoiSat s),.iface 250 (.pointer (some ⟨N,0,none⟩))]) ⟨.v _,.ifc1 _ _ _ ?_,trivial⟩⟩
 exact DenD.imm [] N 0 (fun _=>undef) (Array.getElem?_eq_some_iff.1 hc).1 (fun hm=>absurd (hM N hm) (by omega)) (fun j d h=>by simp at h) (fun j d h=>by simp at h)
end
section
variable {gl:List (Nat×List D)}
theorem dig_contains (x:UInt8):D10.contains x=true↔isDig x:=by
 constructor
 ·intro h
  have h':x ∈ D10:=by simpa using h
  simp only[List.mem_cons,List.not_mem_nil,or_false] at h'
  rcases h' with rfl|rfl|rfl|rfl|rfl|rfl|rfl|rfl|rfl|rfl <;> decide
 ·rintro ⟨h1,h2⟩
  have key:∀ n:Fin 256,48≤n.val→n.val≤57→D10.contains (UInt8.ofNat n.val)=true:=by decide +kernel
  have:=key ⟨x.toNat,UInt8.toNat_lt x⟩ h1 h2
  simpa using this
theorem dropWhile_nil {α:Type} {p:α→Bool} {l:List α}:l.dropWhile p=[]↔∀ x ∈ l,p x=true:=by
 induction l with
 | nil=>simp
 | cons a l ih =>
  rw[List.dropWhile_cons]
  by_cases h:p a=true
  ·rw[if_pos h,ih];simp[h]
  ·rw[if_neg h];simp[h]
theorem trimS_nil {l cs:List UInt8}:Lib.trimS l cs=[]↔∀ x ∈ l,cs.contains x=true:=by
 unfold Lib.trimS Lib.trimLeftS Lib.trimRightS
 rw[dropWhile_nil]
 constructor
 ·intro h x hx
  have h2:l.reverse.dropWhile (fun b=>cs.contains b)=[]:=by
   cases hd:l.reverse.dropWhile (fun b=>cs.contains b) with
   | nil=>rfl
   | cons a r =>
    have h3:=List.head?_dropWhile_not (fun b=>cs.contains b) l.reverse
    rw[hd] at h3 h
    have h4:=h a (by simp)
    simp at h3 h4
    exact absurd h4 h3
  rw[dropWhile_nil] at h2
  exact h2 x (by simpa using hx)
 ·intro h x hx
  have:=List.mem_reverse.1 hx
  exact h x (List.mem_reverse.1 ((List.dropWhile_sublist _).mem this))
def rvF (acc:Nat) (l:List UInt8):Nat:=l.foldl (fun n d=>n * 10+(d.toNat - 48)) acc
theorem rvF_ge (l:List UInt8):∀ acc,acc≤rvF acc l:=by
 induction l with
 | nil=>intro acc;exact Nat.le_refl _
 | cons d l ih=>intro acc;exact Nat.le_trans (by omega) (ih (acc * 10+(d.toNat - 48)))
theorem rv_all (l:List UInt8):rv l l.length=rvF 0 l:=by unfold rv rvF;rw[List.take_length]
theorem parse_dig (l:List UInt8):∀ acc,acc<18446744073709551616→(∀ d ∈ l,isDig d)→Lib.parseUint10 acc l=if rvF acc l<18446744073709551616 then .ok (rvF acc l) else .range:=by
 induction l with
 | nil=>intro acc h _;have e:rvF acc []=acc:=rfl;rw[e,if_pos h];rfl
 | cons d l ih =>
  intro acc h hd
  have h1:isDig d:=hd d (by simp)
  have e:rvF acc (d::l)=rvF (acc * 10+(d.toNat - 48)) l:=rfl
  have h2:=rvF_ge l (acc * 10+(d.toNat - 48))
  rw[Lib.parseUint10,if_pos h1,e]
  by_cases h3:1844674407370955162≤acc
  ·rw[if_pos h3,if_neg (by omega)]
  ·rw[if_neg h3]
   by_cases h4:18446744073709551616≤acc * 10+(d.toNat - 48)
   ·rw[if_pos h4,if_neg (by omega)]
   ·rw[if_neg h4]
    exact ih _ (by omega) (fun x hx=>hd x (by simp[hx]))
abbrev wholeOk (s:List UInt8):Prop:=unsg s≠[]∧¬ ((unsg s).head?=some 48∧s≠[48])∧∀ x ∈ unsg s,isDig x
def wholeV (s:List UInt8):Int:=if s.head?=some 45 then -(rv (unsg s) (unsg s).length:Int) else rv (unsg s) (unsg s).length
def wholeZ (s:List UInt8):Option Int:=if wholeOk s∧okI (wholeV s) then some (wholeV s) else none
theorem atoi_whole {s:List UInt8} (h:wholeOk s):Lib.atoiAll s=if okI (wholeV s) then .ok (wholeV s) else .range:=by
 obtain ⟨h1,h2,h3⟩:=h
 have hp:=parse_dig (unsg s) 0 (by omega) h3
 cases s with
 | nil=>exact absurd rfl h1
 | cons c r =>
  unfold wholeV
  rw[rv_all]
  by_cases hc:c=45
  ·subst hc
   have eu:unsg (45::r)=r:=rfl
   rw[eu] at h1 hp ⊢
   simp only[Lib.atoiAll,Lib.parseMag,List.head?_cons,if_true,h1,if_false,hp,show ((45:UInt8).toNat=45) from rfl,or_true]
   generalize rvF 0 r=u
   by_cases hu:u<18446744073709551616
   ·simp only[hu,if_true,not_true_eq_false,false_and,if_false,true_and]
    by_cases hv:9223372036854775808<u
    ·rw[if_pos hv,if_neg (by omega)]
    ·rw[if_neg hv,if_pos (by omega)]
   ·simp only[hu,if_false]
    rw[if_neg (by omega)]
  ·have hc':¬ c.toNat=45:=fun e=>hc (UInt8.toNat_inj.1 e)
   have eu:unsg (c::r)=c::r:=by simp[unsg,hc]
   rw[eu] at h1 h3 hp ⊢
   have h43:¬ c.toNat=43:=fun e=>by have:=(h3 c (by simp)).1;omega
   simp only[Lib.atoiAll,Lib.parseMag,List.head?_cons,Option.some.injEq,hc,if_false,hc',h43,or_self,h1,hp]
   generalize rvF 0 (c::r)=u
   by_cases hu:u<18446744073709551616
   ·simp only[hu,if_true,not_false_eq_true,true_and,false_and,if_false]
    by_cases hv:9223372036854775808≤u
    ·rw[if_pos hv,if_neg (by omega)]
    ·rw[if_neg hv,if_pos (by omega)]
   ·simp only[hu,if_false]
    rw[if_neg (by omega)]
theorem unsg_len (s:List UInt8):(unsg s).length≤s.length:=by unfold unsg;split <;> simp
theorem Whole_e {s:List UInt8} (h:unsg s=[]):FnP Tryz.prog gl 145 [.str s] (.tup [iD 0,fD]):=by
 have hT:=TrimPrefix_d (gl:=gl) s
 rw[h] at hT
 refine S0 Tryz.func145 rfl ?_
 ((repeat' ((conv=>whnf);first|exact .intro|refine G ?_|intro _|refine C1 hT ?_|refine .mk ?_ ?_|refine H ?_|fail));all_goals conv=>whnf)
 all_goals exact LeD.rfl
theorem Whole_0 {s:List UInt8} (h:(unsg s).head?=some 48) (h2:s≠[48]):FnP Tryz.prog gl 145 [.str s] (.tup [iD 0,fD]):=by
 have hT:=TrimPrefix_d (gl:=gl) s
 obtain ⟨l,e⟩:∃ l,unsg s=48::l:=by
  cases hu:unsg s with
  | nil=>rw[hu] at h;cases h
  | cons a l=>rw[hu] at h;cases h;exact ⟨l,rfl⟩
 rw[e] at hT
 have h3:(((48::l).getD (Int.toNat 0) 0).toNat:Int)=48:=rfl
 refine S0 Tryz.func145 rfl ?_
 ((repeat' ((conv=>whnf);first|exact .intro|refine G ?_|intro _|refine C1 hT ?_|refine .mk ?_ ?_|refine AK ?_|refine And.intro (by first|(first|assumption|omega|(simp;done)|(simp;omega);done)|fail) ?_|fail));all_goals conv=>whnf)
 all_goals exact LeD.rfl
theorem Whole_d {s:List UInt8} (hs:s.length≤140737488355328) (h1:unsg s≠[]) (h2:¬ ((unsg s).head?=some 48∧s≠[48])) (h3:¬ ∀ x ∈ unsg s,isDig x):FnP Tryz.prog gl 145 [.str s] (.tup [iD 0,fD]):=by
 have hT:=TrimPrefix_d (gl:=gl) s
 have hl:=unsg_len s
 have hR:=Trim_d (gl:=gl) (unsg s) (by omega)
 have hn:¬ Lib.trimS (unsg s) D10=[]:=fun e=>h3 fun x hx=>(dig_contains x).1 (trimS_nil.1 e x hx)
 generalize Lib.trimS (unsg s) D10=t at hR hn
 obtain ⟨a,l,e⟩:=List.exists_cons_of_ne_nil h1
 rw[e] at hT hR h2
 by_cases ha:a=48
 ·subst ha
  have hz:s=[48]:=Classical.byContradiction fun h=>h2 ⟨rfl,h⟩
  have h4:(((48::l).getD (Int.toNat 0) 0).toNat:Int)=48:=rfl
  refine S0 Tryz.func145 rfl ?_
  ((repeat' ((conv=>whnf);first|exact .intro|refine G ?_|intro _|refine C1 hT ?_|refine C1 hR ?_|refine .mk ?_ ?_|refine AK ?_|refine And.intro (by first|(first|assumption|omega|(simp;done)|(simp;omega);done)|fail) ?_|fail));all_goals conv=>whnf)
  all_goals exact LeD.rfl
 ·have h4:¬ (((a::l).getD (Int.toNat 0) 0).toNat:Int)=48:=fun e=>ha (UInt8.toNat_inj.1 (show a.toNat=(48:UInt8).toNat from Int.ofNat.inj e))
  refine S0 Tryz.func145 rfl ?_
  ((repeat' ((conv=>whnf);first|exact .intro|refine G ?_|intro _|refine C1 hT ?_|refine C1 hR ?_|refine .mk ?_ ?_|refine AK ?_|refine And.intro (by first|(first|assumption|omega|(simp;done)|(simp;omega);done)|fail) ?_|fail));all_goals conv=>whnf)
  all_goals exact LeD.rfl
theorem Whole_a {s:List UInt8} (hs:s.length≤140737488355328) (h:wholeOk s) {v:Int} {d:D} {b:Bool} (hd:(d=.v .nilIface∧b=true)∨(d=.ifc 250 false [.imm []]∧b=false)) (hA:FnP Tryz.prog gl 164 [.str s] (.tup [iD v,d])):FnP Tryz.prog gl 145 [.str s] (.tup [iD v,.v (.bool b)]):=by
 obtain ⟨h1,h2,h3⟩:=h
 have hT:=TrimPrefix_d (gl:=gl) s
 have hl:=unsg_len s
 have hR:=Trim_d (gl:=gl) (unsg s) (by omega)
 have hn:Lib.trimS (unsg s) D10=[]:=trimS_nil.2 fun x hx=>(dig_contains x).2 (h3 x hx)
 rw[hn] at hR
 obtain ⟨a,l,e⟩:=List.exists_cons_of_ne_nil h1
 rw[e] at hT hR h2
 by_cases ha:a=48
 ·subst ha
  have hz:s=[48]:=Classical.byContradiction fun h=>h2 ⟨rfl,h⟩
  have h4:(((48::l).getD (Int.toNat 0) 0).toNat:Int)=48:=rfl
  rcases hd with ⟨rfl,rfl⟩|⟨rfl,rfl⟩
  all_goals
   refine S0 Tryz.func145 rfl ?_
   ((repeat' ((conv=>whnf);first|exact .intro|refine G ?_|intro _|refine C1 hT ?_|refine C1 hR ?_|refine C1 hA ?_|refine .mk ?_ ?_|refine AK ?_|refine And.intro (by first|(first|assumption|omega|(simp;done)|(simp;omega);done)|fail) ?_|fail));all_goals conv=>whnf)
   all_goals first|exact LeD.rfl|exact LeD.tup ⟨LeD.rfl,LeD.vt trivial,trivial⟩|exact LeD.tup ⟨LeD.rfl,LeD.vf (by simp),trivial⟩
 ·have h4:¬ (((a::l).getD (Int.toNat 0) 0).toNat:Int)=48:=fun e=>ha (UInt8.toNat_inj.1 (show a.toNat=(48:UInt8).toNat from Int.ofNat.inj e))
  rcases hd with ⟨rfl,rfl⟩|⟨rfl,rfl⟩
  all_goals
   refine S0 Tryz.func145 rfl ?_
   ((repeat' ((conv=>whnf);first|exact .intro|refine G ?_|intro _|refine C1 hT ?_|refine C1 hR ?_|refine C1 hA ?_|refine .mk ?_ ?_|refine AK ?_|refine And.intro (by first|(first|assumption|omega|(simp;done)|(simp;omega);done)|fail) ?_|fail));all_goals conv=>whnf)
   all_goals first|exact LeD.rfl|exact LeD.tup ⟨LeD.rfl,LeD.vt trivial,trivial⟩|exact LeD.tup ⟨LeD.rfl,LeD.vf (by simp),trivial⟩
theorem Whole_some {s:List UInt8} {v:Int} (hs:s.length≤140737488355328) (h:wholeZ s=some v):FnP Tryz.prog gl 145 [.str s] (.tup [iD v,.v (.bool true)]):=by
 unfold wholeZ at h
 split at h
 ·rename_i hh
  cases h
  have ha:=atoi_whole hh.1
  rw[if_pos hh.2] at ha
  exact Whole_a hs hh.1 (.inl ⟨rfl,rfl⟩) (Atoi_s s _ hs ha)
 ·cases h
theorem Whole_none {s:List UInt8} (hs:s.length≤140737488355328) (hr:errR gl) (h:wholeZ s=none):∃ n,FnP Tryz.prog gl 145 [.str s] (.tup [iD n,.v (.bool false)]):=by
 unfold wholeZ at h
 split at h
 ·cases h
 ·rename_i hh
  by_cases h1:wholeOk s
  ·have ha:=atoi_whole h1
   rw[if_neg (fun h=>hh ⟨h1,h⟩)] at ha
   exact ⟨_,Whole_a hs h1 (.inr ⟨rfl,rfl⟩) (Atoi_r s hs ha hr)⟩
  ·refine ⟨0,?_⟩
   by_cases q1:unsg s=[]
   ·exact Whole_e q1
   ·by_cases q2:(unsg s).head?=some 48∧s≠[48]
    ·exact Whole_0 q2.1 q2.2
    ·exact Whole_d hs q1 q2 fun q3=>h1 ⟨q1,q2,q3⟩
end
end Go.Proofs.YtfcmhmglpcimiaaGreatDoor
