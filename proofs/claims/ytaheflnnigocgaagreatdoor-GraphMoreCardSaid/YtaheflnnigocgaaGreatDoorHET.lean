/- Proved: a part of what the law is proved with (the reckoner, contracts of functions, plain laws). Conditions: as each says. -/
import Derived.Test.YtaheflnnigocgaaGreatDoorProg
import Derived.Test.YtaheflnnigocgaaGreatDoorHEp
section
namespace Go.Proofs.YtaheflnnigocgaaGreatDoor
open Go.EYtaheflnnigocgaaGreatDoor
theorem fit2:FitsOne Tryz.prog 2 ⟨false,1,8,[.v (.int .i64 0)],[],false,(some .i64),none,5,[],false,[]⟩:=⟨by kernel_rfl,rfl,rfl,by kernel_rfl,(fun h=>by cases h),by kernel_rfl⟩
theorem fit3:FitsOne Tryz.prog 3 ⟨false,1,8,[.v (.int .i64 0)],[],false,(some .i64),none,5,[],false,[]⟩:=⟨by kernel_rfl,rfl,rfl,by kernel_rfl,(fun h=>by cases h),by kernel_rfl⟩
theorem fit4:FitsOne Tryz.prog 4 ⟨false,1,1,[.v (.bool false)],[],false,none,none,1,[],false,[]⟩:=⟨by kernel_rfl,rfl,rfl,by kernel_rfl,(fun h=>by cases h),by kernel_rfl⟩
theorem fit5:FitsOne Tryz.prog 5 ⟨false,1,1,[.v (.int .u8 0)],[],false,(some .u8),none,5,[],false,[]⟩:=⟨by kernel_rfl,rfl,rfl,by kernel_rfl,(fun h=>by cases h),by kernel_rfl⟩
theorem fit6:FitsOne Tryz.prog 6 ⟨false,1,1,[.v (.int .u8 0)],[],false,(some .u8),none,5,[],false,[]⟩:=⟨by kernel_rfl,rfl,rfl,by kernel_rfl,(fun h=>by cases h),by kernel_rfl⟩
theorem fit7:FitsOne Tryz.prog 7 ⟨true,4,24,[.v (.int .i64 0),.v (.int .i64 0),.v (.bool false),.v (.int .u8 0)],[(0,1),(1,1),(2,1),(3,1)],false,none,none,6,[],false,[]⟩:=⟨by kernel_rfl,rfl,rfl,by kernel_rfl,(fun h=>by cases h),by kernel_rfl⟩
theorem fit8:FitsOne Tryz.prog 8 ⟨true,4,24,[.v (.int .i64 0),.v (.int .i64 0),.v (.bool false),.v (.int .u8 0)],[(0,1),(1,1),(2,1),(3,1)],false,none,none,6,[],false,[]⟩:=⟨by kernel_rfl,rfl,rfl,by kernel_rfl,(fun h=>by cases h),by kernel_rfl⟩
theorem fit9:FitsOne Tryz.prog 9 ⟨false,1,16,[.str []],[],false,none,none,2,[],false,[]⟩:=⟨by kernel_rfl,rfl,rfl,by kernel_rfl,(fun h=>by cases h),by kernel_rfl⟩
theorem fit10:FitsOne Tryz.prog 10 ⟨false,1,16,[.str []],[],false,none,none,2,[],false,[]⟩:=⟨by kernel_rfl,rfl,rfl,by kernel_rfl,(fun h=>by cases h),by kernel_rfl⟩
theorem fit11:FitsOne Tryz.prog 11 ⟨false,1,16,[.str []],[],false,none,none,2,[],false,[]⟩:=⟨by kernel_rfl,rfl,rfl,by kernel_rfl,(fun h=>by cases h),by kernel_rfl⟩
theorem fit12:FitsOne Tryz.prog 12 ⟨false,1,8,[.v (.int .u64 0)],[],false,(some .u64),none,5,[],false,[]⟩:=⟨by kernel_rfl,rfl,rfl,by kernel_rfl,(fun h=>by cases h),by kernel_rfl⟩
theorem fit13:FitsOne Tryz.prog 13 ⟨true,2,24,[.str [],.v (.int .u64 0)],[(0,1),(1,1)],false,none,none,6,[],false,[]⟩:=⟨by kernel_rfl,rfl,rfl,by kernel_rfl,(fun h=>by cases h),by kernel_rfl⟩
theorem fit14:FitsOne Tryz.prog 14 ⟨true,2,24,[.str [],.v (.int .u64 0)],[(0,1),(1,1)],false,none,none,6,[],false,[]⟩:=⟨by kernel_rfl,rfl,rfl,by kernel_rfl,(fun h=>by cases h),by kernel_rfl⟩
theorem fit15:FitsOne Tryz.prog 15 ⟨false,1,8,[.v (.pointer none)],[],false,none,none,8,[],false,[232]⟩:=⟨by kernel_rfl,rfl,rfl,by kernel_rfl,(fun h=>by cases h),by kernel_rfl⟩
theorem fit16:FitsOne Tryz.prog 16 ⟨false,1,8,[.v (.pointer none)],[],false,none,none,8,[],false,[235]⟩:=⟨by kernel_rfl,rfl,rfl,by kernel_rfl,(fun h=>by cases h),by kernel_rfl⟩
theorem fit17:FitsOne Tryz.prog 17 ⟨false,1,8,[.v (.pointer none)],[],false,none,none,8,[],false,[243]⟩:=⟨by kernel_rfl,rfl,rfl,by kernel_rfl,(fun h=>by cases h),by kernel_rfl⟩
theorem fit18:FitsOne Tryz.prog 18 ⟨true,1,8,[.v (.pointer none)],[(0,1)],false,none,none,6,[],false,[]⟩:=⟨by kernel_rfl,rfl,rfl,by kernel_rfl,(fun h=>by cases h),by kernel_rfl⟩
theorem fit19:FitsOne Tryz.prog 19 ⟨true,1,8,[.v (.pointer none)],[(0,1)],false,none,none,6,[],false,[]⟩:=⟨by kernel_rfl,rfl,rfl,by kernel_rfl,(fun h=>by cases h),by kernel_rfl⟩
theorem fit20:FitsOne Tryz.prog 20 ⟨false,1,16,[.v .nilIface],[],true,none,none,7,[],false,[]⟩:=⟨by kernel_rfl,rfl,rfl,by kernel_rfl,(fun h=>by cases h),by kernel_rfl⟩
theorem fit21:FitsOne Tryz.prog 21 ⟨false,1,4,[.v (.int .i32 0)],[],false,(some .i32),none,5,[],false,[]⟩:=⟨by kernel_rfl,rfl,rfl,by kernel_rfl,(fun h=>by cases h),by kernel_rfl⟩
theorem fit22:FitsOne Tryz.prog 22 ⟨false,1,24,[.v (.slice none 0 0)],[],false,none,(some 32),3,[],false,[]⟩:=⟨by kernel_rfl,rfl,rfl,by kernel_rfl,(fun h=>by cases h),by kernel_rfl⟩
theorem fit23:FitsOne Tryz.prog 23 ⟨true,2,16,[.v (.int .i64 0),.v (.int .i64 0)],[(0,1),(1,1)],false,none,none,6,[],false,[]⟩:=⟨by kernel_rfl,rfl,rfl,by kernel_rfl,(fun h=>by cases h),by kernel_rfl⟩
theorem fit24:FitsOne Tryz.prog 24 ⟨true,2,16,[.v (.int .i64 0),.v (.int .i64 0)],[(0,1),(1,1)],false,none,none,6,[3,3],true,[]⟩:=⟨by kernel_rfl,rfl,rfl,by kernel_rfl,fun _=>⟨by kernel_rfl,rfl,by kernel_rfl,by kernel_rfl,rfl⟩,by kernel_rfl⟩
theorem fit25:FitsOne Tryz.prog 25 ⟨false,1,24,[.v (.slice none 0 0)],[],false,none,(some 33),3,[],false,[]⟩:=⟨by kernel_rfl,rfl,rfl,by kernel_rfl,(fun h=>by cases h),by kernel_rfl⟩
theorem fit26:FitsOne Tryz.prog 26 ⟨false,1,16,[.v .nilIface],[],true,none,none,7,[],false,[]⟩:=⟨by kernel_rfl,rfl,rfl,by kernel_rfl,(fun h=>by cases h),by kernel_rfl⟩
theorem fit27:FitsOne Tryz.prog 27 ⟨false,1,16,[.v .nilIface],[],true,none,none,7,[],false,[]⟩:=⟨by kernel_rfl,rfl,rfl,by kernel_rfl,(fun h=>by cases h),by kernel_rfl⟩
theorem fit31:FitsOne Tryz.prog 31 ⟨true,3,32,[.v (.int .i64 0),.v (.int .i64 0),.str []],[(0,2),(2,1)],false,none,none,6,[],false,[]⟩:=⟨by kernel_rfl,rfl,rfl,by kernel_rfl,(fun h=>by cases h),by kernel_rfl⟩
theorem fit32:FitsOne Tryz.prog 32 ⟨true,3,32,[.v (.int .i64 0),.v (.int .i64 0),.str []],[(0,2),(2,1)],false,none,none,6,[24,9],true,[]⟩:=⟨by kernel_rfl,rfl,rfl,by kernel_rfl,fun _=>⟨by kernel_rfl,rfl,by kernel_rfl,by kernel_rfl,rfl⟩,by kernel_rfl⟩
theorem fit33:FitsOne Tryz.prog 33 ⟨true,4,32,[.v (.int .i64 0),.v (.int .i64 0),.v (.int .i64 0),.v (.int .i64 0)],[],false,none,(some 24),4,[],false,[2]⟩:=⟨by kernel_rfl,rfl,rfl,by kernel_rfl,(fun h=>by cases h),by kernel_rfl⟩
theorem fit36:FitsOne Tryz.prog 36 ⟨false,1,24,[.v (.slice none 0 0)],[],false,none,(some 39),3,[],false,[]⟩:=⟨by kernel_rfl,rfl,rfl,by kernel_rfl,(fun h=>by cases h),by kernel_rfl⟩
theorem fit39:FitsOne Tryz.prog 39 ⟨false,1,24,[.v (.slice none 0 0)],[],false,none,(some 24),3,[],false,[]⟩:=⟨by kernel_rfl,rfl,rfl,by kernel_rfl,(fun h=>by cases h),by kernel_rfl⟩
theorem fit48:FitsOne Tryz.prog 48 ⟨false,1,24,[.v (.slice none 0 0)],[],false,none,(some 3),3,[],false,[]⟩:=⟨by kernel_rfl,rfl,rfl,by kernel_rfl,(fun h=>by cases h),by kernel_rfl⟩
theorem fit52:FitsOne Tryz.prog 52 ⟨false,1,8,[.v (.pointer none)],[],false,none,none,8,[],false,[60]⟩:=⟨by kernel_rfl,rfl,rfl,by kernel_rfl,(fun h=>by cases h),by kernel_rfl⟩
theorem fit55:FitsOne Tryz.prog 55 ⟨false,1,8,[.v (.map none)],[],false,none,none,9,[],false,[24,9]⟩:=⟨by kernel_rfl,rfl,rfl,by kernel_rfl,(fun h=>by cases h),by kernel_rfl⟩
theorem fit56:FitsOne Tryz.prog 56 ⟨false,1,8,[.v (.map none)],[],false,none,none,9,[],false,[24,74]⟩:=⟨by kernel_rfl,rfl,rfl,by kernel_rfl,(fun h=>by cases h),by kernel_rfl⟩
theorem fit57:FitsOne Tryz.prog 57 ⟨false,1,8,[.v (.map none)],[],false,none,none,9,[],false,[24,39]⟩:=⟨by kernel_rfl,rfl,rfl,by kernel_rfl,(fun h=>by cases h),by kernel_rfl⟩
theorem fit58:FitsOne Tryz.prog 58 ⟨false,1,8,[.v (.map none)],[],false,none,none,9,[],false,[24,3]⟩:=⟨by kernel_rfl,rfl,rfl,by kernel_rfl,(fun h=>by cases h),by kernel_rfl⟩
theorem fit59:FitsOne Tryz.prog 59 ⟨true,6,80,[.v (.slice none 0 0),.v (.map none),.v (.map none),.v (.map none),.v (.slice none 0 0),.v (.map none)],[(0,1),(1,1),(2,1),(3,1),(4,1),(5,1)],false,none,none,6,[],false,[]⟩:=⟨by kernel_rfl,rfl,rfl,by kernel_rfl,(fun h=>by cases h),by kernel_rfl⟩
theorem fit60:FitsOne Tryz.prog 60 ⟨true,6,80,[.v (.slice none 0 0),.v (.map none),.v (.map none),.v (.map none),.v (.slice none 0 0),.v (.map none)],[(0,1),(1,1),(2,1),(3,1),(4,1),(5,1)],false,none,none,6,[],false,[]⟩:=⟨by kernel_rfl,rfl,rfl,by kernel_rfl,(fun h=>by cases h),by kernel_rfl⟩
theorem fit63:FitsOne Tryz.prog 63 ⟨false,1,8,[.v (.int .i64 0)],[],false,(some .i64),none,5,[],false,[]⟩:=⟨by kernel_rfl,rfl,rfl,by kernel_rfl,(fun h=>by cases h),by kernel_rfl⟩
theorem fit64:FitsOne Tryz.prog 64 ⟨false,1,8,[.v (.map none)],[],false,none,none,9,[],false,[24,4]⟩:=⟨by kernel_rfl,rfl,rfl,by kernel_rfl,(fun h=>by cases h),by kernel_rfl⟩
theorem fit70:FitsOne Tryz.prog 70 ⟨true,4,24,[.v (.int .i64 0),.v (.int .i64 0),.v (.bool false),.v (.bool false)],[(0,2),(2,1),(3,1)],false,none,none,6,[],false,[]⟩:=⟨by kernel_rfl,rfl,rfl,by kernel_rfl,(fun h=>by cases h),by kernel_rfl⟩
theorem fit71:FitsOne Tryz.prog 71 ⟨true,4,24,[.v (.int .i64 0),.v (.int .i64 0),.v (.bool false),.v (.bool false)],[(0,2),(2,1),(3,1)],false,none,none,6,[24,4,4],true,[]⟩:=⟨by kernel_rfl,rfl,rfl,by kernel_rfl,fun _=>⟨by kernel_rfl,rfl,by kernel_rfl,by kernel_rfl,rfl⟩,by kernel_rfl⟩
theorem fit72:FitsOne Tryz.prog 72 ⟨false,1,24,[.v (.slice none 0 0)],[],false,none,(some 74),3,[],false,[]⟩:=⟨by kernel_rfl,rfl,rfl,by kernel_rfl,(fun h=>by cases h),by kernel_rfl⟩
theorem fit73:FitsOne Tryz.prog 73 ⟨true,12,104,[.v (.int .i64 0),.v (.int .i64 0),.str [],.v (.int .i64 0),.v (.int .i64 0),.v (.bool false),.v (.bool false),.v (.int .i64 0),.v (.int .i64 0),.v (.bool false),.v (.bool false),.v (.slice none 0 0)],[(0,1),(1,1),(2,1),(3,4),(7,4),(11,1)],false,none,none,6,[],false,[]⟩:=⟨by kernel_rfl,rfl,rfl,by kernel_rfl,(fun h=>by cases h),by kernel_rfl⟩
theorem fit74:FitsOne Tryz.prog 74 ⟨true,12,104,[.v (.int .i64 0),.v (.int .i64 0),.str [],.v (.int .i64 0),.v (.int .i64 0),.v (.bool false),.v (.bool false),.v (.int .i64 0),.v (.int .i64 0),.v (.bool false),.v (.bool false),.v (.slice none 0 0)],[(0,1),(1,1),(2,1),(3,4),(7,4),(11,1)],false,none,none,6,[],false,[]⟩:=⟨by kernel_rfl,rfl,rfl,by kernel_rfl,(fun h=>by cases h),by kernel_rfl⟩
theorem fit78:FitsOne Tryz.prog 78 ⟨false,1,24,[.v (.slice none 0 0)],[],false,none,(some 48),3,[],false,[]⟩:=⟨by kernel_rfl,rfl,rfl,by kernel_rfl,(fun h=>by cases h),by kernel_rfl⟩
theorem fit83:FitsOne Tryz.prog 83 ⟨true,2,24,[.v (.int .i64 0),.v .nilIface],[(0,1),(1,1)],false,none,none,6,[],false,[]⟩:=⟨by kernel_rfl,rfl,rfl,by kernel_rfl,(fun h=>by cases h),by kernel_rfl⟩
theorem fit84:FitsOne Tryz.prog 84 ⟨true,2,24,[.v (.int .i64 0),.v .nilIface],[(0,1),(1,1)],false,none,none,6,[],false,[]⟩:=⟨by kernel_rfl,rfl,rfl,by kernel_rfl,(fun h=>by cases h),by kernel_rfl⟩
theorem fit86:FitsOne Tryz.prog 86 ⟨false,1,8,[.v (.pointer none)],[],false,none,none,8,[],false,[88]⟩:=⟨by kernel_rfl,rfl,rfl,by kernel_rfl,(fun h=>by cases h),by kernel_rfl⟩
theorem fit87:FitsOne Tryz.prog 87 ⟨true,3,32,[.str [],.v (.int .i64 0),.v (.int .i64 0)],[(0,1),(1,1),(2,1)],false,none,none,6,[],false,[]⟩:=⟨by kernel_rfl,rfl,rfl,by kernel_rfl,(fun h=>by cases h),by kernel_rfl⟩
theorem fit88:FitsOne Tryz.prog 88 ⟨true,3,32,[.str [],.v (.int .i64 0),.v (.int .i64 0)],[(0,1),(1,1),(2,1)],false,none,none,6,[9,3,3],true,[]⟩:=⟨by kernel_rfl,rfl,rfl,by kernel_rfl,fun _=>⟨by kernel_rfl,rfl,by kernel_rfl,by kernel_rfl,rfl⟩,by kernel_rfl⟩
theorem fit92:FitsOne Tryz.prog 92 ⟨true,4,32,[.v (.int .i64 0),.v (.int .i64 0),.v (.int .i64 0),.v (.int .i64 0)],[(0,2),(2,2)],false,none,none,6,[],false,[]⟩:=⟨by kernel_rfl,rfl,rfl,by kernel_rfl,(fun h=>by cases h),by kernel_rfl⟩
theorem fit93:FitsOne Tryz.prog 93 ⟨true,4,32,[.v (.int .i64 0),.v (.int .i64 0),.v (.int .i64 0),.v (.int .i64 0)],[(0,2),(2,2)],false,none,none,6,[24,24],true,[]⟩:=⟨by kernel_rfl,rfl,rfl,by kernel_rfl,fun _=>⟨by kernel_rfl,rfl,by kernel_rfl,by kernel_rfl,rfl⟩,by kernel_rfl⟩
theorem fit100:FitsOne Tryz.prog 100 ⟨true,3,24,[.v (.int .i64 0),.v (.int .i64 0),.v (.int .i64 0)],[(0,2),(2,1)],false,none,none,6,[],false,[]⟩:=⟨by kernel_rfl,rfl,rfl,by kernel_rfl,(fun h=>by cases h),by kernel_rfl⟩
theorem fit101:FitsOne Tryz.prog 101 ⟨true,3,24,[.v (.int .i64 0),.v (.int .i64 0),.v (.int .i64 0)],[(0,2),(2,1)],false,none,none,6,[24,3],true,[]⟩:=⟨by kernel_rfl,rfl,rfl,by kernel_rfl,fun _=>⟨by kernel_rfl,rfl,by kernel_rfl,by kernel_rfl,rfl⟩,by kernel_rfl⟩
theorem fit103:FitsOne Tryz.prog 103 ⟨false,1,24,[.v (.slice none 0 0)],[],false,none,(some 101),3,[],false,[]⟩:=⟨by kernel_rfl,rfl,rfl,by kernel_rfl,(fun h=>by cases h),by kernel_rfl⟩
theorem fit104:FitsOne Tryz.prog 104 ⟨false,1,8,[.v (.pointer none)],[],false,none,none,8,[],false,[101]⟩:=⟨by kernel_rfl,rfl,rfl,by kernel_rfl,(fun h=>by cases h),by kernel_rfl⟩
theorem fit112:FitsOne Tryz.prog 112 ⟨false,1,24,[.v (.slice none 0 0)],[],false,none,(some 9),3,[],false,[]⟩:=⟨by kernel_rfl,rfl,rfl,by kernel_rfl,(fun h=>by cases h),by kernel_rfl⟩
theorem fit113:FitsOne Tryz.prog 113 ⟨true,4,96,[.v (.slice none 0 0),.v (.slice none 0 0),.v (.slice none 0 0),.v (.slice none 0 0)],[],false,none,(some 112),4,[],false,[4]⟩:=⟨by kernel_rfl,rfl,rfl,by kernel_rfl,(fun h=>by cases h),by kernel_rfl⟩
theorem fit118:FitsOne Tryz.prog 118 ⟨false,1,8,[.v (.int .u64 0)],[],false,(some .u64),none,5,[],false,[]⟩:=⟨by kernel_rfl,rfl,rfl,by kernel_rfl,(fun h=>by cases h),by kernel_rfl⟩
theorem fit125:FitsOne Tryz.prog 125 ⟨false,1,8,[.v (.int .i64 0)],[],false,(some .i64),none,5,[],false,[]⟩:=⟨by kernel_rfl,rfl,rfl,by kernel_rfl,(fun h=>by cases h),by kernel_rfl⟩
theorem fit132:FitsOne Tryz.prog 132 ⟨false,1,4,[.v (.int .u32 0)],[],false,(some .u32),none,5,[],false,[]⟩:=⟨by kernel_rfl,rfl,rfl,by kernel_rfl,(fun h=>by cases h),by kernel_rfl⟩
theorem fit134:FitsOne Tryz.prog 134 ⟨false,1,8,[.v (.int .u64 0)],[],false,(some .u64),none,5,[],false,[]⟩:=⟨by kernel_rfl,rfl,rfl,by kernel_rfl,(fun h=>by cases h),by kernel_rfl⟩
theorem fit147:FitsOne Tryz.prog 147 ⟨true,3,32,[.v (.int .i64 0),.v (.int .i64 0),.str []],[(0,1),(1,1),(2,1)],false,none,none,6,[],false,[]⟩:=⟨by kernel_rfl,rfl,rfl,by kernel_rfl,(fun h=>by cases h),by kernel_rfl⟩
theorem fit148:FitsOne Tryz.prog 148 ⟨true,3,32,[.v (.int .i64 0),.v (.int .i64 0),.str []],[(0,1),(1,1),(2,1)],false,none,none,6,[3,3,9],true,[]⟩:=⟨by kernel_rfl,rfl,rfl,by kernel_rfl,fun _=>⟨by kernel_rfl,rfl,by kernel_rfl,by kernel_rfl,rfl⟩,by kernel_rfl⟩
theorem fit156:FitsOne Tryz.prog 156 ⟨false,1,8,[.v (.int .u64 0)],[],false,(some .u64),none,5,[],false,[]⟩:=⟨by kernel_rfl,rfl,rfl,by kernel_rfl,(fun h=>by cases h),by kernel_rfl⟩
theorem fit160:FitsOne Tryz.prog 160 ⟨false,1,8,[.v (.pointer none)],[],false,none,none,8,[],false,[3]⟩:=⟨by kernel_rfl,rfl,rfl,by kernel_rfl,(fun h=>by cases h),by kernel_rfl⟩
theorem fit166:FitsOne Tryz.prog 166 ⟨false,1,24,[.v (.slice none 0 0)],[],false,none,(some 5),3,[],false,[]⟩:=⟨by kernel_rfl,rfl,rfl,by kernel_rfl,(fun h=>by cases h),by kernel_rfl⟩
theorem fit168:FitsOne Tryz.prog 168 ⟨true,7,112,[.str [],.str [],.str [],.str [],.str [],.str [],.str []],[],false,none,(some 9),4,[],false,[7]⟩:=⟨by kernel_rfl,rfl,rfl,by kernel_rfl,(fun h=>by cases h),by kernel_rfl⟩
theorem fit174:FitsOne Tryz.prog 174 ⟨false,1,8,[.v (.pointer none)],[],false,none,none,8,[],false,[156]⟩:=⟨by kernel_rfl,rfl,rfl,by kernel_rfl,(fun h=>by cases h),by kernel_rfl⟩
theorem fit180:FitsOne Tryz.prog 180 ⟨true,256,256,List.replicate 256 (.v (.bool false)),[],false,none,(some 4),4,[],false,[256]⟩:=⟨by kernel_rfl,by kernel_rfl,by kernel_rfl,by kernel_rfl,(fun h=>by cases h),by kernel_rfl⟩
theorem fit181:FitsOne Tryz.prog 181 ⟨true,256,256,List.replicate 256 (.v (.bool false)),[],false,none,(some 4),4,[],false,[256]⟩:=⟨by kernel_rfl,by kernel_rfl,by kernel_rfl,by kernel_rfl,(fun h=>by cases h),by kernel_rfl⟩
theorem fit185:FitsOne Tryz.prog 185 ⟨false,1,8,[.v (.pointer none)],[],false,none,none,8,[],false,[181]⟩:=⟨by kernel_rfl,rfl,rfl,by kernel_rfl,(fun h=>by cases h),by kernel_rfl⟩
theorem fit194:FitsOne Tryz.prog 194 ⟨false,1,8,[.v (.int .i64 0)],[],false,(some .i64),none,5,[],false,[]⟩:=⟨by kernel_rfl,rfl,rfl,by kernel_rfl,(fun h=>by cases h),by kernel_rfl⟩
theorem fit197:FitsOne Tryz.prog 197 ⟨false,1,8,[.v (.pointer none)],[],false,none,none,8,[],false,[212]⟩:=⟨by kernel_rfl,rfl,rfl,by kernel_rfl,(fun h=>by cases h),by kernel_rfl⟩
theorem fit201:FitsOne Tryz.prog 201 ⟨true,2,2,[.v (.int .u8 0),.v (.int .u8 0)],[(0,1),(1,1)],false,none,none,6,[],false,[]⟩:=⟨by kernel_rfl,rfl,rfl,by kernel_rfl,(fun h=>by cases h),by kernel_rfl⟩
theorem fit202:FitsOne Tryz.prog 202 ⟨true,2,2,[.v (.int .u8 0),.v (.int .u8 0)],[(0,1),(1,1)],false,none,none,6,[],false,[]⟩:=⟨by kernel_rfl,rfl,rfl,by kernel_rfl,(fun h=>by cases h),by kernel_rfl⟩
theorem fit203:FitsOne Tryz.prog 203 ⟨true,32,32,[.v (.int .u8 0),.v (.int .u8 0),.v (.int .u8 0),.v (.int .u8 0),.v (.int .u8 0),.v (.int .u8 0),.v (.int .u8 0),.v (.int .u8 0),.v (.int .u8 0),.v (.int .u8 0),.v (.int .u8 0),.v (.int .u8 0),.v (.int .u8 0),.v (.int .u8 0),.v (.int .u8 0),.v (.int .u8 0),.v (.int .u8 0),.v (.int .u8 0),.v (.int .u8 0),.v (.int .u8 0),.v (.int .u8 0),.v (.int .u8 0),.v (.int .u8 0),.v (.int .u8 0),.v (.int .u8 0),.v (.int .u8 0),.v (.int .u8 0),.v (.int .u8 0),.v (.int .u8 0),.v (.int .u8 0),.v (.int .u8 0),.v (.int .u8 0)],[],false,none,(some 202),4,[],false,[16]⟩:=⟨by kernel_rfl,rfl,rfl,by kernel_rfl,(fun h=>by cases h),by kernel_rfl⟩
theorem fit211:FitsOne Tryz.prog 211 ⟨true,3,48,[.str [],.str [],.v .nilIface],[(0,1),(1,1),(2,1)],false,none,none,6,[],false,[]⟩:=⟨by kernel_rfl,rfl,rfl,by kernel_rfl,(fun h=>by cases h),by kernel_rfl⟩
theorem fit212:FitsOne Tryz.prog 212 ⟨true,3,48,[.str [],.str [],.v .nilIface],[(0,1),(1,1),(2,1)],false,none,none,6,[],false,[]⟩:=⟨by kernel_rfl,rfl,rfl,by kernel_rfl,(fun h=>by cases h),by kernel_rfl⟩
theorem fit215:FitsOne Tryz.prog 215 ⟨false,1,8,[.v (.pointer none)],[],false,none,none,8,[],false,[5]⟩:=⟨by kernel_rfl,rfl,rfl,by kernel_rfl,(fun h=>by cases h),by kernel_rfl⟩
theorem fit216:FitsOne Tryz.prog 216 ⟨false,1,8,[.v (.pointer none)],[],false,none,none,8,[],false,[218]⟩:=⟨by kernel_rfl,rfl,rfl,by kernel_rfl,(fun h=>by cases h),by kernel_rfl⟩
theorem fit217:FitsOne Tryz.prog 217 ⟨true,1,16,[.str []],[(0,1)],false,none,none,6,[],false,[]⟩:=⟨by kernel_rfl,rfl,rfl,by kernel_rfl,(fun h=>by cases h),by kernel_rfl⟩
theorem fit218:FitsOne Tryz.prog 218 ⟨true,1,16,[.str []],[(0,1)],false,none,none,6,[],false,[]⟩:=⟨by kernel_rfl,rfl,rfl,by kernel_rfl,(fun h=>by cases h),by kernel_rfl⟩
theorem fit220:FitsOne Tryz.prog 220 ⟨true,24,24,[.v (.int .u8 0),.v (.int .u8 0),.v (.int .u8 0),.v (.int .u8 0),.v (.int .u8 0),.v (.int .u8 0),.v (.int .u8 0),.v (.int .u8 0),.v (.int .u8 0),.v (.int .u8 0),.v (.int .u8 0),.v (.int .u8 0),.v (.int .u8 0),.v (.int .u8 0),.v (.int .u8 0),.v (.int .u8 0),.v (.int .u8 0),.v (.int .u8 0),.v (.int .u8 0),.v (.int .u8 0),.v (.int .u8 0),.v (.int .u8 0),.v (.int .u8 0),.v (.int .u8 0)],[],false,none,(some 5),4,[],false,[24]⟩:=⟨by kernel_rfl,rfl,rfl,by kernel_rfl,(fun h=>by cases h),by kernel_rfl⟩
theorem fit225:FitsOne Tryz.prog 225 ⟨true,20,160,[.v (.int .u64 0),.v (.int .u64 0),.v (.int .u64 0),.v (.int .u64 0),.v (.int .u64 0),.v (.int .u64 0),.v (.int .u64 0),.v (.int .u64 0),.v (.int .u64 0),.v (.int .u64 0),.v (.int .u64 0),.v (.int .u64 0),.v (.int .u64 0),.v (.int .u64 0),.v (.int .u64 0),.v (.int .u64 0),.v (.int .u64 0),.v (.int .u64 0),.v (.int .u64 0),.v (.int .u64 0)],[],false,none,(some 134),4,[],false,[20]⟩:=⟨by kernel_rfl,rfl,rfl,by kernel_rfl,(fun h=>by cases h),by kernel_rfl⟩
theorem fit227:FitsOne Tryz.prog 227 ⟨true,32,32,[.v (.int .u8 0),.v (.int .u8 0),.v (.int .u8 0),.v (.int .u8 0),.v (.int .u8 0),.v (.int .u8 0),.v (.int .u8 0),.v (.int .u8 0),.v (.int .u8 0),.v (.int .u8 0),.v (.int .u8 0),.v (.int .u8 0),.v (.int .u8 0),.v (.int .u8 0),.v (.int .u8 0),.v (.int .u8 0),.v (.int .u8 0),.v (.int .u8 0),.v (.int .u8 0),.v (.int .u8 0),.v (.int .u8 0),.v (.int .u8 0),.v (.int .u8 0),.v (.int .u8 0),.v (.int .u8 0),.v (.int .u8 0),.v (.int .u8 0),.v (.int .u8 0),.v (.int .u8 0),.v (.int .u8 0),.v (.int .u8 0),.v (.int .u8 0)],[],false,none,(some 5),4,[],false,[32]⟩:=⟨by kernel_rfl,rfl,rfl,by kernel_rfl,(fun h=>by cases h),by kernel_rfl⟩
theorem fit229:FitsOne Tryz.prog 229 ⟨false,1,8,[.v (.pointer none)],[],false,none,none,8,[],false,[245]⟩:=⟨by kernel_rfl,rfl,rfl,by kernel_rfl,(fun h=>by cases h),by kernel_rfl⟩
theorem fit230:FitsOne Tryz.prog 230 ⟨false,1,8,[.v (.pointer none)],[],false,none,none,8,[],false,[248]⟩:=⟨by kernel_rfl,rfl,rfl,by kernel_rfl,(fun h=>by cases h),by kernel_rfl⟩
theorem fit231:FitsOne Tryz.prog 231 ⟨true,4,40,[.v (.pointer none),.v (.pointer none),.v (.pointer none),.str []],[(0,1),(1,1),(2,1),(3,1)],false,none,none,6,[],false,[]⟩:=⟨by kernel_rfl,rfl,rfl,by kernel_rfl,(fun h=>by cases h),by kernel_rfl⟩
theorem fit232:FitsOne Tryz.prog 232 ⟨true,4,40,[.v (.pointer none),.v (.pointer none),.v (.pointer none),.str []],[(0,1),(1,1),(2,1),(3,1)],false,none,none,6,[],false,[]⟩:=⟨by kernel_rfl,rfl,rfl,by kernel_rfl,(fun h=>by cases h),by kernel_rfl⟩
theorem fit233:FitsOne Tryz.prog 233 ⟨true,0,0,[],[],false,none,(some 16),4,[],false,[0]⟩:=⟨by kernel_rfl,rfl,rfl,by kernel_rfl,(fun h=>by cases h),by kernel_rfl⟩
theorem fit234:FitsOne Tryz.prog 234 ⟨true,0,0,[],[(0,0)],false,none,none,6,[],false,[]⟩:=⟨by kernel_rfl,rfl,rfl,by kernel_rfl,(fun h=>by cases h),by kernel_rfl⟩
theorem fit235:FitsOne Tryz.prog 235 ⟨true,0,0,[],[(0,0)],false,none,none,6,[],false,[]⟩:=⟨by kernel_rfl,rfl,rfl,by kernel_rfl,(fun h=>by cases h),by kernel_rfl⟩
theorem fit237:FitsOne Tryz.prog 237 ⟨false,1,1,[.v (.int .u8 0)],[],false,(some .u8),none,5,[],false,[]⟩:=⟨by kernel_rfl,rfl,rfl,by kernel_rfl,(fun h=>by cases h),by kernel_rfl⟩
theorem fit238:FitsOne Tryz.prog 238 ⟨false,1,1,[.v (.int .u8 0)],[],false,(some .u8),none,5,[],false,[]⟩:=⟨by kernel_rfl,rfl,rfl,by kernel_rfl,(fun h=>by cases h),by kernel_rfl⟩
theorem fit240:FitsOne Tryz.prog 240 ⟨false,1,4,[.v (.int .i32 0)],[],false,(some .i32),none,5,[],false,[]⟩:=⟨by kernel_rfl,rfl,rfl,by kernel_rfl,(fun h=>by cases h),by kernel_rfl⟩
theorem fit241:FitsOne Tryz.prog 241 ⟨false,1,4,[.v (.int .i32 0)],[],false,(some .i32),none,5,[],false,[]⟩:=⟨by kernel_rfl,rfl,rfl,by kernel_rfl,(fun h=>by cases h),by kernel_rfl⟩
theorem fit244:FitsOne Tryz.prog 244 ⟨true,2,32,[.str [],.v .nilIface],[(0,1),(1,1)],false,none,none,6,[],false,[]⟩:=⟨by kernel_rfl,rfl,rfl,by kernel_rfl,(fun h=>by cases h),by kernel_rfl⟩
theorem fit245:FitsOne Tryz.prog 245 ⟨true,2,32,[.str [],.v .nilIface],[(0,1),(1,1)],false,none,none,6,[],false,[]⟩:=⟨by kernel_rfl,rfl,rfl,by kernel_rfl,(fun h=>by cases h),by kernel_rfl⟩
theorem fit246:FitsOne Tryz.prog 246 ⟨false,1,24,[.v (.slice none 0 0)],[],false,none,(some 27),3,[],false,[]⟩:=⟨by kernel_rfl,rfl,rfl,by kernel_rfl,(fun h=>by cases h),by kernel_rfl⟩
theorem fit247:FitsOne Tryz.prog 247 ⟨true,2,40,[.str [],.v (.slice none 0 0)],[(0,1),(1,1)],false,none,none,6,[],false,[]⟩:=⟨by kernel_rfl,rfl,rfl,by kernel_rfl,(fun h=>by cases h),by kernel_rfl⟩
theorem fit248:FitsOne Tryz.prog 248 ⟨true,2,40,[.str [],.v (.slice none 0 0)],[(0,1),(1,1)],false,none,none,6,[],false,[]⟩:=⟨by kernel_rfl,rfl,rfl,by kernel_rfl,(fun h=>by cases h),by kernel_rfl⟩
theorem fit249:FitsOne Tryz.prog 249 ⟨false,1,8,[.v (.pointer none)],[],false,none,none,0,[],false,[]⟩:=⟨by kernel_rfl,rfl,rfl,by kernel_rfl,(fun h=>by cases h),by kernel_rfl⟩
def tt:List (Nat×TI):=[
 (2,⟨false,1,8,[.v (.int .i64 0)],[],false,(some .i64),none,5,[],false,[]⟩),
 (3,⟨false,1,8,[.v (.int .i64 0)],[],false,(some .i64),none,5,[],false,[]⟩),
 (4,⟨false,1,1,[.v (.bool false)],[],false,none,none,1,[],false,[]⟩),
 (5,⟨false,1,1,[.v (.int .u8 0)],[],false,(some .u8),none,5,[],false,[]⟩),
 (6,⟨false,1,1,[.v (.int .u8 0)],[],false,(some .u8),none,5,[],false,[]⟩),
 (7,⟨true,4,24,[.v (.int .i64 0),.v (.int .i64 0),.v (.bool false),.v (.int .u8 0)],[(0,1),(1,1),(2,1),(3,1)],false,none,none,6,[],false,[]⟩),
 (8,⟨true,4,24,[.v (.int .i64 0),.v (.int .i64 0),.v (.bool false),.v (.int .u8 0)],[(0,1),(1,1),(2,1),(3,1)],false,none,none,6,[],false,[]⟩),
 (9,⟨false,1,16,[.str []],[],false,none,none,2,[],false,[]⟩),
 (10,⟨false,1,16,[.str []],[],false,none,none,2,[],false,[]⟩),
 (11,⟨false,1,16,[.str []],[],false,none,none,2,[],false,[]⟩),
 (12,⟨false,1,8,[.v (.int .u64 0)],[],false,(some .u64),none,5,[],false,[]⟩),
 (13,⟨true,2,24,[.str [],.v (.int .u64 0)],[(0,1),(1,1)],false,none,none,6,[],false,[]⟩),
 (14,⟨true,2,24,[.str [],.v (.int .u64 0)],[(0,1),(1,1)],false,none,none,6,[],false,[]⟩),
 (15,⟨false,1,8,[.v (.pointer none)],[],false,none,none,8,[],false,[232]⟩),
 (16,⟨false,1,8,[.v (.pointer none)],[],false,none,none,8,[],false,[235]⟩),
 (17,⟨false,1,8,[.v (.pointer none)],[],false,none,none,8,[],false,[243]⟩),
 (18,⟨true,1,8,[.v (.pointer none)],[(0,1)],false,none,none,6,[],false,[]⟩),
 (19,⟨true,1,8,[.v (.pointer none)],[(0,1)],false,none,none,6,[],false,[]⟩),
 (20,⟨false,1,16,[.v .nilIface],[],true,none,none,7,[],false,[]⟩),
 (21,⟨false,1,4,[.v (.int .i32 0)],[],false,(some .i32),none,5,[],false,[]⟩),
 (22,⟨false,1,24,[.v (.slice none 0 0)],[],false,none,(some 32),3,[],false,[]⟩),
 (23,⟨true,2,16,[.v (.int .i64 0),.v (.int .i64 0)],[(0,1),(1,1)],false,none,none,6,[],false,[]⟩),
 (24,⟨true,2,16,[.v (.int .i64 0),.v (.int .i64 0)],[(0,1),(1,1)],false,none,none,6,[3,3],true,[]⟩),
 (25,⟨false,1,24,[.v (.slice none 0 0)],[],false,none,(some 33),3,[],false,[]⟩),
 (26,⟨false,1,16,[.v .nilIface],[],true,none,none,7,[],false,[]⟩),
 (27,⟨false,1,16,[.v .nilIface],[],true,none,none,7,[],false,[]⟩),
 (31,⟨true,3,32,[.v (.int .i64 0),.v (.int .i64 0),.str []],[(0,2),(2,1)],false,none,none,6,[],false,[]⟩),
 (32,⟨true,3,32,[.v (.int .i64 0),.v (.int .i64 0),.str []],[(0,2),(2,1)],false,none,none,6,[24,9],true,[]⟩),
 (33,⟨true,4,32,[.v (.int .i64 0),.v (.int .i64 0),.v (.int .i64 0),.v (.int .i64 0)],[],false,none,(some 24),4,[],false,[2]⟩),
 (36,⟨false,1,24,[.v (.slice none 0 0)],[],false,none,(some 39),3,[],false,[]⟩),
 (39,⟨false,1,24,[.v (.slice none 0 0)],[],false,none,(some 24),3,[],false,[]⟩),
 (48,⟨false,1,24,[.v (.slice none 0 0)],[],false,none,(some 3),3,[],false,[]⟩),
 (52,⟨false,1,8,[.v (.pointer none)],[],false,none,none,8,[],false,[60]⟩),
 (55,⟨false,1,8,[.v (.map none)],[],false,none,none,9,[],false,[24,9]⟩),
 (56,⟨false,1,8,[.v (.map none)],[],false,none,none,9,[],false,[24,74]⟩),
 (57,⟨false,1,8,[.v (.map none)],[],false,none,none,9,[],false,[24,39]⟩),
 (58,⟨false,1,8,[.v (.map none)],[],false,none,none,9,[],false,[24,3]⟩),
 (59,⟨true,6,80,[.v (.slice none 0 0),.v (.map none),.v (.map none),.v (.map none),.v (.slice none 0 0),.v (.map none)],[(0,1),(1,1),(2,1),(3,1),(4,1),(5,1)],false,none,none,6,[],false,[]⟩),
 (60,⟨true,6,80,[.v (.slice none 0 0),.v (.map none),.v (.map none),.v (.map none),.v (.slice none 0 0),.v (.map none)],[(0,1),(1,1),(2,1),(3,1),(4,1),(5,1)],false,none,none,6,[],false,[]⟩),
 (63,⟨false,1,8,[.v (.int .i64 0)],[],false,(some .i64),none,5,[],false,[]⟩),
 (64,⟨false,1,8,[.v (.map none)],[],false,none,none,9,[],false,[24,4]⟩),
 (70,⟨true,4,24,[.v (.int .i64 0),.v (.int .i64 0),.v (.bool false),.v (.bool false)],[(0,2),(2,1),(3,1)],false,none,none,6,[],false,[]⟩),
 (71,⟨true,4,24,[.v (.int .i64 0),.v (.int .i64 0),.v (.bool false),.v (.bool false)],[(0,2),(2,1),(3,1)],false,none,none,6,[24,4,4],true,[]⟩),
 (72,⟨false,1,24,[.v (.slice none 0 0)],[],false,none,(some 74),3,[],false,[]⟩),
 (73,⟨true,12,104,[.v (.int .i64 0),.v (.int .i64 0),.str [],.v (.int .i64 0),.v (.int .i64 0),.v (.bool false),.v (.bool false),.v (.int .i64 0),.v (.int .i64 0),.v (.bool false),.v (.bool false),.v (.slice none 0 0)],[(0,1),(1,1),(2,1),(3,4),(7,4),(11,1)],false,none,none,6,[],false,[]⟩),
 (74,⟨true,12,104,[.v (.int .i64 0),.v (.int .i64 0),.str [],.v (.int .i64 0),.v (.int .i64 0),.v (.bool false),.v (.bool false),.v (.int .i64 0),.v (.int .i64 0),.v (.bool false),.v (.bool false),.v (.slice none 0 0)],[(0,1),(1,1),(2,1),(3,4),(7,4),(11,1)],false,none,none,6,[],false,[]⟩),
 (78,⟨false,1,24,[.v (.slice none 0 0)],[],false,none,(some 48),3,[],false,[]⟩),
 (83,⟨true,2,24,[.v (.int .i64 0),.v .nilIface],[(0,1),(1,1)],false,none,none,6,[],false,[]⟩),
 (84,⟨true,2,24,[.v (.int .i64 0),.v .nilIface],[(0,1),(1,1)],false,none,none,6,[],false,[]⟩),
 (86,⟨false,1,8,[.v (.pointer none)],[],false,none,none,8,[],false,[88]⟩),
 (87,⟨true,3,32,[.str [],.v (.int .i64 0),.v (.int .i64 0)],[(0,1),(1,1),(2,1)],false,none,none,6,[],false,[]⟩),
 (88,⟨true,3,32,[.str [],.v (.int .i64 0),.v (.int .i64 0)],[(0,1),(1,1),(2,1)],false,none,none,6,[9,3,3],true,[]⟩),
 (92,⟨true,4,32,[.v (.int .i64 0),.v (.int .i64 0),.v (.int .i64 0),.v (.int .i64 0)],[(0,2),(2,2)],false,none,none,6,[],false,[]⟩),
 (93,⟨true,4,32,[.v (.int .i64 0),.v (.int .i64 0),.v (.int .i64 0),.v (.int .i64 0)],[(0,2),(2,2)],false,none,none,6,[24,24],true,[]⟩),
 (100,⟨true,3,24,[.v (.int .i64 0),.v (.int .i64 0),.v (.int .i64 0)],[(0,2),(2,1)],false,none,none,6,[],false,[]⟩),
 (101,⟨true,3,24,[.v (.int .i64 0),.v (.int .i64 0),.v (.int .i64 0)],[(0,2),(2,1)],false,none,none,6,[24,3],true,[]⟩),
 (103,⟨false,1,24,[.v (.slice none 0 0)],[],false,none,(some 101),3,[],false,[]⟩),
 (104,⟨false,1,8,[.v (.pointer none)],[],false,none,none,8,[],false,[101]⟩),
 (112,⟨false,1,24,[.v (.slice none 0 0)],[],false,none,(some 9),3,[],false,[]⟩),
 (113,⟨true,4,96,[.v (.slice none 0 0),.v (.slice none 0 0),.v (.slice none 0 0),.v (.slice none 0 0)],[],false,none,(some 112),4,[],false,[4]⟩),
 (118,⟨false,1,8,[.v (.int .u64 0)],[],false,(some .u64),none,5,[],false,[]⟩),
 (125,⟨false,1,8,[.v (.int .i64 0)],[],false,(some .i64),none,5,[],false,[]⟩),
 (132,⟨false,1,4,[.v (.int .u32 0)],[],false,(some .u32),none,5,[],false,[]⟩),
 (134,⟨false,1,8,[.v (.int .u64 0)],[],false,(some .u64),none,5,[],false,[]⟩),
 (147,⟨true,3,32,[.v (.int .i64 0),.v (.int .i64 0),.str []],[(0,1),(1,1),(2,1)],false,none,none,6,[],false,[]⟩),
 (148,⟨true,3,32,[.v (.int .i64 0),.v (.int .i64 0),.str []],[(0,1),(1,1),(2,1)],false,none,none,6,[3,3,9],true,[]⟩),
 (156,⟨false,1,8,[.v (.int .u64 0)],[],false,(some .u64),none,5,[],false,[]⟩),
 (160,⟨false,1,8,[.v (.pointer none)],[],false,none,none,8,[],false,[3]⟩),
 (166,⟨false,1,24,[.v (.slice none 0 0)],[],false,none,(some 5),3,[],false,[]⟩),
 (168,⟨true,7,112,[.str [],.str [],.str [],.str [],.str [],.str [],.str []],[],false,none,(some 9),4,[],false,[7]⟩),
 (174,⟨false,1,8,[.v (.pointer none)],[],false,none,none,8,[],false,[156]⟩),
 (180,⟨true,256,256,List.replicate 256 (.v (.bool false)),[],false,none,(some 4),4,[],false,[256]⟩),
 (181,⟨true,256,256,List.replicate 256 (.v (.bool false)),[],false,none,(some 4),4,[],false,[256]⟩),
 (185,⟨false,1,8,[.v (.pointer none)],[],false,none,none,8,[],false,[181]⟩),
 (194,⟨false,1,8,[.v (.int .i64 0)],[],false,(some .i64),none,5,[],false,[]⟩),
 (197,⟨false,1,8,[.v (.pointer none)],[],false,none,none,8,[],false,[212]⟩),
 (201,⟨true,2,2,[.v (.int .u8 0),.v (.int .u8 0)],[(0,1),(1,1)],false,none,none,6,[],false,[]⟩),
 (202,⟨true,2,2,[.v (.int .u8 0),.v (.int .u8 0)],[(0,1),(1,1)],false,none,none,6,[],false,[]⟩),
 (203,⟨true,32,32,[.v (.int .u8 0),.v (.int .u8 0),.v (.int .u8 0),.v (.int .u8 0),.v (.int .u8 0),.v (.int .u8 0),.v (.int .u8 0),.v (.int .u8 0),.v (.int .u8 0),.v (.int .u8 0),.v (.int .u8 0),.v (.int .u8 0),.v (.int .u8 0),.v (.int .u8 0),.v (.int .u8 0),.v (.int .u8 0),.v (.int .u8 0),.v (.int .u8 0),.v (.int .u8 0),.v (.int .u8 0),.v (.int .u8 0),.v (.int .u8 0),.v (.int .u8 0),.v (.int .u8 0),.v (.int .u8 0),.v (.int .u8 0),.v (.int .u8 0),.v (.int .u8 0),.v (.int .u8 0),.v (.int .u8 0),.v (.int .u8 0),.v (.int .u8 0)],[],false,none,(some 202),4,[],false,[16]⟩),
 (211,⟨true,3,48,[.str [],.str [],.v .nilIface],[(0,1),(1,1),(2,1)],false,none,none,6,[],false,[]⟩),
 (212,⟨true,3,48,[.str [],.str [],.v .nilIface],[(0,1),(1,1),(2,1)],false,none,none,6,[],false,[]⟩),
 (215,⟨false,1,8,[.v (.pointer none)],[],false,none,none,8,[],false,[5]⟩),
 (216,⟨false,1,8,[.v (.pointer none)],[],false,none,none,8,[],false,[218]⟩),
 (217,⟨true,1,16,[.str []],[(0,1)],false,none,none,6,[],false,[]⟩),
 (218,⟨true,1,16,[.str []],[(0,1)],false,none,none,6,[],false,[]⟩),
 (220,⟨true,24,24,[.v (.int .u8 0),.v (.int .u8 0),.v (.int .u8 0),.v (.int .u8 0),.v (.int .u8 0),.v (.int .u8 0),.v (.int .u8 0),.v (.int .u8 0),.v (.int .u8 0),.v (.int .u8 0),.v (.int .u8 0),.v (.int .u8 0),.v (.int .u8 0),.v (.int .u8 0),.v (.int .u8 0),.v (.int .u8 0),.v (.int .u8 0),.v (.int .u8 0),.v (.int .u8 0),.v (.int .u8 0),.v (.int .u8 0),.v (.int .u8 0),.v (.int .u8 0),.v (.int .u8 0)],[],false,none,(some 5),4,[],false,[24]⟩),
 (225,⟨true,20,160,[.v (.int .u64 0),.v (.int .u64 0),.v (.int .u64 0),.v (.int .u64 0),.v (.int .u64 0),.v (.int .u64 0),.v (.int .u64 0),.v (.int .u64 0),.v (.int .u64 0),.v (.int .u64 0),.v (.int .u64 0),.v (.int .u64 0),.v (.int .u64 0),.v (.int .u64 0),.v (.int .u64 0),.v (.int .u64 0),.v (.int .u64 0),.v (.int .u64 0),.v (.int .u64 0),.v (.int .u64 0)],[],false,none,(some 134),4,[],false,[20]⟩),
 (227,⟨true,32,32,[.v (.int .u8 0),.v (.int .u8 0),.v (.int .u8 0),.v (.int .u8 0),.v (.int .u8 0),.v (.int .u8 0),.v (.int .u8 0),.v (.int .u8 0),.v (.int .u8 0),.v (.int .u8 0),.v (.int .u8 0),.v (.int .u8 0),.v (.int .u8 0),.v (.int .u8 0),.v (.int .u8 0),.v (.int .u8 0),.v (.int .u8 0),.v (.int .u8 0),.v (.int .u8 0),.v (.int .u8 0),.v (.int .u8 0),.v (.int .u8 0),.v (.int .u8 0),.v (.int .u8 0),.v (.int .u8 0),.v (.int .u8 0),.v (.int .u8 0),.v (.int .u8 0),.v (.int .u8 0),.v (.int .u8 0),.v (.int .u8 0),.v (.int .u8 0)],[],false,none,(some 5),4,[],false,[32]⟩),
 (229,⟨false,1,8,[.v (.pointer none)],[],false,none,none,8,[],false,[245]⟩),
 (230,⟨false,1,8,[.v (.pointer none)],[],false,none,none,8,[],false,[248]⟩),
 (231,⟨true,4,40,[.v (.pointer none),.v (.pointer none),.v (.pointer none),.str []],[(0,1),(1,1),(2,1),(3,1)],false,none,none,6,[],false,[]⟩),
 (232,⟨true,4,40,[.v (.pointer none),.v (.pointer none),.v (.pointer none),.str []],[(0,1),(1,1),(2,1),(3,1)],false,none,none,6,[],false,[]⟩),
 (233,⟨true,0,0,[],[],false,none,(some 16),4,[],false,[0]⟩),
 (234,⟨true,0,0,[],[(0,0)],false,none,none,6,[],false,[]⟩),
 (235,⟨true,0,0,[],[(0,0)],false,none,none,6,[],false,[]⟩),
 (237,⟨false,1,1,[.v (.int .u8 0)],[],false,(some .u8),none,5,[],false,[]⟩),
 (238,⟨false,1,1,[.v (.int .u8 0)],[],false,(some .u8),none,5,[],false,[]⟩),
 (240,⟨false,1,4,[.v (.int .i32 0)],[],false,(some .i32),none,5,[],false,[]⟩),
 (241,⟨false,1,4,[.v (.int .i32 0)],[],false,(some .i32),none,5,[],false,[]⟩),
 (244,⟨true,2,32,[.str [],.v .nilIface],[(0,1),(1,1)],false,none,none,6,[],false,[]⟩),
 (245,⟨true,2,32,[.str [],.v .nilIface],[(0,1),(1,1)],false,none,none,6,[],false,[]⟩),
 (246,⟨false,1,24,[.v (.slice none 0 0)],[],false,none,(some 27),3,[],false,[]⟩),
 (247,⟨true,2,40,[.str [],.v (.slice none 0 0)],[(0,1),(1,1)],false,none,none,6,[],false,[]⟩),
 (248,⟨true,2,40,[.str [],.v (.slice none 0 0)],[(0,1),(1,1)],false,none,none,6,[],false,[]⟩),
 (249,⟨false,1,8,[.v (.pointer none)],[],false,none,none,0,[],false,[]⟩)]
theorem fits:Fits Tryz.prog tt :=
 fits_cons fit2 (
 fits_cons fit3 (
 fits_cons fit4 (
 fits_cons fit5 (
 fits_cons fit6 (
 fits_cons fit7 (
 fits_cons fit8 (
 fits_cons fit9 (
 fits_cons fit10 (
 fits_cons fit11 (
 fits_cons fit12 (
 fits_cons fit13 (
 fits_cons fit14 (
 fits_cons fit15 (
 fits_cons fit16 (
 fits_cons fit17 (
 fits_cons fit18 (
 fits_cons fit19 (
 fits_cons fit20 (
 fits_cons fit21 (
 fits_cons fit22 (
 fits_cons fit23 (
 fits_cons fit24 (
 fits_cons fit25 (
 fits_cons fit26 (
 fits_cons fit27 (
 fits_cons fit31 (
 fits_cons fit32 (
 fits_cons fit33 (
 fits_cons fit36 (
 fits_cons fit39 (
 fits_cons fit48 (
 fits_cons fit52 (
 fits_cons fit55 (
 fits_cons fit56 (
 fits_cons fit57 (
 fits_cons fit58 (
 fits_cons fit59 (
 fits_cons fit60 (
 fits_cons fit63 (
 fits_cons fit64 (
 fits_cons fit70 (
 fits_cons fit71 (
 fits_cons fit72 (
 fits_cons fit73 (
 fits_cons fit74 (
 fits_cons fit78 (
 fits_cons fit83 (
 fits_cons fit84 (
 fits_cons fit86 (
 fits_cons fit87 (
 fits_cons fit88 (
 fits_cons fit92 (
 fits_cons fit93 (
 fits_cons fit100 (
 fits_cons fit101 (
 fits_cons fit103 (
 fits_cons fit104 (
 fits_cons fit112 (
 fits_cons fit113 (
 fits_cons fit118 (
 fits_cons fit125 (
 fits_cons fit132 (
 fits_cons fit134 (
 fits_cons fit147 (
 fits_cons fit148 (
 fits_cons fit156 (
 fits_cons fit160 (
 fits_cons fit166 (
 fits_cons fit168 (
 fits_cons fit174 (
 fits_cons fit180 (
 fits_cons fit181 (
 fits_cons fit185 (
 fits_cons fit194 (
 fits_cons fit197 (
 fits_cons fit201 (
 fits_cons fit202 (
 fits_cons fit203 (
 fits_cons fit211 (
 fits_cons fit212 (
 fits_cons fit215 (
 fits_cons fit216 (
 fits_cons fit217 (
 fits_cons fit218 (
 fits_cons fit220 (
 fits_cons fit225 (
 fits_cons fit227 (
 fits_cons fit229 (
 fits_cons fit230 (
 fits_cons fit231 (
 fits_cons fit232 (
 fits_cons fit233 (
 fits_cons fit234 (
 fits_cons fit235 (
 fits_cons fit237 (
 fits_cons fit238 (
 fits_cons fit240 (
 fits_cons fit241 (
 fits_cons fit244 (
 fits_cons fit245 (
 fits_cons fit246 (
 fits_cons fit247 (
 fits_cons fit248 (
 fits_cons fit249 (
 fits_nil)))))))))))))))))))))))))))))))))))))))))))))))))))))))))))))))))))))))))))))))))))))))))))))))))))))))))
theorem mixed:Tryz.prog.follows .mixedOrders=true:=by kernel_rfl
end Go.Proofs.YtaheflnnigocgaaGreatDoor
end
