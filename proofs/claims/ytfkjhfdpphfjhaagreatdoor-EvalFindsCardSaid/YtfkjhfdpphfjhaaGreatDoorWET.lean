/- Proved: a part of what the law is proved with (the reckoner, contracts of functions, plain laws). Conditions: as each says. -/
import Derived.Test.YtfkjhfdpphfjhaaGreatDoorProg
import Derived.Test.YtfkjhfdpphfjhaaGreatDoorWEq
section
namespace Go.Proofs.YtfkjhfdpphfjhaaGreatDoor
open Go.EYtfkjhfdpphfjhaaGreatDoor
theorem fit2:FitsOne Tryz.prog 2 ⟨false,1,8,[.v (.int .i64 0)],[],false,(some .i64),none,5,[],false,[]⟩:=⟨by kernel_rfl,rfl,rfl,by kernel_rfl,(fun h=>by cases h),by kernel_rfl⟩
theorem fit3:FitsOne Tryz.prog 3 ⟨false,1,8,[.v (.int .i64 0)],[],false,(some .i64),none,5,[],false,[]⟩:=⟨by kernel_rfl,rfl,rfl,by kernel_rfl,(fun h=>by cases h),by kernel_rfl⟩
theorem fit4:FitsOne Tryz.prog 4 ⟨false,1,1,[.v (.bool false)],[],false,none,none,1,[],false,[]⟩:=⟨by kernel_rfl,rfl,rfl,by kernel_rfl,(fun h=>by cases h),by kernel_rfl⟩
theorem fit5:FitsOne Tryz.prog 5 ⟨false,1,1,[.v (.int .u8 0)],[],false,(some .u8),none,5,[],false,[]⟩:=⟨by kernel_rfl,rfl,rfl,by kernel_rfl,(fun h=>by cases h),by kernel_rfl⟩
theorem fit6:FitsOne Tryz.prog 6 ⟨false,1,1,[.v (.int .u8 0)],[],false,(some .u8),none,5,[],false,[]⟩:=⟨by kernel_rfl,rfl,rfl,by kernel_rfl,(fun h=>by cases h),by kernel_rfl⟩
theorem fit7:FitsOne Tryz.prog 7 ⟨true,4,24,[.v (.int .i64 0),.v (.int .i64 0),.v (.bool false),.v (.int .u8 0)],[(0,1),(1,1),(2,1),(3,1)],false,none,none,6,[],false,[]⟩:=⟨by kernel_rfl,rfl,rfl,by kernel_rfl,(fun h=>by cases h),by kernel_rfl⟩
theorem fit8:FitsOne Tryz.prog 8 ⟨true,4,24,[.v (.int .i64 0),.v (.int .i64 0),.v (.bool false),.v (.int .u8 0)],[(0,1),(1,1),(2,1),(3,1)],false,none,none,6,[],false,[]⟩:=⟨by kernel_rfl,rfl,rfl,by kernel_rfl,(fun h=>by cases h),by kernel_rfl⟩
theorem fit9:FitsOne Tryz.prog 9 ⟨false,1,16,[.str []],[],false,none,none,2,[],false,[]⟩:=⟨by kernel_rfl,rfl,rfl,by kernel_rfl,(fun h=>by cases h),by kernel_rfl⟩
theorem fit10:FitsOne Tryz.prog 10 ⟨false,1,16,[.str []],[],false,none,none,2,[],false,[]⟩:=⟨by kernel_rfl,rfl,rfl,by kernel_rfl,(fun h=>by cases h),by kernel_rfl⟩
theorem fit11:FitsOne Tryz.prog 11 ⟨false,1,16,[.str []],[],false,none,none,2,[],false,[]⟩:=⟨by kernel_rfl,rfl,rfl,by kernel_rfl,(fun h=>by cases h),by kernel_rfl⟩
theorem fit12:FitsOne Tryz.prog 12 ⟨false,1,8,[.v (.int .u64 0)],[],false,(some .u64),none,5,[],false,[]⟩:=⟨by kernel_rfl,rfl,rfl,by kernel_rfl,(fun h=>by cases h),by kernel_rfl⟩
theorem fit13:FitsOne Tryz.prog 13 ⟨true,2,24,[.str [],.v (.int .u64 0)],[(0,1),(1,1)],false,none,none,6,[],false,[]⟩:=⟨by kernel_rfl,rfl,rfl,by kernel_rfl,(fun h=>by cases h),by kernel_rfl⟩
theorem fit14:FitsOne Tryz.prog 14 ⟨true,2,24,[.str [],.v (.int .u64 0)],[(0,1),(1,1)],false,none,none,6,[],false,[]⟩:=⟨by kernel_rfl,rfl,rfl,by kernel_rfl,(fun h=>by cases h),by kernel_rfl⟩
theorem fit15:FitsOne Tryz.prog 15 ⟨false,1,8,[.v (.pointer none)],[],false,none,none,8,[],false,[318]⟩:=⟨by kernel_rfl,rfl,rfl,by kernel_rfl,(fun h=>by cases h),by kernel_rfl⟩
theorem fit16:FitsOne Tryz.prog 16 ⟨false,1,8,[.v (.pointer none)],[],false,none,none,8,[],false,[321]⟩:=⟨by kernel_rfl,rfl,rfl,by kernel_rfl,(fun h=>by cases h),by kernel_rfl⟩
theorem fit17:FitsOne Tryz.prog 17 ⟨false,1,8,[.v (.pointer none)],[],false,none,none,8,[],false,[328]⟩:=⟨by kernel_rfl,rfl,rfl,by kernel_rfl,(fun h=>by cases h),by kernel_rfl⟩
theorem fit18:FitsOne Tryz.prog 18 ⟨true,1,8,[.v (.pointer none)],[(0,1)],false,none,none,6,[],false,[]⟩:=⟨by kernel_rfl,rfl,rfl,by kernel_rfl,(fun h=>by cases h),by kernel_rfl⟩
theorem fit19:FitsOne Tryz.prog 19 ⟨true,1,8,[.v (.pointer none)],[(0,1)],false,none,none,6,[],false,[]⟩:=⟨by kernel_rfl,rfl,rfl,by kernel_rfl,(fun h=>by cases h),by kernel_rfl⟩
theorem fit20:FitsOne Tryz.prog 20 ⟨false,1,16,[.v .nilIface],[],true,none,none,7,[],false,[]⟩:=⟨by kernel_rfl,rfl,rfl,by kernel_rfl,(fun h=>by cases h),by kernel_rfl⟩
theorem fit21:FitsOne Tryz.prog 21 ⟨false,1,4,[.v (.int .i32 0)],[],false,(some .i32),none,5,[],false,[]⟩:=⟨by kernel_rfl,rfl,rfl,by kernel_rfl,(fun h=>by cases h),by kernel_rfl⟩
theorem fit22:FitsOne Tryz.prog 22 ⟨true,2,16,[.v (.int .i64 0),.v (.int .i64 0)],[(0,1),(1,1)],false,none,none,6,[],false,[]⟩:=⟨by kernel_rfl,rfl,rfl,by kernel_rfl,(fun h=>by cases h),by kernel_rfl⟩
theorem fit23:FitsOne Tryz.prog 23 ⟨true,2,16,[.v (.int .i64 0),.v (.int .i64 0)],[(0,1),(1,1)],false,none,none,6,[3,3],true,[]⟩:=⟨by kernel_rfl,rfl,rfl,by kernel_rfl,fun _=>⟨by kernel_rfl,rfl,by kernel_rfl,by kernel_rfl,rfl⟩,by kernel_rfl⟩
theorem fit24:FitsOne Tryz.prog 24 ⟨true,4,24,[.v (.int .i64 0),.v (.int .i64 0),.v (.bool false),.v (.bool false)],[(0,2),(2,1),(3,1)],false,none,none,6,[],false,[]⟩:=⟨by kernel_rfl,rfl,rfl,by kernel_rfl,(fun h=>by cases h),by kernel_rfl⟩
theorem fit25:FitsOne Tryz.prog 25 ⟨true,4,24,[.v (.int .i64 0),.v (.int .i64 0),.v (.bool false),.v (.bool false)],[(0,2),(2,1),(3,1)],false,none,none,6,[23,4,4],true,[]⟩:=⟨by kernel_rfl,rfl,rfl,by kernel_rfl,fun _=>⟨by kernel_rfl,rfl,by kernel_rfl,by kernel_rfl,rfl⟩,by kernel_rfl⟩
theorem fit26:FitsOne Tryz.prog 26 ⟨false,1,24,[.v (.slice none 0 0)],[],false,none,(some 28),3,[],false,[]⟩:=⟨by kernel_rfl,rfl,rfl,by kernel_rfl,(fun h=>by cases h),by kernel_rfl⟩
theorem fit27:FitsOne Tryz.prog 27 ⟨true,12,104,[.v (.int .i64 0),.v (.int .i64 0),.str [],.v (.int .i64 0),.v (.int .i64 0),.v (.bool false),.v (.bool false),.v (.int .i64 0),.v (.int .i64 0),.v (.bool false),.v (.bool false),.v (.slice none 0 0)],[(0,1),(1,1),(2,1),(3,4),(7,4),(11,1)],false,none,none,6,[],false,[]⟩:=⟨by kernel_rfl,rfl,rfl,by kernel_rfl,(fun h=>by cases h),by kernel_rfl⟩
theorem fit28:FitsOne Tryz.prog 28 ⟨true,12,104,[.v (.int .i64 0),.v (.int .i64 0),.str [],.v (.int .i64 0),.v (.int .i64 0),.v (.bool false),.v (.bool false),.v (.int .i64 0),.v (.int .i64 0),.v (.bool false),.v (.bool false),.v (.slice none 0 0)],[(0,1),(1,1),(2,1),(3,4),(7,4),(11,1)],false,none,none,6,[],false,[]⟩:=⟨by kernel_rfl,rfl,rfl,by kernel_rfl,(fun h=>by cases h),by kernel_rfl⟩
theorem fit29:FitsOne Tryz.prog 29 ⟨false,1,24,[.v (.slice none 0 0)],[],false,none,(some 40),3,[],false,[]⟩:=⟨by kernel_rfl,rfl,rfl,by kernel_rfl,(fun h=>by cases h),by kernel_rfl⟩
theorem fit30:FitsOne Tryz.prog 30 ⟨true,3,32,[.v (.int .i64 0),.v (.int .i64 0),.str []],[(0,1),(1,1),(2,1)],false,none,none,6,[],false,[]⟩:=⟨by kernel_rfl,rfl,rfl,by kernel_rfl,(fun h=>by cases h),by kernel_rfl⟩
theorem fit31:FitsOne Tryz.prog 31 ⟨true,3,32,[.v (.int .i64 0),.v (.int .i64 0),.str []],[(0,1),(1,1),(2,1)],false,none,none,6,[3,3,9],true,[]⟩:=⟨by kernel_rfl,rfl,rfl,by kernel_rfl,fun _=>⟨by kernel_rfl,rfl,by kernel_rfl,by kernel_rfl,rfl⟩,by kernel_rfl⟩
theorem fit32:FitsOne Tryz.prog 32 ⟨false,1,16,[.v .nilIface],[],true,none,none,7,[],false,[]⟩:=⟨by kernel_rfl,rfl,rfl,by kernel_rfl,(fun h=>by cases h),by kernel_rfl⟩
theorem fit33:FitsOne Tryz.prog 33 ⟨false,1,16,[.v .nilIface],[],true,none,none,7,[],false,[]⟩:=⟨by kernel_rfl,rfl,rfl,by kernel_rfl,(fun h=>by cases h),by kernel_rfl⟩
theorem fit39:FitsOne Tryz.prog 39 ⟨true,7,64,[.v (.int .i64 0),.v (.int .i64 0),.v (.int .i64 0),.v (.int .i64 0),.str [],.v (.int .i64 0),.v (.int .i64 0)],[(0,2),(2,3),(5,1),(6,1)],false,none,none,6,[],false,[]⟩:=⟨by kernel_rfl,rfl,rfl,by kernel_rfl,(fun h=>by cases h),by kernel_rfl⟩
theorem fit40:FitsOne Tryz.prog 40 ⟨true,7,64,[.v (.int .i64 0),.v (.int .i64 0),.v (.int .i64 0),.v (.int .i64 0),.str [],.v (.int .i64 0),.v (.int .i64 0)],[(0,2),(2,3),(5,1),(6,1)],false,none,none,6,[23,31,3,3],true,[]⟩:=⟨by kernel_rfl,rfl,rfl,by kernel_rfl,fun _=>⟨by kernel_rfl,rfl,by kernel_rfl,by kernel_rfl,rfl⟩,by kernel_rfl⟩
theorem fit42:FitsOne Tryz.prog 42 ⟨false,1,24,[.v (.slice none 0 0)],[],false,none,(some 23),3,[],false,[]⟩:=⟨by kernel_rfl,rfl,rfl,by kernel_rfl,(fun h=>by cases h),by kernel_rfl⟩
theorem fit46:FitsOne Tryz.prog 46 ⟨false,1,24,[.v (.slice none 0 0)],[],false,none,(some 31),3,[],false,[]⟩:=⟨by kernel_rfl,rfl,rfl,by kernel_rfl,(fun h=>by cases h),by kernel_rfl⟩
theorem fit54:FitsOne Tryz.prog 54 ⟨false,1,24,[.v (.slice none 0 0)],[],false,none,(some 9),3,[],false,[]⟩:=⟨by kernel_rfl,rfl,rfl,by kernel_rfl,(fun h=>by cases h),by kernel_rfl⟩
theorem fit65:FitsOne Tryz.prog 65 ⟨false,1,8,[.v (.pointer none)],[],false,none,none,8,[],false,[68]⟩:=⟨by kernel_rfl,rfl,rfl,by kernel_rfl,(fun h=>by cases h),by kernel_rfl⟩
theorem fit73:FitsOne Tryz.prog 73 ⟨false,1,8,[.v (.int .i64 0)],[],false,(some .i64),none,5,[],false,[]⟩:=⟨by kernel_rfl,rfl,rfl,by kernel_rfl,(fun h=>by cases h),by kernel_rfl⟩
theorem fit74:FitsOne Tryz.prog 74 ⟨true,2,24,[.v (.int .i64 0),.v .nilIface],[(0,1),(1,1)],false,none,none,6,[],false,[]⟩:=⟨by kernel_rfl,rfl,rfl,by kernel_rfl,(fun h=>by cases h),by kernel_rfl⟩
theorem fit75:FitsOne Tryz.prog 75 ⟨true,2,24,[.v (.int .i64 0),.v .nilIface],[(0,1),(1,1)],false,none,none,6,[],false,[]⟩:=⟨by kernel_rfl,rfl,rfl,by kernel_rfl,(fun h=>by cases h),by kernel_rfl⟩
theorem fit77:FitsOne Tryz.prog 77 ⟨false,1,8,[.v (.pointer none)],[],false,none,none,8,[],false,[79]⟩:=⟨by kernel_rfl,rfl,rfl,by kernel_rfl,(fun h=>by cases h),by kernel_rfl⟩
theorem fit78:FitsOne Tryz.prog 78 ⟨true,3,32,[.str [],.v (.int .i64 0),.v (.int .i64 0)],[(0,1),(1,1),(2,1)],false,none,none,6,[],false,[]⟩:=⟨by kernel_rfl,rfl,rfl,by kernel_rfl,(fun h=>by cases h),by kernel_rfl⟩
theorem fit79:FitsOne Tryz.prog 79 ⟨true,3,32,[.str [],.v (.int .i64 0),.v (.int .i64 0)],[(0,1),(1,1),(2,1)],false,none,none,6,[9,3,3],true,[]⟩:=⟨by kernel_rfl,rfl,rfl,by kernel_rfl,fun _=>⟨by kernel_rfl,rfl,by kernel_rfl,by kernel_rfl,rfl⟩,by kernel_rfl⟩
theorem fit84:FitsOne Tryz.prog 84 ⟨false,1,8,[.v (.map none)],[],false,none,none,9,[],false,[23,31]⟩:=⟨by kernel_rfl,rfl,rfl,by kernel_rfl,(fun h=>by cases h),by kernel_rfl⟩
theorem fit85:FitsOne Tryz.prog 85 ⟨false,1,8,[.v (.map none)],[],false,none,none,9,[],false,[23,31]⟩:=⟨by kernel_rfl,rfl,rfl,by kernel_rfl,(fun h=>by cases h),by kernel_rfl⟩
theorem fit88:FitsOne Tryz.prog 88 ⟨true,2700,2700,List.replicate 2700 (.v (.bool false)),[],false,none,(some 4),4,[],false,[2700]⟩:=⟨by kernel_rfl,by kernel_rfl,by kernel_rfl,by kernel_rfl,(fun h=>by cases h),by kernel_rfl⟩
theorem fit90:FitsOne Tryz.prog 90 ⟨false,1,8,[.v (.pointer none)],[],false,none,none,8,[],false,[88]⟩:=⟨by kernel_rfl,rfl,rfl,by kernel_rfl,(fun h=>by cases h),by kernel_rfl⟩
theorem fit105:FitsOne Tryz.prog 105 ⟨true,4,96,[.v (.slice none 0 0),.v (.slice none 0 0),.v (.slice none 0 0),.v (.slice none 0 0)],[],false,none,(some 54),4,[],false,[4]⟩:=⟨by kernel_rfl,rfl,rfl,by kernel_rfl,(fun h=>by cases h),by kernel_rfl⟩
theorem fit111:FitsOne Tryz.prog 111 ⟨true,4,32,[.v (.int .i64 0),.v (.int .i64 0),.v (.int .i64 0),.v (.int .i64 0)],[(0,2),(2,2)],false,none,none,6,[],false,[]⟩:=⟨by kernel_rfl,rfl,rfl,by kernel_rfl,(fun h=>by cases h),by kernel_rfl⟩
theorem fit112:FitsOne Tryz.prog 112 ⟨true,4,32,[.v (.int .i64 0),.v (.int .i64 0),.v (.int .i64 0),.v (.int .i64 0)],[(0,2),(2,2)],false,none,none,6,[23,23],true,[]⟩:=⟨by kernel_rfl,rfl,rfl,by kernel_rfl,fun _=>⟨by kernel_rfl,rfl,by kernel_rfl,by kernel_rfl,rfl⟩,by kernel_rfl⟩
theorem fit114:FitsOne Tryz.prog 114 ⟨false,1,8,[.v (.pointer none)],[],false,none,none,8,[],false,[118]⟩:=⟨by kernel_rfl,rfl,rfl,by kernel_rfl,(fun h=>by cases h),by kernel_rfl⟩
theorem fit116:FitsOne Tryz.prog 116 ⟨false,1,24,[.v (.slice none 0 0)],[],false,none,(some 221),3,[],false,[]⟩:=⟨by kernel_rfl,rfl,rfl,by kernel_rfl,(fun h=>by cases h),by kernel_rfl⟩
theorem fit117:FitsOne Tryz.prog 117 ⟨true,2,32,[.v (.bool false),.v (.slice none 0 0)],[(0,1),(1,1)],false,none,none,6,[],false,[]⟩:=⟨by kernel_rfl,rfl,rfl,by kernel_rfl,(fun h=>by cases h),by kernel_rfl⟩
theorem fit118:FitsOne Tryz.prog 118 ⟨true,2,32,[.v (.bool false),.v (.slice none 0 0)],[(0,1),(1,1)],false,none,none,6,[],false,[]⟩:=⟨by kernel_rfl,rfl,rfl,by kernel_rfl,(fun h=>by cases h),by kernel_rfl⟩
theorem fit128:FitsOne Tryz.prog 128 ⟨false,1,24,[.v (.slice none 0 0)],[],false,none,(some 5),3,[],false,[]⟩:=⟨by kernel_rfl,rfl,rfl,by kernel_rfl,(fun h=>by cases h),by kernel_rfl⟩
theorem fit133:FitsOne Tryz.prog 133 ⟨false,1,8,[.v (.pointer none)],[],false,none,none,8,[],false,[135]⟩:=⟨by kernel_rfl,rfl,rfl,by kernel_rfl,(fun h=>by cases h),by kernel_rfl⟩
theorem fit134:FitsOne Tryz.prog 134 ⟨true,5,48,[.str [],.v (.int .i64 0),.v (.int .i64 0),.v (.int .i64 0),.v (.int .i64 0)],[(0,1),(1,1),(2,1),(3,1),(4,1)],false,none,none,6,[],false,[]⟩:=⟨by kernel_rfl,rfl,rfl,by kernel_rfl,(fun h=>by cases h),by kernel_rfl⟩
theorem fit135:FitsOne Tryz.prog 135 ⟨true,5,48,[.str [],.v (.int .i64 0),.v (.int .i64 0),.v (.int .i64 0),.v (.int .i64 0)],[(0,1),(1,1),(2,1),(3,1),(4,1)],false,none,none,6,[9,3,3,3,3],true,[]⟩:=⟨by kernel_rfl,rfl,rfl,by kernel_rfl,fun _=>⟨by kernel_rfl,rfl,by kernel_rfl,by kernel_rfl,rfl⟩,by kernel_rfl⟩
theorem fit136:FitsOne Tryz.prog 136 ⟨true,4,40,[.v (.int .i64 0),.v (.int .i64 0),.v (.int .i64 0),.str []],[(0,1),(1,1),(2,1),(3,1)],false,none,none,6,[],false,[]⟩:=⟨by kernel_rfl,rfl,rfl,by kernel_rfl,(fun h=>by cases h),by kernel_rfl⟩
theorem fit137:FitsOne Tryz.prog 137 ⟨true,4,40,[.v (.int .i64 0),.v (.int .i64 0),.v (.int .i64 0),.str []],[(0,1),(1,1),(2,1),(3,1)],false,none,none,6,[3,3,3,9],true,[]⟩:=⟨by kernel_rfl,rfl,rfl,by kernel_rfl,fun _=>⟨by kernel_rfl,rfl,by kernel_rfl,by kernel_rfl,rfl⟩,by kernel_rfl⟩
theorem fit141:FitsOne Tryz.prog 141 ⟨false,1,24,[.v (.slice none 0 0)],[],false,none,(some 174),3,[],false,[]⟩:=⟨by kernel_rfl,rfl,rfl,by kernel_rfl,(fun h=>by cases h),by kernel_rfl⟩
theorem fit143:FitsOne Tryz.prog 143 ⟨false,1,24,[.v (.slice none 0 0)],[],false,none,(some 146),3,[],false,[]⟩:=⟨by kernel_rfl,rfl,rfl,by kernel_rfl,(fun h=>by cases h),by kernel_rfl⟩
theorem fit145:FitsOne Tryz.prog 145 ⟨true,4,40,[.str [],.v (.int .i64 0),.v (.int .i64 0),.v (.int .i64 0)],[(0,1),(1,1),(2,1),(3,1)],false,none,none,6,[],false,[]⟩:=⟨by kernel_rfl,rfl,rfl,by kernel_rfl,(fun h=>by cases h),by kernel_rfl⟩
theorem fit146:FitsOne Tryz.prog 146 ⟨true,4,40,[.str [],.v (.int .i64 0),.v (.int .i64 0),.v (.int .i64 0)],[(0,1),(1,1),(2,1),(3,1)],false,none,none,6,[9,3,3,3],true,[]⟩:=⟨by kernel_rfl,rfl,rfl,by kernel_rfl,fun _=>⟨by kernel_rfl,rfl,by kernel_rfl,by kernel_rfl,rfl⟩,by kernel_rfl⟩
theorem fit150:FitsOne Tryz.prog 150 ⟨false,1,8,[.v (.pointer none)],[],false,none,none,8,[],false,[73]⟩:=⟨by kernel_rfl,rfl,rfl,by kernel_rfl,(fun h=>by cases h),by kernel_rfl⟩
theorem fit153:FitsOne Tryz.prog 153 ⟨false,1,8,[.v (.pointer none)],[],false,none,none,8,[],false,[3]⟩:=⟨by kernel_rfl,rfl,rfl,by kernel_rfl,(fun h=>by cases h),by kernel_rfl⟩
theorem fit154:FitsOne Tryz.prog 154 ⟨false,1,8,[.v (.pointer none)],[],false,none,none,8,[],false,[156]⟩:=⟨by kernel_rfl,rfl,rfl,by kernel_rfl,(fun h=>by cases h),by kernel_rfl⟩
theorem fit155:FitsOne Tryz.prog 155 ⟨true,2,32,[.v (.pointer none),.v (.slice none 0 0)],[(0,1),(1,1)],false,none,none,6,[],false,[]⟩:=⟨by kernel_rfl,rfl,rfl,by kernel_rfl,(fun h=>by cases h),by kernel_rfl⟩
theorem fit156:FitsOne Tryz.prog 156 ⟨true,2,32,[.v (.pointer none),.v (.slice none 0 0)],[(0,1),(1,1)],false,none,none,6,[],false,[]⟩:=⟨by kernel_rfl,rfl,rfl,by kernel_rfl,(fun h=>by cases h),by kernel_rfl⟩
theorem fit169:FitsOne Tryz.prog 169 ⟨false,1,8,[.v (.int .u64 0)],[],false,(some .u64),none,5,[],false,[]⟩:=⟨by kernel_rfl,rfl,rfl,by kernel_rfl,(fun h=>by cases h),by kernel_rfl⟩
theorem fit173:FitsOne Tryz.prog 173 ⟨true,4,40,[.v (.int .i64 0),.v (.int .i64 0),.str [],.v (.bool false)],[(0,3),(3,1)],false,none,none,6,[],false,[]⟩:=⟨by kernel_rfl,rfl,rfl,by kernel_rfl,(fun h=>by cases h),by kernel_rfl⟩
theorem fit174:FitsOne Tryz.prog 174 ⟨true,4,40,[.v (.int .i64 0),.v (.int .i64 0),.str [],.v (.bool false)],[(0,3),(3,1)],false,none,none,6,[31,4],true,[]⟩:=⟨by kernel_rfl,rfl,rfl,by kernel_rfl,fun _=>⟨by kernel_rfl,rfl,by kernel_rfl,by kernel_rfl,rfl⟩,by kernel_rfl⟩
theorem fit175:FitsOne Tryz.prog 175 ⟨false,1,24,[.v (.slice none 0 0)],[],false,none,(some 3),3,[],false,[]⟩:=⟨by kernel_rfl,rfl,rfl,by kernel_rfl,(fun h=>by cases h),by kernel_rfl⟩
theorem fit180:FitsOne Tryz.prog 180 ⟨false,1,8,[.v (.pointer none)],[],false,none,none,0,[],false,[]⟩:=⟨by kernel_rfl,rfl,rfl,by kernel_rfl,(fun h=>by cases h),by kernel_rfl⟩
theorem fit181:FitsOne Tryz.prog 181 ⟨false,1,8,[.v (.int .u64 0)],[],false,(some .u64),none,5,[],false,[]⟩:=⟨by kernel_rfl,rfl,rfl,by kernel_rfl,(fun h=>by cases h),by kernel_rfl⟩
theorem fit182:FitsOne Tryz.prog 182 ⟨true,3,24,[.v (.pointer none),.v (.pointer none),.v (.int .u64 0)],[(0,1),(1,1),(2,1)],false,none,none,6,[],false,[]⟩:=⟨by kernel_rfl,rfl,rfl,by kernel_rfl,(fun h=>by cases h),by kernel_rfl⟩
theorem fit183:FitsOne Tryz.prog 183 ⟨true,3,24,[.v (.pointer none),.v (.pointer none),.v (.int .u64 0)],[(0,1),(1,1),(2,1)],false,none,none,6,[],false,[]⟩:=⟨by kernel_rfl,rfl,rfl,by kernel_rfl,(fun h=>by cases h),by kernel_rfl⟩
theorem fit185:FitsOne Tryz.prog 185 ⟨false,1,16,[.v .nilIface],[],true,none,none,7,[],false,[]⟩:=⟨by kernel_rfl,rfl,rfl,by kernel_rfl,(fun h=>by cases h),by kernel_rfl⟩
theorem fit186:FitsOne Tryz.prog 186 ⟨false,1,16,[.v .nilIface],[],true,none,none,7,[],false,[]⟩:=⟨by kernel_rfl,rfl,rfl,by kernel_rfl,(fun h=>by cases h),by kernel_rfl⟩
theorem fit188:FitsOne Tryz.prog 188 ⟨false,1,1,[.v (.int .u8 0)],[],false,(some .u8),none,5,[],false,[]⟩:=⟨by kernel_rfl,rfl,rfl,by kernel_rfl,(fun h=>by cases h),by kernel_rfl⟩
theorem fit202:FitsOne Tryz.prog 202 ⟨false,1,8,[.v (.pointer none)],[],false,none,none,8,[],false,[5]⟩:=⟨by kernel_rfl,rfl,rfl,by kernel_rfl,(fun h=>by cases h),by kernel_rfl⟩
theorem fit207:FitsOne Tryz.prog 207 ⟨true,7,112,[.str [],.str [],.str [],.str [],.str [],.str [],.str []],[],false,none,(some 9),4,[],false,[7]⟩:=⟨by kernel_rfl,rfl,rfl,by kernel_rfl,(fun h=>by cases h),by kernel_rfl⟩
theorem fit221:FitsOne Tryz.prog 221 ⟨false,1,4,[.v (.int .u32 0)],[],false,(some .u32),none,5,[],false,[]⟩:=⟨by kernel_rfl,rfl,rfl,by kernel_rfl,(fun h=>by cases h),by kernel_rfl⟩
theorem fit222:FitsOne Tryz.prog 222 ⟨false,1,8,[.v (.int .u64 0)],[],false,(some .u64),none,5,[],false,[]⟩:=⟨by kernel_rfl,rfl,rfl,by kernel_rfl,(fun h=>by cases h),by kernel_rfl⟩
theorem fit231:FitsOne Tryz.prog 231 ⟨true,1,8,[.v (.pointer none)],[(0,1)],false,none,none,6,[],false,[]⟩:=⟨by kernel_rfl,rfl,rfl,by kernel_rfl,(fun h=>by cases h),by kernel_rfl⟩
theorem fit232:FitsOne Tryz.prog 232 ⟨true,1,8,[.v (.pointer none)],[(0,1)],false,none,none,6,[],false,[]⟩:=⟨by kernel_rfl,rfl,rfl,by kernel_rfl,(fun h=>by cases h),by kernel_rfl⟩
theorem fit233:FitsOne Tryz.prog 233 ⟨false,1,8,[.v (.pointer none)],[],false,none,none,8,[],false,[332]⟩:=⟨by kernel_rfl,rfl,rfl,by kernel_rfl,(fun h=>by cases h),by kernel_rfl⟩
theorem fit237:FitsOne Tryz.prog 237 ⟨false,1,16,[.v .nilIface],[],true,none,none,7,[],false,[]⟩:=⟨by kernel_rfl,rfl,rfl,by kernel_rfl,(fun h=>by cases h),by kernel_rfl⟩
theorem fit240:FitsOne Tryz.prog 240 ⟨false,1,16,[.v .nilIface],[],true,none,none,7,[],false,[]⟩:=⟨by kernel_rfl,rfl,rfl,by kernel_rfl,(fun h=>by cases h),by kernel_rfl⟩
theorem fit242:FitsOne Tryz.prog 242 ⟨false,1,16,[.v .nilIface],[],true,none,none,7,[],false,[]⟩:=⟨by kernel_rfl,rfl,rfl,by kernel_rfl,(fun h=>by cases h),by kernel_rfl⟩
theorem fit243:FitsOne Tryz.prog 243 ⟨false,1,24,[.v (.slice none 0 0)],[],false,none,(some 33),3,[],false,[]⟩:=⟨by kernel_rfl,rfl,rfl,by kernel_rfl,(fun h=>by cases h),by kernel_rfl⟩
theorem fit250:FitsOne Tryz.prog 250 ⟨true,12,192,[.str [],.str [],.str [],.str [],.str [],.str [],.str [],.str [],.str [],.str [],.str [],.str []],[],false,none,(some 9),4,[],false,[12]⟩:=⟨by kernel_rfl,rfl,rfl,by kernel_rfl,(fun h=>by cases h),by kernel_rfl⟩
theorem fit264:FitsOne Tryz.prog 264 ⟨true,256,256,List.replicate 256 (.v (.bool false)),[],false,none,(some 4),4,[],false,[256]⟩:=⟨by kernel_rfl,by kernel_rfl,by kernel_rfl,by kernel_rfl,(fun h=>by cases h),by kernel_rfl⟩
theorem fit265:FitsOne Tryz.prog 265 ⟨true,256,256,List.replicate 256 (.v (.bool false)),[],false,none,(some 4),4,[],false,[256]⟩:=⟨by kernel_rfl,by kernel_rfl,by kernel_rfl,by kernel_rfl,(fun h=>by cases h),by kernel_rfl⟩
theorem fit269:FitsOne Tryz.prog 269 ⟨false,1,8,[.v (.pointer none)],[],false,none,none,8,[],false,[265]⟩:=⟨by kernel_rfl,rfl,rfl,by kernel_rfl,(fun h=>by cases h),by kernel_rfl⟩
theorem fit279:FitsOne Tryz.prog 279 ⟨false,1,8,[.v (.int .i64 0)],[],false,(some .i64),none,5,[],false,[]⟩:=⟨by kernel_rfl,rfl,rfl,by kernel_rfl,(fun h=>by cases h),by kernel_rfl⟩
theorem fit282:FitsOne Tryz.prog 282 ⟨false,1,8,[.v (.pointer none)],[],false,none,none,8,[],false,[301]⟩:=⟨by kernel_rfl,rfl,rfl,by kernel_rfl,(fun h=>by cases h),by kernel_rfl⟩
theorem fit285:FitsOne Tryz.prog 285 ⟨true,24,24,[.v (.int .u8 0),.v (.int .u8 0),.v (.int .u8 0),.v (.int .u8 0),.v (.int .u8 0),.v (.int .u8 0),.v (.int .u8 0),.v (.int .u8 0),.v (.int .u8 0),.v (.int .u8 0),.v (.int .u8 0),.v (.int .u8 0),.v (.int .u8 0),.v (.int .u8 0),.v (.int .u8 0),.v (.int .u8 0),.v (.int .u8 0),.v (.int .u8 0),.v (.int .u8 0),.v (.int .u8 0),.v (.int .u8 0),.v (.int .u8 0),.v (.int .u8 0),.v (.int .u8 0)],[],false,none,(some 5),4,[],false,[24]⟩:=⟨by kernel_rfl,rfl,rfl,by kernel_rfl,(fun h=>by cases h),by kernel_rfl⟩
theorem fit294:FitsOne Tryz.prog 294 ⟨true,2,2,[.v (.int .u8 0),.v (.int .u8 0)],[(0,1),(1,1)],false,none,none,6,[],false,[]⟩:=⟨by kernel_rfl,rfl,rfl,by kernel_rfl,(fun h=>by cases h),by kernel_rfl⟩
theorem fit295:FitsOne Tryz.prog 295 ⟨true,2,2,[.v (.int .u8 0),.v (.int .u8 0)],[(0,1),(1,1)],false,none,none,6,[],false,[]⟩:=⟨by kernel_rfl,rfl,rfl,by kernel_rfl,(fun h=>by cases h),by kernel_rfl⟩
theorem fit296:FitsOne Tryz.prog 296 ⟨true,32,32,[.v (.int .u8 0),.v (.int .u8 0),.v (.int .u8 0),.v (.int .u8 0),.v (.int .u8 0),.v (.int .u8 0),.v (.int .u8 0),.v (.int .u8 0),.v (.int .u8 0),.v (.int .u8 0),.v (.int .u8 0),.v (.int .u8 0),.v (.int .u8 0),.v (.int .u8 0),.v (.int .u8 0),.v (.int .u8 0),.v (.int .u8 0),.v (.int .u8 0),.v (.int .u8 0),.v (.int .u8 0),.v (.int .u8 0),.v (.int .u8 0),.v (.int .u8 0),.v (.int .u8 0),.v (.int .u8 0),.v (.int .u8 0),.v (.int .u8 0),.v (.int .u8 0),.v (.int .u8 0),.v (.int .u8 0),.v (.int .u8 0),.v (.int .u8 0)],[],false,none,(some 295),4,[],false,[16]⟩:=⟨by kernel_rfl,rfl,rfl,by kernel_rfl,(fun h=>by cases h),by kernel_rfl⟩
theorem fit300:FitsOne Tryz.prog 300 ⟨true,3,48,[.str [],.str [],.v .nilIface],[(0,1),(1,1),(2,1)],false,none,none,6,[],false,[]⟩:=⟨by kernel_rfl,rfl,rfl,by kernel_rfl,(fun h=>by cases h),by kernel_rfl⟩
theorem fit301:FitsOne Tryz.prog 301 ⟨true,3,48,[.str [],.str [],.v .nilIface],[(0,1),(1,1),(2,1)],false,none,none,6,[],false,[]⟩:=⟨by kernel_rfl,rfl,rfl,by kernel_rfl,(fun h=>by cases h),by kernel_rfl⟩
theorem fit304:FitsOne Tryz.prog 304 ⟨true,20,160,[.v (.int .u64 0),.v (.int .u64 0),.v (.int .u64 0),.v (.int .u64 0),.v (.int .u64 0),.v (.int .u64 0),.v (.int .u64 0),.v (.int .u64 0),.v (.int .u64 0),.v (.int .u64 0),.v (.int .u64 0),.v (.int .u64 0),.v (.int .u64 0),.v (.int .u64 0),.v (.int .u64 0),.v (.int .u64 0),.v (.int .u64 0),.v (.int .u64 0),.v (.int .u64 0),.v (.int .u64 0)],[],false,none,(some 169),4,[],false,[20]⟩:=⟨by kernel_rfl,rfl,rfl,by kernel_rfl,(fun h=>by cases h),by kernel_rfl⟩
theorem fit309:FitsOne Tryz.prog 309 ⟨false,1,8,[.v (.pointer none)],[],false,none,none,8,[],false,[311]⟩:=⟨by kernel_rfl,rfl,rfl,by kernel_rfl,(fun h=>by cases h),by kernel_rfl⟩
theorem fit310:FitsOne Tryz.prog 310 ⟨true,1,16,[.str []],[(0,1)],false,none,none,6,[],false,[]⟩:=⟨by kernel_rfl,rfl,rfl,by kernel_rfl,(fun h=>by cases h),by kernel_rfl⟩
theorem fit311:FitsOne Tryz.prog 311 ⟨true,1,16,[.str []],[(0,1)],false,none,none,6,[],false,[]⟩:=⟨by kernel_rfl,rfl,rfl,by kernel_rfl,(fun h=>by cases h),by kernel_rfl⟩
theorem fit313:FitsOne Tryz.prog 313 ⟨true,32,32,[.v (.int .u8 0),.v (.int .u8 0),.v (.int .u8 0),.v (.int .u8 0),.v (.int .u8 0),.v (.int .u8 0),.v (.int .u8 0),.v (.int .u8 0),.v (.int .u8 0),.v (.int .u8 0),.v (.int .u8 0),.v (.int .u8 0),.v (.int .u8 0),.v (.int .u8 0),.v (.int .u8 0),.v (.int .u8 0),.v (.int .u8 0),.v (.int .u8 0),.v (.int .u8 0),.v (.int .u8 0),.v (.int .u8 0),.v (.int .u8 0),.v (.int .u8 0),.v (.int .u8 0),.v (.int .u8 0),.v (.int .u8 0),.v (.int .u8 0),.v (.int .u8 0),.v (.int .u8 0),.v (.int .u8 0),.v (.int .u8 0),.v (.int .u8 0)],[],false,none,(some 5),4,[],false,[32]⟩:=⟨by kernel_rfl,rfl,rfl,by kernel_rfl,(fun h=>by cases h),by kernel_rfl⟩
theorem fit315:FitsOne Tryz.prog 315 ⟨false,1,8,[.v (.pointer none)],[],false,none,none,8,[],false,[334]⟩:=⟨by kernel_rfl,rfl,rfl,by kernel_rfl,(fun h=>by cases h),by kernel_rfl⟩
theorem fit316:FitsOne Tryz.prog 316 ⟨false,1,8,[.v (.pointer none)],[],false,none,none,8,[],false,[336]⟩:=⟨by kernel_rfl,rfl,rfl,by kernel_rfl,(fun h=>by cases h),by kernel_rfl⟩
theorem fit317:FitsOne Tryz.prog 317 ⟨true,4,40,[.v (.pointer none),.v (.pointer none),.v (.pointer none),.str []],[(0,1),(1,1),(2,1),(3,1)],false,none,none,6,[],false,[]⟩:=⟨by kernel_rfl,rfl,rfl,by kernel_rfl,(fun h=>by cases h),by kernel_rfl⟩
theorem fit318:FitsOne Tryz.prog 318 ⟨true,4,40,[.v (.pointer none),.v (.pointer none),.v (.pointer none),.str []],[(0,1),(1,1),(2,1),(3,1)],false,none,none,6,[],false,[]⟩:=⟨by kernel_rfl,rfl,rfl,by kernel_rfl,(fun h=>by cases h),by kernel_rfl⟩
theorem fit319:FitsOne Tryz.prog 319 ⟨true,0,0,[],[],false,none,(some 16),4,[],false,[0]⟩:=⟨by kernel_rfl,rfl,rfl,by kernel_rfl,(fun h=>by cases h),by kernel_rfl⟩
theorem fit320:FitsOne Tryz.prog 320 ⟨true,0,0,[],[(0,0)],false,none,none,6,[],false,[]⟩:=⟨by kernel_rfl,rfl,rfl,by kernel_rfl,(fun h=>by cases h),by kernel_rfl⟩
theorem fit321:FitsOne Tryz.prog 321 ⟨true,0,0,[],[(0,0)],false,none,none,6,[],false,[]⟩:=⟨by kernel_rfl,rfl,rfl,by kernel_rfl,(fun h=>by cases h),by kernel_rfl⟩
theorem fit323:FitsOne Tryz.prog 323 ⟨false,1,1,[.v (.int .u8 0)],[],false,(some .u8),none,5,[],false,[]⟩:=⟨by kernel_rfl,rfl,rfl,by kernel_rfl,(fun h=>by cases h),by kernel_rfl⟩
theorem fit325:FitsOne Tryz.prog 325 ⟨false,1,4,[.v (.int .i32 0)],[],false,(some .i32),none,5,[],false,[]⟩:=⟨by kernel_rfl,rfl,rfl,by kernel_rfl,(fun h=>by cases h),by kernel_rfl⟩
theorem fit326:FitsOne Tryz.prog 326 ⟨false,1,4,[.v (.int .i32 0)],[],false,(some .i32),none,5,[],false,[]⟩:=⟨by kernel_rfl,rfl,rfl,by kernel_rfl,(fun h=>by cases h),by kernel_rfl⟩
theorem fit331:FitsOne Tryz.prog 331 ⟨true,2,24,[.str [],.v (.int .u8 0)],[(0,1),(1,1)],false,none,none,6,[],false,[]⟩:=⟨by kernel_rfl,rfl,rfl,by kernel_rfl,(fun h=>by cases h),by kernel_rfl⟩
theorem fit332:FitsOne Tryz.prog 332 ⟨true,2,24,[.str [],.v (.int .u8 0)],[(0,1),(1,1)],false,none,none,6,[],false,[]⟩:=⟨by kernel_rfl,rfl,rfl,by kernel_rfl,(fun h=>by cases h),by kernel_rfl⟩
theorem fit333:FitsOne Tryz.prog 333 ⟨true,2,32,[.str [],.v .nilIface],[(0,1),(1,1)],false,none,none,6,[],false,[]⟩:=⟨by kernel_rfl,rfl,rfl,by kernel_rfl,(fun h=>by cases h),by kernel_rfl⟩
theorem fit334:FitsOne Tryz.prog 334 ⟨true,2,32,[.str [],.v .nilIface],[(0,1),(1,1)],false,none,none,6,[],false,[]⟩:=⟨by kernel_rfl,rfl,rfl,by kernel_rfl,(fun h=>by cases h),by kernel_rfl⟩
theorem fit335:FitsOne Tryz.prog 335 ⟨true,2,40,[.str [],.v (.slice none 0 0)],[(0,1),(1,1)],false,none,none,6,[],false,[]⟩:=⟨by kernel_rfl,rfl,rfl,by kernel_rfl,(fun h=>by cases h),by kernel_rfl⟩
theorem fit336:FitsOne Tryz.prog 336 ⟨true,2,40,[.str [],.v (.slice none 0 0)],[(0,1),(1,1)],false,none,none,6,[],false,[]⟩:=⟨by kernel_rfl,rfl,rfl,by kernel_rfl,(fun h=>by cases h),by kernel_rfl⟩
theorem fit337:FitsOne Tryz.prog 337 ⟨false,1,8,[.v (.pointer none)],[],false,none,none,8,[],false,[341]⟩:=⟨by kernel_rfl,rfl,rfl,by kernel_rfl,(fun h=>by cases h),by kernel_rfl⟩
theorem fit339:FitsOne Tryz.prog 339 ⟨false,1,2,[.v (.int .u16 0)],[],false,(some .u16),none,5,[],false,[]⟩:=⟨by kernel_rfl,rfl,rfl,by kernel_rfl,(fun h=>by cases h),by kernel_rfl⟩
theorem fit340:FitsOne Tryz.prog 340 ⟨true,5,16,[.v (.int .i32 0),.v (.int .u16 0),.v (.int .u16 0),.v (.int .u32 0),.v (.int .u32 0)],[(0,1),(1,1),(2,1),(3,1),(4,1)],false,none,none,6,[],false,[]⟩:=⟨by kernel_rfl,rfl,rfl,by kernel_rfl,(fun h=>by cases h),by kernel_rfl⟩
theorem fit341:FitsOne Tryz.prog 341 ⟨true,5,16,[.v (.int .i32 0),.v (.int .u16 0),.v (.int .u16 0),.v (.int .u32 0),.v (.int .u32 0)],[(0,1),(1,1),(2,1),(3,1),(4,1)],false,none,none,6,[],false,[]⟩:=⟨by kernel_rfl,rfl,rfl,by kernel_rfl,(fun h=>by cases h),by kernel_rfl⟩
theorem fit342:FitsOne Tryz.prog 342 ⟨false,1,24,[.v (.slice none 0 0)],[],false,none,(some 345),3,[],false,[]⟩:=⟨by kernel_rfl,rfl,rfl,by kernel_rfl,(fun h=>by cases h),by kernel_rfl⟩
theorem fit343:FitsOne Tryz.prog 343 ⟨false,1,4,[.v (.int .i32 0)],[],false,(some .i32),none,5,[],false,[]⟩:=⟨by kernel_rfl,rfl,rfl,by kernel_rfl,(fun h=>by cases h),by kernel_rfl⟩
theorem fit344:FitsOne Tryz.prog 344 ⟨true,4,16,[.v (.int .i32 0),.v (.int .i32 0),.v (.int .i32 0),.v (.int .i32 0)],[(0,1),(1,1),(2,1),(3,1)],false,none,none,6,[],false,[]⟩:=⟨by kernel_rfl,rfl,rfl,by kernel_rfl,(fun h=>by cases h),by kernel_rfl⟩
theorem fit345:FitsOne Tryz.prog 345 ⟨true,4,16,[.v (.int .i32 0),.v (.int .i32 0),.v (.int .i32 0),.v (.int .i32 0)],[(0,1),(1,1),(2,1),(3,1)],false,none,none,6,[],false,[]⟩:=⟨by kernel_rfl,rfl,rfl,by kernel_rfl,(fun h=>by cases h),by kernel_rfl⟩
theorem fit346:FitsOne Tryz.prog 346 ⟨false,1,8,[.v (.pointer none)],[],false,none,none,8,[],false,[33]⟩:=⟨by kernel_rfl,rfl,rfl,by kernel_rfl,(fun h=>by cases h),by kernel_rfl⟩
def tt:List (Nat×TI):=[
 (2,⟨false,1,8,[.v (.int .i64 0)],[],false,(some .i64),none,5,[],false,[]⟩),
 (3,⟨false,1,8,[.v (.int .i64 0)],[],false,(some .i64),none,5,[],false,[]⟩),
 (4,⟨false,1,1,[.v (.bool false)],[],false,none,none,1,[],false,[]⟩),
 (5,⟨false,1,1,[.v (.int .u8 0)],[],false,(some .u8),none,5,[],false,[]⟩),
 (6,⟨false,1,1,[.v (.int .u8 0)],[],false,(some .u8),none,5,[],false,[]⟩),
 (7,⟨true,4,24,[.v (.int .i64 0),.v (.int .i64 0),.v (.bool false),.v (.int .u8 0)],[(0,1),(1,1),(2,1),(3,1)],false,none,none,6,[],false,[]⟩),
 (8,⟨true,4,24,[.v (.int .i64 0),.v (.int .i64 0),.v (.bool false),.v (.int .u8 0)],[(0,1),(1,1),(2,1),(3,1)],false,none,none,6,[],false,[]⟩),
 (9,⟨false,1,16,[.str []],[],false,none,none,2,[],false,[]⟩),
 (10,⟨false,1,16,[.str []],[],false,none,none,2,[],false,[]⟩),
 (11,⟨false,1,16,[.str []],[],false,none,none,2,[],false,[]⟩),
 (12,⟨false,1,8,[.v (.int .u64 0)],[],false,(some .u64),none,5,[],false,[]⟩),
 (13,⟨true,2,24,[.str [],.v (.int .u64 0)],[(0,1),(1,1)],false,none,none,6,[],false,[]⟩),
 (14,⟨true,2,24,[.str [],.v (.int .u64 0)],[(0,1),(1,1)],false,none,none,6,[],false,[]⟩),
 (15,⟨false,1,8,[.v (.pointer none)],[],false,none,none,8,[],false,[318]⟩),
 (16,⟨false,1,8,[.v (.pointer none)],[],false,none,none,8,[],false,[321]⟩),
 (17,⟨false,1,8,[.v (.pointer none)],[],false,none,none,8,[],false,[328]⟩),
 (18,⟨true,1,8,[.v (.pointer none)],[(0,1)],false,none,none,6,[],false,[]⟩),
 (19,⟨true,1,8,[.v (.pointer none)],[(0,1)],false,none,none,6,[],false,[]⟩),
 (20,⟨false,1,16,[.v .nilIface],[],true,none,none,7,[],false,[]⟩),
 (21,⟨false,1,4,[.v (.int .i32 0)],[],false,(some .i32),none,5,[],false,[]⟩),
 (22,⟨true,2,16,[.v (.int .i64 0),.v (.int .i64 0)],[(0,1),(1,1)],false,none,none,6,[],false,[]⟩),
 (23,⟨true,2,16,[.v (.int .i64 0),.v (.int .i64 0)],[(0,1),(1,1)],false,none,none,6,[3,3],true,[]⟩),
 (24,⟨true,4,24,[.v (.int .i64 0),.v (.int .i64 0),.v (.bool false),.v (.bool false)],[(0,2),(2,1),(3,1)],false,none,none,6,[],false,[]⟩),
 (25,⟨true,4,24,[.v (.int .i64 0),.v (.int .i64 0),.v (.bool false),.v (.bool false)],[(0,2),(2,1),(3,1)],false,none,none,6,[23,4,4],true,[]⟩),
 (26,⟨false,1,24,[.v (.slice none 0 0)],[],false,none,(some 28),3,[],false,[]⟩),
 (27,⟨true,12,104,[.v (.int .i64 0),.v (.int .i64 0),.str [],.v (.int .i64 0),.v (.int .i64 0),.v (.bool false),.v (.bool false),.v (.int .i64 0),.v (.int .i64 0),.v (.bool false),.v (.bool false),.v (.slice none 0 0)],[(0,1),(1,1),(2,1),(3,4),(7,4),(11,1)],false,none,none,6,[],false,[]⟩),
 (28,⟨true,12,104,[.v (.int .i64 0),.v (.int .i64 0),.str [],.v (.int .i64 0),.v (.int .i64 0),.v (.bool false),.v (.bool false),.v (.int .i64 0),.v (.int .i64 0),.v (.bool false),.v (.bool false),.v (.slice none 0 0)],[(0,1),(1,1),(2,1),(3,4),(7,4),(11,1)],false,none,none,6,[],false,[]⟩),
 (29,⟨false,1,24,[.v (.slice none 0 0)],[],false,none,(some 40),3,[],false,[]⟩),
 (30,⟨true,3,32,[.v (.int .i64 0),.v (.int .i64 0),.str []],[(0,1),(1,1),(2,1)],false,none,none,6,[],false,[]⟩),
 (31,⟨true,3,32,[.v (.int .i64 0),.v (.int .i64 0),.str []],[(0,1),(1,1),(2,1)],false,none,none,6,[3,3,9],true,[]⟩),
 (32,⟨false,1,16,[.v .nilIface],[],true,none,none,7,[],false,[]⟩),
 (33,⟨false,1,16,[.v .nilIface],[],true,none,none,7,[],false,[]⟩),
 (39,⟨true,7,64,[.v (.int .i64 0),.v (.int .i64 0),.v (.int .i64 0),.v (.int .i64 0),.str [],.v (.int .i64 0),.v (.int .i64 0)],[(0,2),(2,3),(5,1),(6,1)],false,none,none,6,[],false,[]⟩),
 (40,⟨true,7,64,[.v (.int .i64 0),.v (.int .i64 0),.v (.int .i64 0),.v (.int .i64 0),.str [],.v (.int .i64 0),.v (.int .i64 0)],[(0,2),(2,3),(5,1),(6,1)],false,none,none,6,[23,31,3,3],true,[]⟩),
 (42,⟨false,1,24,[.v (.slice none 0 0)],[],false,none,(some 23),3,[],false,[]⟩),
 (46,⟨false,1,24,[.v (.slice none 0 0)],[],false,none,(some 31),3,[],false,[]⟩),
 (54,⟨false,1,24,[.v (.slice none 0 0)],[],false,none,(some 9),3,[],false,[]⟩),
 (65,⟨false,1,8,[.v (.pointer none)],[],false,none,none,8,[],false,[68]⟩),
 (73,⟨false,1,8,[.v (.int .i64 0)],[],false,(some .i64),none,5,[],false,[]⟩),
 (74,⟨true,2,24,[.v (.int .i64 0),.v .nilIface],[(0,1),(1,1)],false,none,none,6,[],false,[]⟩),
 (75,⟨true,2,24,[.v (.int .i64 0),.v .nilIface],[(0,1),(1,1)],false,none,none,6,[],false,[]⟩),
 (77,⟨false,1,8,[.v (.pointer none)],[],false,none,none,8,[],false,[79]⟩),
 (78,⟨true,3,32,[.str [],.v (.int .i64 0),.v (.int .i64 0)],[(0,1),(1,1),(2,1)],false,none,none,6,[],false,[]⟩),
 (79,⟨true,3,32,[.str [],.v (.int .i64 0),.v (.int .i64 0)],[(0,1),(1,1),(2,1)],false,none,none,6,[9,3,3],true,[]⟩),
 (84,⟨false,1,8,[.v (.map none)],[],false,none,none,9,[],false,[23,31]⟩),
 (85,⟨false,1,8,[.v (.map none)],[],false,none,none,9,[],false,[23,31]⟩),
 (88,⟨true,2700,2700,List.replicate 2700 (.v (.bool false)),[],false,none,(some 4),4,[],false,[2700]⟩),
 (90,⟨false,1,8,[.v (.pointer none)],[],false,none,none,8,[],false,[88]⟩),
 (105,⟨true,4,96,[.v (.slice none 0 0),.v (.slice none 0 0),.v (.slice none 0 0),.v (.slice none 0 0)],[],false,none,(some 54),4,[],false,[4]⟩),
 (111,⟨true,4,32,[.v (.int .i64 0),.v (.int .i64 0),.v (.int .i64 0),.v (.int .i64 0)],[(0,2),(2,2)],false,none,none,6,[],false,[]⟩),
 (112,⟨true,4,32,[.v (.int .i64 0),.v (.int .i64 0),.v (.int .i64 0),.v (.int .i64 0)],[(0,2),(2,2)],false,none,none,6,[23,23],true,[]⟩),
 (114,⟨false,1,8,[.v (.pointer none)],[],false,none,none,8,[],false,[118]⟩),
 (116,⟨false,1,24,[.v (.slice none 0 0)],[],false,none,(some 221),3,[],false,[]⟩),
 (117,⟨true,2,32,[.v (.bool false),.v (.slice none 0 0)],[(0,1),(1,1)],false,none,none,6,[],false,[]⟩),
 (118,⟨true,2,32,[.v (.bool false),.v (.slice none 0 0)],[(0,1),(1,1)],false,none,none,6,[],false,[]⟩),
 (128,⟨false,1,24,[.v (.slice none 0 0)],[],false,none,(some 5),3,[],false,[]⟩),
 (133,⟨false,1,8,[.v (.pointer none)],[],false,none,none,8,[],false,[135]⟩),
 (134,⟨true,5,48,[.str [],.v (.int .i64 0),.v (.int .i64 0),.v (.int .i64 0),.v (.int .i64 0)],[(0,1),(1,1),(2,1),(3,1),(4,1)],false,none,none,6,[],false,[]⟩),
 (135,⟨true,5,48,[.str [],.v (.int .i64 0),.v (.int .i64 0),.v (.int .i64 0),.v (.int .i64 0)],[(0,1),(1,1),(2,1),(3,1),(4,1)],false,none,none,6,[9,3,3,3,3],true,[]⟩),
 (136,⟨true,4,40,[.v (.int .i64 0),.v (.int .i64 0),.v (.int .i64 0),.str []],[(0,1),(1,1),(2,1),(3,1)],false,none,none,6,[],false,[]⟩),
 (137,⟨true,4,40,[.v (.int .i64 0),.v (.int .i64 0),.v (.int .i64 0),.str []],[(0,1),(1,1),(2,1),(3,1)],false,none,none,6,[3,3,3,9],true,[]⟩),
 (141,⟨false,1,24,[.v (.slice none 0 0)],[],false,none,(some 174),3,[],false,[]⟩),
 (143,⟨false,1,24,[.v (.slice none 0 0)],[],false,none,(some 146),3,[],false,[]⟩),
 (145,⟨true,4,40,[.str [],.v (.int .i64 0),.v (.int .i64 0),.v (.int .i64 0)],[(0,1),(1,1),(2,1),(3,1)],false,none,none,6,[],false,[]⟩),
 (146,⟨true,4,40,[.str [],.v (.int .i64 0),.v (.int .i64 0),.v (.int .i64 0)],[(0,1),(1,1),(2,1),(3,1)],false,none,none,6,[9,3,3,3],true,[]⟩),
 (150,⟨false,1,8,[.v (.pointer none)],[],false,none,none,8,[],false,[73]⟩),
 (153,⟨false,1,8,[.v (.pointer none)],[],false,none,none,8,[],false,[3]⟩),
 (154,⟨false,1,8,[.v (.pointer none)],[],false,none,none,8,[],false,[156]⟩),
 (155,⟨true,2,32,[.v (.pointer none),.v (.slice none 0 0)],[(0,1),(1,1)],false,none,none,6,[],false,[]⟩),
 (156,⟨true,2,32,[.v (.pointer none),.v (.slice none 0 0)],[(0,1),(1,1)],false,none,none,6,[],false,[]⟩),
 (169,⟨false,1,8,[.v (.int .u64 0)],[],false,(some .u64),none,5,[],false,[]⟩),
 (173,⟨true,4,40,[.v (.int .i64 0),.v (.int .i64 0),.str [],.v (.bool false)],[(0,3),(3,1)],false,none,none,6,[],false,[]⟩),
 (174,⟨true,4,40,[.v (.int .i64 0),.v (.int .i64 0),.str [],.v (.bool false)],[(0,3),(3,1)],false,none,none,6,[31,4],true,[]⟩),
 (175,⟨false,1,24,[.v (.slice none 0 0)],[],false,none,(some 3),3,[],false,[]⟩),
 (180,⟨false,1,8,[.v (.pointer none)],[],false,none,none,0,[],false,[]⟩),
 (181,⟨false,1,8,[.v (.int .u64 0)],[],false,(some .u64),none,5,[],false,[]⟩),
 (182,⟨true,3,24,[.v (.pointer none),.v (.pointer none),.v (.int .u64 0)],[(0,1),(1,1),(2,1)],false,none,none,6,[],false,[]⟩),
 (183,⟨true,3,24,[.v (.pointer none),.v (.pointer none),.v (.int .u64 0)],[(0,1),(1,1),(2,1)],false,none,none,6,[],false,[]⟩),
 (185,⟨false,1,16,[.v .nilIface],[],true,none,none,7,[],false,[]⟩),
 (186,⟨false,1,16,[.v .nilIface],[],true,none,none,7,[],false,[]⟩),
 (188,⟨false,1,1,[.v (.int .u8 0)],[],false,(some .u8),none,5,[],false,[]⟩),
 (202,⟨false,1,8,[.v (.pointer none)],[],false,none,none,8,[],false,[5]⟩),
 (207,⟨true,7,112,[.str [],.str [],.str [],.str [],.str [],.str [],.str []],[],false,none,(some 9),4,[],false,[7]⟩),
 (221,⟨false,1,4,[.v (.int .u32 0)],[],false,(some .u32),none,5,[],false,[]⟩),
 (222,⟨false,1,8,[.v (.int .u64 0)],[],false,(some .u64),none,5,[],false,[]⟩),
 (231,⟨true,1,8,[.v (.pointer none)],[(0,1)],false,none,none,6,[],false,[]⟩),
 (232,⟨true,1,8,[.v (.pointer none)],[(0,1)],false,none,none,6,[],false,[]⟩),
 (233,⟨false,1,8,[.v (.pointer none)],[],false,none,none,8,[],false,[332]⟩),
 (237,⟨false,1,16,[.v .nilIface],[],true,none,none,7,[],false,[]⟩),
 (240,⟨false,1,16,[.v .nilIface],[],true,none,none,7,[],false,[]⟩),
 (242,⟨false,1,16,[.v .nilIface],[],true,none,none,7,[],false,[]⟩),
 (243,⟨false,1,24,[.v (.slice none 0 0)],[],false,none,(some 33),3,[],false,[]⟩),
 (250,⟨true,12,192,[.str [],.str [],.str [],.str [],.str [],.str [],.str [],.str [],.str [],.str [],.str [],.str []],[],false,none,(some 9),4,[],false,[12]⟩),
 (264,⟨true,256,256,List.replicate 256 (.v (.bool false)),[],false,none,(some 4),4,[],false,[256]⟩),
 (265,⟨true,256,256,List.replicate 256 (.v (.bool false)),[],false,none,(some 4),4,[],false,[256]⟩),
 (269,⟨false,1,8,[.v (.pointer none)],[],false,none,none,8,[],false,[265]⟩),
 (279,⟨false,1,8,[.v (.int .i64 0)],[],false,(some .i64),none,5,[],false,[]⟩),
 (282,⟨false,1,8,[.v (.pointer none)],[],false,none,none,8,[],false,[301]⟩),
 (285,⟨true,24,24,[.v (.int .u8 0),.v (.int .u8 0),.v (.int .u8 0),.v (.int .u8 0),.v (.int .u8 0),.v (.int .u8 0),.v (.int .u8 0),.v (.int .u8 0),.v (.int .u8 0),.v (.int .u8 0),.v (.int .u8 0),.v (.int .u8 0),.v (.int .u8 0),.v (.int .u8 0),.v (.int .u8 0),.v (.int .u8 0),.v (.int .u8 0),.v (.int .u8 0),.v (.int .u8 0),.v (.int .u8 0),.v (.int .u8 0),.v (.int .u8 0),.v (.int .u8 0),.v (.int .u8 0)],[],false,none,(some 5),4,[],false,[24]⟩),
 (294,⟨true,2,2,[.v (.int .u8 0),.v (.int .u8 0)],[(0,1),(1,1)],false,none,none,6,[],false,[]⟩),
 (295,⟨true,2,2,[.v (.int .u8 0),.v (.int .u8 0)],[(0,1),(1,1)],false,none,none,6,[],false,[]⟩),
 (296,⟨true,32,32,[.v (.int .u8 0),.v (.int .u8 0),.v (.int .u8 0),.v (.int .u8 0),.v (.int .u8 0),.v (.int .u8 0),.v (.int .u8 0),.v (.int .u8 0),.v (.int .u8 0),.v (.int .u8 0),.v (.int .u8 0),.v (.int .u8 0),.v (.int .u8 0),.v (.int .u8 0),.v (.int .u8 0),.v (.int .u8 0),.v (.int .u8 0),.v (.int .u8 0),.v (.int .u8 0),.v (.int .u8 0),.v (.int .u8 0),.v (.int .u8 0),.v (.int .u8 0),.v (.int .u8 0),.v (.int .u8 0),.v (.int .u8 0),.v (.int .u8 0),.v (.int .u8 0),.v (.int .u8 0),.v (.int .u8 0),.v (.int .u8 0),.v (.int .u8 0)],[],false,none,(some 295),4,[],false,[16]⟩),
 (300,⟨true,3,48,[.str [],.str [],.v .nilIface],[(0,1),(1,1),(2,1)],false,none,none,6,[],false,[]⟩),
 (301,⟨true,3,48,[.str [],.str [],.v .nilIface],[(0,1),(1,1),(2,1)],false,none,none,6,[],false,[]⟩),
 (304,⟨true,20,160,[.v (.int .u64 0),.v (.int .u64 0),.v (.int .u64 0),.v (.int .u64 0),.v (.int .u64 0),.v (.int .u64 0),.v (.int .u64 0),.v (.int .u64 0),.v (.int .u64 0),.v (.int .u64 0),.v (.int .u64 0),.v (.int .u64 0),.v (.int .u64 0),.v (.int .u64 0),.v (.int .u64 0),.v (.int .u64 0),.v (.int .u64 0),.v (.int .u64 0),.v (.int .u64 0),.v (.int .u64 0)],[],false,none,(some 169),4,[],false,[20]⟩),
 (309,⟨false,1,8,[.v (.pointer none)],[],false,none,none,8,[],false,[311]⟩),
 (310,⟨true,1,16,[.str []],[(0,1)],false,none,none,6,[],false,[]⟩),
 (311,⟨true,1,16,[.str []],[(0,1)],false,none,none,6,[],false,[]⟩),
 (313,⟨true,32,32,[.v (.int .u8 0),.v (.int .u8 0),.v (.int .u8 0),.v (.int .u8 0),.v (.int .u8 0),.v (.int .u8 0),.v (.int .u8 0),.v (.int .u8 0),.v (.int .u8 0),.v (.int .u8 0),.v (.int .u8 0),.v (.int .u8 0),.v (.int .u8 0),.v (.int .u8 0),.v (.int .u8 0),.v (.int .u8 0),.v (.int .u8 0),.v (.int .u8 0),.v (.int .u8 0),.v (.int .u8 0),.v (.int .u8 0),.v (.int .u8 0),.v (.int .u8 0),.v (.int .u8 0),.v (.int .u8 0),.v (.int .u8 0),.v (.int .u8 0),.v (.int .u8 0),.v (.int .u8 0),.v (.int .u8 0),.v (.int .u8 0),.v (.int .u8 0)],[],false,none,(some 5),4,[],false,[32]⟩),
 (315,⟨false,1,8,[.v (.pointer none)],[],false,none,none,8,[],false,[334]⟩),
 (316,⟨false,1,8,[.v (.pointer none)],[],false,none,none,8,[],false,[336]⟩),
 (317,⟨true,4,40,[.v (.pointer none),.v (.pointer none),.v (.pointer none),.str []],[(0,1),(1,1),(2,1),(3,1)],false,none,none,6,[],false,[]⟩),
 (318,⟨true,4,40,[.v (.pointer none),.v (.pointer none),.v (.pointer none),.str []],[(0,1),(1,1),(2,1),(3,1)],false,none,none,6,[],false,[]⟩),
 (319,⟨true,0,0,[],[],false,none,(some 16),4,[],false,[0]⟩),
 (320,⟨true,0,0,[],[(0,0)],false,none,none,6,[],false,[]⟩),
 (321,⟨true,0,0,[],[(0,0)],false,none,none,6,[],false,[]⟩),
 (323,⟨false,1,1,[.v (.int .u8 0)],[],false,(some .u8),none,5,[],false,[]⟩),
 (325,⟨false,1,4,[.v (.int .i32 0)],[],false,(some .i32),none,5,[],false,[]⟩),
 (326,⟨false,1,4,[.v (.int .i32 0)],[],false,(some .i32),none,5,[],false,[]⟩),
 (331,⟨true,2,24,[.str [],.v (.int .u8 0)],[(0,1),(1,1)],false,none,none,6,[],false,[]⟩),
 (332,⟨true,2,24,[.str [],.v (.int .u8 0)],[(0,1),(1,1)],false,none,none,6,[],false,[]⟩),
 (333,⟨true,2,32,[.str [],.v .nilIface],[(0,1),(1,1)],false,none,none,6,[],false,[]⟩),
 (334,⟨true,2,32,[.str [],.v .nilIface],[(0,1),(1,1)],false,none,none,6,[],false,[]⟩),
 (335,⟨true,2,40,[.str [],.v (.slice none 0 0)],[(0,1),(1,1)],false,none,none,6,[],false,[]⟩),
 (336,⟨true,2,40,[.str [],.v (.slice none 0 0)],[(0,1),(1,1)],false,none,none,6,[],false,[]⟩),
 (337,⟨false,1,8,[.v (.pointer none)],[],false,none,none,8,[],false,[341]⟩),
 (339,⟨false,1,2,[.v (.int .u16 0)],[],false,(some .u16),none,5,[],false,[]⟩),
 (340,⟨true,5,16,[.v (.int .i32 0),.v (.int .u16 0),.v (.int .u16 0),.v (.int .u32 0),.v (.int .u32 0)],[(0,1),(1,1),(2,1),(3,1),(4,1)],false,none,none,6,[],false,[]⟩),
 (341,⟨true,5,16,[.v (.int .i32 0),.v (.int .u16 0),.v (.int .u16 0),.v (.int .u32 0),.v (.int .u32 0)],[(0,1),(1,1),(2,1),(3,1),(4,1)],false,none,none,6,[],false,[]⟩),
 (342,⟨false,1,24,[.v (.slice none 0 0)],[],false,none,(some 345),3,[],false,[]⟩),
 (343,⟨false,1,4,[.v (.int .i32 0)],[],false,(some .i32),none,5,[],false,[]⟩),
 (344,⟨true,4,16,[.v (.int .i32 0),.v (.int .i32 0),.v (.int .i32 0),.v (.int .i32 0)],[(0,1),(1,1),(2,1),(3,1)],false,none,none,6,[],false,[]⟩),
 (345,⟨true,4,16,[.v (.int .i32 0),.v (.int .i32 0),.v (.int .i32 0),.v (.int .i32 0)],[(0,1),(1,1),(2,1),(3,1)],false,none,none,6,[],false,[]⟩),
 (346,⟨false,1,8,[.v (.pointer none)],[],false,none,none,8,[],false,[33]⟩)]
theorem fits:Fits Tryz.prog tt :=
 fits_cons fit2 (
 fits_cons fit3 (
 fits_cons fit4 (
 fits_cons fit5 (
 fits_cons fit6 (
 fits_cons fit7 (
 fits_cons fit8 (
 fits_cons fit9 (
 fits_cons fit10 (
 fits_cons fit11 (
 fits_cons fit12 (
 fits_cons fit13 (
 fits_cons fit14 (
 fits_cons fit15 (
 fits_cons fit16 (
 fits_cons fit17 (
 fits_cons fit18 (
 fits_cons fit19 (
 fits_cons fit20 (
 fits_cons fit21 (
 fits_cons fit22 (
 fits_cons fit23 (
 fits_cons fit24 (
 fits_cons fit25 (
 fits_cons fit26 (
 fits_cons fit27 (
 fits_cons fit28 (
 fits_cons fit29 (
 fits_cons fit30 (
 fits_cons fit31 (
 fits_cons fit32 (
 fits_cons fit33 (
 fits_cons fit39 (
 fits_cons fit40 (
 fits_cons fit42 (
 fits_cons fit46 (
 fits_cons fit54 (
 fits_cons fit65 (
 fits_cons fit73 (
 fits_cons fit74 (
 fits_cons fit75 (
 fits_cons fit77 (
 fits_cons fit78 (
 fits_cons fit79 (
 fits_cons fit84 (
 fits_cons fit85 (
 fits_cons fit88 (
 fits_cons fit90 (
 fits_cons fit105 (
 fits_cons fit111 (
 fits_cons fit112 (
 fits_cons fit114 (
 fits_cons fit116 (
 fits_cons fit117 (
 fits_cons fit118 (
 fits_cons fit128 (
 fits_cons fit133 (
 fits_cons fit134 (
 fits_cons fit135 (
 fits_cons fit136 (
 fits_cons fit137 (
 fits_cons fit141 (
 fits_cons fit143 (
 fits_cons fit145 (
 fits_cons fit146 (
 fits_cons fit150 (
 fits_cons fit153 (
 fits_cons fit154 (
 fits_cons fit155 (
 fits_cons fit156 (
 fits_cons fit169 (
 fits_cons fit173 (
 fits_cons fit174 (
 fits_cons fit175 (
 fits_cons fit180 (
 fits_cons fit181 (
 fits_cons fit182 (
 fits_cons fit183 (
 fits_cons fit185 (
 fits_cons fit186 (
 fits_cons fit188 (
 fits_cons fit202 (
 fits_cons fit207 (
 fits_cons fit221 (
 fits_cons fit222 (
 fits_cons fit231 (
 fits_cons fit232 (
 fits_cons fit233 (
 fits_cons fit237 (
 fits_cons fit240 (
 fits_cons fit242 (
 fits_cons fit243 (
 fits_cons fit250 (
 fits_cons fit264 (
 fits_cons fit265 (
 fits_cons fit269 (
 fits_cons fit279 (
 fits_cons fit282 (
 fits_cons fit285 (
 fits_cons fit294 (
 fits_cons fit295 (
 fits_cons fit296 (
 fits_cons fit300 (
 fits_cons fit301 (
 fits_cons fit304 (
 fits_cons fit309 (
 fits_cons fit310 (
 fits_cons fit311 (
 fits_cons fit313 (
 fits_cons fit315 (
 fits_cons fit316 (
 fits_cons fit317 (
 fits_cons fit318 (
 fits_cons fit319 (
 fits_cons fit320 (
 fits_cons fit321 (
 fits_cons fit323 (
 fits_cons fit325 (
 fits_cons fit326 (
 fits_cons fit331 (
 fits_cons fit332 (
 fits_cons fit333 (
 fits_cons fit334 (
 fits_cons fit335 (
 fits_cons fit336 (
 fits_cons fit337 (
 fits_cons fit339 (
 fits_cons fit340 (
 fits_cons fit341 (
 fits_cons fit342 (
 fits_cons fit343 (
 fits_cons fit344 (
 fits_cons fit345 (
 fits_cons fit346 (
 fits_nil))))))))))))))))))))))))))))))))))))))))))))))))))))))))))))))))))))))))))))))))))))))))))))))))))))))))))))))))))))))))))))))))))))))
theorem mixed:Tryz.prog.follows .mixedOrders=true:=by kernel_rfl
end Go.Proofs.YtfkjhfdpphfjhaaGreatDoor
end
