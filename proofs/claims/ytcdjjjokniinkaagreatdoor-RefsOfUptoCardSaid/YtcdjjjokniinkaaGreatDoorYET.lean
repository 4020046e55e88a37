/- Proved: a part of what the law is proved with (the reckoner, contracts of functions, plain laws). Conditions: as each says. -/
import Derived.Test.YtcdjjjokniinkaaGreatDoorProg
import Derived.Test.YtcdjjjokniinkaaGreatDoorYEp
section
namespace Go.Proofs.YtcdjjjokniinkaaGreatDoor
open Go.EYtcdjjjokniinkaaGreatDoor
theorem fit2:FitsOne Tryz.prog 2 ⟨false,1,8,[.v (.int .i64 0)],[],false,(some .i64),none,5,[],false,[]⟩:=⟨by kernel_rfl,rfl,rfl,by kernel_rfl,(fun h=>by cases h),by kernel_rfl⟩
theorem fit3:FitsOne Tryz.prog 3 ⟨false,1,8,[.v (.int .i64 0)],[],false,(some .i64),none,5,[],false,[]⟩:=⟨by kernel_rfl,rfl,rfl,by kernel_rfl,(fun h=>by cases h),by kernel_rfl⟩
theorem fit4:FitsOne Tryz.prog 4 ⟨false,1,1,[.v (.bool false)],[],false,none,none,1,[],false,[]⟩:=⟨by kernel_rfl,rfl,rfl,by kernel_rfl,(fun h=>by cases h),by kernel_rfl⟩
theorem fit5:FitsOne Tryz.prog 5 ⟨false,1,1,[.v (.int .u8 0)],[],false,(some .u8),none,5,[],false,[]⟩:=⟨by kernel_rfl,rfl,rfl,by kernel_rfl,(fun h=>by cases h),by kernel_rfl⟩
theorem fit6:FitsOne Tryz.prog 6 ⟨false,1,1,[.v (.int .u8 0)],[],false,(some .u8),none,5,[],false,[]⟩:=⟨by kernel_rfl,rfl,rfl,by kernel_rfl,(fun h=>by cases h),by kernel_rfl⟩
theorem fit7:FitsOne Tryz.prog 7 ⟨true,4,24,[.v (.int .i64 0),.v (.int .i64 0),.v (.bool false),.v (.int .u8 0)],[(0,1),(1,1),(2,1),(3,1)],false,none,none,6,[],false,[]⟩:=⟨by kernel_rfl,rfl,rfl,by kernel_rfl,(fun h=>by cases h),by kernel_rfl⟩
theorem fit8:FitsOne Tryz.prog 8 ⟨true,4,24,[.v (.int .i64 0),.v (.int .i64 0),.v (.bool false),.v (.int .u8 0)],[(0,1),(1,1),(2,1),(3,1)],false,none,none,6,[],false,[]⟩:=⟨by kernel_rfl,rfl,rfl,by kernel_rfl,(fun h=>by cases h),by kernel_rfl⟩
theorem fit9:FitsOne Tryz.prog 9 ⟨false,1,16,[.str []],[],false,none,none,2,[],false,[]⟩:=⟨by kernel_rfl,rfl,rfl,by kernel_rfl,(fun h=>by cases h),by kernel_rfl⟩
theorem fit10:FitsOne Tryz.prog 10 ⟨false,1,16,[.str []],[],false,none,none,2,[],false,[]⟩:=⟨by kernel_rfl,rfl,rfl,by kernel_rfl,(fun h=>by cases h),by kernel_rfl⟩
theorem fit11:FitsOne Tryz.prog 11 ⟨false,1,16,[.str []],[],false,none,none,2,[],false,[]⟩:=⟨by kernel_rfl,rfl,rfl,by kernel_rfl,(fun h=>by cases h),by kernel_rfl⟩
theorem fit12:FitsOne Tryz.prog 12 ⟨false,1,8,[.v (.int .u64 0)],[],false,(some .u64),none,5,[],false,[]⟩:=⟨by kernel_rfl,rfl,rfl,by kernel_rfl,(fun h=>by cases h),by kernel_rfl⟩
theorem fit13:FitsOne Tryz.prog 13 ⟨true,2,24,[.str [],.v (.int .u64 0)],[(0,1),(1,1)],false,none,none,6,[],false,[]⟩:=⟨by kernel_rfl,rfl,rfl,by kernel_rfl,(fun h=>by cases h),by kernel_rfl⟩
theorem fit14:FitsOne Tryz.prog 14 ⟨true,2,24,[.str [],.v (.int .u64 0)],[(0,1),(1,1)],false,none,none,6,[],false,[]⟩:=⟨by kernel_rfl,rfl,rfl,by kernel_rfl,(fun h=>by cases h),by kernel_rfl⟩
theorem fit15:FitsOne Tryz.prog 15 ⟨false,1,8,[.v (.pointer none)],[],false,none,none,8,[],false,[287]⟩:=⟨by kernel_rfl,rfl,rfl,by kernel_rfl,(fun h=>by cases h),by kernel_rfl⟩
theorem fit16:FitsOne Tryz.prog 16 ⟨false,1,8,[.v (.pointer none)],[],false,none,none,8,[],false,[290]⟩:=⟨by kernel_rfl,rfl,rfl,by kernel_rfl,(fun h=>by cases h),by kernel_rfl⟩
theorem fit17:FitsOne Tryz.prog 17 ⟨false,1,8,[.v (.pointer none)],[],false,none,none,8,[],false,[298]⟩:=⟨by kernel_rfl,rfl,rfl,by kernel_rfl,(fun h=>by cases h),by kernel_rfl⟩
theorem fit18:FitsOne Tryz.prog 18 ⟨true,1,8,[.v (.pointer none)],[(0,1)],false,none,none,6,[],false,[]⟩:=⟨by kernel_rfl,rfl,rfl,by kernel_rfl,(fun h=>by cases h),by kernel_rfl⟩
theorem fit19:FitsOne Tryz.prog 19 ⟨true,1,8,[.v (.pointer none)],[(0,1)],false,none,none,6,[],false,[]⟩:=⟨by kernel_rfl,rfl,rfl,by kernel_rfl,(fun h=>by cases h),by kernel_rfl⟩
theorem fit20:FitsOne Tryz.prog 20 ⟨false,1,16,[.v .nilIface],[],true,none,none,7,[],false,[]⟩:=⟨by kernel_rfl,rfl,rfl,by kernel_rfl,(fun h=>by cases h),by kernel_rfl⟩
theorem fit21:FitsOne Tryz.prog 21 ⟨false,1,4,[.v (.int .i32 0)],[],false,(some .i32),none,5,[],false,[]⟩:=⟨by kernel_rfl,rfl,rfl,by kernel_rfl,(fun h=>by cases h),by kernel_rfl⟩
theorem fit22:FitsOne Tryz.prog 22 ⟨false,1,24,[.v (.slice none 0 0)],[],false,none,(some 31),3,[],false,[]⟩:=⟨by kernel_rfl,rfl,rfl,by kernel_rfl,(fun h=>by cases h),by kernel_rfl⟩
theorem fit23:FitsOne Tryz.prog 23 ⟨false,1,16,[.v .nilIface],[],true,none,none,7,[],false,[]⟩:=⟨by kernel_rfl,rfl,rfl,by kernel_rfl,(fun h=>by cases h),by kernel_rfl⟩
theorem fit24:FitsOne Tryz.prog 24 ⟨false,1,16,[.v .nilIface],[],true,none,none,7,[],false,[]⟩:=⟨by kernel_rfl,rfl,rfl,by kernel_rfl,(fun h=>by cases h),by kernel_rfl⟩
theorem fit27:FitsOne Tryz.prog 27 ⟨true,2,16,[.v (.int .i64 0),.v (.int .i64 0)],[(0,1),(1,1)],false,none,none,6,[],false,[]⟩:=⟨by kernel_rfl,rfl,rfl,by kernel_rfl,(fun h=>by cases h),by kernel_rfl⟩
theorem fit28:FitsOne Tryz.prog 28 ⟨true,2,16,[.v (.int .i64 0),.v (.int .i64 0)],[(0,1),(1,1)],false,none,none,6,[3,3],true,[]⟩:=⟨by kernel_rfl,rfl,rfl,by kernel_rfl,fun _=>⟨by kernel_rfl,rfl,by kernel_rfl,by kernel_rfl,rfl⟩,by kernel_rfl⟩
theorem fit30:FitsOne Tryz.prog 30 ⟨true,3,32,[.v (.int .i64 0),.v (.int .i64 0),.str []],[(0,2),(2,1)],false,none,none,6,[],false,[]⟩:=⟨by kernel_rfl,rfl,rfl,by kernel_rfl,(fun h=>by cases h),by kernel_rfl⟩
theorem fit31:FitsOne Tryz.prog 31 ⟨true,3,32,[.v (.int .i64 0),.v (.int .i64 0),.str []],[(0,2),(2,1)],false,none,none,6,[28,9],true,[]⟩:=⟨by kernel_rfl,rfl,rfl,by kernel_rfl,fun _=>⟨by kernel_rfl,rfl,by kernel_rfl,by kernel_rfl,rfl⟩,by kernel_rfl⟩
theorem fit34:FitsOne Tryz.prog 34 ⟨true,4,24,[.v (.int .i64 0),.v (.int .i64 0),.v (.bool false),.v (.bool false)],[(0,2),(2,1),(3,1)],false,none,none,6,[],false,[]⟩:=⟨by kernel_rfl,rfl,rfl,by kernel_rfl,(fun h=>by cases h),by kernel_rfl⟩
theorem fit35:FitsOne Tryz.prog 35 ⟨true,4,24,[.v (.int .i64 0),.v (.int .i64 0),.v (.bool false),.v (.bool false)],[(0,2),(2,1),(3,1)],false,none,none,6,[28,4,4],true,[]⟩:=⟨by kernel_rfl,rfl,rfl,by kernel_rfl,fun _=>⟨by kernel_rfl,rfl,by kernel_rfl,by kernel_rfl,rfl⟩,by kernel_rfl⟩
theorem fit36:FitsOne Tryz.prog 36 ⟨false,1,24,[.v (.slice none 0 0)],[],false,none,(some 38),3,[],false,[]⟩:=⟨by kernel_rfl,rfl,rfl,by kernel_rfl,(fun h=>by cases h),by kernel_rfl⟩
theorem fit37:FitsOne Tryz.prog 37 ⟨true,12,104,[.v (.int .i64 0),.v (.int .i64 0),.str [],.v (.int .i64 0),.v (.int .i64 0),.v (.bool false),.v (.bool false),.v (.int .i64 0),.v (.int .i64 0),.v (.bool false),.v (.bool false),.v (.slice none 0 0)],[(0,1),(1,1),(2,1),(3,4),(7,4),(11,1)],false,none,none,6,[],false,[]⟩:=⟨by kernel_rfl,rfl,rfl,by kernel_rfl,(fun h=>by cases h),by kernel_rfl⟩
theorem fit38:FitsOne Tryz.prog 38 ⟨true,12,104,[.v (.int .i64 0),.v (.int .i64 0),.str [],.v (.int .i64 0),.v (.int .i64 0),.v (.bool false),.v (.bool false),.v (.int .i64 0),.v (.int .i64 0),.v (.bool false),.v (.bool false),.v (.slice none 0 0)],[(0,1),(1,1),(2,1),(3,4),(7,4),(11,1)],false,none,none,6,[],false,[]⟩:=⟨by kernel_rfl,rfl,rfl,by kernel_rfl,(fun h=>by cases h),by kernel_rfl⟩
theorem fit41:FitsOne Tryz.prog 41 ⟨false,1,24,[.v (.slice none 0 0)],[],false,none,(some 28),3,[],false,[]⟩:=⟨by kernel_rfl,rfl,rfl,by kernel_rfl,(fun h=>by cases h),by kernel_rfl⟩
theorem fit50:FitsOne Tryz.prog 50 ⟨false,1,8,[.v (.int .i64 0)],[],false,(some .i64),none,5,[],false,[]⟩:=⟨by kernel_rfl,rfl,rfl,by kernel_rfl,(fun h=>by cases h),by kernel_rfl⟩
theorem fit55:FitsOne Tryz.prog 55 ⟨false,1,8,[.v (.map none)],[],false,none,none,9,[],false,[28,9]⟩:=⟨by kernel_rfl,rfl,rfl,by kernel_rfl,(fun h=>by cases h),by kernel_rfl⟩
theorem fit63:FitsOne Tryz.prog 63 ⟨true,2700,2700,List.replicate 2700 (.v (.bool false)),[],false,none,(some 4),4,[],false,[2700]⟩:=⟨by kernel_rfl,by kernel_rfl,by kernel_rfl,by kernel_rfl,(fun h=>by cases h),by kernel_rfl⟩
theorem fit65:FitsOne Tryz.prog 65 ⟨false,1,8,[.v (.pointer none)],[],false,none,none,8,[],false,[63]⟩:=⟨by kernel_rfl,rfl,rfl,by kernel_rfl,(fun h=>by cases h),by kernel_rfl⟩
theorem fit68:FitsOne Tryz.prog 68 ⟨false,1,24,[.v (.slice none 0 0)],[],false,none,(some 22),3,[],false,[]⟩:=⟨by kernel_rfl,rfl,rfl,by kernel_rfl,(fun h=>by cases h),by kernel_rfl⟩
theorem fit83:FitsOne Tryz.prog 83 ⟨false,1,24,[.v (.slice none 0 0)],[],false,none,(some 5),3,[],false,[]⟩:=⟨by kernel_rfl,rfl,rfl,by kernel_rfl,(fun h=>by cases h),by kernel_rfl⟩
theorem fit85:FitsOne Tryz.prog 85 ⟨true,3,32,[.v (.int .i64 0),.v (.int .i64 0),.str []],[(0,1),(1,1),(2,1)],false,none,none,6,[],false,[]⟩:=⟨by kernel_rfl,rfl,rfl,by kernel_rfl,(fun h=>by cases h),by kernel_rfl⟩
theorem fit86:FitsOne Tryz.prog 86 ⟨true,3,32,[.v (.int .i64 0),.v (.int .i64 0),.str []],[(0,1),(1,1),(2,1)],false,none,none,6,[3,3,9],true,[]⟩:=⟨by kernel_rfl,rfl,rfl,by kernel_rfl,fun _=>⟨by kernel_rfl,rfl,by kernel_rfl,by kernel_rfl,rfl⟩,by kernel_rfl⟩
theorem fit93:FitsOne Tryz.prog 93 ⟨false,1,8,[.v (.pointer none)],[],false,none,none,8,[],false,[95]⟩:=⟨by kernel_rfl,rfl,rfl,by kernel_rfl,(fun h=>by cases h),by kernel_rfl⟩
theorem fit94:FitsOne Tryz.prog 94 ⟨true,5,48,[.str [],.v (.int .i64 0),.v (.int .i64 0),.v (.int .i64 0),.v (.int .i64 0)],[(0,1),(1,1),(2,1),(3,1),(4,1)],false,none,none,6,[],false,[]⟩:=⟨by kernel_rfl,rfl,rfl,by kernel_rfl,(fun h=>by cases h),by kernel_rfl⟩
theorem fit95:FitsOne Tryz.prog 95 ⟨true,5,48,[.str [],.v (.int .i64 0),.v (.int .i64 0),.v (.int .i64 0),.v (.int .i64 0)],[(0,1),(1,1),(2,1),(3,1),(4,1)],false,none,none,6,[9,3,3,3,3],true,[]⟩:=⟨by kernel_rfl,rfl,rfl,by kernel_rfl,fun _=>⟨by kernel_rfl,rfl,by kernel_rfl,by kernel_rfl,rfl⟩,by kernel_rfl⟩
theorem fit97:FitsOne Tryz.prog 97 ⟨true,4,40,[.v (.int .i64 0),.v (.int .i64 0),.v (.int .i64 0),.str []],[(0,1),(1,1),(2,1),(3,1)],false,none,none,6,[],false,[]⟩:=⟨by kernel_rfl,rfl,rfl,by kernel_rfl,(fun h=>by cases h),by kernel_rfl⟩
theorem fit98:FitsOne Tryz.prog 98 ⟨true,4,40,[.v (.int .i64 0),.v (.int .i64 0),.v (.int .i64 0),.str []],[(0,1),(1,1),(2,1),(3,1)],false,none,none,6,[3,3,3,9],true,[]⟩:=⟨by kernel_rfl,rfl,rfl,by kernel_rfl,fun _=>⟨by kernel_rfl,rfl,by kernel_rfl,by kernel_rfl,rfl⟩,by kernel_rfl⟩
theorem fit102:FitsOne Tryz.prog 102 ⟨true,4,32,[.v (.int .i64 0),.v (.int .i64 0),.v (.int .i64 0),.v (.int .i64 0)],[(0,2),(2,2)],false,none,none,6,[],false,[]⟩:=⟨by kernel_rfl,rfl,rfl,by kernel_rfl,(fun h=>by cases h),by kernel_rfl⟩
theorem fit103:FitsOne Tryz.prog 103 ⟨true,4,32,[.v (.int .i64 0),.v (.int .i64 0),.v (.int .i64 0),.v (.int .i64 0)],[(0,2),(2,2)],false,none,none,6,[28,28],true,[]⟩:=⟨by kernel_rfl,rfl,rfl,by kernel_rfl,fun _=>⟨by kernel_rfl,rfl,by kernel_rfl,by kernel_rfl,rfl⟩,by kernel_rfl⟩
theorem fit112:FitsOne Tryz.prog 112 ⟨false,1,8,[.v (.pointer none)],[],false,none,none,8,[],false,[50]⟩:=⟨by kernel_rfl,rfl,rfl,by kernel_rfl,(fun h=>by cases h),by kernel_rfl⟩
theorem fit116:FitsOne Tryz.prog 116 ⟨true,2,24,[.v (.int .i64 0),.v .nilIface],[(0,1),(1,1)],false,none,none,6,[],false,[]⟩:=⟨by kernel_rfl,rfl,rfl,by kernel_rfl,(fun h=>by cases h),by kernel_rfl⟩
theorem fit117:FitsOne Tryz.prog 117 ⟨true,2,24,[.v (.int .i64 0),.v .nilIface],[(0,1),(1,1)],false,none,none,6,[],false,[]⟩:=⟨by kernel_rfl,rfl,rfl,by kernel_rfl,(fun h=>by cases h),by kernel_rfl⟩
theorem fit119:FitsOne Tryz.prog 119 ⟨false,1,8,[.v (.pointer none)],[],false,none,none,8,[],false,[121]⟩:=⟨by kernel_rfl,rfl,rfl,by kernel_rfl,(fun h=>by cases h),by kernel_rfl⟩
theorem fit120:FitsOne Tryz.prog 120 ⟨true,3,32,[.str [],.v (.int .i64 0),.v (.int .i64 0)],[(0,1),(1,1),(2,1)],false,none,none,6,[],false,[]⟩:=⟨by kernel_rfl,rfl,rfl,by kernel_rfl,(fun h=>by cases h),by kernel_rfl⟩
theorem fit121:FitsOne Tryz.prog 121 ⟨true,3,32,[.str [],.v (.int .i64 0),.v (.int .i64 0)],[(0,1),(1,1),(2,1)],false,none,none,6,[9,3,3],true,[]⟩:=⟨by kernel_rfl,rfl,rfl,by kernel_rfl,fun _=>⟨by kernel_rfl,rfl,by kernel_rfl,by kernel_rfl,rfl⟩,by kernel_rfl⟩
theorem fit123:FitsOne Tryz.prog 123 ⟨false,1,8,[.v (.int .u64 0)],[],false,(some .u64),none,5,[],false,[]⟩:=⟨by kernel_rfl,rfl,rfl,by kernel_rfl,(fun h=>by cases h),by kernel_rfl⟩
theorem fit127:FitsOne Tryz.prog 127 ⟨false,1,8,[.v (.pointer none)],[],false,none,none,8,[],false,[172]⟩:=⟨by kernel_rfl,rfl,rfl,by kernel_rfl,(fun h=>by cases h),by kernel_rfl⟩
theorem fit130:FitsOne Tryz.prog 130 ⟨false,1,24,[.v (.slice none 0 0)],[],false,none,(some 9),3,[],false,[]⟩:=⟨by kernel_rfl,rfl,rfl,by kernel_rfl,(fun h=>by cases h),by kernel_rfl⟩
theorem fit136:FitsOne Tryz.prog 136 ⟨false,1,8,[.v (.pointer none)],[],false,none,none,8,[],false,[3]⟩:=⟨by kernel_rfl,rfl,rfl,by kernel_rfl,(fun h=>by cases h),by kernel_rfl⟩
theorem fit137:FitsOne Tryz.prog 137 ⟨false,1,8,[.v (.pointer none)],[],false,none,none,8,[],false,[139]⟩:=⟨by kernel_rfl,rfl,rfl,by kernel_rfl,(fun h=>by cases h),by kernel_rfl⟩
theorem fit138:FitsOne Tryz.prog 138 ⟨true,2,32,[.v (.pointer none),.v (.slice none 0 0)],[(0,1),(1,1)],false,none,none,6,[],false,[]⟩:=⟨by kernel_rfl,rfl,rfl,by kernel_rfl,(fun h=>by cases h),by kernel_rfl⟩
theorem fit139:FitsOne Tryz.prog 139 ⟨true,2,32,[.v (.pointer none),.v (.slice none 0 0)],[(0,1),(1,1)],false,none,none,6,[],false,[]⟩:=⟨by kernel_rfl,rfl,rfl,by kernel_rfl,(fun h=>by cases h),by kernel_rfl⟩
theorem fit143:FitsOne Tryz.prog 143 ⟨false,1,8,[.v (.pointer none)],[],false,none,none,0,[],false,[]⟩:=⟨by kernel_rfl,rfl,rfl,by kernel_rfl,(fun h=>by cases h),by kernel_rfl⟩
theorem fit144:FitsOne Tryz.prog 144 ⟨false,1,8,[.v (.int .u64 0)],[],false,(some .u64),none,5,[],false,[]⟩:=⟨by kernel_rfl,rfl,rfl,by kernel_rfl,(fun h=>by cases h),by kernel_rfl⟩
theorem fit145:FitsOne Tryz.prog 145 ⟨true,3,24,[.v (.pointer none),.v (.pointer none),.v (.int .u64 0)],[(0,1),(1,1),(2,1)],false,none,none,6,[],false,[]⟩:=⟨by kernel_rfl,rfl,rfl,by kernel_rfl,(fun h=>by cases h),by kernel_rfl⟩
theorem fit146:FitsOne Tryz.prog 146 ⟨true,3,24,[.v (.pointer none),.v (.pointer none),.v (.int .u64 0)],[(0,1),(1,1),(2,1)],false,none,none,6,[],false,[]⟩:=⟨by kernel_rfl,rfl,rfl,by kernel_rfl,(fun h=>by cases h),by kernel_rfl⟩
theorem fit148:FitsOne Tryz.prog 148 ⟨false,1,16,[.v .nilIface],[],true,none,none,7,[],false,[]⟩:=⟨by kernel_rfl,rfl,rfl,by kernel_rfl,(fun h=>by cases h),by kernel_rfl⟩
theorem fit149:FitsOne Tryz.prog 149 ⟨false,1,16,[.v .nilIface],[],true,none,none,7,[],false,[]⟩:=⟨by kernel_rfl,rfl,rfl,by kernel_rfl,(fun h=>by cases h),by kernel_rfl⟩
theorem fit151:FitsOne Tryz.prog 151 ⟨false,1,1,[.v (.int .u8 0)],[],false,(some .u8),none,5,[],false,[]⟩:=⟨by kernel_rfl,rfl,rfl,by kernel_rfl,(fun h=>by cases h),by kernel_rfl⟩
theorem fit156:FitsOne Tryz.prog 156 ⟨false,1,24,[.v (.slice none 0 0)],[],false,none,(some 3),3,[],false,[]⟩:=⟨by kernel_rfl,rfl,rfl,by kernel_rfl,(fun h=>by cases h),by kernel_rfl⟩
theorem fit158:FitsOne Tryz.prog 158 ⟨true,4,96,[.v (.slice none 0 0),.v (.slice none 0 0),.v (.slice none 0 0),.v (.slice none 0 0)],[],false,none,(some 130),4,[],false,[4]⟩:=⟨by kernel_rfl,rfl,rfl,by kernel_rfl,(fun h=>by cases h),by kernel_rfl⟩
theorem fit160:FitsOne Tryz.prog 160 ⟨false,1,8,[.v (.int .i64 0)],[],false,(some .i64),none,5,[],false,[]⟩:=⟨by kernel_rfl,rfl,rfl,by kernel_rfl,(fun h=>by cases h),by kernel_rfl⟩
theorem fit167:FitsOne Tryz.prog 167 ⟨false,1,4,[.v (.int .u32 0)],[],false,(some .u32),none,5,[],false,[]⟩:=⟨by kernel_rfl,rfl,rfl,by kernel_rfl,(fun h=>by cases h),by kernel_rfl⟩
theorem fit169:FitsOne Tryz.prog 169 ⟨false,1,8,[.v (.int .u64 0)],[],false,(some .u64),none,5,[],false,[]⟩:=⟨by kernel_rfl,rfl,rfl,by kernel_rfl,(fun h=>by cases h),by kernel_rfl⟩
theorem fit170:FitsOne Tryz.prog 170 ⟨false,1,24,[.v (.slice none 0 0)],[],false,none,(some 167),3,[],false,[]⟩:=⟨by kernel_rfl,rfl,rfl,by kernel_rfl,(fun h=>by cases h),by kernel_rfl⟩
theorem fit171:FitsOne Tryz.prog 171 ⟨true,2,32,[.v (.bool false),.v (.slice none 0 0)],[(0,1),(1,1)],false,none,none,6,[],false,[]⟩:=⟨by kernel_rfl,rfl,rfl,by kernel_rfl,(fun h=>by cases h),by kernel_rfl⟩
theorem fit172:FitsOne Tryz.prog 172 ⟨true,2,32,[.v (.bool false),.v (.slice none 0 0)],[(0,1),(1,1)],false,none,none,6,[],false,[]⟩:=⟨by kernel_rfl,rfl,rfl,by kernel_rfl,(fun h=>by cases h),by kernel_rfl⟩
theorem fit184:FitsOne Tryz.prog 184 ⟨false,1,8,[.v (.pointer none)],[],false,none,none,8,[],false,[5]⟩:=⟨by kernel_rfl,rfl,rfl,by kernel_rfl,(fun h=>by cases h),by kernel_rfl⟩
theorem fit185:FitsOne Tryz.prog 185 ⟨true,1,8,[.v (.pointer none)],[(0,1)],false,none,none,6,[],false,[]⟩:=⟨by kernel_rfl,rfl,rfl,by kernel_rfl,(fun h=>by cases h),by kernel_rfl⟩
theorem fit186:FitsOne Tryz.prog 186 ⟨true,1,8,[.v (.pointer none)],[(0,1)],false,none,none,6,[],false,[]⟩:=⟨by kernel_rfl,rfl,rfl,by kernel_rfl,(fun h=>by cases h),by kernel_rfl⟩
theorem fit187:FitsOne Tryz.prog 187 ⟨false,1,8,[.v (.pointer none)],[],false,none,none,8,[],false,[302]⟩:=⟨by kernel_rfl,rfl,rfl,by kernel_rfl,(fun h=>by cases h),by kernel_rfl⟩
theorem fit191:FitsOne Tryz.prog 191 ⟨false,1,16,[.v .nilIface],[],true,none,none,7,[],false,[]⟩:=⟨by kernel_rfl,rfl,rfl,by kernel_rfl,(fun h=>by cases h),by kernel_rfl⟩
theorem fit194:FitsOne Tryz.prog 194 ⟨false,1,16,[.v .nilIface],[],true,none,none,7,[],false,[]⟩:=⟨by kernel_rfl,rfl,rfl,by kernel_rfl,(fun h=>by cases h),by kernel_rfl⟩
theorem fit196:FitsOne Tryz.prog 196 ⟨false,1,16,[.v .nilIface],[],true,none,none,7,[],false,[]⟩:=⟨by kernel_rfl,rfl,rfl,by kernel_rfl,(fun h=>by cases h),by kernel_rfl⟩
theorem fit197:FitsOne Tryz.prog 197 ⟨false,1,24,[.v (.slice none 0 0)],[],false,none,(some 24),3,[],false,[]⟩:=⟨by kernel_rfl,rfl,rfl,by kernel_rfl,(fun h=>by cases h),by kernel_rfl⟩
theorem fit201:FitsOne Tryz.prog 201 ⟨false,1,8,[.v (.int .u64 0)],[],false,(some .u64),none,5,[],false,[]⟩:=⟨by kernel_rfl,rfl,rfl,by kernel_rfl,(fun h=>by cases h),by kernel_rfl⟩
theorem fit217:FitsOne Tryz.prog 217 ⟨true,7,112,[.str [],.str [],.str [],.str [],.str [],.str [],.str []],[],false,none,(some 9),4,[],false,[7]⟩:=⟨by kernel_rfl,rfl,rfl,by kernel_rfl,(fun h=>by cases h),by kernel_rfl⟩
theorem fit219:FitsOne Tryz.prog 219 ⟨true,12,192,[.str [],.str [],.str [],.str [],.str [],.str [],.str [],.str [],.str [],.str [],.str [],.str []],[],false,none,(some 9),4,[],false,[12]⟩:=⟨by kernel_rfl,rfl,rfl,by kernel_rfl,(fun h=>by cases h),by kernel_rfl⟩
theorem fit223:FitsOne Tryz.prog 223 ⟨false,1,8,[.v (.pointer none)],[],false,none,none,8,[],false,[201]⟩:=⟨by kernel_rfl,rfl,rfl,by kernel_rfl,(fun h=>by cases h),by kernel_rfl⟩
theorem fit230:FitsOne Tryz.prog 230 ⟨true,256,256,List.replicate 256 (.v (.bool false)),[],false,none,(some 4),4,[],false,[256]⟩:=⟨by kernel_rfl,by kernel_rfl,by kernel_rfl,by kernel_rfl,(fun h=>by cases h),by kernel_rfl⟩
theorem fit231:FitsOne Tryz.prog 231 ⟨true,256,256,List.replicate 256 (.v (.bool false)),[],false,none,(some 4),4,[],false,[256]⟩:=⟨by kernel_rfl,by kernel_rfl,by kernel_rfl,by kernel_rfl,(fun h=>by cases h),by kernel_rfl⟩
theorem fit235:FitsOne Tryz.prog 235 ⟨false,1,8,[.v (.pointer none)],[],false,none,none,8,[],false,[231]⟩:=⟨by kernel_rfl,rfl,rfl,by kernel_rfl,(fun h=>by cases h),by kernel_rfl⟩
theorem fit251:FitsOne Tryz.prog 251 ⟨true,24,24,[.v (.int .u8 0),.v (.int .u8 0),.v (.int .u8 0),.v (.int .u8 0),.v (.int .u8 0),.v (.int .u8 0),.v (.int .u8 0),.v (.int .u8 0),.v (.int .u8 0),.v (.int .u8 0),.v (.int .u8 0),.v (.int .u8 0),.v (.int .u8 0),.v (.int .u8 0),.v (.int .u8 0),.v (.int .u8 0),.v (.int .u8 0),.v (.int .u8 0),.v (.int .u8 0),.v (.int .u8 0),.v (.int .u8 0),.v (.int .u8 0),.v (.int .u8 0),.v (.int .u8 0)],[],false,none,(some 5),4,[],false,[24]⟩:=⟨by kernel_rfl,rfl,rfl,by kernel_rfl,(fun h=>by cases h),by kernel_rfl⟩
theorem fit257:FitsOne Tryz.prog 257 ⟨true,2,2,[.v (.int .u8 0),.v (.int .u8 0)],[(0,1),(1,1)],false,none,none,6,[],false,[]⟩:=⟨by kernel_rfl,rfl,rfl,by kernel_rfl,(fun h=>by cases h),by kernel_rfl⟩
theorem fit258:FitsOne Tryz.prog 258 ⟨true,2,2,[.v (.int .u8 0),.v (.int .u8 0)],[(0,1),(1,1)],false,none,none,6,[],false,[]⟩:=⟨by kernel_rfl,rfl,rfl,by kernel_rfl,(fun h=>by cases h),by kernel_rfl⟩
theorem fit259:FitsOne Tryz.prog 259 ⟨true,32,32,[.v (.int .u8 0),.v (.int .u8 0),.v (.int .u8 0),.v (.int .u8 0),.v (.int .u8 0),.v (.int .u8 0),.v (.int .u8 0),.v (.int .u8 0),.v (.int .u8 0),.v (.int .u8 0),.v (.int .u8 0),.v (.int .u8 0),.v (.int .u8 0),.v (.int .u8 0),.v (.int .u8 0),.v (.int .u8 0),.v (.int .u8 0),.v (.int .u8 0),.v (.int .u8 0),.v (.int .u8 0),.v (.int .u8 0),.v (.int .u8 0),.v (.int .u8 0),.v (.int .u8 0),.v (.int .u8 0),.v (.int .u8 0),.v (.int .u8 0),.v (.int .u8 0),.v (.int .u8 0),.v (.int .u8 0),.v (.int .u8 0),.v (.int .u8 0)],[],false,none,(some 258),4,[],false,[16]⟩:=⟨by kernel_rfl,rfl,rfl,by kernel_rfl,(fun h=>by cases h),by kernel_rfl⟩
theorem fit263:FitsOne Tryz.prog 263 ⟨true,20,160,[.v (.int .u64 0),.v (.int .u64 0),.v (.int .u64 0),.v (.int .u64 0),.v (.int .u64 0),.v (.int .u64 0),.v (.int .u64 0),.v (.int .u64 0),.v (.int .u64 0),.v (.int .u64 0),.v (.int .u64 0),.v (.int .u64 0),.v (.int .u64 0),.v (.int .u64 0),.v (.int .u64 0),.v (.int .u64 0),.v (.int .u64 0),.v (.int .u64 0),.v (.int .u64 0),.v (.int .u64 0)],[],false,none,(some 169),4,[],false,[20]⟩:=⟨by kernel_rfl,rfl,rfl,by kernel_rfl,(fun h=>by cases h),by kernel_rfl⟩
theorem fit267:FitsOne Tryz.prog 267 ⟨false,1,8,[.v (.int .i64 0)],[],false,(some .i64),none,5,[],false,[]⟩:=⟨by kernel_rfl,rfl,rfl,by kernel_rfl,(fun h=>by cases h),by kernel_rfl⟩
theorem fit270:FitsOne Tryz.prog 270 ⟨false,1,8,[.v (.pointer none)],[],false,none,none,8,[],false,[277]⟩:=⟨by kernel_rfl,rfl,rfl,by kernel_rfl,(fun h=>by cases h),by kernel_rfl⟩
theorem fit276:FitsOne Tryz.prog 276 ⟨true,3,48,[.str [],.str [],.v .nilIface],[(0,1),(1,1),(2,1)],false,none,none,6,[],false,[]⟩:=⟨by kernel_rfl,rfl,rfl,by kernel_rfl,(fun h=>by cases h),by kernel_rfl⟩
theorem fit277:FitsOne Tryz.prog 277 ⟨true,3,48,[.str [],.str [],.v .nilIface],[(0,1),(1,1),(2,1)],false,none,none,6,[],false,[]⟩:=⟨by kernel_rfl,rfl,rfl,by kernel_rfl,(fun h=>by cases h),by kernel_rfl⟩
theorem fit278:FitsOne Tryz.prog 278 ⟨true,32,32,[.v (.int .u8 0),.v (.int .u8 0),.v (.int .u8 0),.v (.int .u8 0),.v (.int .u8 0),.v (.int .u8 0),.v (.int .u8 0),.v (.int .u8 0),.v (.int .u8 0),.v (.int .u8 0),.v (.int .u8 0),.v (.int .u8 0),.v (.int .u8 0),.v (.int .u8 0),.v (.int .u8 0),.v (.int .u8 0),.v (.int .u8 0),.v (.int .u8 0),.v (.int .u8 0),.v (.int .u8 0),.v (.int .u8 0),.v (.int .u8 0),.v (.int .u8 0),.v (.int .u8 0),.v (.int .u8 0),.v (.int .u8 0),.v (.int .u8 0),.v (.int .u8 0),.v (.int .u8 0),.v (.int .u8 0),.v (.int .u8 0),.v (.int .u8 0)],[],false,none,(some 5),4,[],false,[32]⟩:=⟨by kernel_rfl,rfl,rfl,by kernel_rfl,(fun h=>by cases h),by kernel_rfl⟩
theorem fit281:FitsOne Tryz.prog 281 ⟨false,1,8,[.v (.pointer none)],[],false,none,none,8,[],false,[283]⟩:=⟨by kernel_rfl,rfl,rfl,by kernel_rfl,(fun h=>by cases h),by kernel_rfl⟩
theorem fit282:FitsOne Tryz.prog 282 ⟨true,1,16,[.str []],[(0,1)],false,none,none,6,[],false,[]⟩:=⟨by kernel_rfl,rfl,rfl,by kernel_rfl,(fun h=>by cases h),by kernel_rfl⟩
theorem fit283:FitsOne Tryz.prog 283 ⟨true,1,16,[.str []],[(0,1)],false,none,none,6,[],false,[]⟩:=⟨by kernel_rfl,rfl,rfl,by kernel_rfl,(fun h=>by cases h),by kernel_rfl⟩
theorem fit284:FitsOne Tryz.prog 284 ⟨false,1,8,[.v (.pointer none)],[],false,none,none,8,[],false,[304]⟩:=⟨by kernel_rfl,rfl,rfl,by kernel_rfl,(fun h=>by cases h),by kernel_rfl⟩
theorem fit285:FitsOne Tryz.prog 285 ⟨false,1,8,[.v (.pointer none)],[],false,none,none,8,[],false,[306]⟩:=⟨by kernel_rfl,rfl,rfl,by kernel_rfl,(fun h=>by cases h),by kernel_rfl⟩
theorem fit286:FitsOne Tryz.prog 286 ⟨true,4,40,[.v (.pointer none),.v (.pointer none),.v (.pointer none),.str []],[(0,1),(1,1),(2,1),(3,1)],false,none,none,6,[],false,[]⟩:=⟨by kernel_rfl,rfl,rfl,by kernel_rfl,(fun h=>by cases h),by kernel_rfl⟩
theorem fit287:FitsOne Tryz.prog 287 ⟨true,4,40,[.v (.pointer none),.v (.pointer none),.v (.pointer none),.str []],[(0,1),(1,1),(2,1),(3,1)],false,none,none,6,[],false,[]⟩:=⟨by kernel_rfl,rfl,rfl,by kernel_rfl,(fun h=>by cases h),by kernel_rfl⟩
theorem fit288:FitsOne Tryz.prog 288 ⟨true,0,0,[],[],false,none,(some 16),4,[],false,[0]⟩:=⟨by kernel_rfl,rfl,rfl,by kernel_rfl,(fun h=>by cases h),by kernel_rfl⟩
theorem fit289:FitsOne Tryz.prog 289 ⟨true,0,0,[],[(0,0)],false,none,none,6,[],false,[]⟩:=⟨by kernel_rfl,rfl,rfl,by kernel_rfl,(fun h=>by cases h),by kernel_rfl⟩
theorem fit290:FitsOne Tryz.prog 290 ⟨true,0,0,[],[(0,0)],false,none,none,6,[],false,[]⟩:=⟨by kernel_rfl,rfl,rfl,by kernel_rfl,(fun h=>by cases h),by kernel_rfl⟩
theorem fit293:FitsOne Tryz.prog 293 ⟨false,1,1,[.v (.int .u8 0)],[],false,(some .u8),none,5,[],false,[]⟩:=⟨by kernel_rfl,rfl,rfl,by kernel_rfl,(fun h=>by cases h),by kernel_rfl⟩
theorem fit295:FitsOne Tryz.prog 295 ⟨false,1,4,[.v (.int .i32 0)],[],false,(some .i32),none,5,[],false,[]⟩:=⟨by kernel_rfl,rfl,rfl,by kernel_rfl,(fun h=>by cases h),by kernel_rfl⟩
theorem fit296:FitsOne Tryz.prog 296 ⟨false,1,4,[.v (.int .i32 0)],[],false,(some .i32),none,5,[],false,[]⟩:=⟨by kernel_rfl,rfl,rfl,by kernel_rfl,(fun h=>by cases h),by kernel_rfl⟩
theorem fit301:FitsOne Tryz.prog 301 ⟨true,2,24,[.str [],.v (.int .u8 0)],[(0,1),(1,1)],false,none,none,6,[],false,[]⟩:=⟨by kernel_rfl,rfl,rfl,by kernel_rfl,(fun h=>by cases h),by kernel_rfl⟩
theorem fit302:FitsOne Tryz.prog 302 ⟨true,2,24,[.str [],.v (.int .u8 0)],[(0,1),(1,1)],false,none,none,6,[],false,[]⟩:=⟨by kernel_rfl,rfl,rfl,by kernel_rfl,(fun h=>by cases h),by kernel_rfl⟩
theorem fit303:FitsOne Tryz.prog 303 ⟨true,2,32,[.str [],.v .nilIface],[(0,1),(1,1)],false,none,none,6,[],false,[]⟩:=⟨by kernel_rfl,rfl,rfl,by kernel_rfl,(fun h=>by cases h),by kernel_rfl⟩
theorem fit304:FitsOne Tryz.prog 304 ⟨true,2,32,[.str [],.v .nilIface],[(0,1),(1,1)],false,none,none,6,[],false,[]⟩:=⟨by kernel_rfl,rfl,rfl,by kernel_rfl,(fun h=>by cases h),by kernel_rfl⟩
theorem fit305:FitsOne Tryz.prog 305 ⟨true,2,40,[.str [],.v (.slice none 0 0)],[(0,1),(1,1)],false,none,none,6,[],false,[]⟩:=⟨by kernel_rfl,rfl,rfl,by kernel_rfl,(fun h=>by cases h),by kernel_rfl⟩
theorem fit306:FitsOne Tryz.prog 306 ⟨true,2,40,[.str [],.v (.slice none 0 0)],[(0,1),(1,1)],false,none,none,6,[],false,[]⟩:=⟨by kernel_rfl,rfl,rfl,by kernel_rfl,(fun h=>by cases h),by kernel_rfl⟩
theorem fit307:FitsOne Tryz.prog 307 ⟨false,1,8,[.v (.pointer none)],[],false,none,none,8,[],false,[311]⟩:=⟨by kernel_rfl,rfl,rfl,by kernel_rfl,(fun h=>by cases h),by kernel_rfl⟩
theorem fit309:FitsOne Tryz.prog 309 ⟨false,1,2,[.v (.int .u16 0)],[],false,(some .u16),none,5,[],false,[]⟩:=⟨by kernel_rfl,rfl,rfl,by kernel_rfl,(fun h=>by cases h),by kernel_rfl⟩
theorem fit310:FitsOne Tryz.prog 310 ⟨true,5,16,[.v (.int .i32 0),.v (.int .u16 0),.v (.int .u16 0),.v (.int .u32 0),.v (.int .u32 0)],[(0,1),(1,1),(2,1),(3,1),(4,1)],false,none,none,6,[],false,[]⟩:=⟨by kernel_rfl,rfl,rfl,by kernel_rfl,(fun h=>by cases h),by kernel_rfl⟩
theorem fit311:FitsOne Tryz.prog 311 ⟨true,5,16,[.v (.int .i32 0),.v (.int .u16 0),.v (.int .u16 0),.v (.int .u32 0),.v (.int .u32 0)],[(0,1),(1,1),(2,1),(3,1),(4,1)],false,none,none,6,[],false,[]⟩:=⟨by kernel_rfl,rfl,rfl,by kernel_rfl,(fun h=>by cases h),by kernel_rfl⟩
theorem fit312:FitsOne Tryz.prog 312 ⟨false,1,24,[.v (.slice none 0 0)],[],false,none,(some 315),3,[],false,[]⟩:=⟨by kernel_rfl,rfl,rfl,by kernel_rfl,(fun h=>by cases h),by kernel_rfl⟩
theorem fit313:FitsOne Tryz.prog 313 ⟨false,1,4,[.v (.int .i32 0)],[],false,(some .i32),none,5,[],false,[]⟩:=⟨by kernel_rfl,rfl,rfl,by kernel_rfl,(fun h=>by cases h),by kernel_rfl⟩
theorem fit314:FitsOne Tryz.prog 314 ⟨true,4,16,[.v (.int .i32 0),.v (.int .i32 0),.v (.int .i32 0),.v (.int .i32 0)],[(0,1),(1,1),(2,1),(3,1)],false,none,none,6,[],false,[]⟩:=⟨by kernel_rfl,rfl,rfl,by kernel_rfl,(fun h=>by cases h),by kernel_rfl⟩
theorem fit315:FitsOne Tryz.prog 315 ⟨true,4,16,[.v (.int .i32 0),.v (.int .i32 0),.v (.int .i32 0),.v (.int .i32 0)],[(0,1),(1,1),(2,1),(3,1)],false,none,none,6,[],false,[]⟩:=⟨by kernel_rfl,rfl,rfl,by kernel_rfl,(fun h=>by cases h),by kernel_rfl⟩
theorem fit316:FitsOne Tryz.prog 316 ⟨false,1,8,[.v (.pointer none)],[],false,none,none,8,[],false,[24]⟩:=⟨by kernel_rfl,rfl,rfl,by kernel_rfl,(fun h=>by cases h),by kernel_rfl⟩
def tt:List (Nat×TI):=[
 (2,⟨false,1,8,[.v (.int .i64 0)],[],false,(some .i64),none,5,[],false,[]⟩),
 (3,⟨false,1,8,[.v (.int .i64 0)],[],false,(some .i64),none,5,[],false,[]⟩),
 (4,⟨false,1,1,[.v (.bool false)],[],false,none,none,1,[],false,[]⟩),
 (5,⟨false,1,1,[.v (.int .u8 0)],[],false,(some .u8),none,5,[],false,[]⟩),
 (6,⟨false,1,1,[.v (.int .u8 0)],[],false,(some .u8),none,5,[],false,[]⟩),
 (7,⟨true,4,24,[.v (.int .i64 0),.v (.int .i64 0),.v (.bool false),.v (.int .u8 0)],[(0,1),(1,1),(2,1),(3,1)],false,none,none,6,[],false,[]⟩),
 (8,⟨true,4,24,[.v (.int .i64 0),.v (.int .i64 0),.v (.bool false),.v (.int .u8 0)],[(0,1),(1,1),(2,1),(3,1)],false,none,none,6,[],false,[]⟩),
 (9,⟨false,1,16,[.str []],[],false,none,none,2,[],false,[]⟩),
 (10,⟨false,1,16,[.str []],[],false,none,none,2,[],false,[]⟩),
 (11,⟨false,1,16,[.str []],[],false,none,none,2,[],false,[]⟩),
 (12,⟨false,1,8,[.v (.int .u64 0)],[],false,(some .u64),none,5,[],false,[]⟩),
 (13,⟨true,2,24,[.str [],.v (.int .u64 0)],[(0,1),(1,1)],false,none,none,6,[],false,[]⟩),
 (14,⟨true,2,24,[.str [],.v (.int .u64 0)],[(0,1),(1,1)],false,none,none,6,[],false,[]⟩),
 (15,⟨false,1,8,[.v (.pointer none)],[],false,none,none,8,[],false,[287]⟩),
 (16,⟨false,1,8,[.v (.pointer none)],[],false,none,none,8,[],false,[290]⟩),
 (17,⟨false,1,8,[.v (.pointer none)],[],false,none,none,8,[],false,[298]⟩),
 (18,⟨true,1,8,[.v (.pointer none)],[(0,1)],false,none,none,6,[],false,[]⟩),
 (19,⟨true,1,8,[.v (.pointer none)],[(0,1)],false,none,none,6,[],false,[]⟩),
 (20,⟨false,1,16,[.v .nilIface],[],true,none,none,7,[],false,[]⟩),
 (21,⟨false,1,4,[.v (.int .i32 0)],[],false,(some .i32),none,5,[],false,[]⟩),
 (22,⟨false,1,24,[.v (.slice none 0 0)],[],false,none,(some 31),3,[],false,[]⟩),
 (23,⟨false,1,16,[.v .nilIface],[],true,none,none,7,[],false,[]⟩),
 (24,⟨false,1,16,[.v .nilIface],[],true,none,none,7,[],false,[]⟩),
 (27,⟨true,2,16,[.v (.int .i64 0),.v (.int .i64 0)],[(0,1),(1,1)],false,none,none,6,[],false,[]⟩),
 (28,⟨true,2,16,[.v (.int .i64 0),.v (.int .i64 0)],[(0,1),(1,1)],false,none,none,6,[3,3],true,[]⟩),
 (30,⟨true,3,32,[.v (.int .i64 0),.v (.int .i64 0),.str []],[(0,2),(2,1)],false,none,none,6,[],false,[]⟩),
 (31,⟨true,3,32,[.v (.int .i64 0),.v (.int .i64 0),.str []],[(0,2),(2,1)],false,none,none,6,[28,9],true,[]⟩),
 (34,⟨true,4,24,[.v (.int .i64 0),.v (.int .i64 0),.v (.bool false),.v (.bool false)],[(0,2),(2,1),(3,1)],false,none,none,6,[],false,[]⟩),
 (35,⟨true,4,24,[.v (.int .i64 0),.v (.int .i64 0),.v (.bool false),.v (.bool false)],[(0,2),(2,1),(3,1)],false,none,none,6,[28,4,4],true,[]⟩),
 (36,⟨false,1,24,[.v (.slice none 0 0)],[],false,none,(some 38),3,[],false,[]⟩),
 (37,⟨true,12,104,[.v (.int .i64 0),.v (.int .i64 0),.str [],.v (.int .i64 0),.v (.int .i64 0),.v (.bool false),.v (.bool false),.v (.int .i64 0),.v (.int .i64 0),.v (.bool false),.v (.bool false),.v (.slice none 0 0)],[(0,1),(1,1),(2,1),(3,4),(7,4),(11,1)],false,none,none,6,[],false,[]⟩),
 (38,⟨true,12,104,[.v (.int .i64 0),.v (.int .i64 0),.str [],.v (.int .i64 0),.v (.int .i64 0),.v (.bool false),.v (.bool false),.v (.int .i64 0),.v (.int .i64 0),.v (.bool false),.v (.bool false),.v (.slice none 0 0)],[(0,1),(1,1),(2,1),(3,4),(7,4),(11,1)],false,none,none,6,[],false,[]⟩),
 (41,⟨false,1,24,[.v (.slice none 0 0)],[],false,none,(some 28),3,[],false,[]⟩),
 (50,⟨false,1,8,[.v (.int .i64 0)],[],false,(some .i64),none,5,[],false,[]⟩),
 (55,⟨false,1,8,[.v (.map none)],[],false,none,none,9,[],false,[28,9]⟩),
 (63,⟨true,2700,2700,List.replicate 2700 (.v (.bool false)),[],false,none,(some 4),4,[],false,[2700]⟩),
 (65,⟨false,1,8,[.v (.pointer none)],[],false,none,none,8,[],false,[63]⟩),
 (68,⟨false,1,24,[.v (.slice none 0 0)],[],false,none,(some 22),3,[],false,[]⟩),
 (83,⟨false,1,24,[.v (.slice none 0 0)],[],false,none,(some 5),3,[],false,[]⟩),
 (85,⟨true,3,32,[.v (.int .i64 0),.v (.int .i64 0),.str []],[(0,1),(1,1),(2,1)],false,none,none,6,[],false,[]⟩),
 (86,⟨true,3,32,[.v (.int .i64 0),.v (.int .i64 0),.str []],[(0,1),(1,1),(2,1)],false,none,none,6,[3,3,9],true,[]⟩),
 (93,⟨false,1,8,[.v (.pointer none)],[],false,none,none,8,[],false,[95]⟩),
 (94,⟨true,5,48,[.str [],.v (.int .i64 0),.v (.int .i64 0),.v (.int .i64 0),.v (.int .i64 0)],[(0,1),(1,1),(2,1),(3,1),(4,1)],false,none,none,6,[],false,[]⟩),
 (95,⟨true,5,48,[.str [],.v (.int .i64 0),.v (.int .i64 0),.v (.int .i64 0),.v (.int .i64 0)],[(0,1),(1,1),(2,1),(3,1),(4,1)],false,none,none,6,[9,3,3,3,3],true,[]⟩),
 (97,⟨true,4,40,[.v (.int .i64 0),.v (.int .i64 0),.v (.int .i64 0),.str []],[(0,1),(1,1),(2,1),(3,1)],false,none,none,6,[],false,[]⟩),
 (98,⟨true,4,40,[.v (.int .i64 0),.v (.int .i64 0),.v (.int .i64 0),.str []],[(0,1),(1,1),(2,1),(3,1)],false,none,none,6,[3,3,3,9],true,[]⟩),
 (102,⟨true,4,32,[.v (.int .i64 0),.v (.int .i64 0),.v (.int .i64 0),.v (.int .i64 0)],[(0,2),(2,2)],false,none,none,6,[],false,[]⟩),
 (103,⟨true,4,32,[.v (.int .i64 0),.v (.int .i64 0),.v (.int .i64 0),.v (.int .i64 0)],[(0,2),(2,2)],false,none,none,6,[28,28],true,[]⟩),
 (112,⟨false,1,8,[.v (.pointer none)],[],false,none,none,8,[],false,[50]⟩),
 (116,⟨true,2,24,[.v (.int .i64 0),.v .nilIface],[(0,1),(1,1)],false,none,none,6,[],false,[]⟩),
 (117,⟨true,2,24,[.v (.int .i64 0),.v .nilIface],[(0,1),(1,1)],false,none,none,6,[],false,[]⟩),
 (119,⟨false,1,8,[.v (.pointer none)],[],false,none,none,8,[],false,[121]⟩),
 (120,⟨true,3,32,[.str [],.v (.int .i64 0),.v (.int .i64 0)],[(0,1),(1,1),(2,1)],false,none,none,6,[],false,[]⟩),
 (121,⟨true,3,32,[.str [],.v (.int .i64 0),.v (.int .i64 0)],[(0,1),(1,1),(2,1)],false,none,none,6,[9,3,3],true,[]⟩),
 (123,⟨false,1,8,[.v (.int .u64 0)],[],false,(some .u64),none,5,[],false,[]⟩),
 (127,⟨false,1,8,[.v (.pointer none)],[],false,none,none,8,[],false,[172]⟩),
 (130,⟨false,1,24,[.v (.slice none 0 0)],[],false,none,(some 9),3,[],false,[]⟩),
 (136,⟨false,1,8,[.v (.pointer none)],[],false,none,none,8,[],false,[3]⟩),
 (137,⟨false,1,8,[.v (.pointer none)],[],false,none,none,8,[],false,[139]⟩),
 (138,⟨true,2,32,[.v (.pointer none),.v (.slice none 0 0)],[(0,1),(1,1)],false,none,none,6,[],false,[]⟩),
 (139,⟨true,2,32,[.v (.pointer none),.v (.slice none 0 0)],[(0,1),(1,1)],false,none,none,6,[],false,[]⟩),
 (143,⟨false,1,8,[.v (.pointer none)],[],false,none,none,0,[],false,[]⟩),
 (144,⟨false,1,8,[.v (.int .u64 0)],[],false,(some .u64),none,5,[],false,[]⟩),
 (145,⟨true,3,24,[.v (.pointer none),.v (.pointer none),.v (.int .u64 0)],[(0,1),(1,1),(2,1)],false,none,none,6,[],false,[]⟩),
 (146,⟨true,3,24,[.v (.pointer none),.v (.pointer none),.v (.int .u64 0)],[(0,1),(1,1),(2,1)],false,none,none,6,[],false,[]⟩),
 (148,⟨false,1,16,[.v .nilIface],[],true,none,none,7,[],false,[]⟩),
 (149,⟨false,1,16,[.v .nilIface],[],true,none,none,7,[],false,[]⟩),
 (151,⟨false,1,1,[.v (.int .u8 0)],[],false,(some .u8),none,5,[],false,[]⟩),
 (156,⟨false,1,24,[.v (.slice none 0 0)],[],false,none,(some 3),3,[],false,[]⟩),
 (158,⟨true,4,96,[.v (.slice none 0 0),.v (.slice none 0 0),.v (.slice none 0 0),.v (.slice none 0 0)],[],false,none,(some 130),4,[],false,[4]⟩),
 (160,⟨false,1,8,[.v (.int .i64 0)],[],false,(some .i64),none,5,[],false,[]⟩),
 (167,⟨false,1,4,[.v (.int .u32 0)],[],false,(some .u32),none,5,[],false,[]⟩),
 (169,⟨false,1,8,[.v (.int .u64 0)],[],false,(some .u64),none,5,[],false,[]⟩),
 (170,⟨false,1,24,[.v (.slice none 0 0)],[],false,none,(some 167),3,[],false,[]⟩),
 (171,⟨true,2,32,[.v (.bool false),.v (.slice none 0 0)],[(0,1),(1,1)],false,none,none,6,[],false,[]⟩),
 (172,⟨true,2,32,[.v (.bool false),.v (.slice none 0 0)],[(0,1),(1,1)],false,none,none,6,[],false,[]⟩),
 (184,⟨false,1,8,[.v (.pointer none)],[],false,none,none,8,[],false,[5]⟩),
 (185,⟨true,1,8,[.v (.pointer none)],[(0,1)],false,none,none,6,[],false,[]⟩),
 (186,⟨true,1,8,[.v (.pointer none)],[(0,1)],false,none,none,6,[],false,[]⟩),
 (187,⟨false,1,8,[.v (.pointer none)],[],false,none,none,8,[],false,[302]⟩),
 (191,⟨false,1,16,[.v .nilIface],[],true,none,none,7,[],false,[]⟩),
 (194,⟨false,1,16,[.v .nilIface],[],true,none,none,7,[],false,[]⟩),
 (196,⟨false,1,16,[.v .nilIface],[],true,none,none,7,[],false,[]⟩),
 (197,⟨false,1,24,[.v (.slice none 0 0)],[],false,none,(some 24),3,[],false,[]⟩),
 (201,⟨false,1,8,[.v (.int .u64 0)],[],false,(some .u64),none,5,[],false,[]⟩),
 (217,⟨true,7,112,[.str [],.str [],.str [],.str [],.str [],.str [],.str []],[],false,none,(some 9),4,[],false,[7]⟩),
 (219,⟨true,12,192,[.str [],.str [],.str [],.str [],.str [],.str [],.str [],.str [],.str [],.str [],.str [],.str []],[],false,none,(some 9),4,[],false,[12]⟩),
 (223,⟨false,1,8,[.v (.pointer none)],[],false,none,none,8,[],false,[201]⟩),
 (230,⟨true,256,256,List.replicate 256 (.v (.bool false)),[],false,none,(some 4),4,[],false,[256]⟩),
 (231,⟨true,256,256,List.replicate 256 (.v (.bool false)),[],false,none,(some 4),4,[],false,[256]⟩),
 (235,⟨false,1,8,[.v (.pointer none)],[],false,none,none,8,[],false,[231]⟩),
 (251,⟨true,24,24,[.v (.int .u8 0),.v (.int .u8 0),.v (.int .u8 0),.v (.int .u8 0),.v (.int .u8 0),.v (.int .u8 0),.v (.int .u8 0),.v (.int .u8 0),.v (.int .u8 0),.v (.int .u8 0),.v (.int .u8 0),.v (.int .u8 0),.v (.int .u8 0),.v (.int .u8 0),.v (.int .u8 0),.v (.int .u8 0),.v (.int .u8 0),.v (.int .u8 0),.v (.int .u8 0),.v (.int .u8 0),.v (.int .u8 0),.v (.int .u8 0),.v (.int .u8 0),.v (.int .u8 0)],[],false,none,(some 5),4,[],false,[24]⟩),
 (257,⟨true,2,2,[.v (.int .u8 0),.v (.int .u8 0)],[(0,1),(1,1)],false,none,none,6,[],false,[]⟩),
 (258,⟨true,2,2,[.v (.int .u8 0),.v (.int .u8 0)],[(0,1),(1,1)],false,none,none,6,[],false,[]⟩),
 (259,⟨true,32,32,[.v (.int .u8 0),.v (.int .u8 0),.v (.int .u8 0),.v (.int .u8 0),.v (.int .u8 0),.v (.int .u8 0),.v (.int .u8 0),.v (.int .u8 0),.v (.int .u8 0),.v (.int .u8 0),.v (.int .u8 0),.v (.int .u8 0),.v (.int .u8 0),.v (.int .u8 0),.v (.int .u8 0),.v (.int .u8 0),.v (.int .u8 0),.v (.int .u8 0),.v (.int .u8 0),.v (.int .u8 0),.v (.int .u8 0),.v (.int .u8 0),.v (.int .u8 0),.v (.int .u8 0),.v (.int .u8 0),.v (.int .u8 0),.v (.int .u8 0),.v (.int .u8 0),.v (.int .u8 0),.v (.int .u8 0),.v (.int .u8 0),.v (.int .u8 0)],[],false,none,(some 258),4,[],false,[16]⟩),
 (263,⟨true,20,160,[.v (.int .u64 0),.v (.int .u64 0),.v (.int .u64 0),.v (.int .u64 0),.v (.int .u64 0),.v (.int .u64 0),.v (.int .u64 0),.v (.int .u64 0),.v (.int .u64 0),.v (.int .u64 0),.v (.int .u64 0),.v (.int .u64 0),.v (.int .u64 0),.v (.int .u64 0),.v (.int .u64 0),.v (.int .u64 0),.v (.int .u64 0),.v (.int .u64 0),.v (.int .u64 0),.v (.int .u64 0)],[],false,none,(some 169),4,[],false,[20]⟩),
 (267,⟨false,1,8,[.v (.int .i64 0)],[],false,(some .i64),none,5,[],false,[]⟩),
 (270,⟨false,1,8,[.v (.pointer none)],[],false,none,none,8,[],false,[277]⟩),
 (276,⟨true,3,48,[.str [],.str [],.v .nilIface],[(0,1),(1,1),(2,1)],false,none,none,6,[],false,[]⟩),
 (277,⟨true,3,48,[.str [],.str [],.v .nilIface],[(0,1),(1,1),(2,1)],false,none,none,6,[],false,[]⟩),
 (278,⟨true,32,32,[.v (.int .u8 0),.v (.int .u8 0),.v (.int .u8 0),.v (.int .u8 0),.v (.int .u8 0),.v (.int .u8 0),.v (.int .u8 0),.v (.int .u8 0),.v (.int .u8 0),.v (.int .u8 0),.v (.int .u8 0),.v (.int .u8 0),.v (.int .u8 0),.v (.int .u8 0),.v (.int .u8 0),.v (.int .u8 0),.v (.int .u8 0),.v (.int .u8 0),.v (.int .u8 0),.v (.int .u8 0),.v (.int .u8 0),.v (.int .u8 0),.v (.int .u8 0),.v (.int .u8 0),.v (.int .u8 0),.v (.int .u8 0),.v (.int .u8 0),.v (.int .u8 0),.v (.int .u8 0),.v (.int .u8 0),.v (.int .u8 0),.v (.int .u8 0)],[],false,none,(some 5),4,[],false,[32]⟩),
 (281,⟨false,1,8,[.v (.pointer none)],[],false,none,none,8,[],false,[283]⟩),
 (282,⟨true,1,16,[.str []],[(0,1)],false,none,none,6,[],false,[]⟩),
 (283,⟨true,1,16,[.str []],[(0,1)],false,none,none,6,[],false,[]⟩),
 (284,⟨false,1,8,[.v (.pointer none)],[],false,none,none,8,[],false,[304]⟩),
 (285,⟨false,1,8,[.v (.pointer none)],[],false,none,none,8,[],false,[306]⟩),
 (286,⟨true,4,40,[.v (.pointer none),.v (.pointer none),.v (.pointer none),.str []],[(0,1),(1,1),(2,1),(3,1)],false,none,none,6,[],false,[]⟩),
 (287,⟨true,4,40,[.v (.pointer none),.v (.pointer none),.v (.pointer none),.str []],[(0,1),(1,1),(2,1),(3,1)],false,none,none,6,[],false,[]⟩),
 (288,⟨true,0,0,[],[],false,none,(some 16),4,[],false,[0]⟩),
 (289,⟨true,0,0,[],[(0,0)],false,none,none,6,[],false,[]⟩),
 (290,⟨true,0,0,[],[(0,0)],false,none,none,6,[],false,[]⟩),
 (293,⟨false,1,1,[.v (.int .u8 0)],[],false,(some .u8),none,5,[],false,[]⟩),
 (295,⟨false,1,4,[.v (.int .i32 0)],[],false,(some .i32),none,5,[],false,[]⟩),
 (296,⟨false,1,4,[.v (.int .i32 0)],[],false,(some .i32),none,5,[],false,[]⟩),
 (301,⟨true,2,24,[.str [],.v (.int .u8 0)],[(0,1),(1,1)],false,none,none,6,[],false,[]⟩),
 (302,⟨true,2,24,[.str [],.v (.int .u8 0)],[(0,1),(1,1)],false,none,none,6,[],false,[]⟩),
 (303,⟨true,2,32,[.str [],.v .nilIface],[(0,1),(1,1)],false,none,none,6,[],false,[]⟩),
 (304,⟨true,2,32,[.str [],.v .nilIface],[(0,1),(1,1)],false,none,none,6,[],false,[]⟩),
 (305,⟨true,2,40,[.str [],.v (.slice none 0 0)],[(0,1),(1,1)],false,none,none,6,[],false,[]⟩),
 (306,⟨true,2,40,[.str [],.v (.slice none 0 0)],[(0,1),(1,1)],false,none,none,6,[],false,[]⟩),
 (307,⟨false,1,8,[.v (.pointer none)],[],false,none,none,8,[],false,[311]⟩),
 (309,⟨false,1,2,[.v (.int .u16 0)],[],false,(some .u16),none,5,[],false,[]⟩),
 (310,⟨true,5,16,[.v (.int .i32 0),.v (.int .u16 0),.v (.int .u16 0),.v (.int .u32 0),.v (.int .u32 0)],[(0,1),(1,1),(2,1),(3,1),(4,1)],false,none,none,6,[],false,[]⟩),
 (311,⟨true,5,16,[.v (.int .i32 0),.v (.int .u16 0),.v (.int .u16 0),.v (.int .u32 0),.v (.int .u32 0)],[(0,1),(1,1),(2,1),(3,1),(4,1)],false,none,none,6,[],false,[]⟩),
 (312,⟨false,1,24,[.v (.slice none 0 0)],[],false,none,(some 315),3,[],false,[]⟩),
 (313,⟨false,1,4,[.v (.int .i32 0)],[],false,(some .i32),none,5,[],false,[]⟩),
 (314,⟨true,4,16,[.v (.int .i32 0),.v (.int .i32 0),.v (.int .i32 0),.v (.int .i32 0)],[(0,1),(1,1),(2,1),(3,1)],false,none,none,6,[],false,[]⟩),
 (315,⟨true,4,16,[.v (.int .i32 0),.v (.int .i32 0),.v (.int .i32 0),.v (.int .i32 0)],[(0,1),(1,1),(2,1),(3,1)],false,none,none,6,[],false,[]⟩),
 (316,⟨false,1,8,[.v (.pointer none)],[],false,none,none,8,[],false,[24]⟩)]
theorem fits:Fits Tryz.prog tt :=
 fits_cons fit2 (
 fits_cons fit3 (
 fits_cons fit4 (
 fits_cons fit5 (
 fits_cons fit6 (
 fits_cons fit7 (
 fits_cons fit8 (
 fits_cons fit9 (
 fits_cons fit10 (
 fits_cons fit11 (
 fits_cons fit12 (
 fits_cons fit13 (
 fits_cons fit14 (
 fits_cons fit15 (
 fits_cons fit16 (
 fits_cons fit17 (
 fits_cons fit18 (
 fits_cons fit19 (
 fits_cons fit20 (
 fits_cons fit21 (
 fits_cons fit22 (
 fits_cons fit23 (
 fits_cons fit24 (
 fits_cons fit27 (
 fits_cons fit28 (
 fits_cons fit30 (
 fits_cons fit31 (
 fits_cons fit34 (
 fits_cons fit35 (
 fits_cons fit36 (
 fits_cons fit37 (
 fits_cons fit38 (
 fits_cons fit41 (
 fits_cons fit50 (
 fits_cons fit55 (
 fits_cons fit63 (
 fits_cons fit65 (
 fits_cons fit68 (
 fits_cons fit83 (
 fits_cons fit85 (
 fits_cons fit86 (
 fits_cons fit93 (
 fits_cons fit94 (
 fits_cons fit95 (
 fits_cons fit97 (
 fits_cons fit98 (
 fits_cons fit102 (
 fits_cons fit103 (
 fits_cons fit112 (
 fits_cons fit116 (
 fits_cons fit117 (
 fits_cons fit119 (
 fits_cons fit120 (
 fits_cons fit121 (
 fits_cons fit123 (
 fits_cons fit127 (
 fits_cons fit130 (
 fits_cons fit136 (
 fits_cons fit137 (
 fits_cons fit138 (
 fits_cons fit139 (
 fits_cons fit143 (
 fits_cons fit144 (
 fits_cons fit145 (
 fits_cons fit146 (
 fits_cons fit148 (
 fits_cons fit149 (
 fits_cons fit151 (
 fits_cons fit156 (
 fits_cons fit158 (
 fits_cons fit160 (
 fits_cons fit167 (
 fits_cons fit169 (
 fits_cons fit170 (
 fits_cons fit171 (
 fits_cons fit172 (
 fits_cons fit184 (
 fits_cons fit185 (
 fits_cons fit186 (
 fits_cons fit187 (
 fits_cons fit191 (
 fits_cons fit194 (
 fits_cons fit196 (
 fits_cons fit197 (
 fits_cons fit201 (
 fits_cons fit217 (
 fits_cons fit219 (
 fits_cons fit223 (
 fits_cons fit230 (
 fits_cons fit231 (
 fits_cons fit235 (
 fits_cons fit251 (
 fits_cons fit257 (
 fits_cons fit258 (
 fits_cons fit259 (
 fits_cons fit263 (
 fits_cons fit267 (
 fits_cons fit270 (
 fits_cons fit276 (
 fits_cons fit277 (
 fits_cons fit278 (
 fits_cons fit281 (
 fits_cons fit282 (
 fits_cons fit283 (
 fits_cons fit284 (
 fits_cons fit285 (
 fits_cons fit286 (
 fits_cons fit287 (
 fits_cons fit288 (
 fits_cons fit289 (
 fits_cons fit290 (
 fits_cons fit293 (
 fits_cons fit295 (
 fits_cons fit296 (
 fits_cons fit301 (
 fits_cons fit302 (
 fits_cons fit303 (
 fits_cons fit304 (
 fits_cons fit305 (
 fits_cons fit306 (
 fits_cons fit307 (
 fits_cons fit309 (
 fits_cons fit310 (
 fits_cons fit311 (
 fits_cons fit312 (
 fits_cons fit313 (
 fits_cons fit314 (
 fits_cons fit315 (
 fits_cons fit316 (
 fits_nil)))))))))))))))))))))))))))))))))))))))))))))))))))))))))))))))))))))))))))))))))))))))))))))))))))))))))))))))))))))))))))))))))
theorem mixed:Tryz.prog.follows .mixedOrders=true:=by kernel_rfl
end Go.Proofs.YtcdjjjokniinkaaGreatDoor
end
