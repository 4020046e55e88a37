/- Proved: a part of what the law is proved with (the reckoner, contracts of functions, plain laws). Conditions: as each says. -/
import Derived.Test.YtdpigpahfiachaaGreatDoorProg
import Derived.Test.YtdpigpahfiachaaGreatDoorZEs
section
namespace Go.Proofs.YtdpigpahfiachaaGreatDoor
open Go.EYtdpigpahfiachaaGreatDoor
theorem fit2:FitsOne Tryz.prog 2 ⟨false,1,8,[.v (.int .i64 0)],[],false,(some .i64),none,5,[],false,[]⟩:=⟨by kernel_rfl,rfl,rfl,by kernel_rfl,(fun h=>by cases h),by kernel_rfl⟩
theorem fit3:FitsOne Tryz.prog 3 ⟨false,1,8,[.v (.int .i64 0)],[],false,(some .i64),none,5,[],false,[]⟩:=⟨by kernel_rfl,rfl,rfl,by kernel_rfl,(fun h=>by cases h),by kernel_rfl⟩
theorem fit4:FitsOne Tryz.prog 4 ⟨false,1,1,[.v (.bool false)],[],false,none,none,1,[],false,[]⟩:=⟨by kernel_rfl,rfl,rfl,by kernel_rfl,(fun h=>by cases h),by kernel_rfl⟩
theorem fit5:FitsOne Tryz.prog 5 ⟨false,1,1,[.v (.int .u8 0)],[],false,(some .u8),none,5,[],false,[]⟩:=⟨by kernel_rfl,rfl,rfl,by kernel_rfl,(fun h=>by cases h),by kernel_rfl⟩
theorem fit6:FitsOne Tryz.prog 6 ⟨false,1,1,[.v (.int .u8 0)],[],false,(some .u8),none,5,[],false,[]⟩:=⟨by kernel_rfl,rfl,rfl,by kernel_rfl,(fun h=>by cases h),by kernel_rfl⟩
theorem fit7:FitsOne Tryz.prog 7 ⟨true,4,24,[.v (.int .i64 0),.v (.int .i64 0),.v (.bool false),.v (.int .u8 0)],[(0,1),(1,1),(2,1),(3,1)],false,none,none,6,[],false,[]⟩:=⟨by kernel_rfl,rfl,rfl,by kernel_rfl,(fun h=>by cases h),by kernel_rfl⟩
theorem fit8:FitsOne Tryz.prog 8 ⟨true,4,24,[.v (.int .i64 0),.v (.int .i64 0),.v (.bool false),.v (.int .u8 0)],[(0,1),(1,1),(2,1),(3,1)],false,none,none,6,[],false,[]⟩:=⟨by kernel_rfl,rfl,rfl,by kernel_rfl,(fun h=>by cases h),by kernel_rfl⟩
theorem fit9:FitsOne Tryz.prog 9 ⟨false,1,16,[.str []],[],false,none,none,2,[],false,[]⟩:=⟨by kernel_rfl,rfl,rfl,by kernel_rfl,(fun h=>by cases h),by kernel_rfl⟩
theorem fit10:FitsOne Tryz.prog 10 ⟨false,1,16,[.str []],[],false,none,none,2,[],false,[]⟩:=⟨by kernel_rfl,rfl,rfl,by kernel_rfl,(fun h=>by cases h),by kernel_rfl⟩
theorem fit11:FitsOne Tryz.prog 11 ⟨false,1,16,[.str []],[],false,none,none,2,[],false,[]⟩:=⟨by kernel_rfl,rfl,rfl,by kernel_rfl,(fun h=>by cases h),by kernel_rfl⟩
theorem fit12:FitsOne Tryz.prog 12 ⟨false,1,8,[.v (.int .u64 0)],[],false,(some .u64),none,5,[],false,[]⟩:=⟨by kernel_rfl,rfl,rfl,by kernel_rfl,(fun h=>by cases h),by kernel_rfl⟩
theorem fit13:FitsOne Tryz.prog 13 ⟨true,2,24,[.str [],.v (.int .u64 0)],[(0,1),(1,1)],false,none,none,6,[],false,[]⟩:=⟨by kernel_rfl,rfl,rfl,by kernel_rfl,(fun h=>by cases h),by kernel_rfl⟩
theorem fit14:FitsOne Tryz.prog 14 ⟨true,2,24,[.str [],.v (.int .u64 0)],[(0,1),(1,1)],false,none,none,6,[],false,[]⟩:=⟨by kernel_rfl,rfl,rfl,by kernel_rfl,(fun h=>by cases h),by kernel_rfl⟩
theorem fit15:FitsOne Tryz.prog 15 ⟨false,1,8,[.v (.pointer none)],[],false,none,none,8,[],false,[294]⟩:=⟨by kernel_rfl,rfl,rfl,by kernel_rfl,(fun h=>by cases h),by kernel_rfl⟩
theorem fit16:FitsOne Tryz.prog 16 ⟨false,1,8,[.v (.pointer none)],[],false,none,none,8,[],false,[297]⟩:=⟨by kernel_rfl,rfl,rfl,by kernel_rfl,(fun h=>by cases h),by kernel_rfl⟩
theorem fit17:FitsOne Tryz.prog 17 ⟨false,1,8,[.v (.pointer none)],[],false,none,none,8,[],false,[305]⟩:=⟨by kernel_rfl,rfl,rfl,by kernel_rfl,(fun h=>by cases h),by kernel_rfl⟩
theorem fit18:FitsOne Tryz.prog 18 ⟨true,1,8,[.v (.pointer none)],[(0,1)],false,none,none,6,[],false,[]⟩:=⟨by kernel_rfl,rfl,rfl,by kernel_rfl,(fun h=>by cases h),by kernel_rfl⟩
theorem fit19:FitsOne Tryz.prog 19 ⟨true,1,8,[.v (.pointer none)],[(0,1)],false,none,none,6,[],false,[]⟩:=⟨by kernel_rfl,rfl,rfl,by kernel_rfl,(fun h=>by cases h),by kernel_rfl⟩
theorem fit20:FitsOne Tryz.prog 20 ⟨false,1,16,[.v .nilIface],[],true,none,none,7,[],false,[]⟩:=⟨by kernel_rfl,rfl,rfl,by kernel_rfl,(fun h=>by cases h),by kernel_rfl⟩
theorem fit21:FitsOne Tryz.prog 21 ⟨false,1,4,[.v (.int .i32 0)],[],false,(some .i32),none,5,[],false,[]⟩:=⟨by kernel_rfl,rfl,rfl,by kernel_rfl,(fun h=>by cases h),by kernel_rfl⟩
theorem fit22:FitsOne Tryz.prog 22 ⟨true,2,16,[.v (.int .i64 0),.v (.int .i64 0)],[(0,1),(1,1)],false,none,none,6,[],false,[]⟩:=⟨by kernel_rfl,rfl,rfl,by kernel_rfl,(fun h=>by cases h),by kernel_rfl⟩
theorem fit23:FitsOne Tryz.prog 23 ⟨true,2,16,[.v (.int .i64 0),.v (.int .i64 0)],[(0,1),(1,1)],false,none,none,6,[3,3],true,[]⟩:=⟨by kernel_rfl,rfl,rfl,by kernel_rfl,fun _=>⟨by kernel_rfl,rfl,by kernel_rfl,by kernel_rfl,rfl⟩,by kernel_rfl⟩
theorem fit24:FitsOne Tryz.prog 24 ⟨true,4,24,[.v (.int .i64 0),.v (.int .i64 0),.v (.bool false),.v (.bool false)],[(0,2),(2,1),(3,1)],false,none,none,6,[],false,[]⟩:=⟨by kernel_rfl,rfl,rfl,by kernel_rfl,(fun h=>by cases h),by kernel_rfl⟩
theorem fit25:FitsOne Tryz.prog 25 ⟨true,4,24,[.v (.int .i64 0),.v (.int .i64 0),.v (.bool false),.v (.bool false)],[(0,2),(2,1),(3,1)],false,none,none,6,[23,4,4],true,[]⟩:=⟨by kernel_rfl,rfl,rfl,by kernel_rfl,fun _=>⟨by kernel_rfl,rfl,by kernel_rfl,by kernel_rfl,rfl⟩,by kernel_rfl⟩
theorem fit26:FitsOne Tryz.prog 26 ⟨false,1,24,[.v (.slice none 0 0)],[],false,none,(some 28),3,[],false,[]⟩:=⟨by kernel_rfl,rfl,rfl,by kernel_rfl,(fun h=>by cases h),by kernel_rfl⟩
theorem fit27:FitsOne Tryz.prog 27 ⟨true,12,104,[.v (.int .i64 0),.v (.int .i64 0),.str [],.v (.int .i64 0),.v (.int .i64 0),.v (.bool false),.v (.bool false),.v (.int .i64 0),.v (.int .i64 0),.v (.bool false),.v (.bool false),.v (.slice none 0 0)],[(0,1),(1,1),(2,1),(3,4),(7,4),(11,1)],false,none,none,6,[],false,[]⟩:=⟨by kernel_rfl,rfl,rfl,by kernel_rfl,(fun h=>by cases h),by kernel_rfl⟩
theorem fit28:FitsOne Tryz.prog 28 ⟨true,12,104,[.v (.int .i64 0),.v (.int .i64 0),.str [],.v (.int .i64 0),.v (.int .i64 0),.v (.bool false),.v (.bool false),.v (.int .i64 0),.v (.int .i64 0),.v (.bool false),.v (.bool false),.v (.slice none 0 0)],[(0,1),(1,1),(2,1),(3,4),(7,4),(11,1)],false,none,none,6,[],false,[]⟩:=⟨by kernel_rfl,rfl,rfl,by kernel_rfl,(fun h=>by cases h),by kernel_rfl⟩
theorem fit31:FitsOne Tryz.prog 31 ⟨false,1,16,[.v .nilIface],[],true,none,none,7,[],false,[]⟩:=⟨by kernel_rfl,rfl,rfl,by kernel_rfl,(fun h=>by cases h),by kernel_rfl⟩
theorem fit32:FitsOne Tryz.prog 32 ⟨false,1,16,[.v .nilIface],[],true,none,none,7,[],false,[]⟩:=⟨by kernel_rfl,rfl,rfl,by kernel_rfl,(fun h=>by cases h),by kernel_rfl⟩
theorem fit38:FitsOne Tryz.prog 38 ⟨false,1,24,[.v (.slice none 0 0)],[],false,none,(some 44),3,[],false,[]⟩:=⟨by kernel_rfl,rfl,rfl,by kernel_rfl,(fun h=>by cases h),by kernel_rfl⟩
theorem fit39:FitsOne Tryz.prog 39 ⟨false,1,24,[.v (.slice none 0 0)],[],false,none,(some 23),3,[],false,[]⟩:=⟨by kernel_rfl,rfl,rfl,by kernel_rfl,(fun h=>by cases h),by kernel_rfl⟩
theorem fit43:FitsOne Tryz.prog 43 ⟨true,3,32,[.v (.int .i64 0),.v (.int .i64 0),.str []],[(0,2),(2,1)],false,none,none,6,[],false,[]⟩:=⟨by kernel_rfl,rfl,rfl,by kernel_rfl,(fun h=>by cases h),by kernel_rfl⟩
theorem fit44:FitsOne Tryz.prog 44 ⟨true,3,32,[.v (.int .i64 0),.v (.int .i64 0),.str []],[(0,2),(2,1)],false,none,none,6,[23,9],true,[]⟩:=⟨by kernel_rfl,rfl,rfl,by kernel_rfl,fun _=>⟨by kernel_rfl,rfl,by kernel_rfl,by kernel_rfl,rfl⟩,by kernel_rfl⟩
theorem fit47:FitsOne Tryz.prog 47 ⟨false,1,8,[.v (.pointer none)],[],false,none,none,8,[],false,[108]⟩:=⟨by kernel_rfl,rfl,rfl,by kernel_rfl,(fun h=>by cases h),by kernel_rfl⟩
theorem fit60:FitsOne Tryz.prog 60 ⟨false,1,24,[.v (.slice none 0 0)],[],false,none,(some 3),3,[],false,[]⟩:=⟨by kernel_rfl,rfl,rfl,by kernel_rfl,(fun h=>by cases h),by kernel_rfl⟩
theorem fit62:FitsOne Tryz.prog 62 ⟨false,1,24,[.v (.slice none 0 0)],[],false,none,(some 38),3,[],false,[]⟩:=⟨by kernel_rfl,rfl,rfl,by kernel_rfl,(fun h=>by cases h),by kernel_rfl⟩
theorem fit76:FitsOne Tryz.prog 76 ⟨true,4,32,[.v (.int .i64 0),.v (.int .i64 0),.v (.int .i64 0),.v (.int .i64 0)],[(0,2),(2,2)],false,none,none,6,[],false,[]⟩:=⟨by kernel_rfl,rfl,rfl,by kernel_rfl,(fun h=>by cases h),by kernel_rfl⟩
theorem fit77:FitsOne Tryz.prog 77 ⟨true,4,32,[.v (.int .i64 0),.v (.int .i64 0),.v (.int .i64 0),.v (.int .i64 0)],[(0,2),(2,2)],false,none,none,6,[23,23],true,[]⟩:=⟨by kernel_rfl,rfl,rfl,by kernel_rfl,fun _=>⟨by kernel_rfl,rfl,by kernel_rfl,by kernel_rfl,rfl⟩,by kernel_rfl⟩
theorem fit78:FitsOne Tryz.prog 78 ⟨true,10,80,[.v (.int .i64 0),.v (.bool false),.v (.int .i64 0),.v (.int .i64 0),.v (.int .i64 0),.v (.int .i64 0),.v (.int .i64 0),.v (.int .i64 0),.v (.int .i64 0),.v (.int .i64 0)],[(0,1),(1,1),(2,1),(3,1),(4,1),(5,1),(6,4)],false,none,none,6,[],false,[]⟩:=⟨by kernel_rfl,rfl,rfl,by kernel_rfl,(fun h=>by cases h),by kernel_rfl⟩
theorem fit79:FitsOne Tryz.prog 79 ⟨true,10,80,[.v (.int .i64 0),.v (.bool false),.v (.int .i64 0),.v (.int .i64 0),.v (.int .i64 0),.v (.int .i64 0),.v (.int .i64 0),.v (.int .i64 0),.v (.int .i64 0),.v (.int .i64 0)],[(0,1),(1,1),(2,1),(3,1),(4,1),(5,1),(6,4)],false,none,none,6,[3,4,3,3,3,3,77],true,[]⟩:=⟨by kernel_rfl,rfl,rfl,by kernel_rfl,fun _=>⟨by kernel_rfl,rfl,by kernel_rfl,by kernel_rfl,rfl⟩,by kernel_rfl⟩
theorem fit88:FitsOne Tryz.prog 88 ⟨false,1,8,[.v (.pointer none)],[],false,none,none,8,[],false,[90]⟩:=⟨by kernel_rfl,rfl,rfl,by kernel_rfl,(fun h=>by cases h),by kernel_rfl⟩
theorem fit89:FitsOne Tryz.prog 89 ⟨true,5,48,[.str [],.v (.int .i64 0),.v (.int .i64 0),.v (.int .i64 0),.v (.int .i64 0)],[(0,1),(1,1),(2,1),(3,1),(4,1)],false,none,none,6,[],false,[]⟩:=⟨by kernel_rfl,rfl,rfl,by kernel_rfl,(fun h=>by cases h),by kernel_rfl⟩
theorem fit90:FitsOne Tryz.prog 90 ⟨true,5,48,[.str [],.v (.int .i64 0),.v (.int .i64 0),.v (.int .i64 0),.v (.int .i64 0)],[(0,1),(1,1),(2,1),(3,1),(4,1)],false,none,none,6,[9,3,3,3,3],true,[]⟩:=⟨by kernel_rfl,rfl,rfl,by kernel_rfl,fun _=>⟨by kernel_rfl,rfl,by kernel_rfl,by kernel_rfl,rfl⟩,by kernel_rfl⟩
theorem fit92:FitsOne Tryz.prog 92 ⟨true,4,40,[.v (.int .i64 0),.v (.int .i64 0),.v (.int .i64 0),.str []],[(0,1),(1,1),(2,1),(3,1)],false,none,none,6,[],false,[]⟩:=⟨by kernel_rfl,rfl,rfl,by kernel_rfl,(fun h=>by cases h),by kernel_rfl⟩
theorem fit93:FitsOne Tryz.prog 93 ⟨true,4,40,[.v (.int .i64 0),.v (.int .i64 0),.v (.int .i64 0),.str []],[(0,1),(1,1),(2,1),(3,1)],false,none,none,6,[3,3,3,9],true,[]⟩:=⟨by kernel_rfl,rfl,rfl,by kernel_rfl,fun _=>⟨by kernel_rfl,rfl,by kernel_rfl,by kernel_rfl,rfl⟩,by kernel_rfl⟩
theorem fit96:FitsOne Tryz.prog 96 ⟨false,1,8,[.v (.int .i64 0)],[],false,(some .i64),none,5,[],false,[]⟩:=⟨by kernel_rfl,rfl,rfl,by kernel_rfl,(fun h=>by cases h),by kernel_rfl⟩
theorem fit97:FitsOne Tryz.prog 97 ⟨true,2,24,[.v (.int .i64 0),.v .nilIface],[(0,1),(1,1)],false,none,none,6,[],false,[]⟩:=⟨by kernel_rfl,rfl,rfl,by kernel_rfl,(fun h=>by cases h),by kernel_rfl⟩
theorem fit98:FitsOne Tryz.prog 98 ⟨true,2,24,[.v (.int .i64 0),.v .nilIface],[(0,1),(1,1)],false,none,none,6,[],false,[]⟩:=⟨by kernel_rfl,rfl,rfl,by kernel_rfl,(fun h=>by cases h),by kernel_rfl⟩
theorem fit100:FitsOne Tryz.prog 100 ⟨false,1,8,[.v (.pointer none)],[],false,none,none,8,[],false,[102]⟩:=⟨by kernel_rfl,rfl,rfl,by kernel_rfl,(fun h=>by cases h),by kernel_rfl⟩
theorem fit101:FitsOne Tryz.prog 101 ⟨true,3,32,[.str [],.v (.int .i64 0),.v (.int .i64 0)],[(0,1),(1,1),(2,1)],false,none,none,6,[],false,[]⟩:=⟨by kernel_rfl,rfl,rfl,by kernel_rfl,(fun h=>by cases h),by kernel_rfl⟩
theorem fit102:FitsOne Tryz.prog 102 ⟨true,3,32,[.str [],.v (.int .i64 0),.v (.int .i64 0)],[(0,1),(1,1),(2,1)],false,none,none,6,[9,3,3],true,[]⟩:=⟨by kernel_rfl,rfl,rfl,by kernel_rfl,fun _=>⟨by kernel_rfl,rfl,by kernel_rfl,by kernel_rfl,rfl⟩,by kernel_rfl⟩
theorem fit107:FitsOne Tryz.prog 107 ⟨true,2,32,[.v (.slice none 0 0),.v (.int .i64 0)],[(0,1),(1,1)],false,none,none,6,[],false,[]⟩:=⟨by kernel_rfl,rfl,rfl,by kernel_rfl,(fun h=>by cases h),by kernel_rfl⟩
theorem fit108:FitsOne Tryz.prog 108 ⟨true,2,32,[.v (.slice none 0 0),.v (.int .i64 0)],[(0,1),(1,1)],false,none,none,6,[],false,[]⟩:=⟨by kernel_rfl,rfl,rfl,by kernel_rfl,(fun h=>by cases h),by kernel_rfl⟩
theorem fit111:FitsOne Tryz.prog 111 ⟨false,1,8,[.v (.pointer none)],[],false,none,none,8,[],false,[3]⟩:=⟨by kernel_rfl,rfl,rfl,by kernel_rfl,(fun h=>by cases h),by kernel_rfl⟩
theorem fit113:FitsOne Tryz.prog 113 ⟨false,1,8,[.v (.pointer none)],[],false,none,none,8,[],false,[116]⟩:=⟨by kernel_rfl,rfl,rfl,by kernel_rfl,(fun h=>by cases h),by kernel_rfl⟩
theorem fit114:FitsOne Tryz.prog 114 ⟨false,1,24,[.v (.slice none 0 0)],[],false,none,(some 5),3,[],false,[]⟩:=⟨by kernel_rfl,rfl,rfl,by kernel_rfl,(fun h=>by cases h),by kernel_rfl⟩
theorem fit115:FitsOne Tryz.prog 115 ⟨true,2,32,[.v (.pointer none),.v (.slice none 0 0)],[(0,1),(1,1)],false,none,none,6,[],false,[]⟩:=⟨by kernel_rfl,rfl,rfl,by kernel_rfl,(fun h=>by cases h),by kernel_rfl⟩
theorem fit116:FitsOne Tryz.prog 116 ⟨true,2,32,[.v (.pointer none),.v (.slice none 0 0)],[(0,1),(1,1)],false,none,none,6,[],false,[]⟩:=⟨by kernel_rfl,rfl,rfl,by kernel_rfl,(fun h=>by cases h),by kernel_rfl⟩
theorem fit129:FitsOne Tryz.prog 129 ⟨false,1,8,[.v (.pointer none)],[],false,none,none,8,[],false,[23]⟩:=⟨by kernel_rfl,rfl,rfl,by kernel_rfl,(fun h=>by cases h),by kernel_rfl⟩
theorem fit140:FitsOne Tryz.prog 140 ⟨false,1,24,[.v (.slice none 0 0)],[],false,none,(some 9),3,[],false,[]⟩:=⟨by kernel_rfl,rfl,rfl,by kernel_rfl,(fun h=>by cases h),by kernel_rfl⟩
theorem fit142:FitsOne Tryz.prog 142 ⟨true,4,96,[.v (.slice none 0 0),.v (.slice none 0 0),.v (.slice none 0 0),.v (.slice none 0 0)],[],false,none,(some 140),4,[],false,[4]⟩:=⟨by kernel_rfl,rfl,rfl,by kernel_rfl,(fun h=>by cases h),by kernel_rfl⟩
theorem fit144:FitsOne Tryz.prog 144 ⟨false,1,8,[.v (.pointer none)],[],false,none,none,8,[],false,[96]⟩:=⟨by kernel_rfl,rfl,rfl,by kernel_rfl,(fun h=>by cases h),by kernel_rfl⟩
theorem fit156:FitsOne Tryz.prog 156 ⟨true,3,32,[.v (.int .i64 0),.v (.int .i64 0),.str []],[(0,1),(1,1),(2,1)],false,none,none,6,[],false,[]⟩:=⟨by kernel_rfl,rfl,rfl,by kernel_rfl,(fun h=>by cases h),by kernel_rfl⟩
theorem fit157:FitsOne Tryz.prog 157 ⟨true,3,32,[.v (.int .i64 0),.v (.int .i64 0),.str []],[(0,1),(1,1),(2,1)],false,none,none,6,[3,3,9],true,[]⟩:=⟨by kernel_rfl,rfl,rfl,by kernel_rfl,fun _=>⟨by kernel_rfl,rfl,by kernel_rfl,by kernel_rfl,rfl⟩,by kernel_rfl⟩
theorem fit164:FitsOne Tryz.prog 164 ⟨false,1,8,[.v (.pointer none)],[],false,none,none,8,[],false,[5]⟩:=⟨by kernel_rfl,rfl,rfl,by kernel_rfl,(fun h=>by cases h),by kernel_rfl⟩
theorem fit176:FitsOne Tryz.prog 176 ⟨false,1,8,[.v (.pointer none)],[],false,none,none,0,[],false,[]⟩:=⟨by kernel_rfl,rfl,rfl,by kernel_rfl,(fun h=>by cases h),by kernel_rfl⟩
theorem fit177:FitsOne Tryz.prog 177 ⟨false,1,8,[.v (.int .u64 0)],[],false,(some .u64),none,5,[],false,[]⟩:=⟨by kernel_rfl,rfl,rfl,by kernel_rfl,(fun h=>by cases h),by kernel_rfl⟩
theorem fit178:FitsOne Tryz.prog 178 ⟨true,3,24,[.v (.pointer none),.v (.pointer none),.v (.int .u64 0)],[(0,1),(1,1),(2,1)],false,none,none,6,[],false,[]⟩:=⟨by kernel_rfl,rfl,rfl,by kernel_rfl,(fun h=>by cases h),by kernel_rfl⟩
theorem fit179:FitsOne Tryz.prog 179 ⟨true,3,24,[.v (.pointer none),.v (.pointer none),.v (.int .u64 0)],[(0,1),(1,1),(2,1)],false,none,none,6,[],false,[]⟩:=⟨by kernel_rfl,rfl,rfl,by kernel_rfl,(fun h=>by cases h),by kernel_rfl⟩
theorem fit181:FitsOne Tryz.prog 181 ⟨false,1,16,[.v .nilIface],[],true,none,none,7,[],false,[]⟩:=⟨by kernel_rfl,rfl,rfl,by kernel_rfl,(fun h=>by cases h),by kernel_rfl⟩
theorem fit182:FitsOne Tryz.prog 182 ⟨false,1,16,[.v .nilIface],[],true,none,none,7,[],false,[]⟩:=⟨by kernel_rfl,rfl,rfl,by kernel_rfl,(fun h=>by cases h),by kernel_rfl⟩
theorem fit184:FitsOne Tryz.prog 184 ⟨false,1,1,[.v (.int .u8 0)],[],false,(some .u8),none,5,[],false,[]⟩:=⟨by kernel_rfl,rfl,rfl,by kernel_rfl,(fun h=>by cases h),by kernel_rfl⟩
theorem fit188:FitsOne Tryz.prog 188 ⟨false,1,8,[.v (.int .u64 0)],[],false,(some .u64),none,5,[],false,[]⟩:=⟨by kernel_rfl,rfl,rfl,by kernel_rfl,(fun h=>by cases h),by kernel_rfl⟩
theorem fit194:FitsOne Tryz.prog 194 ⟨true,7,112,[.str [],.str [],.str [],.str [],.str [],.str [],.str []],[],false,none,(some 9),4,[],false,[7]⟩:=⟨by kernel_rfl,rfl,rfl,by kernel_rfl,(fun h=>by cases h),by kernel_rfl⟩
theorem fit196:FitsOne Tryz.prog 196 ⟨true,12,192,[.str [],.str [],.str [],.str [],.str [],.str [],.str [],.str [],.str [],.str [],.str [],.str []],[],false,none,(some 9),4,[],false,[12]⟩:=⟨by kernel_rfl,rfl,rfl,by kernel_rfl,(fun h=>by cases h),by kernel_rfl⟩
theorem fit197:FitsOne Tryz.prog 197 ⟨false,1,8,[.v (.pointer none)],[],false,none,none,8,[],false,[201]⟩:=⟨by kernel_rfl,rfl,rfl,by kernel_rfl,(fun h=>by cases h),by kernel_rfl⟩
theorem fit199:FitsOne Tryz.prog 199 ⟨false,1,24,[.v (.slice none 0 0)],[],false,none,(some 244),3,[],false,[]⟩:=⟨by kernel_rfl,rfl,rfl,by kernel_rfl,(fun h=>by cases h),by kernel_rfl⟩
theorem fit200:FitsOne Tryz.prog 200 ⟨true,2,32,[.v (.bool false),.v (.slice none 0 0)],[(0,1),(1,1)],false,none,none,6,[],false,[]⟩:=⟨by kernel_rfl,rfl,rfl,by kernel_rfl,(fun h=>by cases h),by kernel_rfl⟩
theorem fit201:FitsOne Tryz.prog 201 ⟨true,2,32,[.v (.bool false),.v (.slice none 0 0)],[(0,1),(1,1)],false,none,none,6,[],false,[]⟩:=⟨by kernel_rfl,rfl,rfl,by kernel_rfl,(fun h=>by cases h),by kernel_rfl⟩
theorem fit209:FitsOne Tryz.prog 209 ⟨true,1,8,[.v (.pointer none)],[(0,1)],false,none,none,6,[],false,[]⟩:=⟨by kernel_rfl,rfl,rfl,by kernel_rfl,(fun h=>by cases h),by kernel_rfl⟩
theorem fit210:FitsOne Tryz.prog 210 ⟨true,1,8,[.v (.pointer none)],[(0,1)],false,none,none,6,[],false,[]⟩:=⟨by kernel_rfl,rfl,rfl,by kernel_rfl,(fun h=>by cases h),by kernel_rfl⟩
theorem fit211:FitsOne Tryz.prog 211 ⟨false,1,8,[.v (.pointer none)],[],false,none,none,8,[],false,[309]⟩:=⟨by kernel_rfl,rfl,rfl,by kernel_rfl,(fun h=>by cases h),by kernel_rfl⟩
theorem fit215:FitsOne Tryz.prog 215 ⟨false,1,16,[.v .nilIface],[],true,none,none,7,[],false,[]⟩:=⟨by kernel_rfl,rfl,rfl,by kernel_rfl,(fun h=>by cases h),by kernel_rfl⟩
theorem fit218:FitsOne Tryz.prog 218 ⟨false,1,16,[.v .nilIface],[],true,none,none,7,[],false,[]⟩:=⟨by kernel_rfl,rfl,rfl,by kernel_rfl,(fun h=>by cases h),by kernel_rfl⟩
theorem fit220:FitsOne Tryz.prog 220 ⟨false,1,16,[.v .nilIface],[],true,none,none,7,[],false,[]⟩:=⟨by kernel_rfl,rfl,rfl,by kernel_rfl,(fun h=>by cases h),by kernel_rfl⟩
theorem fit221:FitsOne Tryz.prog 221 ⟨false,1,24,[.v (.slice none 0 0)],[],false,none,(some 32),3,[],false,[]⟩:=⟨by kernel_rfl,rfl,rfl,by kernel_rfl,(fun h=>by cases h),by kernel_rfl⟩
theorem fit230:FitsOne Tryz.prog 230 ⟨false,1,8,[.v (.pointer none)],[],false,none,none,8,[],false,[226]⟩:=⟨by kernel_rfl,rfl,rfl,by kernel_rfl,(fun h=>by cases h),by kernel_rfl⟩
theorem fit239:FitsOne Tryz.prog 239 ⟨false,1,8,[.v (.int .u64 0)],[],false,(some .u64),none,5,[],false,[]⟩:=⟨by kernel_rfl,rfl,rfl,by kernel_rfl,(fun h=>by cases h),by kernel_rfl⟩
theorem fit244:FitsOne Tryz.prog 244 ⟨false,1,4,[.v (.int .u32 0)],[],false,(some .u32),none,5,[],false,[]⟩:=⟨by kernel_rfl,rfl,rfl,by kernel_rfl,(fun h=>by cases h),by kernel_rfl⟩
theorem fit256:FitsOne Tryz.prog 256 ⟨true,24,24,[.v (.int .u8 0),.v (.int .u8 0),.v (.int .u8 0),.v (.int .u8 0),.v (.int .u8 0),.v (.int .u8 0),.v (.int .u8 0),.v (.int .u8 0),.v (.int .u8 0),.v (.int .u8 0),.v (.int .u8 0),.v (.int .u8 0),.v (.int .u8 0),.v (.int .u8 0),.v (.int .u8 0),.v (.int .u8 0),.v (.int .u8 0),.v (.int .u8 0),.v (.int .u8 0),.v (.int .u8 0),.v (.int .u8 0),.v (.int .u8 0),.v (.int .u8 0),.v (.int .u8 0)],[],false,none,(some 5),4,[],false,[24]⟩:=⟨by kernel_rfl,rfl,rfl,by kernel_rfl,(fun h=>by cases h),by kernel_rfl⟩
theorem fit263:FitsOne Tryz.prog 263 ⟨true,2,2,[.v (.int .u8 0),.v (.int .u8 0)],[(0,1),(1,1)],false,none,none,6,[],false,[]⟩:=⟨by kernel_rfl,rfl,rfl,by kernel_rfl,(fun h=>by cases h),by kernel_rfl⟩
theorem fit264:FitsOne Tryz.prog 264 ⟨true,2,2,[.v (.int .u8 0),.v (.int .u8 0)],[(0,1),(1,1)],false,none,none,6,[],false,[]⟩:=⟨by kernel_rfl,rfl,rfl,by kernel_rfl,(fun h=>by cases h),by kernel_rfl⟩
theorem fit265:FitsOne Tryz.prog 265 ⟨true,32,32,[.v (.int .u8 0),.v (.int .u8 0),.v (.int .u8 0),.v (.int .u8 0),.v (.int .u8 0),.v (.int .u8 0),.v (.int .u8 0),.v (.int .u8 0),.v (.int .u8 0),.v (.int .u8 0),.v (.int .u8 0),.v (.int .u8 0),.v (.int .u8 0),.v (.int .u8 0),.v (.int .u8 0),.v (.int .u8 0),.v (.int .u8 0),.v (.int .u8 0),.v (.int .u8 0),.v (.int .u8 0),.v (.int .u8 0),.v (.int .u8 0),.v (.int .u8 0),.v (.int .u8 0),.v (.int .u8 0),.v (.int .u8 0),.v (.int .u8 0),.v (.int .u8 0),.v (.int .u8 0),.v (.int .u8 0),.v (.int .u8 0),.v (.int .u8 0)],[],false,none,(some 264),4,[],false,[16]⟩:=⟨by kernel_rfl,rfl,rfl,by kernel_rfl,(fun h=>by cases h),by kernel_rfl⟩
theorem fit270:FitsOne Tryz.prog 270 ⟨true,20,160,[.v (.int .u64 0),.v (.int .u64 0),.v (.int .u64 0),.v (.int .u64 0),.v (.int .u64 0),.v (.int .u64 0),.v (.int .u64 0),.v (.int .u64 0),.v (.int .u64 0),.v (.int .u64 0),.v (.int .u64 0),.v (.int .u64 0),.v (.int .u64 0),.v (.int .u64 0),.v (.int .u64 0),.v (.int .u64 0),.v (.int .u64 0),.v (.int .u64 0),.v (.int .u64 0),.v (.int .u64 0)],[],false,none,(some 239),4,[],false,[20]⟩:=⟨by kernel_rfl,rfl,rfl,by kernel_rfl,(fun h=>by cases h),by kernel_rfl⟩
theorem fit273:FitsOne Tryz.prog 273 ⟨false,1,8,[.v (.int .i64 0)],[],false,(some .i64),none,5,[],false,[]⟩:=⟨by kernel_rfl,rfl,rfl,by kernel_rfl,(fun h=>by cases h),by kernel_rfl⟩
theorem fit276:FitsOne Tryz.prog 276 ⟨false,1,8,[.v (.pointer none)],[],false,none,none,8,[],false,[284]⟩:=⟨by kernel_rfl,rfl,rfl,by kernel_rfl,(fun h=>by cases h),by kernel_rfl⟩
theorem fit283:FitsOne Tryz.prog 283 ⟨true,3,48,[.str [],.str [],.v .nilIface],[(0,1),(1,1),(2,1)],false,none,none,6,[],false,[]⟩:=⟨by kernel_rfl,rfl,rfl,by kernel_rfl,(fun h=>by cases h),by kernel_rfl⟩
theorem fit284:FitsOne Tryz.prog 284 ⟨true,3,48,[.str [],.str [],.v .nilIface],[(0,1),(1,1),(2,1)],false,none,none,6,[],false,[]⟩:=⟨by kernel_rfl,rfl,rfl,by kernel_rfl,(fun h=>by cases h),by kernel_rfl⟩
theorem fit285:FitsOne Tryz.prog 285 ⟨true,32,32,[.v (.int .u8 0),.v (.int .u8 0),.v (.int .u8 0),.v (.int .u8 0),.v (.int .u8 0),.v (.int .u8 0),.v (.int .u8 0),.v (.int .u8 0),.v (.int .u8 0),.v (.int .u8 0),.v (.int .u8 0),.v (.int .u8 0),.v (.int .u8 0),.v (.int .u8 0),.v (.int .u8 0),.v (.int .u8 0),.v (.int .u8 0),.v (.int .u8 0),.v (.int .u8 0),.v (.int .u8 0),.v (.int .u8 0),.v (.int .u8 0),.v (.int .u8 0),.v (.int .u8 0),.v (.int .u8 0),.v (.int .u8 0),.v (.int .u8 0),.v (.int .u8 0),.v (.int .u8 0),.v (.int .u8 0),.v (.int .u8 0),.v (.int .u8 0)],[],false,none,(some 5),4,[],false,[32]⟩:=⟨by kernel_rfl,rfl,rfl,by kernel_rfl,(fun h=>by cases h),by kernel_rfl⟩
theorem fit288:FitsOne Tryz.prog 288 ⟨false,1,8,[.v (.pointer none)],[],false,none,none,8,[],false,[290]⟩:=⟨by kernel_rfl,rfl,rfl,by kernel_rfl,(fun h=>by cases h),by kernel_rfl⟩
theorem fit289:FitsOne Tryz.prog 289 ⟨true,1,16,[.str []],[(0,1)],false,none,none,6,[],false,[]⟩:=⟨by kernel_rfl,rfl,rfl,by kernel_rfl,(fun h=>by cases h),by kernel_rfl⟩
theorem fit290:FitsOne Tryz.prog 290 ⟨true,1,16,[.str []],[(0,1)],false,none,none,6,[],false,[]⟩:=⟨by kernel_rfl,rfl,rfl,by kernel_rfl,(fun h=>by cases h),by kernel_rfl⟩
theorem fit291:FitsOne Tryz.prog 291 ⟨false,1,8,[.v (.pointer none)],[],false,none,none,8,[],false,[311]⟩:=⟨by kernel_rfl,rfl,rfl,by kernel_rfl,(fun h=>by cases h),by kernel_rfl⟩
theorem fit292:FitsOne Tryz.prog 292 ⟨false,1,8,[.v (.pointer none)],[],false,none,none,8,[],false,[313]⟩:=⟨by kernel_rfl,rfl,rfl,by kernel_rfl,(fun h=>by cases h),by kernel_rfl⟩
theorem fit293:FitsOne Tryz.prog 293 ⟨true,4,40,[.v (.pointer none),.v (.pointer none),.v (.pointer none),.str []],[(0,1),(1,1),(2,1),(3,1)],false,none,none,6,[],false,[]⟩:=⟨by kernel_rfl,rfl,rfl,by kernel_rfl,(fun h=>by cases h),by kernel_rfl⟩
theorem fit294:FitsOne Tryz.prog 294 ⟨true,4,40,[.v (.pointer none),.v (.pointer none),.v (.pointer none),.str []],[(0,1),(1,1),(2,1),(3,1)],false,none,none,6,[],false,[]⟩:=⟨by kernel_rfl,rfl,rfl,by kernel_rfl,(fun h=>by cases h),by kernel_rfl⟩
theorem fit295:FitsOne Tryz.prog 295 ⟨true,0,0,[],[],false,none,(some 16),4,[],false,[0]⟩:=⟨by kernel_rfl,rfl,rfl,by kernel_rfl,(fun h=>by cases h),by kernel_rfl⟩
theorem fit296:FitsOne Tryz.prog 296 ⟨true,0,0,[],[(0,0)],false,none,none,6,[],false,[]⟩:=⟨by kernel_rfl,rfl,rfl,by kernel_rfl,(fun h=>by cases h),by kernel_rfl⟩
theorem fit297:FitsOne Tryz.prog 297 ⟨true,0,0,[],[(0,0)],false,none,none,6,[],false,[]⟩:=⟨by kernel_rfl,rfl,rfl,by kernel_rfl,(fun h=>by cases h),by kernel_rfl⟩
theorem fit300:FitsOne Tryz.prog 300 ⟨false,1,1,[.v (.int .u8 0)],[],false,(some .u8),none,5,[],false,[]⟩:=⟨by kernel_rfl,rfl,rfl,by kernel_rfl,(fun h=>by cases h),by kernel_rfl⟩
theorem fit302:FitsOne Tryz.prog 302 ⟨false,1,4,[.v (.int .i32 0)],[],false,(some .i32),none,5,[],false,[]⟩:=⟨by kernel_rfl,rfl,rfl,by kernel_rfl,(fun h=>by cases h),by kernel_rfl⟩
theorem fit303:FitsOne Tryz.prog 303 ⟨false,1,4,[.v (.int .i32 0)],[],false,(some .i32),none,5,[],false,[]⟩:=⟨by kernel_rfl,rfl,rfl,by kernel_rfl,(fun h=>by cases h),by kernel_rfl⟩
theorem fit308:FitsOne Tryz.prog 308 ⟨true,2,24,[.str [],.v (.int .u8 0)],[(0,1),(1,1)],false,none,none,6,[],false,[]⟩:=⟨by kernel_rfl,rfl,rfl,by kernel_rfl,(fun h=>by cases h),by kernel_rfl⟩
theorem fit309:FitsOne Tryz.prog 309 ⟨true,2,24,[.str [],.v (.int .u8 0)],[(0,1),(1,1)],false,none,none,6,[],false,[]⟩:=⟨by kernel_rfl,rfl,rfl,by kernel_rfl,(fun h=>by cases h),by kernel_rfl⟩
theorem fit310:FitsOne Tryz.prog 310 ⟨true,2,32,[.str [],.v .nilIface],[(0,1),(1,1)],false,none,none,6,[],false,[]⟩:=⟨by kernel_rfl,rfl,rfl,by kernel_rfl,(fun h=>by cases h),by kernel_rfl⟩
theorem fit311:FitsOne Tryz.prog 311 ⟨true,2,32,[.str [],.v .nilIface],[(0,1),(1,1)],false,none,none,6,[],false,[]⟩:=⟨by kernel_rfl,rfl,rfl,by kernel_rfl,(fun h=>by cases h),by kernel_rfl⟩
theorem fit312:FitsOne Tryz.prog 312 ⟨true,2,40,[.str [],.v (.slice none 0 0)],[(0,1),(1,1)],false,none,none,6,[],false,[]⟩:=⟨by kernel_rfl,rfl,rfl,by kernel_rfl,(fun h=>by cases h),by kernel_rfl⟩
theorem fit313:FitsOne Tryz.prog 313 ⟨true,2,40,[.str [],.v (.slice none 0 0)],[(0,1),(1,1)],false,none,none,6,[],false,[]⟩:=⟨by kernel_rfl,rfl,rfl,by kernel_rfl,(fun h=>by cases h),by kernel_rfl⟩
theorem fit314:FitsOne Tryz.prog 314 ⟨false,1,8,[.v (.pointer none)],[],false,none,none,8,[],false,[318]⟩:=⟨by kernel_rfl,rfl,rfl,by kernel_rfl,(fun h=>by cases h),by kernel_rfl⟩
theorem fit316:FitsOne Tryz.prog 316 ⟨false,1,2,[.v (.int .u16 0)],[],false,(some .u16),none,5,[],false,[]⟩:=⟨by kernel_rfl,rfl,rfl,by kernel_rfl,(fun h=>by cases h),by kernel_rfl⟩
theorem fit317:FitsOne Tryz.prog 317 ⟨true,5,16,[.v (.int .i32 0),.v (.int .u16 0),.v (.int .u16 0),.v (.int .u32 0),.v (.int .u32 0)],[(0,1),(1,1),(2,1),(3,1),(4,1)],false,none,none,6,[],false,[]⟩:=⟨by kernel_rfl,rfl,rfl,by kernel_rfl,(fun h=>by cases h),by kernel_rfl⟩
theorem fit318:FitsOne Tryz.prog 318 ⟨true,5,16,[.v (.int .i32 0),.v (.int .u16 0),.v (.int .u16 0),.v (.int .u32 0),.v (.int .u32 0)],[(0,1),(1,1),(2,1),(3,1),(4,1)],false,none,none,6,[],false,[]⟩:=⟨by kernel_rfl,rfl,rfl,by kernel_rfl,(fun h=>by cases h),by kernel_rfl⟩
theorem fit319:FitsOne Tryz.prog 319 ⟨false,1,24,[.v (.slice none 0 0)],[],false,none,(some 322),3,[],false,[]⟩:=⟨by kernel_rfl,rfl,rfl,by kernel_rfl,(fun h=>by cases h),by kernel_rfl⟩
theorem fit320:FitsOne Tryz.prog 320 ⟨false,1,4,[.v (.int .i32 0)],[],false,(some .i32),none,5,[],false,[]⟩:=⟨by kernel_rfl,rfl,rfl,by kernel_rfl,(fun h=>by cases h),by kernel_rfl⟩
theorem fit321:FitsOne Tryz.prog 321 ⟨true,4,16,[.v (.int .i32 0),.v (.int .i32 0),.v (.int .i32 0),.v (.int .i32 0)],[(0,1),(1,1),(2,1),(3,1)],false,none,none,6,[],false,[]⟩:=⟨by kernel_rfl,rfl,rfl,by kernel_rfl,(fun h=>by cases h),by kernel_rfl⟩
theorem fit322:FitsOne Tryz.prog 322 ⟨true,4,16,[.v (.int .i32 0),.v (.int .i32 0),.v (.int .i32 0),.v (.int .i32 0)],[(0,1),(1,1),(2,1),(3,1)],false,none,none,6,[],false,[]⟩:=⟨by kernel_rfl,rfl,rfl,by kernel_rfl,(fun h=>by cases h),by kernel_rfl⟩
theorem fit323:FitsOne Tryz.prog 323 ⟨false,1,8,[.v (.pointer none)],[],false,none,none,8,[],false,[32]⟩:=⟨by kernel_rfl,rfl,rfl,by kernel_rfl,(fun h=>by cases h),by kernel_rfl⟩
def tt:List (Nat×TI):=[
 (2,⟨false,1,8,[.v (.int .i64 0)],[],false,(some .i64),none,5,[],false,[]⟩),
 (3,⟨false,1,8,[.v (.int .i64 0)],[],false,(some .i64),none,5,[],false,[]⟩),
 (4,⟨false,1,1,[.v (.bool false)],[],false,none,none,1,[],false,[]⟩),
 (5,⟨false,1,1,[.v (.int .u8 0)],[],false,(some .u8),none,5,[],false,[]⟩),
 (6,⟨false,1,1,[.v (.int .u8 0)],[],false,(some .u8),none,5,[],false,[]⟩),
 (7,⟨true,4,24,[.v (.int .i64 0),.v (.int .i64 0),.v (.bool false),.v (.int .u8 0)],[(0,1),(1,1),(2,1),(3,1)],false,none,none,6,[],false,[]⟩),
 (8,⟨true,4,24,[.v (.int .i64 0),.v (.int .i64 0),.v (.bool false),.v (.int .u8 0)],[(0,1),(1,1),(2,1),(3,1)],false,none,none,6,[],false,[]⟩),
 (9,⟨false,1,16,[.str []],[],false,none,none,2,[],false,[]⟩),
 (10,⟨false,1,16,[.str []],[],false,none,none,2,[],false,[]⟩),
 (11,⟨false,1,16,[.str []],[],false,none,none,2,[],false,[]⟩),
 (12,⟨false,1,8,[.v (.int .u64 0)],[],false,(some .u64),none,5,[],false,[]⟩),
 (13,⟨true,2,24,[.str [],.v (.int .u64 0)],[(0,1),(1,1)],false,none,none,6,[],false,[]⟩),
 (14,⟨true,2,24,[.str [],.v (.int .u64 0)],[(0,1),(1,1)],false,none,none,6,[],false,[]⟩),
 (15,⟨false,1,8,[.v (.pointer none)],[],false,none,none,8,[],false,[294]⟩),
 (16,⟨false,1,8,[.v (.pointer none)],[],false,none,none,8,[],false,[297]⟩),
 (17,⟨false,1,8,[.v (.pointer none)],[],false,none,none,8,[],false,[305]⟩),
 (18,⟨true,1,8,[.v (.pointer none)],[(0,1)],false,none,none,6,[],false,[]⟩),
 (19,⟨true,1,8,[.v (.pointer none)],[(0,1)],false,none,none,6,[],false,[]⟩),
 (20,⟨false,1,16,[.v .nilIface],[],true,none,none,7,[],false,[]⟩),
 (21,⟨false,1,4,[.v (.int .i32 0)],[],false,(some .i32),none,5,[],false,[]⟩),
 (22,⟨true,2,16,[.v (.int .i64 0),.v (.int .i64 0)],[(0,1),(1,1)],false,none,none,6,[],false,[]⟩),
 (23,⟨true,2,16,[.v (.int .i64 0),.v (.int .i64 0)],[(0,1),(1,1)],false,none,none,6,[3,3],true,[]⟩),
 (24,⟨true,4,24,[.v (.int .i64 0),.v (.int .i64 0),.v (.bool false),.v (.bool false)],[(0,2),(2,1),(3,1)],false,none,none,6,[],false,[]⟩),
 (25,⟨true,4,24,[.v (.int .i64 0),.v (.int .i64 0),.v (.bool false),.v (.bool false)],[(0,2),(2,1),(3,1)],false,none,none,6,[23,4,4],true,[]⟩),
 (26,⟨false,1,24,[.v (.slice none 0 0)],[],false,none,(some 28),3,[],false,[]⟩),
 (27,⟨true,12,104,[.v (.int .i64 0),.v (.int .i64 0),.str [],.v (.int .i64 0),.v (.int .i64 0),.v (.bool false),.v (.bool false),.v (.int .i64 0),.v (.int .i64 0),.v (.bool false),.v (.bool false),.v (.slice none 0 0)],[(0,1),(1,1),(2,1),(3,4),(7,4),(11,1)],false,none,none,6,[],false,[]⟩),
 (28,⟨true,12,104,[.v (.int .i64 0),.v (.int .i64 0),.str [],.v (.int .i64 0),.v (.int .i64 0),.v (.bool false),.v (.bool false),.v (.int .i64 0),.v (.int .i64 0),.v (.bool false),.v (.bool false),.v (.slice none 0 0)],[(0,1),(1,1),(2,1),(3,4),(7,4),(11,1)],false,none,none,6,[],false,[]⟩),
 (31,⟨false,1,16,[.v .nilIface],[],true,none,none,7,[],false,[]⟩),
 (32,⟨false,1,16,[.v .nilIface],[],true,none,none,7,[],false,[]⟩),
 (38,⟨false,1,24,[.v (.slice none 0 0)],[],false,none,(some 44),3,[],false,[]⟩),
 (39,⟨false,1,24,[.v (.slice none 0 0)],[],false,none,(some 23),3,[],false,[]⟩),
 (43,⟨true,3,32,[.v (.int .i64 0),.v (.int .i64 0),.str []],[(0,2),(2,1)],false,none,none,6,[],false,[]⟩),
 (44,⟨true,3,32,[.v (.int .i64 0),.v (.int .i64 0),.str []],[(0,2),(2,1)],false,none,none,6,[23,9],true,[]⟩),
 (47,⟨false,1,8,[.v (.pointer none)],[],false,none,none,8,[],false,[108]⟩),
 (60,⟨false,1,24,[.v (.slice none 0 0)],[],false,none,(some 3),3,[],false,[]⟩),
 (62,⟨false,1,24,[.v (.slice none 0 0)],[],false,none,(some 38),3,[],false,[]⟩),
 (76,⟨true,4,32,[.v (.int .i64 0),.v (.int .i64 0),.v (.int .i64 0),.v (.int .i64 0)],[(0,2),(2,2)],false,none,none,6,[],false,[]⟩),
 (77,⟨true,4,32,[.v (.int .i64 0),.v (.int .i64 0),.v (.int .i64 0),.v (.int .i64 0)],[(0,2),(2,2)],false,none,none,6,[23,23],true,[]⟩),
 (78,⟨true,10,80,[.v (.int .i64 0),.v (.bool false),.v (.int .i64 0),.v (.int .i64 0),.v (.int .i64 0),.v (.int .i64 0),.v (.int .i64 0),.v (.int .i64 0),.v (.int .i64 0),.v (.int .i64 0)],[(0,1),(1,1),(2,1),(3,1),(4,1),(5,1),(6,4)],false,none,none,6,[],false,[]⟩),
 (79,⟨true,10,80,[.v (.int .i64 0),.v (.bool false),.v (.int .i64 0),.v (.int .i64 0),.v (.int .i64 0),.v (.int .i64 0),.v (.int .i64 0),.v (.int .i64 0),.v (.int .i64 0),.v (.int .i64 0)],[(0,1),(1,1),(2,1),(3,1),(4,1),(5,1),(6,4)],false,none,none,6,[3,4,3,3,3,3,77],true,[]⟩),
 (88,⟨false,1,8,[.v (.pointer none)],[],false,none,none,8,[],false,[90]⟩),
 (89,⟨true,5,48,[.str [],.v (.int .i64 0),.v (.int .i64 0),.v (.int .i64 0),.v (.int .i64 0)],[(0,1),(1,1),(2,1),(3,1),(4,1)],false,none,none,6,[],false,[]⟩),
 (90,⟨true,5,48,[.str [],.v (.int .i64 0),.v (.int .i64 0),.v (.int .i64 0),.v (.int .i64 0)],[(0,1),(1,1),(2,1),(3,1),(4,1)],false,none,none,6,[9,3,3,3,3],true,[]⟩),
 (92,⟨true,4,40,[.v (.int .i64 0),.v (.int .i64 0),.v (.int .i64 0),.str []],[(0,1),(1,1),(2,1),(3,1)],false,none,none,6,[],false,[]⟩),
 (93,⟨true,4,40,[.v (.int .i64 0),.v (.int .i64 0),.v (.int .i64 0),.str []],[(0,1),(1,1),(2,1),(3,1)],false,none,none,6,[3,3,3,9],true,[]⟩),
 (96,⟨false,1,8,[.v (.int .i64 0)],[],false,(some .i64),none,5,[],false,[]⟩),
 (97,⟨true,2,24,[.v (.int .i64 0),.v .nilIface],[(0,1),(1,1)],false,none,none,6,[],false,[]⟩),
 (98,⟨true,2,24,[.v (.int .i64 0),.v .nilIface],[(0,1),(1,1)],false,none,none,6,[],false,[]⟩),
 (100,⟨false,1,8,[.v (.pointer none)],[],false,none,none,8,[],false,[102]⟩),
 (101,⟨true,3,32,[.str [],.v (.int .i64 0),.v (.int .i64 0)],[(0,1),(1,1),(2,1)],false,none,none,6,[],false,[]⟩),
 (102,⟨true,3,32,[.str [],.v (.int .i64 0),.v (.int .i64 0)],[(0,1),(1,1),(2,1)],false,none,none,6,[9,3,3],true,[]⟩),
 (107,⟨true,2,32,[.v (.slice none 0 0),.v (.int .i64 0)],[(0,1),(1,1)],false,none,none,6,[],false,[]⟩),
 (108,⟨true,2,32,[.v (.slice none 0 0),.v (.int .i64 0)],[(0,1),(1,1)],false,none,none,6,[],false,[]⟩),
 (111,⟨false,1,8,[.v (.pointer none)],[],false,none,none,8,[],false,[3]⟩),
 (113,⟨false,1,8,[.v (.pointer none)],[],false,none,none,8,[],false,[116]⟩),
 (114,⟨false,1,24,[.v (.slice none 0 0)],[],false,none,(some 5),3,[],false,[]⟩),
 (115,⟨true,2,32,[.v (.pointer none),.v (.slice none 0 0)],[(0,1),(1,1)],false,none,none,6,[],false,[]⟩),
 (116,⟨true,2,32,[.v (.pointer none),.v (.slice none 0 0)],[(0,1),(1,1)],false,none,none,6,[],false,[]⟩),
 (129,⟨false,1,8,[.v (.pointer none)],[],false,none,none,8,[],false,[23]⟩),
 (140,⟨false,1,24,[.v (.slice none 0 0)],[],false,none,(some 9),3,[],false,[]⟩),
 (142,⟨true,4,96,[.v (.slice none 0 0),.v (.slice none 0 0),.v (.slice none 0 0),.v (.slice none 0 0)],[],false,none,(some 140),4,[],false,[4]⟩),
 (144,⟨false,1,8,[.v (.pointer none)],[],false,none,none,8,[],false,[96]⟩),
 (156,⟨true,3,32,[.v (.int .i64 0),.v (.int .i64 0),.str []],[(0,1),(1,1),(2,1)],false,none,none,6,[],false,[]⟩),
 (157,⟨true,3,32,[.v (.int .i64 0),.v (.int .i64 0),.str []],[(0,1),(1,1),(2,1)],false,none,none,6,[3,3,9],true,[]⟩),
 (164,⟨false,1,8,[.v (.pointer none)],[],false,none,none,8,[],false,[5]⟩),
 (176,⟨false,1,8,[.v (.pointer none)],[],false,none,none,0,[],false,[]⟩),
 (177,⟨false,1,8,[.v (.int .u64 0)],[],false,(some .u64),none,5,[],false,[]⟩),
 (178,⟨true,3,24,[.v (.pointer none),.v (.pointer none),.v (.int .u64 0)],[(0,1),(1,1),(2,1)],false,none,none,6,[],false,[]⟩),
 (179,⟨true,3,24,[.v (.pointer none),.v (.pointer none),.v (.int .u64 0)],[(0,1),(1,1),(2,1)],false,none,none,6,[],false,[]⟩),
 (181,⟨false,1,16,[.v .nilIface],[],true,none,none,7,[],false,[]⟩),
 (182,⟨false,1,16,[.v .nilIface],[],true,none,none,7,[],false,[]⟩),
 (184,⟨false,1,1,[.v (.int .u8 0)],[],false,(some .u8),none,5,[],false,[]⟩),
 (188,⟨false,1,8,[.v (.int .u64 0)],[],false,(some .u64),none,5,[],false,[]⟩),
 (194,⟨true,7,112,[.str [],.str [],.str [],.str [],.str [],.str [],.str []],[],false,none,(some 9),4,[],false,[7]⟩),
 (196,⟨true,12,192,[.str [],.str [],.str [],.str [],.str [],.str [],.str [],.str [],.str [],.str [],.str [],.str []],[],false,none,(some 9),4,[],false,[12]⟩),
 (197,⟨false,1,8,[.v (.pointer none)],[],false,none,none,8,[],false,[201]⟩),
 (199,⟨false,1,24,[.v (.slice none 0 0)],[],false,none,(some 244),3,[],false,[]⟩),
 (200,⟨true,2,32,[.v (.bool false),.v (.slice none 0 0)],[(0,1),(1,1)],false,none,none,6,[],false,[]⟩),
 (201,⟨true,2,32,[.v (.bool false),.v (.slice none 0 0)],[(0,1),(1,1)],false,none,none,6,[],false,[]⟩),
 (209,⟨true,1,8,[.v (.pointer none)],[(0,1)],false,none,none,6,[],false,[]⟩),
 (210,⟨true,1,8,[.v (.pointer none)],[(0,1)],false,none,none,6,[],false,[]⟩),
 (211,⟨false,1,8,[.v (.pointer none)],[],false,none,none,8,[],false,[309]⟩),
 (215,⟨false,1,16,[.v .nilIface],[],true,none,none,7,[],false,[]⟩),
 (218,⟨false,1,16,[.v .nilIface],[],true,none,none,7,[],false,[]⟩),
 (220,⟨false,1,16,[.v .nilIface],[],true,none,none,7,[],false,[]⟩),
 (221,⟨false,1,24,[.v (.slice none 0 0)],[],false,none,(some 32),3,[],false,[]⟩),
 (230,⟨false,1,8,[.v (.pointer none)],[],false,none,none,8,[],false,[226]⟩),
 (239,⟨false,1,8,[.v (.int .u64 0)],[],false,(some .u64),none,5,[],false,[]⟩),
 (244,⟨false,1,4,[.v (.int .u32 0)],[],false,(some .u32),none,5,[],false,[]⟩),
 (256,⟨true,24,24,[.v (.int .u8 0),.v (.int .u8 0),.v (.int .u8 0),.v (.int .u8 0),.v (.int .u8 0),.v (.int .u8 0),.v (.int .u8 0),.v (.int .u8 0),.v (.int .u8 0),.v (.int .u8 0),.v (.int .u8 0),.v (.int .u8 0),.v (.int .u8 0),.v (.int .u8 0),.v (.int .u8 0),.v (.int .u8 0),.v (.int .u8 0),.v (.int .u8 0),.v (.int .u8 0),.v (.int .u8 0),.v (.int .u8 0),.v (.int .u8 0),.v (.int .u8 0),.v (.int .u8 0)],[],false,none,(some 5),4,[],false,[24]⟩),
 (263,⟨true,2,2,[.v (.int .u8 0),.v (.int .u8 0)],[(0,1),(1,1)],false,none,none,6,[],false,[]⟩),
 (264,⟨true,2,2,[.v (.int .u8 0),.v (.int .u8 0)],[(0,1),(1,1)],false,none,none,6,[],false,[]⟩),
 (265,⟨true,32,32,[.v (.int .u8 0),.v (.int .u8 0),.v (.int .u8 0),.v (.int .u8 0),.v (.int .u8 0),.v (.int .u8 0),.v (.int .u8 0),.v (.int .u8 0),.v (.int .u8 0),.v (.int .u8 0),.v (.int .u8 0),.v (.int .u8 0),.v (.int .u8 0),.v (.int .u8 0),.v (.int .u8 0),.v (.int .u8 0),.v (.int .u8 0),.v (.int .u8 0),.v (.int .u8 0),.v (.int .u8 0),.v (.int .u8 0),.v (.int .u8 0),.v (.int .u8 0),.v (.int .u8 0),.v (.int .u8 0),.v (.int .u8 0),.v (.int .u8 0),.v (.int .u8 0),.v (.int .u8 0),.v (.int .u8 0),.v (.int .u8 0),.v (.int .u8 0)],[],false,none,(some 264),4,[],false,[16]⟩),
 (270,⟨true,20,160,[.v (.int .u64 0),.v (.int .u64 0),.v (.int .u64 0),.v (.int .u64 0),.v (.int .u64 0),.v (.int .u64 0),.v (.int .u64 0),.v (.int .u64 0),.v (.int .u64 0),.v (.int .u64 0),.v (.int .u64 0),.v (.int .u64 0),.v (.int .u64 0),.v (.int .u64 0),.v (.int .u64 0),.v (.int .u64 0),.v (.int .u64 0),.v (.int .u64 0),.v (.int .u64 0),.v (.int .u64 0)],[],false,none,(some 239),4,[],false,[20]⟩),
 (273,⟨false,1,8,[.v (.int .i64 0)],[],false,(some .i64),none,5,[],false,[]⟩),
 (276,⟨false,1,8,[.v (.pointer none)],[],false,none,none,8,[],false,[284]⟩),
 (283,⟨true,3,48,[.str [],.str [],.v .nilIface],[(0,1),(1,1),(2,1)],false,none,none,6,[],false,[]⟩),
 (284,⟨true,3,48,[.str [],.str [],.v .nilIface],[(0,1),(1,1),(2,1)],false,none,none,6,[],false,[]⟩),
 (285,⟨true,32,32,[.v (.int .u8 0),.v (.int .u8 0),.v (.int .u8 0),.v (.int .u8 0),.v (.int .u8 0),.v (.int .u8 0),.v (.int .u8 0),.v (.int .u8 0),.v (.int .u8 0),.v (.int .u8 0),.v (.int .u8 0),.v (.int .u8 0),.v (.int .u8 0),.v (.int .u8 0),.v (.int .u8 0),.v (.int .u8 0),.v (.int .u8 0),.v (.int .u8 0),.v (.int .u8 0),.v (.int .u8 0),.v (.int .u8 0),.v (.int .u8 0),.v (.int .u8 0),.v (.int .u8 0),.v (.int .u8 0),.v (.int .u8 0),.v (.int .u8 0),.v (.int .u8 0),.v (.int .u8 0),.v (.int .u8 0),.v (.int .u8 0),.v (.int .u8 0)],[],false,none,(some 5),4,[],false,[32]⟩),
 (288,⟨false,1,8,[.v (.pointer none)],[],false,none,none,8,[],false,[290]⟩),
 (289,⟨true,1,16,[.str []],[(0,1)],false,none,none,6,[],false,[]⟩),
 (290,⟨true,1,16,[.str []],[(0,1)],false,none,none,6,[],false,[]⟩),
 (291,⟨false,1,8,[.v (.pointer none)],[],false,none,none,8,[],false,[311]⟩),
 (292,⟨false,1,8,[.v (.pointer none)],[],false,none,none,8,[],false,[313]⟩),
 (293,⟨true,4,40,[.v (.pointer none),.v (.pointer none),.v (.pointer none),.str []],[(0,1),(1,1),(2,1),(3,1)],false,none,none,6,[],false,[]⟩),
 (294,⟨true,4,40,[.v (.pointer none),.v (.pointer none),.v (.pointer none),.str []],[(0,1),(1,1),(2,1),(3,1)],false,none,none,6,[],false,[]⟩),
 (295,⟨true,0,0,[],[],false,none,(some 16),4,[],false,[0]⟩),
 (296,⟨true,0,0,[],[(0,0)],false,none,none,6,[],false,[]⟩),
 (297,⟨true,0,0,[],[(0,0)],false,none,none,6,[],false,[]⟩),
 (300,⟨false,1,1,[.v (.int .u8 0)],[],false,(some .u8),none,5,[],false,[]⟩),
 (302,⟨false,1,4,[.v (.int .i32 0)],[],false,(some .i32),none,5,[],false,[]⟩),
 (303,⟨false,1,4,[.v (.int .i32 0)],[],false,(some .i32),none,5,[],false,[]⟩),
 (308,⟨true,2,24,[.str [],.v (.int .u8 0)],[(0,1),(1,1)],false,none,none,6,[],false,[]⟩),
 (309,⟨true,2,24,[.str [],.v (.int .u8 0)],[(0,1),(1,1)],false,none,none,6,[],false,[]⟩),
 (310,⟨true,2,32,[.str [],.v .nilIface],[(0,1),(1,1)],false,none,none,6,[],false,[]⟩),
 (311,⟨true,2,32,[.str [],.v .nilIface],[(0,1),(1,1)],false,none,none,6,[],false,[]⟩),
 (312,⟨true,2,40,[.str [],.v (.slice none 0 0)],[(0,1),(1,1)],false,none,none,6,[],false,[]⟩),
 (313,⟨true,2,40,[.str [],.v (.slice none 0 0)],[(0,1),(1,1)],false,none,none,6,[],false,[]⟩),
 (314,⟨false,1,8,[.v (.pointer none)],[],false,none,none,8,[],false,[318]⟩),
 (316,⟨false,1,2,[.v (.int .u16 0)],[],false,(some .u16),none,5,[],false,[]⟩),
 (317,⟨true,5,16,[.v (.int .i32 0),.v (.int .u16 0),.v (.int .u16 0),.v (.int .u32 0),.v (.int .u32 0)],[(0,1),(1,1),(2,1),(3,1),(4,1)],false,none,none,6,[],false,[]⟩),
 (318,⟨true,5,16,[.v (.int .i32 0),.v (.int .u16 0),.v (.int .u16 0),.v (.int .u32 0),.v (.int .u32 0)],[(0,1),(1,1),(2,1),(3,1),(4,1)],false,none,none,6,[],false,[]⟩),
 (319,⟨false,1,24,[.v (.slice none 0 0)],[],false,none,(some 322),3,[],false,[]⟩),
 (320,⟨false,1,4,[.v (.int .i32 0)],[],false,(some .i32),none,5,[],false,[]⟩),
 (321,⟨true,4,16,[.v (.int .i32 0),.v (.int .i32 0),.v (.int .i32 0),.v (.int .i32 0)],[(0,1),(1,1),(2,1),(3,1)],false,none,none,6,[],false,[]⟩),
 (322,⟨true,4,16,[.v (.int .i32 0),.v (.int .i32 0),.v (.int .i32 0),.v (.int .i32 0)],[(0,1),(1,1),(2,1),(3,1)],false,none,none,6,[],false,[]⟩),
 (323,⟨false,1,8,[.v (.pointer none)],[],false,none,none,8,[],false,[32]⟩)]
theorem fits:Fits Tryz.prog tt :=
 fits_cons fit2 (
 fits_cons fit3 (
 fits_cons fit4 (
 fits_cons fit5 (
 fits_cons fit6 (
 fits_cons fit7 (
 fits_cons fit8 (
 fits_cons fit9 (
 fits_cons fit10 (
 fits_cons fit11 (
 fits_cons fit12 (
 fits_cons fit13 (
 fits_cons fit14 (
 fits_cons fit15 (
 fits_cons fit16 (
 fits_cons fit17 (
 fits_cons fit18 (
 fits_cons fit19 (
 fits_cons fit20 (
 fits_cons fit21 (
 fits_cons fit22 (
 fits_cons fit23 (
 fits_cons fit24 (
 fits_cons fit25 (
 fits_cons fit26 (
 fits_cons fit27 (
 fits_cons fit28 (
 fits_cons fit31 (
 fits_cons fit32 (
 fits_cons fit38 (
 fits_cons fit39 (
 fits_cons fit43 (
 fits_cons fit44 (
 fits_cons fit47 (
 fits_cons fit60 (
 fits_cons fit62 (
 fits_cons fit76 (
 fits_cons fit77 (
 fits_cons fit78 (
 fits_cons fit79 (
 fits_cons fit88 (
 fits_cons fit89 (
 fits_cons fit90 (
 fits_cons fit92 (
 fits_cons fit93 (
 fits_cons fit96 (
 fits_cons fit97 (
 fits_cons fit98 (
 fits_cons fit100 (
 fits_cons fit101 (
 fits_cons fit102 (
 fits_cons fit107 (
 fits_cons fit108 (
 fits_cons fit111 (
 fits_cons fit113 (
 fits_cons fit114 (
 fits_cons fit115 (
 fits_cons fit116 (
 fits_cons fit129 (
 fits_cons fit140 (
 fits_cons fit142 (
 fits_cons fit144 (
 fits_cons fit156 (
 fits_cons fit157 (
 fits_cons fit164 (
 fits_cons fit176 (
 fits_cons fit177 (
 fits_cons fit178 (
 fits_cons fit179 (
 fits_cons fit181 (
 fits_cons fit182 (
 fits_cons fit184 (
 fits_cons fit188 (
 fits_cons fit194 (
 fits_cons fit196 (
 fits_cons fit197 (
 fits_cons fit199 (
 fits_cons fit200 (
 fits_cons fit201 (
 fits_cons fit209 (
 fits_cons fit210 (
 fits_cons fit211 (
 fits_cons fit215 (
 fits_cons fit218 (
 fits_cons fit220 (
 fits_cons fit221 (
 fits_cons fit230 (
 fits_cons fit239 (
 fits_cons fit244 (
 fits_cons fit256 (
 fits_cons fit263 (
 fits_cons fit264 (
 fits_cons fit265 (
 fits_cons fit270 (
 fits_cons fit273 (
 fits_cons fit276 (
 fits_cons fit283 (
 fits_cons fit284 (
 fits_cons fit285 (
 fits_cons fit288 (
 fits_cons fit289 (
 fits_cons fit290 (
 fits_cons fit291 (
 fits_cons fit292 (
 fits_cons fit293 (
 fits_cons fit294 (
 fits_cons fit295 (
 fits_cons fit296 (
 fits_cons fit297 (
 fits_cons fit300 (
 fits_cons fit302 (
 fits_cons fit303 (
 fits_cons fit308 (
 fits_cons fit309 (
 fits_cons fit310 (
 fits_cons fit311 (
 fits_cons fit312 (
 fits_cons fit313 (
 fits_cons fit314 (
 fits_cons fit316 (
 fits_cons fit317 (
 fits_cons fit318 (
 fits_cons fit319 (
 fits_cons fit320 (
 fits_cons fit321 (
 fits_cons fit322 (
 fits_cons fit323 (
 fits_nil)))))))))))))))))))))))))))))))))))))))))))))))))))))))))))))))))))))))))))))))))))))))))))))))))))))))))))))))))))))))))))))))
theorem mixed:Tryz.prog.follows .mixedOrders=true:=by kernel_rfl
end Go.Proofs.YtdpigpahfiachaaGreatDoor
end
