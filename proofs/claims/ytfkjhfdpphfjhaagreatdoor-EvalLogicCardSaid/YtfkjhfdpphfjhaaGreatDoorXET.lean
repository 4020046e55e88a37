/- Proved: a part of what the law is proved with (the reckoner, contracts of functions, plain laws). Conditions: as each says. -/
import Derived.Test.YtfkjhfdpphfjhaaGreatDoorProg
import Derived.Test.YtfkjhfdpphfjhaaGreatDoorXEq
namespace Go.Proofs.YtfkjhfdpphfjhaaGreatDoor
open Go.EYtfkjhfdpphfjhaaGreatDoor
theorem FC {P:Go.Program} {t:Nat} {x:TI} {r:List (Nat×TI)} (hr:Fits P r) (a:(P.info? t).map (fun i=>(i.size,i.bytes,i.zero.map (fun z=>z.cells.toList)))=some (x.size,x.bytes,some (x.zero.map undD)):=by kernel_rfl) (b:x.zero.all scaD=true:=by first|rfl|kernel_rfl) (c:x.zero.length=x.size:=by first|rfl|kernel_rfl)
 (d:(P.underlying t).map (fun d=>(aggOf d,fldsOf P d,ifaceOf d,ikOf d,elOf d,kdOf d))=some (x.agg,some x.flds,x.iface,x.ik,x.el,x.kd):=by kernel_rfl) (e:x.eqok=true→(P.underlying t).bind ftsOf=some x.fts∧x.fts.length=x.flds.length∧P.stoodInHeld t=false∧P.eqGuardType P.depth t=false∧x.agg=true:=by first|(intro h;cases h;done)|exact fun _=>⟨by kernel_rfl,rfl,by kernel_rfl,by kernel_rfl,rfl⟩)
 (f:(P.underlying t).map subOf=some x.sub:=by kernel_rfl):Fits P ((t,x)::r):=fits_cons ⟨a,b,c,d,e,f⟩ hr
set_option maxRecDepth 100000
def tt:List (Nat×TI):=[
 (2,⟨false,1,8,[.v (.int .i64 0)],[],false,(some .i64),none,5,[],false,[]⟩),
 (3,⟨false,1,8,[.v (.int .i64 0)],[],false,(some .i64),none,5,[],false,[]⟩),
 (4,⟨false,1,1,[.v (.bool false)],[],false,none,none,1,[],false,[]⟩),
 (5,⟨false,1,1,[.v (.int .u8 0)],[],false,(some .u8),none,5,[],false,[]⟩),
 (6,⟨false,1,1,[.v (.int .u8 0)],[],false,(some .u8),none,5,[],false,[]⟩),
 (7,⟨true,4,24,[.v (.int .i64 0),.v (.int .i64 0),.v (.bool false),.v (.int .u8 0)],[(0,1),(1,1),(2,1),(3,1)],false,none,none,6,[],false,[]⟩),
 (8,⟨true,4,24,[.v (.int .i64 0),.v (.int .i64 0),.v (.bool false),.v (.int .u8 0)],[(0,1),(1,1),(2,1),(3,1)],false,none,none,6,[],false,[]⟩),
 (9,⟨false,1,16,[.str []],[],false,none,none,2,[],false,[]⟩),
 (10,⟨false,1,16,[.str []],[],false,none,none,2,[],false,[]⟩),
 (11,⟨false,1,16,[.str []],[],false,none,none,2,[],false,[]⟩),
 (12,⟨false,1,8,[.v (.int .u64 0)],[],false,(some .u64),none,5,[],false,[]⟩),
 (13,⟨true,2,24,[.str [],.v (.int .u64 0)],[(0,1),(1,1)],false,none,none,6,[],false,[]⟩),
 (14,⟨true,2,24,[.str [],.v (.int .u64 0)],[(0,1),(1,1)],false,none,none,6,[],false,[]⟩),
 (15,⟨false,1,8,[.v (.pointer none)],[],false,none,none,8,[],false,[318]⟩),
 (16,⟨false,1,8,[.v (.pointer none)],[],false,none,none,8,[],false,[321]⟩),
 (17,⟨false,1,8,[.v (.pointer none)],[],false,none,none,8,[],false,[328]⟩),
 (18,⟨true,1,8,[.v (.pointer none)],[(0,1)],false,none,none,6,[],false,[]⟩),
 (19,⟨true,1,8,[.v (.pointer none)],[(0,1)],false,none,none,6,[],false,[]⟩),
 (20,⟨false,1,16,[.v .nilIface],[],true,none,none,7,[],false,[]⟩),
 (21,⟨false,1,4,[.v (.int .i32 0)],[],false,(some .i32),none,5,[],false,[]⟩),
 (22,⟨true,2,16,[.v (.int .i64 0),.v (.int .i64 0)],[(0,1),(1,1)],false,none,none,6,[],false,[]⟩),
 (23,⟨true,2,16,[.v (.int .i64 0),.v (.int .i64 0)],[(0,1),(1,1)],false,none,none,6,[3,3],true,[]⟩),
 (24,⟨true,4,24,[.v (.int .i64 0),.v (.int .i64 0),.v (.bool false),.v (.bool false)],[(0,2),(2,1),(3,1)],false,none,none,6,[],false,[]⟩),
 (25,⟨true,4,24,[.v (.int .i64 0),.v (.int .i64 0),.v (.bool false),.v (.bool false)],[(0,2),(2,1),(3,1)],false,none,none,6,[23,4,4],true,[]⟩),
 (26,⟨false,1,24,[.v (.slice none 0 0)],[],false,none,(some 28),3,[],false,[]⟩),
 (27,⟨true,12,104,[.v (.int .i64 0),.v (.int .i64 0),.str [],.v (.int .i64 0),.v (.int .i64 0),.v (.bool false),.v (.bool false),.v (.int .i64 0),.v (.int .i64 0),.v (.bool false),.v (.bool false),.v (.slice none 0 0)],[(0,1),(1,1),(2,1),(3,4),(7,4),(11,1)],false,none,none,6,[],false,[]⟩),
 (28,⟨true,12,104,[.v (.int .i64 0),.v (.int .i64 0),.str [],.v (.int .i64 0),.v (.int .i64 0),.v (.bool false),.v (.bool false),.v (.int .i64 0),.v (.int .i64 0),.v (.bool false),.v (.bool false),.v (.slice none 0 0)],[(0,1),(1,1),(2,1),(3,4),(7,4),(11,1)],false,none,none,6,[],false,[]⟩),
 (29,⟨false,1,24,[.v (.slice none 0 0)],[],false,none,(some 40),3,[],false,[]⟩),
 (30,⟨true,3,32,[.v (.int .i64 0),.v (.int .i64 0),.str []],[(0,1),(1,1),(2,1)],false,none,none,6,[],false,[]⟩),
 (31,⟨true,3,32,[.v (.int .i64 0),.v (.int .i64 0),.str []],[(0,1),(1,1),(2,1)],false,none,none,6,[3,3,9],true,[]⟩),
 (32,⟨false,1,16,[.v .nilIface],[],true,none,none,7,[],false,[]⟩),
 (33,⟨false,1,16,[.v .nilIface],[],true,none,none,7,[],false,[]⟩),
 (39,⟨true,7,64,[.v (.int .i64 0),.v (.int .i64 0),.v (.int .i64 0),.v (.int .i64 0),.str [],.v (.int .i64 0),.v (.int .i64 0)],[(0,2),(2,3),(5,1),(6,1)],false,none,none,6,[],false,[]⟩),
 (40,⟨true,7,64,[.v (.int .i64 0),.v (.int .i64 0),.v (.int .i64 0),.v (.int .i64 0),.str [],.v (.int .i64 0),.v (.int .i64 0)],[(0,2),(2,3),(5,1),(6,1)],false,none,none,6,[23,31,3,3],true,[]⟩),
 (42,⟨false,1,24,[.v (.slice none 0 0)],[],false,none,(some 23),3,[],false,[]⟩),
 (46,⟨false,1,24,[.v (.slice none 0 0)],[],false,none,(some 31),3,[],false,[]⟩),
 (54,⟨false,1,24,[.v (.slice none 0 0)],[],false,none,(some 9),3,[],false,[]⟩),
 (65,⟨false,1,8,[.v (.pointer none)],[],false,none,none,8,[],false,[68]⟩),
 (73,⟨false,1,8,[.v (.int .i64 0)],[],false,(some .i64),none,5,[],false,[]⟩),
 (74,⟨true,2,24,[.v (.int .i64 0),.v .nilIface],[(0,1),(1,1)],false,none,none,6,[],false,[]⟩),
 (75,⟨true,2,24,[.v (.int .i64 0),.v .nilIface],[(0,1),(1,1)],false,none,none,6,[],false,[]⟩),
 (77,⟨false,1,8,[.v (.pointer none)],[],false,none,none,8,[],false,[79]⟩),
 (78,⟨true,3,32,[.str [],.v (.int .i64 0),.v (.int .i64 0)],[(0,1),(1,1),(2,1)],false,none,none,6,[],false,[]⟩),
 (79,⟨true,3,32,[.str [],.v (.int .i64 0),.v (.int .i64 0)],[(0,1),(1,1),(2,1)],false,none,none,6,[9,3,3],true,[]⟩),
 (84,⟨false,1,8,[.v (.map none)],[],false,none,none,9,[],false,[23,31]⟩),
 (85,⟨false,1,8,[.v (.map none)],[],false,none,none,9,[],false,[23,31]⟩),
 (88,⟨true,2700,2700,List.replicate 2700 (.v (.bool false)),[],false,none,(some 4),4,[],false,[2700]⟩),
 (90,⟨false,1,8,[.v (.pointer none)],[],false,none,none,8,[],false,[88]⟩),
 (105,⟨true,4,96,[.v (.slice none 0 0),.v (.slice none 0 0),.v (.slice none 0 0),.v (.slice none 0 0)],[],false,none,(some 54),4,[],false,[4]⟩),
 (111,⟨true,4,32,[.v (.int .i64 0),.v (.int .i64 0),.v (.int .i64 0),.v (.int .i64 0)],[(0,2),(2,2)],false,none,none,6,[],false,[]⟩),
 (112,⟨true,4,32,[.v (.int .i64 0),.v (.int .i64 0),.v (.int .i64 0),.v (.int .i64 0)],[(0,2),(2,2)],false,none,none,6,[23,23],true,[]⟩),
 (114,⟨false,1,8,[.v (.pointer none)],[],false,none,none,8,[],false,[118]⟩),
 (116,⟨false,1,24,[.v (.slice none 0 0)],[],false,none,(some 221),3,[],false,[]⟩),
 (117,⟨true,2,32,[.v (.bool false),.v (.slice none 0 0)],[(0,1),(1,1)],false,none,none,6,[],false,[]⟩),
 (118,⟨true,2,32,[.v (.bool false),.v (.slice none 0 0)],[(0,1),(1,1)],false,none,none,6,[],false,[]⟩),
 (128,⟨false,1,24,[.v (.slice none 0 0)],[],false,none,(some 5),3,[],false,[]⟩),
 (133,⟨false,1,8,[.v (.pointer none)],[],false,none,none,8,[],false,[135]⟩),
 (134,⟨true,5,48,[.str [],.v (.int .i64 0),.v (.int .i64 0),.v (.int .i64 0),.v (.int .i64 0)],[(0,1),(1,1),(2,1),(3,1),(4,1)],false,none,none,6,[],false,[]⟩),
 (135,⟨true,5,48,[.str [],.v (.int .i64 0),.v (.int .i64 0),.v (.int .i64 0),.v (.int .i64 0)],[(0,1),(1,1),(2,1),(3,1),(4,1)],false,none,none,6,[9,3,3,3,3],true,[]⟩),
 (136,⟨true,4,40,[.v (.int .i64 0),.v (.int .i64 0),.v (.int .i64 0),.str []],[(0,1),(1,1),(2,1),(3,1)],false,none,none,6,[],false,[]⟩),
 (137,⟨true,4,40,[.v (.int .i64 0),.v (.int .i64 0),.v (.int .i64 0),.str []],[(0,1),(1,1),(2,1),(3,1)],false,none,none,6,[3,3,3,9],true,[]⟩),
 (141,⟨false,1,24,[.v (.slice none 0 0)],[],false,none,(some 174),3,[],false,[]⟩),
 (143,⟨false,1,24,[.v (.slice none 0 0)],[],false,none,(some 146),3,[],false,[]⟩),
 (145,⟨true,4,40,[.str [],.v (.int .i64 0),.v (.int .i64 0),.v (.int .i64 0)],[(0,1),(1,1),(2,1),(3,1)],false,none,none,6,[],false,[]⟩),
 (146,⟨true,4,40,[.str [],.v (.int .i64 0),.v (.int .i64 0),.v (.int .i64 0)],[(0,1),(1,1),(2,1),(3,1)],false,none,none,6,[9,3,3,3],true,[]⟩),
 (150,⟨false,1,8,[.v (.pointer none)],[],false,none,none,8,[],false,[73]⟩),
 (153,⟨false,1,8,[.v (.pointer none)],[],false,none,none,8,[],false,[3]⟩),
 (154,⟨false,1,8,[.v (.pointer none)],[],false,none,none,8,[],false,[156]⟩),
 (155,⟨true,2,32,[.v (.pointer none),.v (.slice none 0 0)],[(0,1),(1,1)],false,none,none,6,[],false,[]⟩),
 (156,⟨true,2,32,[.v (.pointer none),.v (.slice none 0 0)],[(0,1),(1,1)],false,none,none,6,[],false,[]⟩),
 (169,⟨false,1,8,[.v (.int .u64 0)],[],false,(some .u64),none,5,[],false,[]⟩),
 (173,⟨true,4,40,[.v (.int .i64 0),.v (.int .i64 0),.str [],.v (.bool false)],[(0,3),(3,1)],false,none,none,6,[],false,[]⟩),
 (174,⟨true,4,40,[.v (.int .i64 0),.v (.int .i64 0),.str [],.v (.bool false)],[(0,3),(3,1)],false,none,none,6,[31,4],true,[]⟩),
 (175,⟨false,1,24,[.v (.slice none 0 0)],[],false,none,(some 3),3,[],false,[]⟩),
 (180,⟨false,1,8,[.v (.pointer none)],[],false,none,none,0,[],false,[]⟩),
 (181,⟨false,1,8,[.v (.int .u64 0)],[],false,(some .u64),none,5,[],false,[]⟩),
 (182,⟨true,3,24,[.v (.pointer none),.v (.pointer none),.v (.int .u64 0)],[(0,1),(1,1),(2,1)],false,none,none,6,[],false,[]⟩),
 (183,⟨true,3,24,[.v (.pointer none),.v (.pointer none),.v (.int .u64 0)],[(0,1),(1,1),(2,1)],false,none,none,6,[],false,[]⟩),
 (185,⟨false,1,16,[.v .nilIface],[],true,none,none,7,[],false,[]⟩),
 (186,⟨false,1,16,[.v .nilIface],[],true,none,none,7,[],false,[]⟩),
 (188,⟨false,1,1,[.v (.int .u8 0)],[],false,(some .u8),none,5,[],false,[]⟩),
 (202,⟨false,1,8,[.v (.pointer none)],[],false,none,none,8,[],false,[5]⟩),
 (207,⟨true,7,112,[.str [],.str [],.str [],.str [],.str [],.str [],.str []],[],false,none,(some 9),4,[],false,[7]⟩),
 (221,⟨false,1,4,[.v (.int .u32 0)],[],false,(some .u32),none,5,[],false,[]⟩),
 (222,⟨false,1,8,[.v (.int .u64 0)],[],false,(some .u64),none,5,[],false,[]⟩),
 (231,⟨true,1,8,[.v (.pointer none)],[(0,1)],false,none,none,6,[],false,[]⟩),
 (232,⟨true,1,8,[.v (.pointer none)],[(0,1)],false,none,none,6,[],false,[]⟩),
 (233,⟨false,1,8,[.v (.pointer none)],[],false,none,none,8,[],false,[332]⟩),
 (237,⟨false,1,16,[.v .nilIface],[],true,none,none,7,[],false,[]⟩),
 (240,⟨false,1,16,[.v .nilIface],[],true,none,none,7,[],false,[]⟩),
 (242,⟨false,1,16,[.v .nilIface],[],true,none,none,7,[],false,[]⟩),
 (243,⟨false,1,24,[.v (.slice none 0 0)],[],false,none,(some 33),3,[],false,[]⟩),
 (250,⟨true,12,192,[.str [],.str [],.str [],.str [],.str [],.str [],.str [],.str [],.str [],.str [],.str [],.str []],[],false,none,(some 9),4,[],false,[12]⟩),
 (264,⟨true,256,256,List.replicate 256 (.v (.bool false)),[],false,none,(some 4),4,[],false,[256]⟩),
 (265,⟨true,256,256,List.replicate 256 (.v (.bool false)),[],false,none,(some 4),4,[],false,[256]⟩),
 (269,⟨false,1,8,[.v (.pointer none)],[],false,none,none,8,[],false,[265]⟩),
 (279,⟨false,1,8,[.v (.int .i64 0)],[],false,(some .i64),none,5,[],false,[]⟩),
 (282,⟨false,1,8,[.v (.pointer none)],[],false,none,none,8,[],false,[301]⟩),
 (285,⟨true,24,24,[.v (.int .u8 0),.v (.int .u8 0),.v (.int .u8 0),.v (.int .u8 0),.v (.int .u8 0),.v (.int .u8 0),.v (.int .u8 0),.v (.int .u8 0),.v (.int .u8 0),.v (.int .u8 0),.v (.int .u8 0),.v (.int .u8 0),.v (.int .u8 0),.v (.int .u8 0),.v (.int .u8 0),.v (.int .u8 0),.v (.int .u8 0),.v (.int .u8 0),.v (.int .u8 0),.v (.int .u8 0),.v (.int .u8 0),.v (.int .u8 0),.v (.int .u8 0),.v (.int .u8 0)],[],false,none,(some 5),4,[],false,[24]⟩),
 (294,⟨true,2,2,[.v (.int .u8 0),.v (.int .u8 0)],[(0,1),(1,1)],false,none,none,6,[],false,[]⟩),
 (295,⟨true,2,2,[.v (.int .u8 0),.v (.int .u8 0)],[(0,1),(1,1)],false,none,none,6,[],false,[]⟩),
 (296,⟨true,32,32,[.v (.int .u8 0),.v (.int .u8 0),.v (.int .u8 0),.v (.int .u8 0),.v (.int .u8 0),.v (.int .u8 0),.v (.int .u8 0),.v (.int .u8 0),.v (.int .u8 0),.v (.int .u8 0),.v (.int .u8 0),.v (.int .u8 0),.v (.int .u8 0),.v (.int .u8 0),.v (.int .u8 0),.v (.int .u8 0),.v (.int .u8 0),.v (.int .u8 0),.v (.int .u8 0),.v (.int .u8 0),.v (.int .u8 0),.v (.int .u8 0),.v (.int .u8 0),.v (.int .u8 0),.v (.int .u8 0),.v (.int .u8 0),.v (.int .u8 0),.v (.int .u8 0),.v (.int .u8 0),.v (.int .u8 0),.v (.int .u8 0),.v (.int .u8 0)],[],false,none,(some 295),4,[],false,[16]⟩),
 (300,⟨true,3,48,[.str [],.str [],.v .nilIface],[(0,1),(1,1),(2,1)],false,none,none,6,[],false,[]⟩),
 (301,⟨true,3,48,[.str [],.str [],.v .nilIface],[(0,1),(1,1),(2,1)],false,none,none,6,[],false,[]⟩),
 (304,⟨true,20,160,[.v (.int .u64 0),.v (.int .u64 0),.v (.int .u64 0),.v (.int .u64 0),.v (.int .u64 0),.v (.int .u64 0),.v (.int .u64 0),.v (.int .u64 0),.v (.int .u64 0),.v (.int .u64 0),.v (.int .u64 0),.v (.int .u64 0),.v (.int .u64 0),.v (.int .u64 0),.v (.int .u64 0),.v (.int .u64 0),.v (.int .u64 0),.v (.int .u64 0),.v (.int .u64 0),.v (.int .u64 0)],[],false,none,(some 169),4,[],false,[20]⟩),
 (309,⟨false,1,8,[.v (.pointer none)],[],false,none,none,8,[],false,[311]⟩),
 (310,⟨true,1,16,[.str []],[(0,1)],false,none,none,6,[],false,[]⟩),
 (311,⟨true,1,16,[.str []],[(0,1)],false,none,none,6,[],false,[]⟩),
 (313,⟨true,32,32,[.v (.int .u8 0),.v (.int .u8 0),.v (.int .u8 0),.v (.int .u8 0),.v (.int .u8 0),.v (.int .u8 0),.v (.int .u8 0),.v (.int .u8 0),.v (.int .u8 0),.v (.int .u8 0),.v (.int .u8 0),.v (.int .u8 0),.v (.int .u8 0),.v (.int .u8 0),.v (.int .u8 0),.v (.int .u8 0),.v (.int .u8 0),.v (.int .u8 0),.v (.int .u8 0),.v (.int .u8 0),.v (.int .u8 0),.v (.int .u8 0),.v (.int .u8 0),.v (.int .u8 0),.v (.int .u8 0),.v (.int .u8 0),.v (.int .u8 0),.v (.int .u8 0),.v (.int .u8 0),.v (.int .u8 0),.v (.int .u8 0),.v (.int .u8 0)],[],false,none,(some 5),4,[],false,[32]⟩),
 (315,⟨false,1,8,[.v (.pointer none)],[],false,none,none,8,[],false,[334]⟩),
 (316,⟨false,1,8,[.v (.pointer none)],[],false,none,none,8,[],false,[336]⟩),
 (317,⟨true,4,40,[.v (.pointer none),.v (.pointer none),.v (.pointer none),.str []],[(0,1),(1,1),(2,1),(3,1)],false,none,none,6,[],false,[]⟩),
 (318,⟨true,4,40,[.v (.pointer none),.v (.pointer none),.v (.pointer none),.str []],[(0,1),(1,1),(2,1),(3,1)],false,none,none,6,[],false,[]⟩),
 (319,⟨true,0,0,[],[],false,none,(some 16),4,[],false,[0]⟩),
 (320,⟨true,0,0,[],[(0,0)],false,none,none,6,[],false,[]⟩),
 (321,⟨true,0,0,[],[(0,0)],false,none,none,6,[],false,[]⟩),
 (323,⟨false,1,1,[.v (.int .u8 0)],[],false,(some .u8),none,5,[],false,[]⟩),
 (325,⟨false,1,4,[.v (.int .i32 0)],[],false,(some .i32),none,5,[],false,[]⟩),
 (326,⟨false,1,4,[.v (.int .i32 0)],[],false,(some .i32),none,5,[],false,[]⟩),
 (331,⟨true,2,24,[.str [],.v (.int .u8 0)],[(0,1),(1,1)],false,none,none,6,[],false,[]⟩),
 (332,⟨true,2,24,[.str [],.v (.int .u8 0)],[(0,1),(1,1)],false,none,none,6,[],false,[]⟩),
 (333,⟨true,2,32,[.str [],.v .nilIface],[(0,1),(1,1)],false,none,none,6,[],false,[]⟩),
 (334,⟨true,2,32,[.str [],.v .nilIface],[(0,1),(1,1)],false,none,none,6,[],false,[]⟩),
 (335,⟨true,2,40,[.str [],.v (.slice none 0 0)],[(0,1),(1,1)],false,none,none,6,[],false,[]⟩),
 (336,⟨true,2,40,[.str [],.v (.slice none 0 0)],[(0,1),(1,1)],false,none,none,6,[],false,[]⟩),
 (337,⟨false,1,8,[.v (.pointer none)],[],false,none,none,8,[],false,[341]⟩),
 (339,⟨false,1,2,[.v (.int .u16 0)],[],false,(some .u16),none,5,[],false,[]⟩),
 (340,⟨true,5,16,[.v (.int .i32 0),.v (.int .u16 0),.v (.int .u16 0),.v (.int .u32 0),.v (.int .u32 0)],[(0,1),(1,1),(2,1),(3,1),(4,1)],false,none,none,6,[],false,[]⟩),
 (341,⟨true,5,16,[.v (.int .i32 0),.v (.int .u16 0),.v (.int .u16 0),.v (.int .u32 0),.v (.int .u32 0)],[(0,1),(1,1),(2,1),(3,1),(4,1)],false,none,none,6,[],false,[]⟩),
 (342,⟨false,1,24,[.v (.slice none 0 0)],[],false,none,(some 345),3,[],false,[]⟩),
 (343,⟨false,1,4,[.v (.int .i32 0)],[],false,(some .i32),none,5,[],false,[]⟩),
 (344,⟨true,4,16,[.v (.int .i32 0),.v (.int .i32 0),.v (.int .i32 0),.v (.int .i32 0)],[(0,1),(1,1),(2,1),(3,1)],false,none,none,6,[],false,[]⟩),
 (345,⟨true,4,16,[.v (.int .i32 0),.v (.int .i32 0),.v (.int .i32 0),.v (.int .i32 0)],[(0,1),(1,1),(2,1),(3,1)],false,none,none,6,[],false,[]⟩),
 (346,⟨false,1,8,[.v (.pointer none)],[],false,none,none,8,[],false,[33]⟩)]
theorem fits:Fits Tryz.prog tt :=
 FC (
 FC (
 FC (
 FC (
 FC (
 FC (
 FC (
 FC (
 FC (
 FC (
 FC (
 FC (
 FC (
 FC (
 FC (
 FC (
 FC (
 FC (
 FC (
 FC (
 FC (
 FC (
 FC (
 FC (
 FC (
 FC (
 FC (
 FC (
 FC (
 FC (
 FC (
 FC (
 FC (
 FC (
 FC (
 FC (
 FC (
 FC (
 FC (
 FC (
 FC (
 FC (
 FC (
 FC (
 FC (
 FC (
 FC (
 FC (
 FC (
 FC (
 FC (
 FC (
 FC (
 FC (
 FC (
 FC (
 FC (
 FC (
 FC (
 FC (
 FC (
 FC (
 FC (
 FC (
 FC (
 FC (
 FC (
 FC (
 FC (
 FC (
 FC (
 FC (
 FC (
 FC (
 FC (
 FC (
 FC (
 FC (
 FC (
 FC (
 FC (
 FC (
 FC (
 FC (
 FC (
 FC (
 FC (
 FC (
 FC (
 FC (
 FC (
 FC (
 FC (
 FC (
 FC (
 FC (
 FC (
 FC (
 FC (
 FC (
 FC (
 FC (
 FC (
 FC (
 FC (
 FC (
 FC (
 FC (
 FC (
 FC (
 FC (
 FC (
 FC (
 FC (
 FC (
 FC (
 FC (
 FC (
 FC (
 FC (
 FC (
 FC (
 FC (
 FC (
 FC (
 FC (
 FC (
 FC (
 FC (
 FC (
 FC (
 FC (
 FC (
 FC (
 fits_nil))))))))))))))))))))))))))))))))))))))))))))))))))))))))))))))))))))))))))))))))))))))))))))))))))))))))))))))))))))))))))))))))))))))
theorem mixed:Tryz.prog.follows .mixedOrders=true:=by kernel_rfl
theorem S0 {gl:List (Nat×List D)} {f:Go.FuncId} {fn:Go.Func} {c:Go.Code} {ds:List D} {r:D} (hf:Tryz.prog.funcs[f]?=some fn) (hb:fn.body=some c) (h:vsK ds fun vs=>vcCode Tryz.prog gl tt [] fn.ntmps 9999 [] c (argFr 0 vs) [] 0 (endP tt fn.results.toList r)) (hB:HasBody Tryz.prog f:=by unfold HasBody;kernel_rfl) (hN:Nat.ble ds.length fn.ntmps=true:=by rfl):FnP Tryz.prog gl f ds r:=fnP_of_vc fits mixed hf hb hB hN h
theorem S1 {gl:List (Nat×List D)} {f:Go.FuncId} {fn:Go.Func} {c:Go.Code} {vs:List V} {H:List (Nat×Blk)} {h:Nat} {r:Ret} {H':List (Nat×Blk)} {n':Nat} {mv:List Nat} (hf:Tryz.prog.funcs[f]?=some fn) (hb:fn.body=some c) (hv:vcCode Tryz.prog gl tt (fxOf mv h) fn.ntmps 9999 [] c (argFr 0 vs) H h (endF (fxOf mv h) fn.results.toList tt r H' n')) (hB:HasBody Tryz.prog f:=by unfold HasBody;kernel_rfl) (hN:Nat.ble vs.length fn.ntmps=true:=by rfl) (hh:Nat.ble h n'=true:=by rfl) (hk:keysIn h H H'=true:=by rfl) (hmv:allIn H mv=true:=by rfl):Go.EYtfkjhfdpphfjhaaGreatDoor.Fn Tryz.prog gl f vs H h r H' n' mv:=fn_of_vc fits mixed hf hb hB hN hh hk hmv hv
end Go.Proofs.YtfkjhfdpphfjhaaGreatDoor
