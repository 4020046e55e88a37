/- Proved: a part of what the law is proved with (the reckoner, contracts of functions, plain laws). Conditions: as each says. -/
import Derived.Test.YtfcmhmglpcimiaaGreatDoorProg
import Derived.Test.YtfcmhmglpcimiaaGreatDoorKFo
namespace Go.Proofs.YtfcmhmglpcimiaaGreatDoor
open Go.EYtfcmhmglpcimiaaGreatDoor
theorem FC {P:Go.Program} {t:Nat} {x:TI} {r:List (Nat×TI)} (hr:Fits P r) (a:(P.info? t).map (fun i=>(i.size,i.bytes,i.zero.map (fun z=>z.cells.toList)))=some (x.size,x.bytes,some (x.zero.map undD)):=by kernel_rfl) (b:x.zero.all scaD=true:=by first|rfl|kernel_rfl) (c:x.zero.length=x.size:=by first|rfl|kernel_rfl)
 (d:(P.underlying t).map (fun d=>(aggOf d,fldsOf P d,ifaceOf d,ikOf d,elOf d,kdOf d))=some (x.agg,some x.flds,x.iface,x.ik,x.el,x.kd):=by kernel_rfl) (e:x.eqok=true→(P.underlying t).bind ftsOf=some x.fts∧x.fts.length=x.flds.length∧P.stoodInHeld t=false∧P.eqGuardType P.depth t=false∧x.agg=true:=by first|(intro h;cases h;done)|exact fun _=>⟨by kernel_rfl,rfl,by kernel_rfl,by kernel_rfl,rfl⟩)
 (f:(P.underlying t).map subOf=some x.sub:=by kernel_rfl):Fits P ((t,x)::r):=fits_cons ⟨a,b,c,d,e,f⟩ hr
set_option maxRecDepth 100000
def tt:List (Nat×TI):=[
 (2,⟨false,1,8,[.v (.int .i64 0)],[],false,(some .i64),none,5,[],false,[]⟩),
 (3,⟨false,1,8,[.v (.int .i64 0)],[],false,(some .i64),none,5,[],false,[]⟩),
 (4,⟨false,1,1,[.v (.bool false)],[],false,none,none,1,[],false,[]⟩),
 (5,⟨false,1,1,[.v (.int .u8 0)],[],false,(some .u8),none,5,[],false,[]⟩),
 (6,⟨false,1,1,[.v (.int .u8 0)],[],false,(some .u8),none,5,[],false,[]⟩),
 (7,⟨true,4,24,[.v (.int .i64 0),.v (.int .i64 0),.v (.bool false),.v (.int .u8 0)],[(0,1),(1,1),(2,1),(3,1)],false,none,none,6,[],false,[]⟩),
 (8,⟨true,4,24,[.v (.int .i64 0),.v (.int .i64 0),.v (.bool false),.v (.int .u8 0)],[(0,1),(1,1),(2,1),(3,1)],false,none,none,6,[],false,[]⟩),
 (9,⟨false,1,16,[.str []],[],false,none,none,2,[],false,[]⟩),
 (10,⟨false,1,16,[.str []],[],false,none,none,2,[],false,[]⟩),
 (11,⟨false,1,16,[.str []],[],false,none,none,2,[],false,[]⟩),
 (12,⟨false,1,8,[.v (.int .u64 0)],[],false,(some .u64),none,5,[],false,[]⟩),
 (13,⟨true,2,24,[.str [],.v (.int .u64 0)],[(0,1),(1,1)],false,none,none,6,[],false,[]⟩),
 (14,⟨true,2,24,[.str [],.v (.int .u64 0)],[(0,1),(1,1)],false,none,none,6,[],false,[]⟩),
 (15,⟨false,1,8,[.v (.pointer none)],[],false,none,none,8,[],false,[282]⟩),
 (16,⟨false,1,8,[.v (.pointer none)],[],false,none,none,8,[],false,[285]⟩),
 (17,⟨false,1,8,[.v (.pointer none)],[],false,none,none,8,[],false,[293]⟩),
 (18,⟨true,1,8,[.v (.pointer none)],[(0,1)],false,none,none,6,[],false,[]⟩),
 (19,⟨true,1,8,[.v (.pointer none)],[(0,1)],false,none,none,6,[],false,[]⟩),
 (20,⟨false,1,16,[.v .nilIface],[],true,none,none,7,[],false,[]⟩),
 (21,⟨false,1,4,[.v (.int .i32 0)],[],false,(some .i32),none,5,[],false,[]⟩),
 (22,⟨false,1,24,[.v (.slice none 0 0)],[],false,none,(some 41),3,[],false,[]⟩),
 (24,⟨false,1,16,[.v .nilIface],[],true,none,none,7,[],false,[]⟩),
 (25,⟨false,1,16,[.v .nilIface],[],true,none,none,7,[],false,[]⟩),
 (28,⟨false,1,24,[.v (.slice none 0 0)],[],false,none,(some 42),3,[],false,[]⟩),
 (29,⟨false,1,8,[.v (.pointer none)],[],false,none,none,8,[],false,[37]⟩),
 (31,⟨false,1,24,[.v (.slice none 0 0)],[],false,none,(some 39),3,[],false,[]⟩),
 (32,⟨false,1,24,[.v (.slice none 0 0)],[],false,none,(some 64),3,[],false,[]⟩),
 (33,⟨false,1,24,[.v (.slice none 0 0)],[],false,none,(some 4),3,[],false,[]⟩),
 (34,⟨false,1,24,[.v (.slice none 0 0)],[],false,none,(some 31),3,[],false,[]⟩),
 (35,⟨false,1,24,[.v (.slice none 0 0)],[],false,none,(some 33),3,[],false,[]⟩),
 (36,⟨true,5,120,[.v (.slice none 0 0),.v (.slice none 0 0),.v (.slice none 0 0),.v (.slice none 0 0),.v (.slice none 0 0)],[(0,1),(1,1),(2,1),(3,1),(4,1)],false,none,none,6,[],false,[]⟩),
 (37,⟨true,5,120,[.v (.slice none 0 0),.v (.slice none 0 0),.v (.slice none 0 0),.v (.slice none 0 0),.v (.slice none 0 0)],[(0,1),(1,1),(2,1),(3,1),(4,1)],false,none,none,6,[],false,[]⟩),
 (38,⟨true,2,16,[.v (.int .i64 0),.v (.int .i64 0)],[(0,1),(1,1)],false,none,none,6,[],false,[]⟩),
 (39,⟨true,2,16,[.v (.int .i64 0),.v (.int .i64 0)],[(0,1),(1,1)],false,none,none,6,[3,3],true,[]⟩),
 (40,⟨true,3,32,[.v (.int .i64 0),.v (.int .i64 0),.str []],[(0,2),(2,1)],false,none,none,6,[],false,[]⟩),
 (41,⟨true,3,32,[.v (.int .i64 0),.v (.int .i64 0),.str []],[(0,2),(2,1)],false,none,none,6,[39,9],true,[]⟩),
 (42,⟨true,4,32,[.v (.int .i64 0),.v (.int .i64 0),.v (.int .i64 0),.v (.int .i64 0)],[],false,none,(some 39),4,[],false,[2]⟩),
 (48,⟨false,1,24,[.v (.slice none 0 0)],[],false,none,(some 3),3,[],false,[]⟩),
 (57,⟨false,1,8,[.v (.int .i64 0)],[],false,(some .i64),none,5,[],false,[]⟩),
 (61,⟨true,4,24,[.v (.int .i64 0),.v (.int .i64 0),.v (.bool false),.v (.bool false)],[(0,2),(2,1),(3,1)],false,none,none,6,[],false,[]⟩),
 (62,⟨true,4,24,[.v (.int .i64 0),.v (.int .i64 0),.v (.bool false),.v (.bool false)],[(0,2),(2,1),(3,1)],false,none,none,6,[39,4,4],true,[]⟩),
 (63,⟨true,12,104,[.v (.int .i64 0),.v (.int .i64 0),.str [],.v (.int .i64 0),.v (.int .i64 0),.v (.bool false),.v (.bool false),.v (.int .i64 0),.v (.int .i64 0),.v (.bool false),.v (.bool false),.v (.slice none 0 0)],[(0,1),(1,1),(2,1),(3,4),(7,4),(11,1)],false,none,none,6,[],false,[]⟩),
 (64,⟨true,12,104,[.v (.int .i64 0),.v (.int .i64 0),.str [],.v (.int .i64 0),.v (.int .i64 0),.v (.bool false),.v (.bool false),.v (.int .i64 0),.v (.int .i64 0),.v (.bool false),.v (.bool false),.v (.slice none 0 0)],[(0,1),(1,1),(2,1),(3,4),(7,4),(11,1)],false,none,none,6,[],false,[]⟩),
 (69,⟨false,1,8,[.v (.pointer none)],[],false,none,none,8,[],false,[77]⟩),
 (72,⟨false,1,8,[.v (.map none)],[],false,none,none,9,[],false,[39,9]⟩),
 (73,⟨false,1,8,[.v (.map none)],[],false,none,none,9,[],false,[39,64]⟩),
 (74,⟨false,1,8,[.v (.map none)],[],false,none,none,9,[],false,[39,31]⟩),
 (75,⟨false,1,8,[.v (.map none)],[],false,none,none,9,[],false,[39,3]⟩),
 (76,⟨true,6,80,[.v (.slice none 0 0),.v (.map none),.v (.map none),.v (.map none),.v (.slice none 0 0),.v (.map none)],[(0,1),(1,1),(2,1),(3,1),(4,1),(5,1)],false,none,none,6,[],false,[]⟩),
 (77,⟨true,6,80,[.v (.slice none 0 0),.v (.map none),.v (.map none),.v (.map none),.v (.slice none 0 0),.v (.map none)],[(0,1),(1,1),(2,1),(3,1),(4,1),(5,1)],false,none,none,6,[],false,[]⟩),
 (81,⟨false,1,8,[.v (.map none)],[],false,none,none,9,[],false,[39,4]⟩),
 (87,⟨false,1,8,[.v (.pointer none)],[],false,none,none,8,[],false,[57]⟩),
 (88,⟨false,1,8,[.v (.pointer none)],[],false,none,none,8,[],false,[90]⟩),
 (89,⟨true,5,48,[.str [],.v (.int .i64 0),.v (.int .i64 0),.v (.int .i64 0),.v (.int .i64 0)],[(0,1),(1,1),(2,1),(3,1),(4,1)],false,none,none,6,[],false,[]⟩),
 (90,⟨true,5,48,[.str [],.v (.int .i64 0),.v (.int .i64 0),.v (.int .i64 0),.v (.int .i64 0)],[(0,1),(1,1),(2,1),(3,1),(4,1)],false,none,none,6,[9,3,3,3,3],true,[]⟩),
 (92,⟨true,4,40,[.v (.int .i64 0),.v (.int .i64 0),.v (.int .i64 0),.str []],[(0,1),(1,1),(2,1),(3,1)],false,none,none,6,[],false,[]⟩),
 (93,⟨true,4,40,[.v (.int .i64 0),.v (.int .i64 0),.v (.int .i64 0),.str []],[(0,1),(1,1),(2,1),(3,1)],false,none,none,6,[3,3,3,9],true,[]⟩),
 (96,⟨true,2700,2700,List.replicate 2700 (.v (.bool false)),[],false,none,(some 4),4,[],false,[2700]⟩),
 (98,⟨false,1,8,[.v (.pointer none)],[],false,none,none,8,[],false,[96]⟩),
 (101,⟨true,2,24,[.v (.int .i64 0),.v .nilIface],[(0,1),(1,1)],false,none,none,6,[],false,[]⟩),
 (102,⟨true,2,24,[.v (.int .i64 0),.v .nilIface],[(0,1),(1,1)],false,none,none,6,[],false,[]⟩),
 (104,⟨false,1,8,[.v (.pointer none)],[],false,none,none,8,[],false,[106]⟩),
 (105,⟨true,3,32,[.str [],.v (.int .i64 0),.v (.int .i64 0)],[(0,1),(1,1),(2,1)],false,none,none,6,[],false,[]⟩),
 (106,⟨true,3,32,[.str [],.v (.int .i64 0),.v (.int .i64 0)],[(0,1),(1,1),(2,1)],false,none,none,6,[9,3,3],true,[]⟩),
 (108,⟨false,1,8,[.v (.pointer none)],[],false,none,none,0,[],false,[]⟩),
 (109,⟨false,1,8,[.v (.int .u64 0)],[],false,(some .u64),none,5,[],false,[]⟩),
 (110,⟨true,3,24,[.v (.pointer none),.v (.pointer none),.v (.int .u64 0)],[(0,1),(1,1),(2,1)],false,none,none,6,[],false,[]⟩),
 (111,⟨true,3,24,[.v (.pointer none),.v (.pointer none),.v (.int .u64 0)],[(0,1),(1,1),(2,1)],false,none,none,6,[],false,[]⟩),
 (113,⟨false,1,16,[.v .nilIface],[],true,none,none,7,[],false,[]⟩),
 (114,⟨false,1,16,[.v .nilIface],[],true,none,none,7,[],false,[]⟩),
 (116,⟨false,1,1,[.v (.int .u8 0)],[],false,(some .u8),none,5,[],false,[]⟩),
 (124,⟨false,1,24,[.v (.slice none 0 0)],[],false,none,(some 5),3,[],false,[]⟩),
 (125,⟨false,1,24,[.v (.slice none 0 0)],[],false,none,(some 9),3,[],false,[]⟩),
 (128,⟨true,4,32,[.v (.int .i64 0),.v (.int .i64 0),.v (.int .i64 0),.v (.int .i64 0)],[(0,2),(2,2)],false,none,none,6,[],false,[]⟩),
 (129,⟨true,4,32,[.v (.int .i64 0),.v (.int .i64 0),.v (.int .i64 0),.v (.int .i64 0)],[(0,2),(2,2)],false,none,none,6,[39,39],true,[]⟩),
 (137,⟨true,3,24,[.v (.int .i64 0),.v (.int .i64 0),.v (.int .i64 0)],[(0,2),(2,1)],false,none,none,6,[],false,[]⟩),
 (138,⟨true,3,24,[.v (.int .i64 0),.v (.int .i64 0),.v (.int .i64 0)],[(0,2),(2,1)],false,none,none,6,[39,3],true,[]⟩),
 (140,⟨false,1,24,[.v (.slice none 0 0)],[],false,none,(some 138),3,[],false,[]⟩),
 (141,⟨false,1,8,[.v (.pointer none)],[],false,none,none,8,[],false,[138]⟩),
 (146,⟨true,4,96,[.v (.slice none 0 0),.v (.slice none 0 0),.v (.slice none 0 0),.v (.slice none 0 0)],[],false,none,(some 125),4,[],false,[4]⟩),
 (147,⟨true,1,8,[.v (.pointer none)],[(0,1)],false,none,none,6,[],false,[]⟩),
 (148,⟨true,1,8,[.v (.pointer none)],[(0,1)],false,none,none,6,[],false,[]⟩),
 (149,⟨false,1,8,[.v (.pointer none)],[],false,none,none,8,[],false,[297]⟩),
 (153,⟨false,1,16,[.v .nilIface],[],true,none,none,7,[],false,[]⟩),
 (156,⟨false,1,16,[.v .nilIface],[],true,none,none,7,[],false,[]⟩),
 (158,⟨false,1,16,[.v .nilIface],[],true,none,none,7,[],false,[]⟩),
 (159,⟨false,1,24,[.v (.slice none 0 0)],[],false,none,(some 25),3,[],false,[]⟩),
 (165,⟨true,3,32,[.v (.int .i64 0),.v (.int .i64 0),.str []],[(0,1),(1,1),(2,1)],false,none,none,6,[],false,[]⟩),
 (166,⟨true,3,32,[.v (.int .i64 0),.v (.int .i64 0),.str []],[(0,1),(1,1),(2,1)],false,none,none,6,[3,3,9],true,[]⟩),
 (172,⟨false,1,8,[.v (.int .u64 0)],[],false,(some .u64),none,5,[],false,[]⟩),
 (175,⟨false,1,8,[.v (.pointer none)],[],false,none,none,8,[],false,[178]⟩),
 (176,⟨false,1,24,[.v (.slice none 0 0)],[],false,none,(some 194),3,[],false,[]⟩),
 (177,⟨true,2,32,[.v (.bool false),.v (.slice none 0 0)],[(0,1),(1,1)],false,none,none,6,[],false,[]⟩),
 (178,⟨true,2,32,[.v (.bool false),.v (.slice none 0 0)],[(0,1),(1,1)],false,none,none,6,[],false,[]⟩),
 (187,⟨false,1,8,[.v (.int .i64 0)],[],false,(some .i64),none,5,[],false,[]⟩),
 (194,⟨false,1,4,[.v (.int .u32 0)],[],false,(some .u32),none,5,[],false,[]⟩),
 (196,⟨false,1,8,[.v (.int .u64 0)],[],false,(some .u64),none,5,[],false,[]⟩),
 (212,⟨false,1,8,[.v (.int .u64 0)],[],false,(some .u64),none,5,[],false,[]⟩),
 (215,⟨false,1,8,[.v (.pointer none)],[],false,none,none,8,[],false,[3]⟩),
 (219,⟨true,7,112,[.str [],.str [],.str [],.str [],.str [],.str [],.str []],[],false,none,(some 9),4,[],false,[7]⟩),
 (228,⟨false,1,8,[.v (.pointer none)],[],false,none,none,8,[],false,[212]⟩),
 (233,⟨true,256,256,List.replicate 256 (.v (.bool false)),[],false,none,(some 4),4,[],false,[256]⟩),
 (234,⟨true,256,256,List.replicate 256 (.v (.bool false)),[],false,none,(some 4),4,[],false,[256]⟩),
 (238,⟨false,1,8,[.v (.pointer none)],[],false,none,none,8,[],false,[234]⟩),
 (247,⟨false,1,8,[.v (.int .i64 0)],[],false,(some .i64),none,5,[],false,[]⟩),
 (250,⟨false,1,8,[.v (.pointer none)],[],false,none,none,8,[],false,[264]⟩),
 (254,⟨true,2,2,[.v (.int .u8 0),.v (.int .u8 0)],[(0,1),(1,1)],false,none,none,6,[],false,[]⟩),
 (255,⟨true,2,2,[.v (.int .u8 0),.v (.int .u8 0)],[(0,1),(1,1)],false,none,none,6,[],false,[]⟩),
 (256,⟨true,32,32,[.v (.int .u8 0),.v (.int .u8 0),.v (.int .u8 0),.v (.int .u8 0),.v (.int .u8 0),.v (.int .u8 0),.v (.int .u8 0),.v (.int .u8 0),.v (.int .u8 0),.v (.int .u8 0),.v (.int .u8 0),.v (.int .u8 0),.v (.int .u8 0),.v (.int .u8 0),.v (.int .u8 0),.v (.int .u8 0),.v (.int .u8 0),.v (.int .u8 0),.v (.int .u8 0),.v (.int .u8 0),.v (.int .u8 0),.v (.int .u8 0),.v (.int .u8 0),.v (.int .u8 0),.v (.int .u8 0),.v (.int .u8 0),.v (.int .u8 0),.v (.int .u8 0),.v (.int .u8 0),.v (.int .u8 0),.v (.int .u8 0),.v (.int .u8 0)],[],false,none,(some 255),4,[],false,[16]⟩),
 (263,⟨true,3,48,[.str [],.str [],.v .nilIface],[(0,1),(1,1),(2,1)],false,none,none,6,[],false,[]⟩),
 (264,⟨true,3,48,[.str [],.str [],.v .nilIface],[(0,1),(1,1),(2,1)],false,none,none,6,[],false,[]⟩),
 (267,⟨false,1,8,[.v (.pointer none)],[],false,none,none,8,[],false,[5]⟩),
 (268,⟨false,1,8,[.v (.pointer none)],[],false,none,none,8,[],false,[270]⟩),
 (269,⟨true,1,16,[.str []],[(0,1)],false,none,none,6,[],false,[]⟩),
 (270,⟨true,1,16,[.str []],[(0,1)],false,none,none,6,[],false,[]⟩),
 (272,⟨true,24,24,[.v (.int .u8 0),.v (.int .u8 0),.v (.int .u8 0),.v (.int .u8 0),.v (.int .u8 0),.v (.int .u8 0),.v (.int .u8 0),.v (.int .u8 0),.v (.int .u8 0),.v (.int .u8 0),.v (.int .u8 0),.v (.int .u8 0),.v (.int .u8 0),.v (.int .u8 0),.v (.int .u8 0),.v (.int .u8 0),.v (.int .u8 0),.v (.int .u8 0),.v (.int .u8 0),.v (.int .u8 0),.v (.int .u8 0),.v (.int .u8 0),.v (.int .u8 0),.v (.int .u8 0)],[],false,none,(some 5),4,[],false,[24]⟩),
 (277,⟨true,20,160,[.v (.int .u64 0),.v (.int .u64 0),.v (.int .u64 0),.v (.int .u64 0),.v (.int .u64 0),.v (.int .u64 0),.v (.int .u64 0),.v (.int .u64 0),.v (.int .u64 0),.v (.int .u64 0),.v (.int .u64 0),.v (.int .u64 0),.v (.int .u64 0),.v (.int .u64 0),.v (.int .u64 0),.v (.int .u64 0),.v (.int .u64 0),.v (.int .u64 0),.v (.int .u64 0),.v (.int .u64 0)],[],false,none,(some 196),4,[],false,[20]⟩),
 (279,⟨true,32,32,[.v (.int .u8 0),.v (.int .u8 0),.v (.int .u8 0),.v (.int .u8 0),.v (.int .u8 0),.v (.int .u8 0),.v (.int .u8 0),.v (.int .u8 0),.v (.int .u8 0),.v (.int .u8 0),.v (.int .u8 0),.v (.int .u8 0),.v (.int .u8 0),.v (.int .u8 0),.v (.int .u8 0),.v (.int .u8 0),.v (.int .u8 0),.v (.int .u8 0),.v (.int .u8 0),.v (.int .u8 0),.v (.int .u8 0),.v (.int .u8 0),.v (.int .u8 0),.v (.int .u8 0),.v (.int .u8 0),.v (.int .u8 0),.v (.int .u8 0),.v (.int .u8 0),.v (.int .u8 0),.v (.int .u8 0),.v (.int .u8 0),.v (.int .u8 0)],[],false,none,(some 5),4,[],false,[32]⟩),
 (281,⟨true,4,40,[.v (.pointer none),.v (.pointer none),.v (.pointer none),.str []],[(0,1),(1,1),(2,1),(3,1)],false,none,none,6,[],false,[]⟩),
 (282,⟨true,4,40,[.v (.pointer none),.v (.pointer none),.v (.pointer none),.str []],[(0,1),(1,1),(2,1),(3,1)],false,none,none,6,[],false,[]⟩),
 (283,⟨true,0,0,[],[],false,none,(some 16),4,[],false,[0]⟩),
 (284,⟨true,0,0,[],[(0,0)],false,none,none,6,[],false,[]⟩),
 (285,⟨true,0,0,[],[(0,0)],false,none,none,6,[],false,[]⟩),
 (288,⟨false,1,1,[.v (.int .u8 0)],[],false,(some .u8),none,5,[],false,[]⟩),
 (290,⟨false,1,4,[.v (.int .i32 0)],[],false,(some .i32),none,5,[],false,[]⟩),
 (291,⟨false,1,4,[.v (.int .i32 0)],[],false,(some .i32),none,5,[],false,[]⟩),
 (296,⟨true,2,24,[.str [],.v (.int .u8 0)],[(0,1),(1,1)],false,none,none,6,[],false,[]⟩),
 (297,⟨true,2,24,[.str [],.v (.int .u8 0)],[(0,1),(1,1)],false,none,none,6,[],false,[]⟩),
 (298,⟨false,1,8,[.v (.pointer none)],[],false,none,none,8,[],false,[302]⟩),
 (300,⟨false,1,2,[.v (.int .u16 0)],[],false,(some .u16),none,5,[],false,[]⟩),
 (301,⟨true,5,16,[.v (.int .i32 0),.v (.int .u16 0),.v (.int .u16 0),.v (.int .u32 0),.v (.int .u32 0)],[(0,1),(1,1),(2,1),(3,1),(4,1)],false,none,none,6,[],false,[]⟩),
 (302,⟨true,5,16,[.v (.int .i32 0),.v (.int .u16 0),.v (.int .u16 0),.v (.int .u32 0),.v (.int .u32 0)],[(0,1),(1,1),(2,1),(3,1),(4,1)],false,none,none,6,[],false,[]⟩),
 (303,⟨false,1,24,[.v (.slice none 0 0)],[],false,none,(some 306),3,[],false,[]⟩),
 (304,⟨false,1,4,[.v (.int .i32 0)],[],false,(some .i32),none,5,[],false,[]⟩),
 (305,⟨true,4,16,[.v (.int .i32 0),.v (.int .i32 0),.v (.int .i32 0),.v (.int .i32 0)],[(0,1),(1,1),(2,1),(3,1)],false,none,none,6,[],false,[]⟩),
 (306,⟨true,4,16,[.v (.int .i32 0),.v (.int .i32 0),.v (.int .i32 0),.v (.int .i32 0)],[(0,1),(1,1),(2,1),(3,1)],false,none,none,6,[],false,[]⟩),
 (307,⟨false,1,8,[.v (.pointer none)],[],false,none,none,8,[],false,[25]⟩)]
theorem fits:Fits Tryz.prog tt :=
 FC (
 FC (
 FC (
 FC (
 FC (
 FC (
 FC (
 FC (
 FC (
 FC (
 FC (
 FC (
 FC (
 FC (
 FC (
 FC (
 FC (
 FC (
 FC (
 FC (
 FC (
 FC (
 FC (
 FC (
 FC (
 FC (
 FC (
 FC (
 FC (
 FC (
 FC (
 FC (
 FC (
 FC (
 FC (
 FC (
 FC (
 FC (
 FC (
 FC (
 FC (
 FC (
 FC (
 FC (
 FC (
 FC (
 FC (
 FC (
 FC (
 FC (
 FC (
 FC (
 FC (
 FC (
 FC (
 FC (
 FC (
 FC (
 FC (
 FC (
 FC (
 FC (
 FC (
 FC (
 FC (
 FC (
 FC (
 FC (
 FC (
 FC (
 FC (
 FC (
 FC (
 FC (
 FC (
 FC (
 FC (
 FC (
 FC (
 FC (
 FC (
 FC (
 FC (
 FC (
 FC (
 FC (
 FC (
 FC (
 FC (
 FC (
 FC (
 FC (
 FC (
 FC (
 FC (
 FC (
 FC (
 FC (
 FC (
 FC (
 FC (
 FC (
 FC (
 FC (
 FC (
 FC (
 FC (
 FC (
 FC (
 FC (
 FC (
 FC (
 FC (
 FC (
 FC (
 FC (
 FC (
 FC (
 FC (
 FC (
 FC (
 FC (
 FC (
 FC (
 FC (
 FC (
 FC (
 FC (
 FC (
 FC (
 FC (
 FC (
 FC (
 FC (
 FC (
 FC (
 FC (
 fits_nil)))))))))))))))))))))))))))))))))))))))))))))))))))))))))))))))))))))))))))))))))))))))))))))))))))))))))))))))))))))))))))))))))))))))))
theorem mixed:Tryz.prog.follows .mixedOrders=true:=by kernel_rfl
theorem S0 {gl:List (Nat×List D)} {f:Go.FuncId} {fn:Go.Func} {c:Go.Code} {ds:List D} {r:D} (hf:Tryz.prog.funcs[f]?=some fn) (hb:fn.body=some c) (h:vsK ds fun vs=>vcCode Tryz.prog gl tt [] fn.ntmps 9999 [] c (argFr 0 vs) [] 0 (endP tt fn.results.toList r)) (hB:HasBody Tryz.prog f:=by unfold HasBody;kernel_rfl) (hN:Nat.ble ds.length fn.ntmps=true:=by rfl):FnP Tryz.prog gl f ds r:=fnP_of_vc fits mixed hf hb hB hN h
theorem S1 {gl:List (Nat×List D)} {f:Go.FuncId} {fn:Go.Func} {c:Go.Code} {vs:List V} {H:List (Nat×Blk)} {h:Nat} {r:Ret} {H':List (Nat×Blk)} {n':Nat} {mv:List Nat} (hf:Tryz.prog.funcs[f]?=some fn) (hb:fn.body=some c) (hv:vcCode Tryz.prog gl tt (fxOf mv h) fn.ntmps 9999 [] c (argFr 0 vs) H h (endF (fxOf mv h) fn.results.toList tt r H' n')) (hB:HasBody Tryz.prog f:=by unfold HasBody;kernel_rfl) (hN:Nat.ble vs.length fn.ntmps=true:=by rfl) (hh:Nat.ble h n'=true:=by rfl) (hk:keysIn h H H'=true:=by rfl) (hmv:allIn H mv=true:=by rfl):Go.EYtfcmhmglpcimiaaGreatDoor.Fn Tryz.prog gl f vs H h r H' n' mv:=fn_of_vc fits mixed hf hb hB hN hh hk hmv hv
end Go.Proofs.YtfcmhmglpcimiaaGreatDoor
