/- Proved: what the types of this translation are, as the reckoner wants it; that it is of mixed orders. No condition. -/
import Derived.Test.YtbkhfmgdnnaaoaaDoorProg
import Derived.Test.YtbkhfmgdnnaaoaaDoorEp
namespace Go.Proofs.YtbkhfmgdnnaaoaaDoor
open Go.EYtbkhfmgdnnaaoaaDoor
theorem fit2 : FitsOne Tryd.prog 2 ⟨false, 1, 8, [.v (.int .i64 0)], [], false, (some .i64), none, 5, [], false, []⟩ := ⟨by kernel_rfl, rfl, rfl, by kernel_rfl, (fun h => by cases h), by kernel_rfl⟩
theorem fit3 : FitsOne Tryd.prog 3 ⟨false, 1, 8, [.v (.int .i64 0)], [], false, (some .i64), none, 5, [], false, []⟩ := ⟨by kernel_rfl, rfl, rfl, by kernel_rfl, (fun h => by cases h), by kernel_rfl⟩
theorem fit4 : FitsOne Tryd.prog 4 ⟨false, 1, 1, [.v (.bool false)], [], false, none, none, 1, [], false, []⟩ := ⟨by kernel_rfl, rfl, rfl, by kernel_rfl, (fun h => by cases h), by kernel_rfl⟩
theorem fit5 : FitsOne Tryd.prog 5 ⟨false, 1, 1, [.v (.int .u8 0)], [], false, (some .u8), none, 5, [], false, []⟩ := ⟨by kernel_rfl, rfl, rfl, by kernel_rfl, (fun h => by cases h), by kernel_rfl⟩
theorem fit6 : FitsOne Tryd.prog 6 ⟨false, 1, 1, [.v (.int .u8 0)], [], false, (some .u8), none, 5, [], false, []⟩ := ⟨by kernel_rfl, rfl, rfl, by kernel_rfl, (fun h => by cases h), by kernel_rfl⟩
theorem fit7 : FitsOne Tryd.prog 7 ⟨true, 4, 24, [.v (.int .i64 0), .v (.int .i64 0), .v (.bool false), .v (.int .u8 0)], [(0, 1), (1, 1), (2, 1), (3, 1)], false, none, none, 6, [], false, []⟩ := ⟨by kernel_rfl, rfl, rfl, by kernel_rfl, (fun h => by cases h), by kernel_rfl⟩
theorem fit8 : FitsOne Tryd.prog 8 ⟨true, 4, 24, [.v (.int .i64 0), .v (.int .i64 0), .v (.bool false), .v (.int .u8 0)], [(0, 1), (1, 1), (2, 1), (3, 1)], false, none, none, 6, [], false, []⟩ := ⟨by kernel_rfl, rfl, rfl, by kernel_rfl, (fun h => by cases h), by kernel_rfl⟩
theorem fit9 : FitsOne Tryd.prog 9 ⟨false, 1, 16, [.str []], [], false, none, none, 2, [], false, []⟩ := ⟨by kernel_rfl, rfl, rfl, by kernel_rfl, (fun h => by cases h), by kernel_rfl⟩
theorem fit10 : FitsOne Tryd.prog 10 ⟨false, 1, 16, [.str []], [], false, none, none, 2, [], false, []⟩ := ⟨by kernel_rfl, rfl, rfl, by kernel_rfl, (fun h => by cases h), by kernel_rfl⟩
theorem fit11 : FitsOne Tryd.prog 11 ⟨false, 1, 16, [.str []], [], false, none, none, 2, [], false, []⟩ := ⟨by kernel_rfl, rfl, rfl, by kernel_rfl, (fun h => by cases h), by kernel_rfl⟩
theorem fit12 : FitsOne Tryd.prog 12 ⟨false, 1, 8, [.v (.int .u64 0)], [], false, (some .u64), none, 5, [], false, []⟩ := ⟨by kernel_rfl, rfl, rfl, by kernel_rfl, (fun h => by cases h), by kernel_rfl⟩
theorem fit13 : FitsOne Tryd.prog 13 ⟨true, 2, 24, [.str [], .v (.int .u64 0)], [(0, 1), (1, 1)], false, none, none, 6, [], false, []⟩ := ⟨by kernel_rfl, rfl, rfl, by kernel_rfl, (fun h => by cases h), by kernel_rfl⟩
theorem fit14 : FitsOne Tryd.prog 14 ⟨true, 2, 24, [.str [], .v (.int .u64 0)], [(0, 1), (1, 1)], false, none, none, 6, [], false, []⟩ := ⟨by kernel_rfl, rfl, rfl, by kernel_rfl, (fun h => by cases h), by kernel_rfl⟩
theorem fit15 : FitsOne Tryd.prog 15 ⟨false, 1, 8, [.v (.pointer none)], [], false, none, none, 8, [], false, [205]⟩ := ⟨by kernel_rfl, rfl, rfl, by kernel_rfl, (fun h => by cases h), by kernel_rfl⟩
theorem fit16 : FitsOne Tryd.prog 16 ⟨false, 1, 8, [.v (.pointer none)], [], false, none, none, 8, [], false, [208]⟩ := ⟨by kernel_rfl, rfl, rfl, by kernel_rfl, (fun h => by cases h), by kernel_rfl⟩
theorem fit17 : FitsOne Tryd.prog 17 ⟨false, 1, 8, [.v (.pointer none)], [], false, none, none, 8, [], false, [216]⟩ := ⟨by kernel_rfl, rfl, rfl, by kernel_rfl, (fun h => by cases h), by kernel_rfl⟩
theorem fit18 : FitsOne Tryd.prog 18 ⟨true, 1, 8, [.v (.pointer none)], [(0, 1)], false, none, none, 6, [], false, []⟩ := ⟨by kernel_rfl, rfl, rfl, by kernel_rfl, (fun h => by cases h), by kernel_rfl⟩
theorem fit19 : FitsOne Tryd.prog 19 ⟨true, 1, 8, [.v (.pointer none)], [(0, 1)], false, none, none, 6, [], false, []⟩ := ⟨by kernel_rfl, rfl, rfl, by kernel_rfl, (fun h => by cases h), by kernel_rfl⟩
theorem fit20 : FitsOne Tryd.prog 20 ⟨false, 1, 16, [.v .nilIface], [], true, none, none, 7, [], false, []⟩ := ⟨by kernel_rfl, rfl, rfl, by kernel_rfl, (fun h => by cases h), by kernel_rfl⟩
theorem fit21 : FitsOne Tryd.prog 21 ⟨false, 1, 4, [.v (.int .i32 0)], [], false, (some .i32), none, 5, [], false, []⟩ := ⟨by kernel_rfl, rfl, rfl, by kernel_rfl, (fun h => by cases h), by kernel_rfl⟩
theorem fit22 : FitsOne Tryd.prog 22 ⟨true, 2, 16, [.v (.int .i64 0), .v (.int .i64 0)], [(0, 1), (1, 1)], false, none, none, 6, [], false, []⟩ := ⟨by kernel_rfl, rfl, rfl, by kernel_rfl, (fun h => by cases h), by kernel_rfl⟩
theorem fit23 : FitsOne Tryd.prog 23 ⟨true, 2, 16, [.v (.int .i64 0), .v (.int .i64 0)], [(0, 1), (1, 1)], false, none, none, 6, [3, 3], true, []⟩ := ⟨by kernel_rfl, rfl, rfl, by kernel_rfl, fun _ => ⟨by kernel_rfl, rfl, by kernel_rfl, by kernel_rfl, rfl⟩, by kernel_rfl⟩
theorem fit24 : FitsOne Tryd.prog 24 ⟨true, 4, 24, [.v (.int .i64 0), .v (.int .i64 0), .v (.bool false), .v (.bool false)], [(0, 2), (2, 1), (3, 1)], false, none, none, 6, [], false, []⟩ := ⟨by kernel_rfl, rfl, rfl, by kernel_rfl, (fun h => by cases h), by kernel_rfl⟩
theorem fit25 : FitsOne Tryd.prog 25 ⟨true, 4, 24, [.v (.int .i64 0), .v (.int .i64 0), .v (.bool false), .v (.bool false)], [(0, 2), (2, 1), (3, 1)], false, none, none, 6, [23, 4, 4], true, []⟩ := ⟨by kernel_rfl, rfl, rfl, by kernel_rfl, fun _ => ⟨by kernel_rfl, rfl, by kernel_rfl, by kernel_rfl, rfl⟩, by kernel_rfl⟩
theorem fit26 : FitsOne Tryd.prog 26 ⟨true, 4, 32, [.v (.int .i64 0), .v (.int .i64 0), .v (.int .i64 0), .v (.int .i64 0)], [(0, 2), (2, 2)], false, none, none, 6, [], false, []⟩ := ⟨by kernel_rfl, rfl, rfl, by kernel_rfl, (fun h => by cases h), by kernel_rfl⟩
theorem fit27 : FitsOne Tryd.prog 27 ⟨true, 4, 32, [.v (.int .i64 0), .v (.int .i64 0), .v (.int .i64 0), .v (.int .i64 0)], [(0, 2), (2, 2)], false, none, none, 6, [23, 23], true, []⟩ := ⟨by kernel_rfl, rfl, rfl, by kernel_rfl, fun _ => ⟨by kernel_rfl, rfl, by kernel_rfl, by kernel_rfl, rfl⟩, by kernel_rfl⟩
theorem fit32 : FitsOne Tryd.prog 32 ⟨false, 1, 16, [.v .nilIface], [], true, none, none, 7, [], false, []⟩ := ⟨by kernel_rfl, rfl, rfl, by kernel_rfl, (fun h => by cases h), by kernel_rfl⟩
theorem fit33 : FitsOne Tryd.prog 33 ⟨false, 1, 16, [.v .nilIface], [], true, none, none, 7, [], false, []⟩ := ⟨by kernel_rfl, rfl, rfl, by kernel_rfl, (fun h => by cases h), by kernel_rfl⟩
theorem fit37 : FitsOne Tryd.prog 37 ⟨false, 1, 24, [.v (.slice none 0 0)], [], false, none, (some 23), 3, [], false, []⟩ := ⟨by kernel_rfl, rfl, rfl, by kernel_rfl, (fun h => by cases h), by kernel_rfl⟩
theorem fit57 : FitsOne Tryd.prog 57 ⟨true, 3, 32, [.v (.int .i64 0), .v (.int .i64 0), .str []], [(0, 1), (1, 1), (2, 1)], false, none, none, 6, [], false, []⟩ := ⟨by kernel_rfl, rfl, rfl, by kernel_rfl, (fun h => by cases h), by kernel_rfl⟩
theorem fit58 : FitsOne Tryd.prog 58 ⟨true, 3, 32, [.v (.int .i64 0), .v (.int .i64 0), .str []], [(0, 1), (1, 1), (2, 1)], false, none, none, 6, [3, 3, 9], true, []⟩ := ⟨by kernel_rfl, rfl, rfl, by kernel_rfl, fun _ => ⟨by kernel_rfl, rfl, by kernel_rfl, by kernel_rfl, rfl⟩, by kernel_rfl⟩
theorem fit72 : FitsOne Tryd.prog 72 ⟨false, 1, 8, [.v (.int .i64 0)], [], false, (some .i64), none, 5, [], false, []⟩ := ⟨by kernel_rfl, rfl, rfl, by kernel_rfl, (fun h => by cases h), by kernel_rfl⟩
theorem fit77 : FitsOne Tryd.prog 77 ⟨false, 1, 24, [.v (.slice none 0 0)], [], false, none, (some 5), 3, [], false, []⟩ := ⟨by kernel_rfl, rfl, rfl, by kernel_rfl, (fun h => by cases h), by kernel_rfl⟩
theorem fit83 : FitsOne Tryd.prog 83 ⟨true, 7, 112, [.str [], .str [], .str [], .str [], .str [], .str [], .str []], [], false, none, (some 9), 4, [], false, [7]⟩ := ⟨by kernel_rfl, rfl, rfl, by kernel_rfl, (fun h => by cases h), by kernel_rfl⟩
theorem fit91 : FitsOne Tryd.prog 91 ⟨false, 1, 8, [.v (.pointer none)], [], false, none, none, 8, [], false, [72]⟩ := ⟨by kernel_rfl, rfl, rfl, by kernel_rfl, (fun h => by cases h), by kernel_rfl⟩
theorem fit92 : FitsOne Tryd.prog 92 ⟨false, 1, 8, [.v (.pointer none)], [], false, none, none, 8, [], false, [95]⟩ := ⟨by kernel_rfl, rfl, rfl, by kernel_rfl, (fun h => by cases h), by kernel_rfl⟩
theorem fit93 : FitsOne Tryd.prog 93 ⟨false, 1, 24, [.v (.slice none 0 0)], [], false, none, (some 159), 3, [], false, []⟩ := ⟨by kernel_rfl, rfl, rfl, by kernel_rfl, (fun h => by cases h), by kernel_rfl⟩
theorem fit94 : FitsOne Tryd.prog 94 ⟨true, 2, 32, [.v (.bool false), .v (.slice none 0 0)], [(0, 1), (1, 1)], false, none, none, 6, [], false, []⟩ := ⟨by kernel_rfl, rfl, rfl, by kernel_rfl, (fun h => by cases h), by kernel_rfl⟩
theorem fit95 : FitsOne Tryd.prog 95 ⟨true, 2, 32, [.v (.bool false), .v (.slice none 0 0)], [(0, 1), (1, 1)], false, none, none, 6, [], false, []⟩ := ⟨by kernel_rfl, rfl, rfl, by kernel_rfl, (fun h => by cases h), by kernel_rfl⟩
theorem fit105 : FitsOne Tryd.prog 105 ⟨false, 1, 24, [.v (.slice none 0 0)], [], false, none, (some 9), 3, [], false, []⟩ := ⟨by kernel_rfl, rfl, rfl, by kernel_rfl, (fun h => by cases h), by kernel_rfl⟩
theorem fit107 : FitsOne Tryd.prog 107 ⟨false, 1, 8, [.v (.int .u64 0)], [], false, (some .u64), none, 5, [], false, []⟩ := ⟨by kernel_rfl, rfl, rfl, by kernel_rfl, (fun h => by cases h), by kernel_rfl⟩
theorem fit111 : FitsOne Tryd.prog 111 ⟨false, 1, 24, [.v (.slice none 0 0)], [], false, none, (some 3), 3, [], false, []⟩ := ⟨by kernel_rfl, rfl, rfl, by kernel_rfl, (fun h => by cases h), by kernel_rfl⟩
theorem fit112 : FitsOne Tryd.prog 112 ⟨false, 1, 8, [.v (.pointer none)], [], false, none, none, 0, [], false, []⟩ := ⟨by kernel_rfl, rfl, rfl, by kernel_rfl, (fun h => by cases h), by kernel_rfl⟩
theorem fit113 : FitsOne Tryd.prog 113 ⟨false, 1, 8, [.v (.int .u64 0)], [], false, (some .u64), none, 5, [], false, []⟩ := ⟨by kernel_rfl, rfl, rfl, by kernel_rfl, (fun h => by cases h), by kernel_rfl⟩
theorem fit114 : FitsOne Tryd.prog 114 ⟨true, 3, 24, [.v (.pointer none), .v (.pointer none), .v (.int .u64 0)], [(0, 1), (1, 1), (2, 1)], false, none, none, 6, [], false, []⟩ := ⟨by kernel_rfl, rfl, rfl, by kernel_rfl, (fun h => by cases h), by kernel_rfl⟩
theorem fit115 : FitsOne Tryd.prog 115 ⟨true, 3, 24, [.v (.pointer none), .v (.pointer none), .v (.int .u64 0)], [(0, 1), (1, 1), (2, 1)], false, none, none, 6, [], false, []⟩ := ⟨by kernel_rfl, rfl, rfl, by kernel_rfl, (fun h => by cases h), by kernel_rfl⟩
theorem fit117 : FitsOne Tryd.prog 117 ⟨false, 1, 16, [.v .nilIface], [], true, none, none, 7, [], false, []⟩ := ⟨by kernel_rfl, rfl, rfl, by kernel_rfl, (fun h => by cases h), by kernel_rfl⟩
theorem fit118 : FitsOne Tryd.prog 118 ⟨false, 1, 16, [.v .nilIface], [], true, none, none, 7, [], false, []⟩ := ⟨by kernel_rfl, rfl, rfl, by kernel_rfl, (fun h => by cases h), by kernel_rfl⟩
theorem fit120 : FitsOne Tryd.prog 120 ⟨false, 1, 1, [.v (.int .u8 0)], [], false, (some .u8), none, 5, [], false, []⟩ := ⟨by kernel_rfl, rfl, rfl, by kernel_rfl, (fun h => by cases h), by kernel_rfl⟩
theorem fit137 : FitsOne Tryd.prog 137 ⟨false, 1, 8, [.v (.pointer none)], [], false, none, none, 8, [], false, [133]⟩ := ⟨by kernel_rfl, rfl, rfl, by kernel_rfl, (fun h => by cases h), by kernel_rfl⟩
theorem fit139 : FitsOne Tryd.prog 139 ⟨false, 1, 8, [.v (.int .u64 0)], [], false, (some .u64), none, 5, [], false, []⟩ := ⟨by kernel_rfl, rfl, rfl, by kernel_rfl, (fun h => by cases h), by kernel_rfl⟩
theorem fit140 : FitsOne Tryd.prog 140 ⟨true, 1, 8, [.v (.pointer none)], [(0, 1)], false, none, none, 6, [], false, []⟩ := ⟨by kernel_rfl, rfl, rfl, by kernel_rfl, (fun h => by cases h), by kernel_rfl⟩
theorem fit141 : FitsOne Tryd.prog 141 ⟨true, 1, 8, [.v (.pointer none)], [(0, 1)], false, none, none, 6, [], false, []⟩ := ⟨by kernel_rfl, rfl, rfl, by kernel_rfl, (fun h => by cases h), by kernel_rfl⟩
theorem fit142 : FitsOne Tryd.prog 142 ⟨false, 1, 8, [.v (.pointer none)], [], false, none, none, 8, [], false, [220]⟩ := ⟨by kernel_rfl, rfl, rfl, by kernel_rfl, (fun h => by cases h), by kernel_rfl⟩
theorem fit146 : FitsOne Tryd.prog 146 ⟨false, 1, 16, [.v .nilIface], [], true, none, none, 7, [], false, []⟩ := ⟨by kernel_rfl, rfl, rfl, by kernel_rfl, (fun h => by cases h), by kernel_rfl⟩
theorem fit149 : FitsOne Tryd.prog 149 ⟨false, 1, 16, [.v .nilIface], [], true, none, none, 7, [], false, []⟩ := ⟨by kernel_rfl, rfl, rfl, by kernel_rfl, (fun h => by cases h), by kernel_rfl⟩
theorem fit151 : FitsOne Tryd.prog 151 ⟨false, 1, 16, [.v .nilIface], [], true, none, none, 7, [], false, []⟩ := ⟨by kernel_rfl, rfl, rfl, by kernel_rfl, (fun h => by cases h), by kernel_rfl⟩
theorem fit152 : FitsOne Tryd.prog 152 ⟨false, 1, 24, [.v (.slice none 0 0)], [], false, none, (some 33), 3, [], false, []⟩ := ⟨by kernel_rfl, rfl, rfl, by kernel_rfl, (fun h => by cases h), by kernel_rfl⟩
theorem fit154 : FitsOne Tryd.prog 154 ⟨true, 24, 24, [.v (.int .u8 0), .v (.int .u8 0), .v (.int .u8 0), .v (.int .u8 0), .v (.int .u8 0), .v (.int .u8 0), .v (.int .u8 0), .v (.int .u8 0), .v (.int .u8 0), .v (.int .u8 0), .v (.int .u8 0), .v (.int .u8 0), .v (.int .u8 0), .v (.int .u8 0), .v (.int .u8 0), .v (.int .u8 0), .v (.int .u8 0), .v (.int .u8 0), .v (.int .u8 0), .v (.int .u8 0), .v (.int .u8 0), .v (.int .u8 0), .v (.int .u8 0), .v (.int .u8 0)], [], false, none, (some 5), 4, [], false, [24]⟩ := ⟨by kernel_rfl, rfl, rfl, by kernel_rfl, (fun h => by cases h), by kernel_rfl⟩
theorem fit159 : FitsOne Tryd.prog 159 ⟨false, 1, 4, [.v (.int .u32 0)], [], false, (some .u32), none, 5, [], false, []⟩ := ⟨by kernel_rfl, rfl, rfl, by kernel_rfl, (fun h => by cases h), by kernel_rfl⟩
theorem fit171 : FitsOne Tryd.prog 171 ⟨false, 1, 8, [.v (.int .i64 0)], [], false, (some .i64), none, 5, [], false, []⟩ := ⟨by kernel_rfl, rfl, rfl, by kernel_rfl, (fun h => by cases h), by kernel_rfl⟩
theorem fit174 : FitsOne Tryd.prog 174 ⟨false, 1, 8, [.v (.pointer none)], [], false, none, none, 8, [], false, [188]⟩ := ⟨by kernel_rfl, rfl, rfl, by kernel_rfl, (fun h => by cases h), by kernel_rfl⟩
theorem fit179 : FitsOne Tryd.prog 179 ⟨true, 20, 160, [.v (.int .u64 0), .v (.int .u64 0), .v (.int .u64 0), .v (.int .u64 0), .v (.int .u64 0), .v (.int .u64 0), .v (.int .u64 0), .v (.int .u64 0), .v (.int .u64 0), .v (.int .u64 0), .v (.int .u64 0), .v (.int .u64 0), .v (.int .u64 0), .v (.int .u64 0), .v (.int .u64 0), .v (.int .u64 0), .v (.int .u64 0), .v (.int .u64 0), .v (.int .u64 0), .v (.int .u64 0)], [], false, none, (some 107), 4, [], false, [20]⟩ := ⟨by kernel_rfl, rfl, rfl, by kernel_rfl, (fun h => by cases h), by kernel_rfl⟩
theorem fit187 : FitsOne Tryd.prog 187 ⟨true, 3, 48, [.str [], .str [], .v .nilIface], [(0, 1), (1, 1), (2, 1)], false, none, none, 6, [], false, []⟩ := ⟨by kernel_rfl, rfl, rfl, by kernel_rfl, (fun h => by cases h), by kernel_rfl⟩
theorem fit188 : FitsOne Tryd.prog 188 ⟨true, 3, 48, [.str [], .str [], .v .nilIface], [(0, 1), (1, 1), (2, 1)], false, none, none, 6, [], false, []⟩ := ⟨by kernel_rfl, rfl, rfl, by kernel_rfl, (fun h => by cases h), by kernel_rfl⟩
theorem fit192 : FitsOne Tryd.prog 192 ⟨true, 2, 2, [.v (.int .u8 0), .v (.int .u8 0)], [(0, 1), (1, 1)], false, none, none, 6, [], false, []⟩ := ⟨by kernel_rfl, rfl, rfl, by kernel_rfl, (fun h => by cases h), by kernel_rfl⟩
theorem fit193 : FitsOne Tryd.prog 193 ⟨true, 2, 2, [.v (.int .u8 0), .v (.int .u8 0)], [(0, 1), (1, 1)], false, none, none, 6, [], false, []⟩ := ⟨by kernel_rfl, rfl, rfl, by kernel_rfl, (fun h => by cases h), by kernel_rfl⟩
theorem fit194 : FitsOne Tryd.prog 194 ⟨true, 32, 32, [.v (.int .u8 0), .v (.int .u8 0), .v (.int .u8 0), .v (.int .u8 0), .v (.int .u8 0), .v (.int .u8 0), .v (.int .u8 0), .v (.int .u8 0), .v (.int .u8 0), .v (.int .u8 0), .v (.int .u8 0), .v (.int .u8 0), .v (.int .u8 0), .v (.int .u8 0), .v (.int .u8 0), .v (.int .u8 0), .v (.int .u8 0), .v (.int .u8 0), .v (.int .u8 0), .v (.int .u8 0), .v (.int .u8 0), .v (.int .u8 0), .v (.int .u8 0), .v (.int .u8 0), .v (.int .u8 0), .v (.int .u8 0), .v (.int .u8 0), .v (.int .u8 0), .v (.int .u8 0), .v (.int .u8 0), .v (.int .u8 0), .v (.int .u8 0)], [], false, none, (some 193), 4, [], false, [16]⟩ := ⟨by kernel_rfl, rfl, rfl, by kernel_rfl, (fun h => by cases h), by kernel_rfl⟩
theorem fit198 : FitsOne Tryd.prog 198 ⟨false, 1, 8, [.v (.pointer none)], [], false, none, none, 8, [], false, [5]⟩ := ⟨by kernel_rfl, rfl, rfl, by kernel_rfl, (fun h => by cases h), by kernel_rfl⟩
theorem fit199 : FitsOne Tryd.prog 199 ⟨false, 1, 8, [.v (.pointer none)], [], false, none, none, 8, [], false, [201]⟩ := ⟨by kernel_rfl, rfl, rfl, by kernel_rfl, (fun h => by cases h), by kernel_rfl⟩
theorem fit200 : FitsOne Tryd.prog 200 ⟨true, 1, 16, [.str []], [(0, 1)], false, none, none, 6, [], false, []⟩ := ⟨by kernel_rfl, rfl, rfl, by kernel_rfl, (fun h => by cases h), by kernel_rfl⟩
theorem fit201 : FitsOne Tryd.prog 201 ⟨true, 1, 16, [.str []], [(0, 1)], false, none, none, 6, [], false, []⟩ := ⟨by kernel_rfl, rfl, rfl, by kernel_rfl, (fun h => by cases h), by kernel_rfl⟩
theorem fit202 : FitsOne Tryd.prog 202 ⟨true, 32, 32, [.v (.int .u8 0), .v (.int .u8 0), .v (.int .u8 0), .v (.int .u8 0), .v (.int .u8 0), .v (.int .u8 0), .v (.int .u8 0), .v (.int .u8 0), .v (.int .u8 0), .v (.int .u8 0), .v (.int .u8 0), .v (.int .u8 0), .v (.int .u8 0), .v (.int .u8 0), .v (.int .u8 0), .v (.int .u8 0), .v (.int .u8 0), .v (.int .u8 0), .v (.int .u8 0), .v (.int .u8 0), .v (.int .u8 0), .v (.int .u8 0), .v (.int .u8 0), .v (.int .u8 0), .v (.int .u8 0), .v (.int .u8 0), .v (.int .u8 0), .v (.int .u8 0), .v (.int .u8 0), .v (.int .u8 0), .v (.int .u8 0), .v (.int .u8 0)], [], false, none, (some 5), 4, [], false, [32]⟩ := ⟨by kernel_rfl, rfl, rfl, by kernel_rfl, (fun h => by cases h), by kernel_rfl⟩
theorem fit204 : FitsOne Tryd.prog 204 ⟨true, 4, 40, [.v (.pointer none), .v (.pointer none), .v (.pointer none), .str []], [(0, 1), (1, 1), (2, 1), (3, 1)], false, none, none, 6, [], false, []⟩ := ⟨by kernel_rfl, rfl, rfl, by kernel_rfl, (fun h => by cases h), by kernel_rfl⟩
theorem fit205 : FitsOne Tryd.prog 205 ⟨true, 4, 40, [.v (.pointer none), .v (.pointer none), .v (.pointer none), .str []], [(0, 1), (1, 1), (2, 1), (3, 1)], false, none, none, 6, [], false, []⟩ := ⟨by kernel_rfl, rfl, rfl, by kernel_rfl, (fun h => by cases h), by kernel_rfl⟩
theorem fit206 : FitsOne Tryd.prog 206 ⟨true, 0, 0, [], [], false, none, (some 16), 4, [], false, [0]⟩ := ⟨by kernel_rfl, rfl, rfl, by kernel_rfl, (fun h => by cases h), by kernel_rfl⟩
theorem fit207 : FitsOne Tryd.prog 207 ⟨true, 0, 0, [], [(0, 0)], false, none, none, 6, [], false, []⟩ := ⟨by kernel_rfl, rfl, rfl, by kernel_rfl, (fun h => by cases h), by kernel_rfl⟩
theorem fit208 : FitsOne Tryd.prog 208 ⟨true, 0, 0, [], [(0, 0)], false, none, none, 6, [], false, []⟩ := ⟨by kernel_rfl, rfl, rfl, by kernel_rfl, (fun h => by cases h), by kernel_rfl⟩
theorem fit211 : FitsOne Tryd.prog 211 ⟨false, 1, 1, [.v (.int .u8 0)], [], false, (some .u8), none, 5, [], false, []⟩ := ⟨by kernel_rfl, rfl, rfl, by kernel_rfl, (fun h => by cases h), by kernel_rfl⟩
theorem fit213 : FitsOne Tryd.prog 213 ⟨false, 1, 4, [.v (.int .i32 0)], [], false, (some .i32), none, 5, [], false, []⟩ := ⟨by kernel_rfl, rfl, rfl, by kernel_rfl, (fun h => by cases h), by kernel_rfl⟩
theorem fit214 : FitsOne Tryd.prog 214 ⟨false, 1, 4, [.v (.int .i32 0)], [], false, (some .i32), none, 5, [], false, []⟩ := ⟨by kernel_rfl, rfl, rfl, by kernel_rfl, (fun h => by cases h), by kernel_rfl⟩
theorem fit219 : FitsOne Tryd.prog 219 ⟨true, 2, 24, [.str [], .v (.int .u8 0)], [(0, 1), (1, 1)], false, none, none, 6, [], false, []⟩ := ⟨by kernel_rfl, rfl, rfl, by kernel_rfl, (fun h => by cases h), by kernel_rfl⟩
theorem fit220 : FitsOne Tryd.prog 220 ⟨true, 2, 24, [.str [], .v (.int .u8 0)], [(0, 1), (1, 1)], false, none, none, 6, [], false, []⟩ := ⟨by kernel_rfl, rfl, rfl, by kernel_rfl, (fun h => by cases h), by kernel_rfl⟩
theorem fit221 : FitsOne Tryd.prog 221 ⟨false, 1, 8, [.v (.pointer none)], [], false, none, none, 8, [], false, [225]⟩ := ⟨by kernel_rfl, rfl, rfl, by kernel_rfl, (fun h => by cases h), by kernel_rfl⟩
theorem fit223 : FitsOne Tryd.prog 223 ⟨false, 1, 2, [.v (.int .u16 0)], [], false, (some .u16), none, 5, [], false, []⟩ := ⟨by kernel_rfl, rfl, rfl, by kernel_rfl, (fun h => by cases h), by kernel_rfl⟩
theorem fit224 : FitsOne Tryd.prog 224 ⟨true, 5, 16, [.v (.int .i32 0), .v (.int .u16 0), .v (.int .u16 0), .v (.int .u32 0), .v (.int .u32 0)], [(0, 1), (1, 1), (2, 1), (3, 1), (4, 1)], false, none, none, 6, [], false, []⟩ := ⟨by kernel_rfl, rfl, rfl, by kernel_rfl, (fun h => by cases h), by kernel_rfl⟩
theorem fit225 : FitsOne Tryd.prog 225 ⟨true, 5, 16, [.v (.int .i32 0), .v (.int .u16 0), .v (.int .u16 0), .v (.int .u32 0), .v (.int .u32 0)], [(0, 1), (1, 1), (2, 1), (3, 1), (4, 1)], false, none, none, 6, [], false, []⟩ := ⟨by kernel_rfl, rfl, rfl, by kernel_rfl, (fun h => by cases h), by kernel_rfl⟩
theorem fit226 : FitsOne Tryd.prog 226 ⟨false, 1, 24, [.v (.slice none 0 0)], [], false, none, (some 229), 3, [], false, []⟩ := ⟨by kernel_rfl, rfl, rfl, by kernel_rfl, (fun h => by cases h), by kernel_rfl⟩
theorem fit227 : FitsOne Tryd.prog 227 ⟨false, 1, 4, [.v (.int .i32 0)], [], false, (some .i32), none, 5, [], false, []⟩ := ⟨by kernel_rfl, rfl, rfl, by kernel_rfl, (fun h => by cases h), by kernel_rfl⟩
theorem fit228 : FitsOne Tryd.prog 228 ⟨true, 4, 16, [.v (.int .i32 0), .v (.int .i32 0), .v (.int .i32 0), .v (.int .i32 0)], [(0, 1), (1, 1), (2, 1), (3, 1)], false, none, none, 6, [], false, []⟩ := ⟨by kernel_rfl, rfl, rfl, by kernel_rfl, (fun h => by cases h), by kernel_rfl⟩
theorem fit229 : FitsOne Tryd.prog 229 ⟨true, 4, 16, [.v (.int .i32 0), .v (.int .i32 0), .v (.int .i32 0), .v (.int .i32 0)], [(0, 1), (1, 1), (2, 1), (3, 1)], false, none, none, 6, [], false, []⟩ := ⟨by kernel_rfl, rfl, rfl, by kernel_rfl, (fun h => by cases h), by kernel_rfl⟩
theorem fit230 : FitsOne Tryd.prog 230 ⟨false, 1, 8, [.v (.pointer none)], [], false, none, none, 8, [], false, [33]⟩ := ⟨by kernel_rfl, rfl, rfl, by kernel_rfl, (fun h => by cases h), by kernel_rfl⟩
def tt : List (Nat × TI) := [
  (2, ⟨false, 1, 8, [.v (.int .i64 0)], [], false, (some .i64), none, 5, [], false, []⟩),
  (3, ⟨false, 1, 8, [.v (.int .i64 0)], [], false, (some .i64), none, 5, [], false, []⟩),
  (4, ⟨false, 1, 1, [.v (.bool false)], [], false, none, none, 1, [], false, []⟩),
  (5, ⟨false, 1, 1, [.v (.int .u8 0)], [], false, (some .u8), none, 5, [], false, []⟩),
  (6, ⟨false, 1, 1, [.v (.int .u8 0)], [], false, (some .u8), none, 5, [], false, []⟩),
  (7, ⟨true, 4, 24, [.v (.int .i64 0), .v (.int .i64 0), .v (.bool false), .v (.int .u8 0)], [(0, 1), (1, 1), (2, 1), (3, 1)], false, none, none, 6, [], false, []⟩),
  (8, ⟨true, 4, 24, [.v (.int .i64 0), .v (.int .i64 0), .v (.bool false), .v (.int .u8 0)], [(0, 1), (1, 1), (2, 1), (3, 1)], false, none, none, 6, [], false, []⟩),
  (9, ⟨false, 1, 16, [.str []], [], false, none, none, 2, [], false, []⟩),
  (10, ⟨false, 1, 16, [.str []], [], false, none, none, 2, [], false, []⟩),
  (11, ⟨false, 1, 16, [.str []], [], false, none, none, 2, [], false, []⟩),
  (12, ⟨false, 1, 8, [.v (.int .u64 0)], [], false, (some .u64), none, 5, [], false, []⟩),
  (13, ⟨true, 2, 24, [.str [], .v (.int .u64 0)], [(0, 1), (1, 1)], false, none, none, 6, [], false, []⟩),
  (14, ⟨true, 2, 24, [.str [], .v (.int .u64 0)], [(0, 1), (1, 1)], false, none, none, 6, [], false, []⟩),
  (15, ⟨false, 1, 8, [.v (.pointer none)], [], false, none, none, 8, [], false, [205]⟩),
  (16, ⟨false, 1, 8, [.v (.pointer none)], [], false, none, none, 8, [], false, [208]⟩),
  (17, ⟨false, 1, 8, [.v (.pointer none)], [], false, none, none, 8, [], false, [216]⟩),
  (18, ⟨true, 1, 8, [.v (.pointer none)], [(0, 1)], false, none, none, 6, [], false, []⟩),
  (19, ⟨true, 1, 8, [.v (.pointer none)], [(0, 1)], false, none, none, 6, [], false, []⟩),
  (20, ⟨false, 1, 16, [.v .nilIface], [], true, none, none, 7, [], false, []⟩),
  (21, ⟨false, 1, 4, [.v (.int .i32 0)], [], false, (some .i32), none, 5, [], false, []⟩),
  (22, ⟨true, 2, 16, [.v (.int .i64 0), .v (.int .i64 0)], [(0, 1), (1, 1)], false, none, none, 6, [], false, []⟩),
  (23, ⟨true, 2, 16, [.v (.int .i64 0), .v (.int .i64 0)], [(0, 1), (1, 1)], false, none, none, 6, [3, 3], true, []⟩),
  (24, ⟨true, 4, 24, [.v (.int .i64 0), .v (.int .i64 0), .v (.bool false), .v (.bool false)], [(0, 2), (2, 1), (3, 1)], false, none, none, 6, [], false, []⟩),
  (25, ⟨true, 4, 24, [.v (.int .i64 0), .v (.int .i64 0), .v (.bool false), .v (.bool false)], [(0, 2), (2, 1), (3, 1)], false, none, none, 6, [23, 4, 4], true, []⟩),
  (26, ⟨true, 4, 32, [.v (.int .i64 0), .v (.int .i64 0), .v (.int .i64 0), .v (.int .i64 0)], [(0, 2), (2, 2)], false, none, none, 6, [], false, []⟩),
  (27, ⟨true, 4, 32, [.v (.int .i64 0), .v (.int .i64 0), .v (.int .i64 0), .v (.int .i64 0)], [(0, 2), (2, 2)], false, none, none, 6, [23, 23], true, []⟩),
  (32, ⟨false, 1, 16, [.v .nilIface], [], true, none, none, 7, [], false, []⟩),
  (33, ⟨false, 1, 16, [.v .nilIface], [], true, none, none, 7, [], false, []⟩),
  (37, ⟨false, 1, 24, [.v (.slice none 0 0)], [], false, none, (some 23), 3, [], false, []⟩),
  (57, ⟨true, 3, 32, [.v (.int .i64 0), .v (.int .i64 0), .str []], [(0, 1), (1, 1), (2, 1)], false, none, none, 6, [], false, []⟩),
  (58, ⟨true, 3, 32, [.v (.int .i64 0), .v (.int .i64 0), .str []], [(0, 1), (1, 1), (2, 1)], false, none, none, 6, [3, 3, 9], true, []⟩),
  (72, ⟨false, 1, 8, [.v (.int .i64 0)], [], false, (some .i64), none, 5, [], false, []⟩),
  (77, ⟨false, 1, 24, [.v (.slice none 0 0)], [], false, none, (some 5), 3, [], false, []⟩),
  (83, ⟨true, 7, 112, [.str [], .str [], .str [], .str [], .str [], .str [], .str []], [], false, none, (some 9), 4, [], false, [7]⟩),
  (91, ⟨false, 1, 8, [.v (.pointer none)], [], false, none, none, 8, [], false, [72]⟩),
  (92, ⟨false, 1, 8, [.v (.pointer none)], [], false, none, none, 8, [], false, [95]⟩),
  (93, ⟨false, 1, 24, [.v (.slice none 0 0)], [], false, none, (some 159), 3, [], false, []⟩),
  (94, ⟨true, 2, 32, [.v (.bool false), .v (.slice none 0 0)], [(0, 1), (1, 1)], false, none, none, 6, [], false, []⟩),
  (95, ⟨true, 2, 32, [.v (.bool false), .v (.slice none 0 0)], [(0, 1), (1, 1)], false, none, none, 6, [], false, []⟩),
  (105, ⟨false, 1, 24, [.v (.slice none 0 0)], [], false, none, (some 9), 3, [], false, []⟩),
  (107, ⟨false, 1, 8, [.v (.int .u64 0)], [], false, (some .u64), none, 5, [], false, []⟩),
  (111, ⟨false, 1, 24, [.v (.slice none 0 0)], [], false, none, (some 3), 3, [], false, []⟩),
  (112, ⟨false, 1, 8, [.v (.pointer none)], [], false, none, none, 0, [], false, []⟩),
  (113, ⟨false, 1, 8, [.v (.int .u64 0)], [], false, (some .u64), none, 5, [], false, []⟩),
  (114, ⟨true, 3, 24, [.v (.pointer none), .v (.pointer none), .v (.int .u64 0)], [(0, 1), (1, 1), (2, 1)], false, none, none, 6, [], false, []⟩),
  (115, ⟨true, 3, 24, [.v (.pointer none), .v (.pointer none), .v (.int .u64 0)], [(0, 1), (1, 1), (2, 1)], false, none, none, 6, [], false, []⟩),
  (117, ⟨false, 1, 16, [.v .nilIface], [], true, none, none, 7, [], false, []⟩),
  (118, ⟨false, 1, 16, [.v .nilIface], [], true, none, none, 7, [], false, []⟩),
  (120, ⟨false, 1, 1, [.v (.int .u8 0)], [], false, (some .u8), none, 5, [], false, []⟩),
  (137, ⟨false, 1, 8, [.v (.pointer none)], [], false, none, none, 8, [], false, [133]⟩),
  (139, ⟨false, 1, 8, [.v (.int .u64 0)], [], false, (some .u64), none, 5, [], false, []⟩),
  (140, ⟨true, 1, 8, [.v (.pointer none)], [(0, 1)], false, none, none, 6, [], false, []⟩),
  (141, ⟨true, 1, 8, [.v (.pointer none)], [(0, 1)], false, none, none, 6, [], false, []⟩),
  (142, ⟨false, 1, 8, [.v (.pointer none)], [], false, none, none, 8, [], false, [220]⟩),
  (146, ⟨false, 1, 16, [.v .nilIface], [], true, none, none, 7, [], false, []⟩),
  (149, ⟨false, 1, 16, [.v .nilIface], [], true, none, none, 7, [], false, []⟩),
  (151, ⟨false, 1, 16, [.v .nilIface], [], true, none, none, 7, [], false, []⟩),
  (152, ⟨false, 1, 24, [.v (.slice none 0 0)], [], false, none, (some 33), 3, [], false, []⟩),
  (154, ⟨true, 24, 24, [.v (.int .u8 0), .v (.int .u8 0), .v (.int .u8 0), .v (.int .u8 0), .v (.int .u8 0), .v (.int .u8 0), .v (.int .u8 0), .v (.int .u8 0), .v (.int .u8 0), .v (.int .u8 0), .v (.int .u8 0), .v (.int .u8 0), .v (.int .u8 0), .v (.int .u8 0), .v (.int .u8 0), .v (.int .u8 0), .v (.int .u8 0), .v (.int .u8 0), .v (.int .u8 0), .v (.int .u8 0), .v (.int .u8 0), .v (.int .u8 0), .v (.int .u8 0), .v (.int .u8 0)], [], false, none, (some 5), 4, [], false, [24]⟩),
  (159, ⟨false, 1, 4, [.v (.int .u32 0)], [], false, (some .u32), none, 5, [], false, []⟩),
  (171, ⟨false, 1, 8, [.v (.int .i64 0)], [], false, (some .i64), none, 5, [], false, []⟩),
  (174, ⟨false, 1, 8, [.v (.pointer none)], [], false, none, none, 8, [], false, [188]⟩),
  (179, ⟨true, 20, 160, [.v (.int .u64 0), .v (.int .u64 0), .v (.int .u64 0), .v (.int .u64 0), .v (.int .u64 0), .v (.int .u64 0), .v (.int .u64 0), .v (.int .u64 0), .v (.int .u64 0), .v (.int .u64 0), .v (.int .u64 0), .v (.int .u64 0), .v (.int .u64 0), .v (.int .u64 0), .v (.int .u64 0), .v (.int .u64 0), .v (.int .u64 0), .v (.int .u64 0), .v (.int .u64 0), .v (.int .u64 0)], [], false, none, (some 107), 4, [], false, [20]⟩),
  (187, ⟨true, 3, 48, [.str [], .str [], .v .nilIface], [(0, 1), (1, 1), (2, 1)], false, none, none, 6, [], false, []⟩),
  (188, ⟨true, 3, 48, [.str [], .str [], .v .nilIface], [(0, 1), (1, 1), (2, 1)], false, none, none, 6, [], false, []⟩),
  (192, ⟨true, 2, 2, [.v (.int .u8 0), .v (.int .u8 0)], [(0, 1), (1, 1)], false, none, none, 6, [], false, []⟩),
  (193, ⟨true, 2, 2, [.v (.int .u8 0), .v (.int .u8 0)], [(0, 1), (1, 1)], false, none, none, 6, [], false, []⟩),
  (194, ⟨true, 32, 32, [.v (.int .u8 0), .v (.int .u8 0), .v (.int .u8 0), .v (.int .u8 0), .v (.int .u8 0), .v (.int .u8 0), .v (.int .u8 0), .v (.int .u8 0), .v (.int .u8 0), .v (.int .u8 0), .v (.int .u8 0), .v (.int .u8 0), .v (.int .u8 0), .v (.int .u8 0), .v (.int .u8 0), .v (.int .u8 0), .v (.int .u8 0), .v (.int .u8 0), .v (.int .u8 0), .v (.int .u8 0), .v (.int .u8 0), .v (.int .u8 0), .v (.int .u8 0), .v (.int .u8 0), .v (.int .u8 0), .v (.int .u8 0), .v (.int .u8 0), .v (.int .u8 0), .v (.int .u8 0), .v (.int .u8 0), .v (.int .u8 0), .v (.int .u8 0)], [], false, none, (some 193), 4, [], false, [16]⟩),
  (198, ⟨false, 1, 8, [.v (.pointer none)], [], false, none, none, 8, [], false, [5]⟩),
  (199, ⟨false, 1, 8, [.v (.pointer none)], [], false, none, none, 8, [], false, [201]⟩),
  (200, ⟨true, 1, 16, [.str []], [(0, 1)], false, none, none, 6, [], false, []⟩),
  (201, ⟨true, 1, 16, [.str []], [(0, 1)], false, none, none, 6, [], false, []⟩),
  (202, ⟨true, 32, 32, [.v (.int .u8 0), .v (.int .u8 0), .v (.int .u8 0), .v (.int .u8 0), .v (.int .u8 0), .v (.int .u8 0), .v (.int .u8 0), .v (.int .u8 0), .v (.int .u8 0), .v (.int .u8 0), .v (.int .u8 0), .v (.int .u8 0), .v (.int .u8 0), .v (.int .u8 0), .v (.int .u8 0), .v (.int .u8 0), .v (.int .u8 0), .v (.int .u8 0), .v (.int .u8 0), .v (.int .u8 0), .v (.int .u8 0), .v (.int .u8 0), .v (.int .u8 0), .v (.int .u8 0), .v (.int .u8 0), .v (.int .u8 0), .v (.int .u8 0), .v (.int .u8 0), .v (.int .u8 0), .v (.int .u8 0), .v (.int .u8 0), .v (.int .u8 0)], [], false, none, (some 5), 4, [], false, [32]⟩),
  (204, ⟨true, 4, 40, [.v (.pointer none), .v (.pointer none), .v (.pointer none), .str []], [(0, 1), (1, 1), (2, 1), (3, 1)], false, none, none, 6, [], false, []⟩),
  (205, ⟨true, 4, 40, [.v (.pointer none), .v (.pointer none), .v (.pointer none), .str []], [(0, 1), (1, 1), (2, 1), (3, 1)], false, none, none, 6, [], false, []⟩),
  (206, ⟨true, 0, 0, [], [], false, none, (some 16), 4, [], false, [0]⟩),
  (207, ⟨true, 0, 0, [], [(0, 0)], false, none, none, 6, [], false, []⟩),
  (208, ⟨true, 0, 0, [], [(0, 0)], false, none, none, 6, [], false, []⟩),
  (211, ⟨false, 1, 1, [.v (.int .u8 0)], [], false, (some .u8), none, 5, [], false, []⟩),
  (213, ⟨false, 1, 4, [.v (.int .i32 0)], [], false, (some .i32), none, 5, [], false, []⟩),
  (214, ⟨false, 1, 4, [.v (.int .i32 0)], [], false, (some .i32), none, 5, [], false, []⟩),
  (219, ⟨true, 2, 24, [.str [], .v (.int .u8 0)], [(0, 1), (1, 1)], false, none, none, 6, [], false, []⟩),
  (220, ⟨true, 2, 24, [.str [], .v (.int .u8 0)], [(0, 1), (1, 1)], false, none, none, 6, [], false, []⟩),
  (221, ⟨false, 1, 8, [.v (.pointer none)], [], false, none, none, 8, [], false, [225]⟩),
  (223, ⟨false, 1, 2, [.v (.int .u16 0)], [], false, (some .u16), none, 5, [], false, []⟩),
  (224, ⟨true, 5, 16, [.v (.int .i32 0), .v (.int .u16 0), .v (.int .u16 0), .v (.int .u32 0), .v (.int .u32 0)], [(0, 1), (1, 1), (2, 1), (3, 1), (4, 1)], false, none, none, 6, [], false, []⟩),
  (225, ⟨true, 5, 16, [.v (.int .i32 0), .v (.int .u16 0), .v (.int .u16 0), .v (.int .u32 0), .v (.int .u32 0)], [(0, 1), (1, 1), (2, 1), (3, 1), (4, 1)], false, none, none, 6, [], false, []⟩),
  (226, ⟨false, 1, 24, [.v (.slice none 0 0)], [], false, none, (some 229), 3, [], false, []⟩),
  (227, ⟨false, 1, 4, [.v (.int .i32 0)], [], false, (some .i32), none, 5, [], false, []⟩),
  (228, ⟨true, 4, 16, [.v (.int .i32 0), .v (.int .i32 0), .v (.int .i32 0), .v (.int .i32 0)], [(0, 1), (1, 1), (2, 1), (3, 1)], false, none, none, 6, [], false, []⟩),
  (229, ⟨true, 4, 16, [.v (.int .i32 0), .v (.int .i32 0), .v (.int .i32 0), .v (.int .i32 0)], [(0, 1), (1, 1), (2, 1), (3, 1)], false, none, none, 6, [], false, []⟩),
  (230, ⟨false, 1, 8, [.v (.pointer none)], [], false, none, none, 8, [], false, [33]⟩)]
theorem fits : Fits Tryd.prog tt :=
  fits_cons fit2 (
  fits_cons fit3 (
  fits_cons fit4 (
  fits_cons fit5 (
  fits_cons fit6 (
  fits_cons fit7 (
  fits_cons fit8 (
  fits_cons fit9 (
  fits_cons fit10 (
  fits_cons fit11 (
  fits_cons fit12 (
  fits_cons fit13 (
  fits_cons fit14 (
  fits_cons fit15 (
  fits_cons fit16 (
  fits_cons fit17 (
  fits_cons fit18 (
  fits_cons fit19 (
  fits_cons fit20 (
  fits_cons fit21 (
  fits_cons fit22 (
  fits_cons fit23 (
  fits_cons fit24 (
  fits_cons fit25 (
  fits_cons fit26 (
  fits_cons fit27 (
  fits_cons fit32 (
  fits_cons fit33 (
  fits_cons fit37 (
  fits_cons fit57 (
  fits_cons fit58 (
  fits_cons fit72 (
  fits_cons fit77 (
  fits_cons fit83 (
  fits_cons fit91 (
  fits_cons fit92 (
  fits_cons fit93 (
  fits_cons fit94 (
  fits_cons fit95 (
  fits_cons fit105 (
  fits_cons fit107 (
  fits_cons fit111 (
  fits_cons fit112 (
  fits_cons fit113 (
  fits_cons fit114 (
  fits_cons fit115 (
  fits_cons fit117 (
  fits_cons fit118 (
  fits_cons fit120 (
  fits_cons fit137 (
  fits_cons fit139 (
  fits_cons fit140 (
  fits_cons fit141 (
  fits_cons fit142 (
  fits_cons fit146 (
  fits_cons fit149 (
  fits_cons fit151 (
  fits_cons fit152 (
  fits_cons fit154 (
  fits_cons fit159 (
  fits_cons fit171 (
  fits_cons fit174 (
  fits_cons fit179 (
  fits_cons fit187 (
  fits_cons fit188 (
  fits_cons fit192 (
  fits_cons fit193 (
  fits_cons fit194 (
  fits_cons fit198 (
  fits_cons fit199 (
  fits_cons fit200 (
  fits_cons fit201 (
  fits_cons fit202 (
  fits_cons fit204 (
  fits_cons fit205 (
  fits_cons fit206 (
  fits_cons fit207 (
  fits_cons fit208 (
  fits_cons fit211 (
  fits_cons fit213 (
  fits_cons fit214 (
  fits_cons fit219 (
  fits_cons fit220 (
  fits_cons fit221 (
  fits_cons fit223 (
  fits_cons fit224 (
  fits_cons fit225 (
  fits_cons fit226 (
  fits_cons fit227 (
  fits_cons fit228 (
  fits_cons fit229 (
  fits_cons fit230 (
  fits_nil))))))))))))))))))))))))))))))))))))))))))))))))))))))))))))))))))))))))))))))))))))))))))))
theorem mixed : Tryd.prog.follows .mixedOrders = true := by kernel_rfl
end Go.Proofs.YtbkhfmgdnnaaoaaDoor
