/- Proved: what the types of this translation are, as the reckoner wants it; that it is of mixed orders. No condition. -/
import Derived.Test.YtbkhfmgdnnaaoaaGreatDoorProg
import Derived.Test.YtbkhfmgdnnaaoaaGreatDoorEp
namespace Go.Proofs.YtbkhfmgdnnaaoaaGreatDoor
open Go.EYtbkhfmgdnnaaoaaGreatDoor
theorem fit2 : FitsOne Tryz.prog 2 ⟨false, 1, 8, [.v (.int .i64 0)], [], false, (some .i64), none, 5, [], false, []⟩ := ⟨by kernel_rfl, rfl, rfl, by kernel_rfl, (fun h => by cases h), by kernel_rfl⟩
theorem fit3 : FitsOne Tryz.prog 3 ⟨false, 1, 8, [.v (.int .i64 0)], [], false, (some .i64), none, 5, [], false, []⟩ := ⟨by kernel_rfl, rfl, rfl, by kernel_rfl, (fun h => by cases h), by kernel_rfl⟩
theorem fit4 : FitsOne Tryz.prog 4 ⟨false, 1, 1, [.v (.bool false)], [], false, none, none, 1, [], false, []⟩ := ⟨by kernel_rfl, rfl, rfl, by kernel_rfl, (fun h => by cases h), by kernel_rfl⟩
theorem fit5 : FitsOne Tryz.prog 5 ⟨false, 1, 1, [.v (.int .u8 0)], [], false, (some .u8), none, 5, [], false, []⟩ := ⟨by kernel_rfl, rfl, rfl, by kernel_rfl, (fun h => by cases h), by kernel_rfl⟩
theorem fit6 : FitsOne Tryz.prog 6 ⟨false, 1, 1, [.v (.int .u8 0)], [], false, (some .u8), none, 5, [], false, []⟩ := ⟨by kernel_rfl, rfl, rfl, by kernel_rfl, (fun h => by cases h), by kernel_rfl⟩
theorem fit7 : FitsOne Tryz.prog 7 ⟨true, 4, 24, [.v (.int .i64 0), .v (.int .i64 0), .v (.bool false), .v (.int .u8 0)], [(0, 1), (1, 1), (2, 1), (3, 1)], false, none, none, 6, [], false, []⟩ := ⟨by kernel_rfl, rfl, rfl, by kernel_rfl, (fun h => by cases h), by kernel_rfl⟩
theorem fit8 : FitsOne Tryz.prog 8 ⟨true, 4, 24, [.v (.int .i64 0), .v (.int .i64 0), .v (.bool false), .v (.int .u8 0)], [(0, 1), (1, 1), (2, 1), (3, 1)], false, none, none, 6, [], false, []⟩ := ⟨by kernel_rfl, rfl, rfl, by kernel_rfl, (fun h => by cases h), by kernel_rfl⟩
theorem fit9 : FitsOne Tryz.prog 9 ⟨false, 1, 16, [.str []], [], false, none, none, 2, [], false, []⟩ := ⟨by kernel_rfl, rfl, rfl, by kernel_rfl, (fun h => by cases h), by kernel_rfl⟩
theorem fit10 : FitsOne Tryz.prog 10 ⟨false, 1, 16, [.str []], [], false, none, none, 2, [], false, []⟩ := ⟨by kernel_rfl, rfl, rfl, by kernel_rfl, (fun h => by cases h), by kernel_rfl⟩
theorem fit11 : FitsOne Tryz.prog 11 ⟨false, 1, 16, [.str []], [], false, none, none, 2, [], false, []⟩ := ⟨by kernel_rfl, rfl, rfl, by kernel_rfl, (fun h => by cases h), by kernel_rfl⟩
theorem fit12 : FitsOne Tryz.prog 12 ⟨false, 1, 8, [.v (.int .u64 0)], [], false, (some .u64), none, 5, [], false, []⟩ := ⟨by kernel_rfl, rfl, rfl, by kernel_rfl, (fun h => by cases h), by kernel_rfl⟩
theorem fit13 : FitsOne Tryz.prog 13 ⟨true, 2, 24, [.str [], .v (.int .u64 0)], [(0, 1), (1, 1)], false, none, none, 6, [], false, []⟩ := ⟨by kernel_rfl, rfl, rfl, by kernel_rfl, (fun h => by cases h), by kernel_rfl⟩
theorem fit14 : FitsOne Tryz.prog 14 ⟨true, 2, 24, [.str [], .v (.int .u64 0)], [(0, 1), (1, 1)], false, none, none, 6, [], false, []⟩ := ⟨by kernel_rfl, rfl, rfl, by kernel_rfl, (fun h => by cases h), by kernel_rfl⟩
theorem fit15 : FitsOne Tryz.prog 15 ⟨false, 1, 8, [.v (.pointer none)], [], false, none, none, 8, [], false, [217]⟩ := ⟨by kernel_rfl, rfl, rfl, by kernel_rfl, (fun h => by cases h), by kernel_rfl⟩
theorem fit16 : FitsOne Tryz.prog 16 ⟨false, 1, 8, [.v (.pointer none)], [], false, none, none, 8, [], false, [220]⟩ := ⟨by kernel_rfl, rfl, rfl, by kernel_rfl, (fun h => by cases h), by kernel_rfl⟩
theorem fit17 : FitsOne Tryz.prog 17 ⟨false, 1, 8, [.v (.pointer none)], [], false, none, none, 8, [], false, [227]⟩ := ⟨by kernel_rfl, rfl, rfl, by kernel_rfl, (fun h => by cases h), by kernel_rfl⟩
theorem fit18 : FitsOne Tryz.prog 18 ⟨true, 1, 8, [.v (.pointer none)], [(0, 1)], false, none, none, 6, [], false, []⟩ := ⟨by kernel_rfl, rfl, rfl, by kernel_rfl, (fun h => by cases h), by kernel_rfl⟩
theorem fit19 : FitsOne Tryz.prog 19 ⟨true, 1, 8, [.v (.pointer none)], [(0, 1)], false, none, none, 6, [], false, []⟩ := ⟨by kernel_rfl, rfl, rfl, by kernel_rfl, (fun h => by cases h), by kernel_rfl⟩
theorem fit20 : FitsOne Tryz.prog 20 ⟨false, 1, 16, [.v .nilIface], [], true, none, none, 7, [], false, []⟩ := ⟨by kernel_rfl, rfl, rfl, by kernel_rfl, (fun h => by cases h), by kernel_rfl⟩
theorem fit21 : FitsOne Tryz.prog 21 ⟨false, 1, 4, [.v (.int .i32 0)], [], false, (some .i32), none, 5, [], false, []⟩ := ⟨by kernel_rfl, rfl, rfl, by kernel_rfl, (fun h => by cases h), by kernel_rfl⟩
theorem fit22 : FitsOne Tryz.prog 22 ⟨true, 3, 32, [.v (.int .i64 0), .v (.int .i64 0), .str []], [(0, 1), (1, 1), (2, 1)], false, none, none, 6, [], false, []⟩ := ⟨by kernel_rfl, rfl, rfl, by kernel_rfl, (fun h => by cases h), by kernel_rfl⟩
theorem fit23 : FitsOne Tryz.prog 23 ⟨true, 3, 32, [.v (.int .i64 0), .v (.int .i64 0), .str []], [(0, 1), (1, 1), (2, 1)], false, none, none, 6, [3, 3, 9], true, []⟩ := ⟨by kernel_rfl, rfl, rfl, by kernel_rfl, fun _ => ⟨by kernel_rfl, rfl, by kernel_rfl, by kernel_rfl, rfl⟩, by kernel_rfl⟩
theorem fit30 : FitsOne Tryz.prog 30 ⟨false, 1, 16, [.v .nilIface], [], true, none, none, 7, [], false, []⟩ := ⟨by kernel_rfl, rfl, rfl, by kernel_rfl, (fun h => by cases h), by kernel_rfl⟩
theorem fit31 : FitsOne Tryz.prog 31 ⟨false, 1, 16, [.v .nilIface], [], true, none, none, 7, [], false, []⟩ := ⟨by kernel_rfl, rfl, rfl, by kernel_rfl, (fun h => by cases h), by kernel_rfl⟩
theorem fit36 : FitsOne Tryz.prog 36 ⟨true, 2, 16, [.v (.int .i64 0), .v (.int .i64 0)], [(0, 1), (1, 1)], false, none, none, 6, [], false, []⟩ := ⟨by kernel_rfl, rfl, rfl, by kernel_rfl, (fun h => by cases h), by kernel_rfl⟩
theorem fit37 : FitsOne Tryz.prog 37 ⟨true, 2, 16, [.v (.int .i64 0), .v (.int .i64 0)], [(0, 1), (1, 1)], false, none, none, 6, [3, 3], true, []⟩ := ⟨by kernel_rfl, rfl, rfl, by kernel_rfl, fun _ => ⟨by kernel_rfl, rfl, by kernel_rfl, by kernel_rfl, rfl⟩, by kernel_rfl⟩
theorem fit38 : FitsOne Tryz.prog 38 ⟨true, 4, 24, [.v (.int .i64 0), .v (.int .i64 0), .v (.bool false), .v (.bool false)], [(0, 2), (2, 1), (3, 1)], false, none, none, 6, [], false, []⟩ := ⟨by kernel_rfl, rfl, rfl, by kernel_rfl, (fun h => by cases h), by kernel_rfl⟩
theorem fit39 : FitsOne Tryz.prog 39 ⟨true, 4, 24, [.v (.int .i64 0), .v (.int .i64 0), .v (.bool false), .v (.bool false)], [(0, 2), (2, 1), (3, 1)], false, none, none, 6, [37, 4, 4], true, []⟩ := ⟨by kernel_rfl, rfl, rfl, by kernel_rfl, fun _ => ⟨by kernel_rfl, rfl, by kernel_rfl, by kernel_rfl, rfl⟩, by kernel_rfl⟩
theorem fit40 : FitsOne Tryz.prog 40 ⟨false, 1, 24, [.v (.slice none 0 0)], [], false, none, (some 42), 3, [], false, []⟩ := ⟨by kernel_rfl, rfl, rfl, by kernel_rfl, (fun h => by cases h), by kernel_rfl⟩
theorem fit41 : FitsOne Tryz.prog 41 ⟨true, 12, 104, [.v (.int .i64 0), .v (.int .i64 0), .str [], .v (.int .i64 0), .v (.int .i64 0), .v (.bool false), .v (.bool false), .v (.int .i64 0), .v (.int .i64 0), .v (.bool false), .v (.bool false), .v (.slice none 0 0)], [(0, 1), (1, 1), (2, 1), (3, 4), (7, 4), (11, 1)], false, none, none, 6, [], false, []⟩ := ⟨by kernel_rfl, rfl, rfl, by kernel_rfl, (fun h => by cases h), by kernel_rfl⟩
theorem fit42 : FitsOne Tryz.prog 42 ⟨true, 12, 104, [.v (.int .i64 0), .v (.int .i64 0), .str [], .v (.int .i64 0), .v (.int .i64 0), .v (.bool false), .v (.bool false), .v (.int .i64 0), .v (.int .i64 0), .v (.bool false), .v (.bool false), .v (.slice none 0 0)], [(0, 1), (1, 1), (2, 1), (3, 4), (7, 4), (11, 1)], false, none, none, 6, [], false, []⟩ := ⟨by kernel_rfl, rfl, rfl, by kernel_rfl, (fun h => by cases h), by kernel_rfl⟩
theorem fit55 : FitsOne Tryz.prog 55 ⟨false, 1, 8, [.v (.pointer none)], [], false, none, none, 8, [], false, [59]⟩ := ⟨by kernel_rfl, rfl, rfl, by kernel_rfl, (fun h => by cases h), by kernel_rfl⟩
theorem fit57 : FitsOne Tryz.prog 57 ⟨false, 1, 24, [.v (.slice none 0 0)], [], false, none, (some 123), 3, [], false, []⟩ := ⟨by kernel_rfl, rfl, rfl, by kernel_rfl, (fun h => by cases h), by kernel_rfl⟩
theorem fit58 : FitsOne Tryz.prog 58 ⟨true, 2, 32, [.v (.bool false), .v (.slice none 0 0)], [(0, 1), (1, 1)], false, none, none, 6, [], false, []⟩ := ⟨by kernel_rfl, rfl, rfl, by kernel_rfl, (fun h => by cases h), by kernel_rfl⟩
theorem fit59 : FitsOne Tryz.prog 59 ⟨true, 2, 32, [.v (.bool false), .v (.slice none 0 0)], [(0, 1), (1, 1)], false, none, none, 6, [], false, []⟩ := ⟨by kernel_rfl, rfl, rfl, by kernel_rfl, (fun h => by cases h), by kernel_rfl⟩
theorem fit64 : FitsOne Tryz.prog 64 ⟨false, 1, 8, [.v (.int .i64 0)], [], false, (some .i64), none, 5, [], false, []⟩ := ⟨by kernel_rfl, rfl, rfl, by kernel_rfl, (fun h => by cases h), by kernel_rfl⟩
theorem fit67 : FitsOne Tryz.prog 67 ⟨true, 7, 112, [.str [], .str [], .str [], .str [], .str [], .str [], .str []], [], false, none, (some 9), 4, [], false, [7]⟩ := ⟨by kernel_rfl, rfl, rfl, by kernel_rfl, (fun h => by cases h), by kernel_rfl⟩
theorem fit72 : FitsOne Tryz.prog 72 ⟨false, 1, 24, [.v (.slice none 0 0)], [], false, none, (some 9), 3, [], false, []⟩ := ⟨by kernel_rfl, rfl, rfl, by kernel_rfl, (fun h => by cases h), by kernel_rfl⟩
theorem fit74 : FitsOne Tryz.prog 74 ⟨false, 1, 8, [.v (.pointer none)], [], false, none, none, 8, [], false, [76]⟩ := ⟨by kernel_rfl, rfl, rfl, by kernel_rfl, (fun h => by cases h), by kernel_rfl⟩
theorem fit75 : FitsOne Tryz.prog 75 ⟨true, 5, 48, [.str [], .v (.int .i64 0), .v (.int .i64 0), .v (.int .i64 0), .v (.int .i64 0)], [(0, 1), (1, 1), (2, 1), (3, 1), (4, 1)], false, none, none, 6, [], false, []⟩ := ⟨by kernel_rfl, rfl, rfl, by kernel_rfl, (fun h => by cases h), by kernel_rfl⟩
theorem fit76 : FitsOne Tryz.prog 76 ⟨true, 5, 48, [.str [], .v (.int .i64 0), .v (.int .i64 0), .v (.int .i64 0), .v (.int .i64 0)], [(0, 1), (1, 1), (2, 1), (3, 1), (4, 1)], false, none, none, 6, [9, 3, 3, 3, 3], true, []⟩ := ⟨by kernel_rfl, rfl, rfl, by kernel_rfl, fun _ => ⟨by kernel_rfl, rfl, by kernel_rfl, by kernel_rfl, rfl⟩, by kernel_rfl⟩
theorem fit78 : FitsOne Tryz.prog 78 ⟨true, 4, 40, [.v (.int .i64 0), .v (.int .i64 0), .v (.int .i64 0), .str []], [(0, 1), (1, 1), (2, 1), (3, 1)], false, none, none, 6, [], false, []⟩ := ⟨by kernel_rfl, rfl, rfl, by kernel_rfl, (fun h => by cases h), by kernel_rfl⟩
theorem fit79 : FitsOne Tryz.prog 79 ⟨true, 4, 40, [.v (.int .i64 0), .v (.int .i64 0), .v (.int .i64 0), .str []], [(0, 1), (1, 1), (2, 1), (3, 1)], false, none, none, 6, [3, 3, 3, 9], true, []⟩ := ⟨by kernel_rfl, rfl, rfl, by kernel_rfl, fun _ => ⟨by kernel_rfl, rfl, by kernel_rfl, by kernel_rfl, rfl⟩, by kernel_rfl⟩
theorem fit82 : FitsOne Tryz.prog 82 ⟨true, 2, 24, [.v (.int .i64 0), .v .nilIface], [(0, 1), (1, 1)], false, none, none, 6, [], false, []⟩ := ⟨by kernel_rfl, rfl, rfl, by kernel_rfl, (fun h => by cases h), by kernel_rfl⟩
theorem fit83 : FitsOne Tryz.prog 83 ⟨true, 2, 24, [.v (.int .i64 0), .v .nilIface], [(0, 1), (1, 1)], false, none, none, 6, [], false, []⟩ := ⟨by kernel_rfl, rfl, rfl, by kernel_rfl, (fun h => by cases h), by kernel_rfl⟩
theorem fit85 : FitsOne Tryz.prog 85 ⟨false, 1, 8, [.v (.pointer none)], [], false, none, none, 8, [], false, [87]⟩ := ⟨by kernel_rfl, rfl, rfl, by kernel_rfl, (fun h => by cases h), by kernel_rfl⟩
theorem fit86 : FitsOne Tryz.prog 86 ⟨true, 3, 32, [.str [], .v (.int .i64 0), .v (.int .i64 0)], [(0, 1), (1, 1), (2, 1)], false, none, none, 6, [], false, []⟩ := ⟨by kernel_rfl, rfl, rfl, by kernel_rfl, (fun h => by cases h), by kernel_rfl⟩
theorem fit87 : FitsOne Tryz.prog 87 ⟨true, 3, 32, [.str [], .v (.int .i64 0), .v (.int .i64 0)], [(0, 1), (1, 1), (2, 1)], false, none, none, 6, [9, 3, 3], true, []⟩ := ⟨by kernel_rfl, rfl, rfl, by kernel_rfl, fun _ => ⟨by kernel_rfl, rfl, by kernel_rfl, by kernel_rfl, rfl⟩, by kernel_rfl⟩
theorem fit90 : FitsOne Tryz.prog 90 ⟨false, 1, 24, [.v (.slice none 0 0)], [], false, none, (some 3), 3, [], false, []⟩ := ⟨by kernel_rfl, rfl, rfl, by kernel_rfl, (fun h => by cases h), by kernel_rfl⟩
theorem fit92 : FitsOne Tryz.prog 92 ⟨false, 1, 8, [.v (.int .u64 0)], [], false, (some .u64), none, 5, [], false, []⟩ := ⟨by kernel_rfl, rfl, rfl, by kernel_rfl, (fun h => by cases h), by kernel_rfl⟩
theorem fit104 : FitsOne Tryz.prog 104 ⟨false, 1, 8, [.v (.pointer none)], [], false, none, none, 8, [], false, [64]⟩ := ⟨by kernel_rfl, rfl, rfl, by kernel_rfl, (fun h => by cases h), by kernel_rfl⟩
theorem fit114 : FitsOne Tryz.prog 114 ⟨false, 1, 24, [.v (.slice none 0 0)], [], false, none, (some 5), 3, [], false, []⟩ := ⟨by kernel_rfl, rfl, rfl, by kernel_rfl, (fun h => by cases h), by kernel_rfl⟩
theorem fit115 : FitsOne Tryz.prog 115 ⟨true, 4, 96, [.v (.slice none 0 0), .v (.slice none 0 0), .v (.slice none 0 0), .v (.slice none 0 0)], [], false, none, (some 72), 4, [], false, [4]⟩ := ⟨by kernel_rfl, rfl, rfl, by kernel_rfl, (fun h => by cases h), by kernel_rfl⟩
theorem fit116 : FitsOne Tryz.prog 116 ⟨false, 1, 8, [.v (.int .u64 0)], [], false, (some .u64), none, 5, [], false, []⟩ := ⟨by kernel_rfl, rfl, rfl, by kernel_rfl, (fun h => by cases h), by kernel_rfl⟩
theorem fit123 : FitsOne Tryz.prog 123 ⟨false, 1, 4, [.v (.int .u32 0)], [], false, (some .u32), none, 5, [], false, []⟩ := ⟨by kernel_rfl, rfl, rfl, by kernel_rfl, (fun h => by cases h), by kernel_rfl⟩
theorem fit124 : FitsOne Tryz.prog 124 ⟨false, 1, 8, [.v (.pointer none)], [], false, none, none, 0, [], false, []⟩ := ⟨by kernel_rfl, rfl, rfl, by kernel_rfl, (fun h => by cases h), by kernel_rfl⟩
theorem fit125 : FitsOne Tryz.prog 125 ⟨false, 1, 8, [.v (.int .u64 0)], [], false, (some .u64), none, 5, [], false, []⟩ := ⟨by kernel_rfl, rfl, rfl, by kernel_rfl, (fun h => by cases h), by kernel_rfl⟩
theorem fit126 : FitsOne Tryz.prog 126 ⟨true, 3, 24, [.v (.pointer none), .v (.pointer none), .v (.int .u64 0)], [(0, 1), (1, 1), (2, 1)], false, none, none, 6, [], false, []⟩ := ⟨by kernel_rfl, rfl, rfl, by kernel_rfl, (fun h => by cases h), by kernel_rfl⟩
theorem fit127 : FitsOne Tryz.prog 127 ⟨true, 3, 24, [.v (.pointer none), .v (.pointer none), .v (.int .u64 0)], [(0, 1), (1, 1), (2, 1)], false, none, none, 6, [], false, []⟩ := ⟨by kernel_rfl, rfl, rfl, by kernel_rfl, (fun h => by cases h), by kernel_rfl⟩
theorem fit129 : FitsOne Tryz.prog 129 ⟨false, 1, 16, [.v .nilIface], [], true, none, none, 7, [], false, []⟩ := ⟨by kernel_rfl, rfl, rfl, by kernel_rfl, (fun h => by cases h), by kernel_rfl⟩
theorem fit130 : FitsOne Tryz.prog 130 ⟨false, 1, 16, [.v .nilIface], [], true, none, none, 7, [], false, []⟩ := ⟨by kernel_rfl, rfl, rfl, by kernel_rfl, (fun h => by cases h), by kernel_rfl⟩
theorem fit132 : FitsOne Tryz.prog 132 ⟨false, 1, 1, [.v (.int .u8 0)], [], false, (some .u8), none, 5, [], false, []⟩ := ⟨by kernel_rfl, rfl, rfl, by kernel_rfl, (fun h => by cases h), by kernel_rfl⟩
theorem fit143 : FitsOne Tryz.prog 143 ⟨false, 1, 8, [.v (.pointer none)], [], false, none, none, 8, [], false, [139]⟩ := ⟨by kernel_rfl, rfl, rfl, by kernel_rfl, (fun h => by cases h), by kernel_rfl⟩
theorem fit157 : FitsOne Tryz.prog 157 ⟨true, 1, 8, [.v (.pointer none)], [(0, 1)], false, none, none, 6, [], false, []⟩ := ⟨by kernel_rfl, rfl, rfl, by kernel_rfl, (fun h => by cases h), by kernel_rfl⟩
theorem fit158 : FitsOne Tryz.prog 158 ⟨true, 1, 8, [.v (.pointer none)], [(0, 1)], false, none, none, 6, [], false, []⟩ := ⟨by kernel_rfl, rfl, rfl, by kernel_rfl, (fun h => by cases h), by kernel_rfl⟩
theorem fit159 : FitsOne Tryz.prog 159 ⟨false, 1, 8, [.v (.pointer none)], [], false, none, none, 8, [], false, [231]⟩ := ⟨by kernel_rfl, rfl, rfl, by kernel_rfl, (fun h => by cases h), by kernel_rfl⟩
theorem fit163 : FitsOne Tryz.prog 163 ⟨false, 1, 16, [.v .nilIface], [], true, none, none, 7, [], false, []⟩ := ⟨by kernel_rfl, rfl, rfl, by kernel_rfl, (fun h => by cases h), by kernel_rfl⟩
theorem fit166 : FitsOne Tryz.prog 166 ⟨false, 1, 16, [.v .nilIface], [], true, none, none, 7, [], false, []⟩ := ⟨by kernel_rfl, rfl, rfl, by kernel_rfl, (fun h => by cases h), by kernel_rfl⟩
theorem fit168 : FitsOne Tryz.prog 168 ⟨false, 1, 16, [.v .nilIface], [], true, none, none, 7, [], false, []⟩ := ⟨by kernel_rfl, rfl, rfl, by kernel_rfl, (fun h => by cases h), by kernel_rfl⟩
theorem fit169 : FitsOne Tryz.prog 169 ⟨false, 1, 24, [.v (.slice none 0 0)], [], false, none, (some 31), 3, [], false, []⟩ := ⟨by kernel_rfl, rfl, rfl, by kernel_rfl, (fun h => by cases h), by kernel_rfl⟩
theorem fit171 : FitsOne Tryz.prog 171 ⟨true, 24, 24, [.v (.int .u8 0), .v (.int .u8 0), .v (.int .u8 0), .v (.int .u8 0), .v (.int .u8 0), .v (.int .u8 0), .v (.int .u8 0), .v (.int .u8 0), .v (.int .u8 0), .v (.int .u8 0), .v (.int .u8 0), .v (.int .u8 0), .v (.int .u8 0), .v (.int .u8 0), .v (.int .u8 0), .v (.int .u8 0), .v (.int .u8 0), .v (.int .u8 0), .v (.int .u8 0), .v (.int .u8 0), .v (.int .u8 0), .v (.int .u8 0), .v (.int .u8 0), .v (.int .u8 0)], [], false, none, (some 5), 4, [], false, [24]⟩ := ⟨by kernel_rfl, rfl, rfl, by kernel_rfl, (fun h => by cases h), by kernel_rfl⟩
theorem fit179 : FitsOne Tryz.prog 179 ⟨false, 1, 8, [.v (.int .i64 0)], [], false, (some .i64), none, 5, [], false, []⟩ := ⟨by kernel_rfl, rfl, rfl, by kernel_rfl, (fun h => by cases h), by kernel_rfl⟩
theorem fit182 : FitsOne Tryz.prog 182 ⟨false, 1, 8, [.v (.pointer none)], [], false, none, none, 8, [], false, [198]⟩ := ⟨by kernel_rfl, rfl, rfl, by kernel_rfl, (fun h => by cases h), by kernel_rfl⟩
theorem fit190 : FitsOne Tryz.prog 190 ⟨true, 20, 160, [.v (.int .u64 0), .v (.int .u64 0), .v (.int .u64 0), .v (.int .u64 0), .v (.int .u64 0), .v (.int .u64 0), .v (.int .u64 0), .v (.int .u64 0), .v (.int .u64 0), .v (.int .u64 0), .v (.int .u64 0), .v (.int .u64 0), .v (.int .u64 0), .v (.int .u64 0), .v (.int .u64 0), .v (.int .u64 0), .v (.int .u64 0), .v (.int .u64 0), .v (.int .u64 0), .v (.int .u64 0)], [], false, none, (some 92), 4, [], false, [20]⟩ := ⟨by kernel_rfl, rfl, rfl, by kernel_rfl, (fun h => by cases h), by kernel_rfl⟩
theorem fit197 : FitsOne Tryz.prog 197 ⟨true, 3, 48, [.str [], .str [], .v .nilIface], [(0, 1), (1, 1), (2, 1)], false, none, none, 6, [], false, []⟩ := ⟨by kernel_rfl, rfl, rfl, by kernel_rfl, (fun h => by cases h), by kernel_rfl⟩
theorem fit198 : FitsOne Tryz.prog 198 ⟨true, 3, 48, [.str [], .str [], .v .nilIface], [(0, 1), (1, 1), (2, 1)], false, none, none, 6, [], false, []⟩ := ⟨by kernel_rfl, rfl, rfl, by kernel_rfl, (fun h => by cases h), by kernel_rfl⟩
theorem fit204 : FitsOne Tryz.prog 204 ⟨true, 2, 2, [.v (.int .u8 0), .v (.int .u8 0)], [(0, 1), (1, 1)], false, none, none, 6, [], false, []⟩ := ⟨by kernel_rfl, rfl, rfl, by kernel_rfl, (fun h => by cases h), by kernel_rfl⟩
theorem fit205 : FitsOne Tryz.prog 205 ⟨true, 2, 2, [.v (.int .u8 0), .v (.int .u8 0)], [(0, 1), (1, 1)], false, none, none, 6, [], false, []⟩ := ⟨by kernel_rfl, rfl, rfl, by kernel_rfl, (fun h => by cases h), by kernel_rfl⟩
theorem fit206 : FitsOne Tryz.prog 206 ⟨true, 32, 32, [.v (.int .u8 0), .v (.int .u8 0), .v (.int .u8 0), .v (.int .u8 0), .v (.int .u8 0), .v (.int .u8 0), .v (.int .u8 0), .v (.int .u8 0), .v (.int .u8 0), .v (.int .u8 0), .v (.int .u8 0), .v (.int .u8 0), .v (.int .u8 0), .v (.int .u8 0), .v (.int .u8 0), .v (.int .u8 0), .v (.int .u8 0), .v (.int .u8 0), .v (.int .u8 0), .v (.int .u8 0), .v (.int .u8 0), .v (.int .u8 0), .v (.int .u8 0), .v (.int .u8 0), .v (.int .u8 0), .v (.int .u8 0), .v (.int .u8 0), .v (.int .u8 0), .v (.int .u8 0), .v (.int .u8 0), .v (.int .u8 0), .v (.int .u8 0)], [], false, none, (some 205), 4, [], false, [16]⟩ := ⟨by kernel_rfl, rfl, rfl, by kernel_rfl, (fun h => by cases h), by kernel_rfl⟩
theorem fit210 : FitsOne Tryz.prog 210 ⟨false, 1, 8, [.v (.pointer none)], [], false, none, none, 8, [], false, [5]⟩ := ⟨by kernel_rfl, rfl, rfl, by kernel_rfl, (fun h => by cases h), by kernel_rfl⟩
theorem fit211 : FitsOne Tryz.prog 211 ⟨false, 1, 8, [.v (.pointer none)], [], false, none, none, 8, [], false, [213]⟩ := ⟨by kernel_rfl, rfl, rfl, by kernel_rfl, (fun h => by cases h), by kernel_rfl⟩
theorem fit212 : FitsOne Tryz.prog 212 ⟨true, 1, 16, [.str []], [(0, 1)], false, none, none, 6, [], false, []⟩ := ⟨by kernel_rfl, rfl, rfl, by kernel_rfl, (fun h => by cases h), by kernel_rfl⟩
theorem fit213 : FitsOne Tryz.prog 213 ⟨true, 1, 16, [.str []], [(0, 1)], false, none, none, 6, [], false, []⟩ := ⟨by kernel_rfl, rfl, rfl, by kernel_rfl, (fun h => by cases h), by kernel_rfl⟩
theorem fit214 : FitsOne Tryz.prog 214 ⟨true, 32, 32, [.v (.int .u8 0), .v (.int .u8 0), .v (.int .u8 0), .v (.int .u8 0), .v (.int .u8 0), .v (.int .u8 0), .v (.int .u8 0), .v (.int .u8 0), .v (.int .u8 0), .v (.int .u8 0), .v (.int .u8 0), .v (.int .u8 0), .v (.int .u8 0), .v (.int .u8 0), .v (.int .u8 0), .v (.int .u8 0), .v (.int .u8 0), .v (.int .u8 0), .v (.int .u8 0), .v (.int .u8 0), .v (.int .u8 0), .v (.int .u8 0), .v (.int .u8 0), .v (.int .u8 0), .v (.int .u8 0), .v (.int .u8 0), .v (.int .u8 0), .v (.int .u8 0), .v (.int .u8 0), .v (.int .u8 0), .v (.int .u8 0), .v (.int .u8 0)], [], false, none, (some 5), 4, [], false, [32]⟩ := ⟨by kernel_rfl, rfl, rfl, by kernel_rfl, (fun h => by cases h), by kernel_rfl⟩
theorem fit216 : FitsOne Tryz.prog 216 ⟨true, 4, 40, [.v (.pointer none), .v (.pointer none), .v (.pointer none), .str []], [(0, 1), (1, 1), (2, 1), (3, 1)], false, none, none, 6, [], false, []⟩ := ⟨by kernel_rfl, rfl, rfl, by kernel_rfl, (fun h => by cases h), by kernel_rfl⟩
theorem fit217 : FitsOne Tryz.prog 217 ⟨true, 4, 40, [.v (.pointer none), .v (.pointer none), .v (.pointer none), .str []], [(0, 1), (1, 1), (2, 1), (3, 1)], false, none, none, 6, [], false, []⟩ := ⟨by kernel_rfl, rfl, rfl, by kernel_rfl, (fun h => by cases h), by kernel_rfl⟩
theorem fit218 : FitsOne Tryz.prog 218 ⟨true, 0, 0, [], [], false, none, (some 16), 4, [], false, [0]⟩ := ⟨by kernel_rfl, rfl, rfl, by kernel_rfl, (fun h => by cases h), by kernel_rfl⟩
theorem fit219 : FitsOne Tryz.prog 219 ⟨true, 0, 0, [], [(0, 0)], false, none, none, 6, [], false, []⟩ := ⟨by kernel_rfl, rfl, rfl, by kernel_rfl, (fun h => by cases h), by kernel_rfl⟩
theorem fit220 : FitsOne Tryz.prog 220 ⟨true, 0, 0, [], [(0, 0)], false, none, none, 6, [], false, []⟩ := ⟨by kernel_rfl, rfl, rfl, by kernel_rfl, (fun h => by cases h), by kernel_rfl⟩
theorem fit222 : FitsOne Tryz.prog 222 ⟨false, 1, 1, [.v (.int .u8 0)], [], false, (some .u8), none, 5, [], false, []⟩ := ⟨by kernel_rfl, rfl, rfl, by kernel_rfl, (fun h => by cases h), by kernel_rfl⟩
theorem fit224 : FitsOne Tryz.prog 224 ⟨false, 1, 4, [.v (.int .i32 0)], [], false, (some .i32), none, 5, [], false, []⟩ := ⟨by kernel_rfl, rfl, rfl, by kernel_rfl, (fun h => by cases h), by kernel_rfl⟩
theorem fit225 : FitsOne Tryz.prog 225 ⟨false, 1, 4, [.v (.int .i32 0)], [], false, (some .i32), none, 5, [], false, []⟩ := ⟨by kernel_rfl, rfl, rfl, by kernel_rfl, (fun h => by cases h), by kernel_rfl⟩
theorem fit230 : FitsOne Tryz.prog 230 ⟨true, 2, 24, [.str [], .v (.int .u8 0)], [(0, 1), (1, 1)], false, none, none, 6, [], false, []⟩ := ⟨by kernel_rfl, rfl, rfl, by kernel_rfl, (fun h => by cases h), by kernel_rfl⟩
theorem fit231 : FitsOne Tryz.prog 231 ⟨true, 2, 24, [.str [], .v (.int .u8 0)], [(0, 1), (1, 1)], false, none, none, 6, [], false, []⟩ := ⟨by kernel_rfl, rfl, rfl, by kernel_rfl, (fun h => by cases h), by kernel_rfl⟩
theorem fit232 : FitsOne Tryz.prog 232 ⟨false, 1, 8, [.v (.pointer none)], [], false, none, none, 8, [], false, [236]⟩ := ⟨by kernel_rfl, rfl, rfl, by kernel_rfl, (fun h => by cases h), by kernel_rfl⟩
theorem fit234 : FitsOne Tryz.prog 234 ⟨false, 1, 2, [.v (.int .u16 0)], [], false, (some .u16), none, 5, [], false, []⟩ := ⟨by kernel_rfl, rfl, rfl, by kernel_rfl, (fun h => by cases h), by kernel_rfl⟩
theorem fit235 : FitsOne Tryz.prog 235 ⟨true, 5, 16, [.v (.int .i32 0), .v (.int .u16 0), .v (.int .u16 0), .v (.int .u32 0), .v (.int .u32 0)], [(0, 1), (1, 1), (2, 1), (3, 1), (4, 1)], false, none, none, 6, [], false, []⟩ := ⟨by kernel_rfl, rfl, rfl, by kernel_rfl, (fun h => by cases h), by kernel_rfl⟩
theorem fit236 : FitsOne Tryz.prog 236 ⟨true, 5, 16, [.v (.int .i32 0), .v (.int .u16 0), .v (.int .u16 0), .v (.int .u32 0), .v (.int .u32 0)], [(0, 1), (1, 1), (2, 1), (3, 1), (4, 1)], false, none, none, 6, [], false, []⟩ := ⟨by kernel_rfl, rfl, rfl, by kernel_rfl, (fun h => by cases h), by kernel_rfl⟩
theorem fit237 : FitsOne Tryz.prog 237 ⟨false, 1, 24, [.v (.slice none 0 0)], [], false, none, (some 240), 3, [], false, []⟩ := ⟨by kernel_rfl, rfl, rfl, by kernel_rfl, (fun h => by cases h), by kernel_rfl⟩
theorem fit238 : FitsOne Tryz.prog 238 ⟨false, 1, 4, [.v (.int .i32 0)], [], false, (some .i32), none, 5, [], false, []⟩ := ⟨by kernel_rfl, rfl, rfl, by kernel_rfl, (fun h => by cases h), by kernel_rfl⟩
theorem fit239 : FitsOne Tryz.prog 239 ⟨true, 4, 16, [.v (.int .i32 0), .v (.int .i32 0), .v (.int .i32 0), .v (.int .i32 0)], [(0, 1), (1, 1), (2, 1), (3, 1)], false, none, none, 6, [], false, []⟩ := ⟨by kernel_rfl, rfl, rfl, by kernel_rfl, (fun h => by cases h), by kernel_rfl⟩
theorem fit240 : FitsOne Tryz.prog 240 ⟨true, 4, 16, [.v (.int .i32 0), .v (.int .i32 0), .v (.int .i32 0), .v (.int .i32 0)], [(0, 1), (1, 1), (2, 1), (3, 1)], false, none, none, 6, [], false, []⟩ := ⟨by kernel_rfl, rfl, rfl, by kernel_rfl, (fun h => by cases h), by kernel_rfl⟩
theorem fit241 : FitsOne Tryz.prog 241 ⟨false, 1, 8, [.v (.pointer none)], [], false, none, none, 8, [], false, [31]⟩ := ⟨by kernel_rfl, rfl, rfl, by kernel_rfl, (fun h => by cases h), by kernel_rfl⟩
def tt : List (Nat × TI) := [
  (2, ⟨false, 1, 8, [.v (.int .i64 0)], [], false, (some .i64), none, 5, [], false, []⟩),
  (3, ⟨false, 1, 8, [.v (.int .i64 0)], [], false, (some .i64), none, 5, [], false, []⟩),
  (4, ⟨false, 1, 1, [.v (.bool false)], [], false, none, none, 1, [], false, []⟩),
  (5, ⟨false, 1, 1, [.v (.int .u8 0)], [], false, (some .u8), none, 5, [], false, []⟩),
  (6, ⟨false, 1, 1, [.v (.int .u8 0)], [], false, (some .u8), none, 5, [], false, []⟩),
  (7, ⟨true, 4, 24, [.v (.int .i64 0), .v (.int .i64 0), .v (.bool false), .v (.int .u8 0)], [(0, 1), (1, 1), (2, 1), (3, 1)], false, none, none, 6, [], false, []⟩),
  (8, ⟨true, 4, 24, [.v (.int .i64 0), .v (.int .i64 0), .v (.bool false), .v (.int .u8 0)], [(0, 1), (1, 1), (2, 1), (3, 1)], false, none, none, 6, [], false, []⟩),
  (9, ⟨false, 1, 16, [.str []], [], false, none, none, 2, [], false, []⟩),
  (10, ⟨false, 1, 16, [.str []], [], false, none, none, 2, [], false, []⟩),
  (11, ⟨false, 1, 16, [.str []], [], false, none, none, 2, [], false, []⟩),
  (12, ⟨false, 1, 8, [.v (.int .u64 0)], [], false, (some .u64), none, 5, [], false, []⟩),
  (13, ⟨true, 2, 24, [.str [], .v (.int .u64 0)], [(0, 1), (1, 1)], false, none, none, 6, [], false, []⟩),
  (14, ⟨true, 2, 24, [.str [], .v (.int .u64 0)], [(0, 1), (1, 1)], false, none, none, 6, [], false, []⟩),
  (15, ⟨false, 1, 8, [.v (.pointer none)], [], false, none, none, 8, [], false, [217]⟩),
  (16, ⟨false, 1, 8, [.v (.pointer none)], [], false, none, none, 8, [], false, [220]⟩),
  (17, ⟨false, 1, 8, [.v (.pointer none)], [], false, none, none, 8, [], false, [227]⟩),
  (18, ⟨true, 1, 8, [.v (.pointer none)], [(0, 1)], false, none, none, 6, [], false, []⟩),
  (19, ⟨true, 1, 8, [.v (.pointer none)], [(0, 1)], false, none, none, 6, [], false, []⟩),
  (20, ⟨false, 1, 16, [.v .nilIface], [], true, none, none, 7, [], false, []⟩),
  (21, ⟨false, 1, 4, [.v (.int .i32 0)], [], false, (some .i32), none, 5, [], false, []⟩),
  (22, ⟨true, 3, 32, [.v (.int .i64 0), .v (.int .i64 0), .str []], [(0, 1), (1, 1), (2, 1)], false, none, none, 6, [], false, []⟩),
  (23, ⟨true, 3, 32, [.v (.int .i64 0), .v (.int .i64 0), .str []], [(0, 1), (1, 1), (2, 1)], false, none, none, 6, [3, 3, 9], true, []⟩),
  (30, ⟨false, 1, 16, [.v .nilIface], [], true, none, none, 7, [], false, []⟩),
  (31, ⟨false, 1, 16, [.v .nilIface], [], true, none, none, 7, [], false, []⟩),
  (36, ⟨true, 2, 16, [.v (.int .i64 0), .v (.int .i64 0)], [(0, 1), (1, 1)], false, none, none, 6, [], false, []⟩),
  (37, ⟨true, 2, 16, [.v (.int .i64 0), .v (.int .i64 0)], [(0, 1), (1, 1)], false, none, none, 6, [3, 3], true, []⟩),
  (38, ⟨true, 4, 24, [.v (.int .i64 0), .v (.int .i64 0), .v (.bool false), .v (.bool false)], [(0, 2), (2, 1), (3, 1)], false, none, none, 6, [], false, []⟩),
  (39, ⟨true, 4, 24, [.v (.int .i64 0), .v (.int .i64 0), .v (.bool false), .v (.bool false)], [(0, 2), (2, 1), (3, 1)], false, none, none, 6, [37, 4, 4], true, []⟩),
  (40, ⟨false, 1, 24, [.v (.slice none 0 0)], [], false, none, (some 42), 3, [], false, []⟩),
  (41, ⟨true, 12, 104, [.v (.int .i64 0), .v (.int .i64 0), .str [], .v (.int .i64 0), .v (.int .i64 0), .v (.bool false), .v (.bool false), .v (.int .i64 0), .v (.int .i64 0), .v (.bool false), .v (.bool false), .v (.slice none 0 0)], [(0, 1), (1, 1), (2, 1), (3, 4), (7, 4), (11, 1)], false, none, none, 6, [], false, []⟩),
  (42, ⟨true, 12, 104, [.v (.int .i64 0), .v (.int .i64 0), .str [], .v (.int .i64 0), .v (.int .i64 0), .v (.bool false), .v (.bool false), .v (.int .i64 0), .v (.int .i64 0), .v (.bool false), .v (.bool false), .v (.slice none 0 0)], [(0, 1), (1, 1), (2, 1), (3, 4), (7, 4), (11, 1)], false, none, none, 6, [], false, []⟩),
  (55, ⟨false, 1, 8, [.v (.pointer none)], [], false, none, none, 8, [], false, [59]⟩),
  (57, ⟨false, 1, 24, [.v (.slice none 0 0)], [], false, none, (some 123), 3, [], false, []⟩),
  (58, ⟨true, 2, 32, [.v (.bool false), .v (.slice none 0 0)], [(0, 1), (1, 1)], false, none, none, 6, [], false, []⟩),
  (59, ⟨true, 2, 32, [.v (.bool false), .v (.slice none 0 0)], [(0, 1), (1, 1)], false, none, none, 6, [], false, []⟩),
  (64, ⟨false, 1, 8, [.v (.int .i64 0)], [], false, (some .i64), none, 5, [], false, []⟩),
  (67, ⟨true, 7, 112, [.str [], .str [], .str [], .str [], .str [], .str [], .str []], [], false, none, (some 9), 4, [], false, [7]⟩),
  (72, ⟨false, 1, 24, [.v (.slice none 0 0)], [], false, none, (some 9), 3, [], false, []⟩),
  (74, ⟨false, 1, 8, [.v (.pointer none)], [], false, none, none, 8, [], false, [76]⟩),
  (75, ⟨true, 5, 48, [.str [], .v (.int .i64 0), .v (.int .i64 0), .v (.int .i64 0), .v (.int .i64 0)], [(0, 1), (1, 1), (2, 1), (3, 1), (4, 1)], false, none, none, 6, [], false, []⟩),
  (76, ⟨true, 5, 48, [.str [], .v (.int .i64 0), .v (.int .i64 0), .v (.int .i64 0), .v (.int .i64 0)], [(0, 1), (1, 1), (2, 1), (3, 1), (4, 1)], false, none, none, 6, [9, 3, 3, 3, 3], true, []⟩),
  (78, ⟨true, 4, 40, [.v (.int .i64 0), .v (.int .i64 0), .v (.int .i64 0), .str []], [(0, 1), (1, 1), (2, 1), (3, 1)], false, none, none, 6, [], false, []⟩),
  (79, ⟨true, 4, 40, [.v (.int .i64 0), .v (.int .i64 0), .v (.int .i64 0), .str []], [(0, 1), (1, 1), (2, 1), (3, 1)], false, none, none, 6, [3, 3, 3, 9], true, []⟩),
  (82, ⟨true, 2, 24, [.v (.int .i64 0), .v .nilIface], [(0, 1), (1, 1)], false, none, none, 6, [], false, []⟩),
  (83, ⟨true, 2, 24, [.v (.int .i64 0), .v .nilIface], [(0, 1), (1, 1)], false, none, none, 6, [], false, []⟩),
  (85, ⟨false, 1, 8, [.v (.pointer none)], [], false, none, none, 8, [], false, [87]⟩),
  (86, ⟨true, 3, 32, [.str [], .v (.int .i64 0), .v (.int .i64 0)], [(0, 1), (1, 1), (2, 1)], false, none, none, 6, [], false, []⟩),
  (87, ⟨true, 3, 32, [.str [], .v (.int .i64 0), .v (.int .i64 0)], [(0, 1), (1, 1), (2, 1)], false, none, none, 6, [9, 3, 3], true, []⟩),
  (90, ⟨false, 1, 24, [.v (.slice none 0 0)], [], false, none, (some 3), 3, [], false, []⟩),
  (92, ⟨false, 1, 8, [.v (.int .u64 0)], [], false, (some .u64), none, 5, [], false, []⟩),
  (104, ⟨false, 1, 8, [.v (.pointer none)], [], false, none, none, 8, [], false, [64]⟩),
  (114, ⟨false, 1, 24, [.v (.slice none 0 0)], [], false, none, (some 5), 3, [], false, []⟩),
  (115, ⟨true, 4, 96, [.v (.slice none 0 0), .v (.slice none 0 0), .v (.slice none 0 0), .v (.slice none 0 0)], [], false, none, (some 72), 4, [], false, [4]⟩),
  (116, ⟨false, 1, 8, [.v (.int .u64 0)], [], false, (some .u64), none, 5, [], false, []⟩),
  (123, ⟨false, 1, 4, [.v (.int .u32 0)], [], false, (some .u32), none, 5, [], false, []⟩),
  (124, ⟨false, 1, 8, [.v (.pointer none)], [], false, none, none, 0, [], false, []⟩),
  (125, ⟨false, 1, 8, [.v (.int .u64 0)], [], false, (some .u64), none, 5, [], false, []⟩),
  (126, ⟨true, 3, 24, [.v (.pointer none), .v (.pointer none), .v (.int .u64 0)], [(0, 1), (1, 1), (2, 1)], false, none, none, 6, [], false, []⟩),
  (127, ⟨true, 3, 24, [.v (.pointer none), .v (.pointer none), .v (.int .u64 0)], [(0, 1), (1, 1), (2, 1)], false, none, none, 6, [], false, []⟩),
  (129, ⟨false, 1, 16, [.v .nilIface], [], true, none, none, 7, [], false, []⟩),
  (130, ⟨false, 1, 16, [.v .nilIface], [], true, none, none, 7, [], false, []⟩),
  (132, ⟨false, 1, 1, [.v (.int .u8 0)], [], false, (some .u8), none, 5, [], false, []⟩),
  (143, ⟨false, 1, 8, [.v (.pointer none)], [], false, none, none, 8, [], false, [139]⟩),
  (157, ⟨true, 1, 8, [.v (.pointer none)], [(0, 1)], false, none, none, 6, [], false, []⟩),
  (158, ⟨true, 1, 8, [.v (.pointer none)], [(0, 1)], false, none, none, 6, [], false, []⟩),
  (159, ⟨false, 1, 8, [.v (.pointer none)], [], false, none, none, 8, [], false, [231]⟩),
  (163, ⟨false, 1, 16, [.v .nilIface], [], true, none, none, 7, [], false, []⟩),
  (166, ⟨false, 1, 16, [.v .nilIface], [], true, none, none, 7, [], false, []⟩),
  (168, ⟨false, 1, 16, [.v .nilIface], [], true, none, none, 7, [], false, []⟩),
  (169, ⟨false, 1, 24, [.v (.slice none 0 0)], [], false, none, (some 31), 3, [], false, []⟩),
  (171, ⟨true, 24, 24, [.v (.int .u8 0), .v (.int .u8 0), .v (.int .u8 0), .v (.int .u8 0), .v (.int .u8 0), .v (.int .u8 0), .v (.int .u8 0), .v (.int .u8 0), .v (.int .u8 0), .v (.int .u8 0), .v (.int .u8 0), .v (.int .u8 0), .v (.int .u8 0), .v (.int .u8 0), .v (.int .u8 0), .v (.int .u8 0), .v (.int .u8 0), .v (.int .u8 0), .v (.int .u8 0), .v (.int .u8 0), .v (.int .u8 0), .v (.int .u8 0), .v (.int .u8 0), .v (.int .u8 0)], [], false, none, (some 5), 4, [], false, [24]⟩),
  (179, ⟨false, 1, 8, [.v (.int .i64 0)], [], false, (some .i64), none, 5, [], false, []⟩),
  (182, ⟨false, 1, 8, [.v (.pointer none)], [], false, none, none, 8, [], false, [198]⟩),
  (190, ⟨true, 20, 160, [.v (.int .u64 0), .v (.int .u64 0), .v (.int .u64 0), .v (.int .u64 0), .v (.int .u64 0), .v (.int .u64 0), .v (.int .u64 0), .v (.int .u64 0), .v (.int .u64 0), .v (.int .u64 0), .v (.int .u64 0), .v (.int .u64 0), .v (.int .u64 0), .v (.int .u64 0), .v (.int .u64 0), .v (.int .u64 0), .v (.int .u64 0), .v (.int .u64 0), .v (.int .u64 0), .v (.int .u64 0)], [], false, none, (some 92), 4, [], false, [20]⟩),
  (197, ⟨true, 3, 48, [.str [], .str [], .v .nilIface], [(0, 1), (1, 1), (2, 1)], false, none, none, 6, [], false, []⟩),
  (198, ⟨true, 3, 48, [.str [], .str [], .v .nilIface], [(0, 1), (1, 1), (2, 1)], false, none, none, 6, [], false, []⟩),
  (204, ⟨true, 2, 2, [.v (.int .u8 0), .v (.int .u8 0)], [(0, 1), (1, 1)], false, none, none, 6, [], false, []⟩),
  (205, ⟨true, 2, 2, [.v (.int .u8 0), .v (.int .u8 0)], [(0, 1), (1, 1)], false, none, none, 6, [], false, []⟩),
  (206, ⟨true, 32, 32, [.v (.int .u8 0), .v (.int .u8 0), .v (.int .u8 0), .v (.int .u8 0), .v (.int .u8 0), .v (.int .u8 0), .v (.int .u8 0), .v (.int .u8 0), .v (.int .u8 0), .v (.int .u8 0), .v (.int .u8 0), .v (.int .u8 0), .v (.int .u8 0), .v (.int .u8 0), .v (.int .u8 0), .v (.int .u8 0), .v (.int .u8 0), .v (.int .u8 0), .v (.int .u8 0), .v (.int .u8 0), .v (.int .u8 0), .v (.int .u8 0), .v (.int .u8 0), .v (.int .u8 0), .v (.int .u8 0), .v (.int .u8 0), .v (.int .u8 0), .v (.int .u8 0), .v (.int .u8 0), .v (.int .u8 0), .v (.int .u8 0), .v (.int .u8 0)], [], false, none, (some 205), 4, [], false, [16]⟩),
  (210, ⟨false, 1, 8, [.v (.pointer none)], [], false, none, none, 8, [], false, [5]⟩),
  (211, ⟨false, 1, 8, [.v (.pointer none)], [], false, none, none, 8, [], false, [213]⟩),
  (212, ⟨true, 1, 16, [.str []], [(0, 1)], false, none, none, 6, [], false, []⟩),
  (213, ⟨true, 1, 16, [.str []], [(0, 1)], false, none, none, 6, [], false, []⟩),
  (214, ⟨true, 32, 32, [.v (.int .u8 0), .v (.int .u8 0), .v (.int .u8 0), .v (.int .u8 0), .v (.int .u8 0), .v (.int .u8 0), .v (.int .u8 0), .v (.int .u8 0), .v (.int .u8 0), .v (.int .u8 0), .v (.int .u8 0), .v (.int .u8 0), .v (.int .u8 0), .v (.int .u8 0), .v (.int .u8 0), .v (.int .u8 0), .v (.int .u8 0), .v (.int .u8 0), .v (.int .u8 0), .v (.int .u8 0), .v (.int .u8 0), .v (.int .u8 0), .v (.int .u8 0), .v (.int .u8 0), .v (.int .u8 0), .v (.int .u8 0), .v (.int .u8 0), .v (.int .u8 0), .v (.int .u8 0), .v (.int .u8 0), .v (.int .u8 0), .v (.int .u8 0)], [], false, none, (some 5), 4, [], false, [32]⟩),
  (216, ⟨true, 4, 40, [.v (.pointer none), .v (.pointer none), .v (.pointer none), .str []], [(0, 1), (1, 1), (2, 1), (3, 1)], false, none, none, 6, [], false, []⟩),
  (217, ⟨true, 4, 40, [.v (.pointer none), .v (.pointer none), .v (.pointer none), .str []], [(0, 1), (1, 1), (2, 1), (3, 1)], false, none, none, 6, [], false, []⟩),
  (218, ⟨true, 0, 0, [], [], false, none, (some 16), 4, [], false, [0]⟩),
  (219, ⟨true, 0, 0, [], [(0, 0)], false, none, none, 6, [], false, []⟩),
  (220, ⟨true, 0, 0, [], [(0, 0)], false, none, none, 6, [], false, []⟩),
  (222, ⟨false, 1, 1, [.v (.int .u8 0)], [], false, (some .u8), none, 5, [], false, []⟩),
  (224, ⟨false, 1, 4, [.v (.int .i32 0)], [], false, (some .i32), none, 5, [], false, []⟩),
  (225, ⟨false, 1, 4, [.v (.int .i32 0)], [], false, (some .i32), none, 5, [], false, []⟩),
  (230, ⟨true, 2, 24, [.str [], .v (.int .u8 0)], [(0, 1), (1, 1)], false, none, none, 6, [], false, []⟩),
  (231, ⟨true, 2, 24, [.str [], .v (.int .u8 0)], [(0, 1), (1, 1)], false, none, none, 6, [], false, []⟩),
  (232, ⟨false, 1, 8, [.v (.pointer none)], [], false, none, none, 8, [], false, [236]⟩),
  (234, ⟨false, 1, 2, [.v (.int .u16 0)], [], false, (some .u16), none, 5, [], false, []⟩),
  (235, ⟨true, 5, 16, [.v (.int .i32 0), .v (.int .u16 0), .v (.int .u16 0), .v (.int .u32 0), .v (.int .u32 0)], [(0, 1), (1, 1), (2, 1), (3, 1), (4, 1)], false, none, none, 6, [], false, []⟩),
  (236, ⟨true, 5, 16, [.v (.int .i32 0), .v (.int .u16 0), .v (.int .u16 0), .v (.int .u32 0), .v (.int .u32 0)], [(0, 1), (1, 1), (2, 1), (3, 1), (4, 1)], false, none, none, 6, [], false, []⟩),
  (237, ⟨false, 1, 24, [.v (.slice none 0 0)], [], false, none, (some 240), 3, [], false, []⟩),
  (238, ⟨false, 1, 4, [.v (.int .i32 0)], [], false, (some .i32), none, 5, [], false, []⟩),
  (239, ⟨true, 4, 16, [.v (.int .i32 0), .v (.int .i32 0), .v (.int .i32 0), .v (.int .i32 0)], [(0, 1), (1, 1), (2, 1), (3, 1)], false, none, none, 6, [], false, []⟩),
  (240, ⟨true, 4, 16, [.v (.int .i32 0), .v (.int .i32 0), .v (.int .i32 0), .v (.int .i32 0)], [(0, 1), (1, 1), (2, 1), (3, 1)], false, none, none, 6, [], false, []⟩),
  (241, ⟨false, 1, 8, [.v (.pointer none)], [], false, none, none, 8, [], false, [31]⟩)]
theorem fits : Fits Tryz.prog tt :=
  fits_cons fit2 (
  fits_cons fit3 (
  fits_cons fit4 (
  fits_cons fit5 (
  fits_cons fit6 (
  fits_cons fit7 (
  fits_cons fit8 (
  fits_cons fit9 (
  fits_cons fit10 (
  fits_cons fit11 (
  fits_cons fit12 (
  fits_cons fit13 (
  fits_cons fit14 (
  fits_cons fit15 (
  fits_cons fit16 (
  fits_cons fit17 (
  fits_cons fit18 (
  fits_cons fit19 (
  fits_cons fit20 (
  fits_cons fit21 (
  fits_cons fit22 (
  fits_cons fit23 (
  fits_cons fit30 (
  fits_cons fit31 (
  fits_cons fit36 (
  fits_cons fit37 (
  fits_cons fit38 (
  fits_cons fit39 (
  fits_cons fit40 (
  fits_cons fit41 (
  fits_cons fit42 (
  fits_cons fit55 (
  fits_cons fit57 (
  fits_cons fit58 (
  fits_cons fit59 (
  fits_cons fit64 (
  fits_cons fit67 (
  fits_cons fit72 (
  fits_cons fit74 (
  fits_cons fit75 (
  fits_cons fit76 (
  fits_cons fit78 (
  fits_cons fit79 (
  fits_cons fit82 (
  fits_cons fit83 (
  fits_cons fit85 (
  fits_cons fit86 (
  fits_cons fit87 (
  fits_cons fit90 (
  fits_cons fit92 (
  fits_cons fit104 (
  fits_cons fit114 (
  fits_cons fit115 (
  fits_cons fit116 (
  fits_cons fit123 (
  fits_cons fit124 (
  fits_cons fit125 (
  fits_cons fit126 (
  fits_cons fit127 (
  fits_cons fit129 (
  fits_cons fit130 (
  fits_cons fit132 (
  fits_cons fit143 (
  fits_cons fit157 (
  fits_cons fit158 (
  fits_cons fit159 (
  fits_cons fit163 (
  fits_cons fit166 (
  fits_cons fit168 (
  fits_cons fit169 (
  fits_cons fit171 (
  fits_cons fit179 (
  fits_cons fit182 (
  fits_cons fit190 (
  fits_cons fit197 (
  fits_cons fit198 (
  fits_cons fit204 (
  fits_cons fit205 (
  fits_cons fit206 (
  fits_cons fit210 (
  fits_cons fit211 (
  fits_cons fit212 (
  fits_cons fit213 (
  fits_cons fit214 (
  fits_cons fit216 (
  fits_cons fit217 (
  fits_cons fit218 (
  fits_cons fit219 (
  fits_cons fit220 (
  fits_cons fit222 (
  fits_cons fit224 (
  fits_cons fit225 (
  fits_cons fit230 (
  fits_cons fit231 (
  fits_cons fit232 (
  fits_cons fit234 (
  fits_cons fit235 (
  fits_cons fit236 (
  fits_cons fit237 (
  fits_cons fit238 (
  fits_cons fit239 (
  fits_cons fit240 (
  fits_cons fit241 (
  fits_nil)))))))))))))))))))))))))))))))))))))))))))))))))))))))))))))))))))))))))))))))))))))))))))))))))))))))
theorem mixed : Tryz.prog.follows .mixedOrders = true := by kernel_rfl
end Go.Proofs.YtbkhfmgdnnaaoaaGreatDoor
