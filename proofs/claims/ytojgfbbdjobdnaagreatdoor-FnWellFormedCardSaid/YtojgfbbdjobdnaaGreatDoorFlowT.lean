/- closed facts on the types and functions of this program, by a program of mine -/
import Derived.Test.YtojgfbbdjobdnaaGreatDoorFlowE
import Derived.Test.YtojgfbbdjobdnaaGreatDoorRows
namespace Go.Proofs.YtojgfbbdjobdnaaGreatDoor
theorem ti2 : tiO Tryz.prog 2 = some (false, 1, 8, [.int .i64 0]) := by kernel_rfl
theorem ti3 : tiO Tryz.prog 3 = some (false, 1, 8, [.int .i64 0]) := by kernel_rfl
theorem ti4 : tiO Tryz.prog 4 = some (false, 1, 1, [.bool false]) := by kernel_rfl
theorem ti5 : tiO Tryz.prog 5 = some (false, 1, 1, [.int .u8 0]) := by kernel_rfl
theorem ti6 : tiO Tryz.prog 6 = some (false, 1, 1, [.int .u8 0]) := by kernel_rfl
theorem ti7 : tiO Tryz.prog 7 = some (true, 4, 24, [.int .i64 0, .int .i64 0, .bool false, .int .u8 0]) := by kernel_rfl
theorem pl7 : plO Tryz.prog 7 = some [(0, 1), (1, 1), (2, 1), (3, 1)] := by kernel_rfl
theorem off7_0 : offO Tryz.prog 7 0 = some 0 := by kernel_rfl
theorem off7_1 : offO Tryz.prog 7 1 = some 1 := by kernel_rfl
theorem off7_2 : offO Tryz.prog 7 2 = some 2 := by kernel_rfl
theorem off7_3 : offO Tryz.prog 7 3 = some 3 := by kernel_rfl
theorem ti8 : tiO Tryz.prog 8 = some (true, 4, 24, [.int .i64 0, .int .i64 0, .bool false, .int .u8 0]) := by kernel_rfl
theorem pl8 : plO Tryz.prog 8 = some [(0, 1), (1, 1), (2, 1), (3, 1)] := by kernel_rfl
theorem off8_0 : offO Tryz.prog 8 0 = some 0 := by kernel_rfl
theorem off8_1 : offO Tryz.prog 8 1 = some 1 := by kernel_rfl
theorem off8_2 : offO Tryz.prog 8 2 = some 2 := by kernel_rfl
theorem off8_3 : offO Tryz.prog 8 3 = some 3 := by kernel_rfl
theorem ti9 : tiO Tryz.prog 9 = some (false, 1, 16, [.string ByteArray.empty]) := by kernel_rfl
theorem ti10 : tiO Tryz.prog 10 = some (false, 1, 16, [.string ByteArray.empty]) := by kernel_rfl
theorem ti11 : tiO Tryz.prog 11 = some (false, 1, 16, [.string ByteArray.empty]) := by kernel_rfl
theorem ti12 : tiO Tryz.prog 12 = some (false, 1, 8, [.int .u64 0]) := by kernel_rfl
theorem ti13 : tiO Tryz.prog 13 = some (true, 2, 24, [.string ByteArray.empty, .int .u64 0]) := by kernel_rfl
theorem pl13 : plO Tryz.prog 13 = some [(0, 1), (1, 1)] := by kernel_rfl
theorem off13_0 : offO Tryz.prog 13 0 = some 0 := by kernel_rfl
theorem off13_1 : offO Tryz.prog 13 1 = some 1 := by kernel_rfl
theorem ti14 : tiO Tryz.prog 14 = some (true, 2, 24, [.string ByteArray.empty, .int .u64 0]) := by kernel_rfl
theorem pl14 : plO Tryz.prog 14 = some [(0, 1), (1, 1)] := by kernel_rfl
theorem off14_0 : offO Tryz.prog 14 0 = some 0 := by kernel_rfl
theorem off14_1 : offO Tryz.prog 14 1 = some 1 := by kernel_rfl
theorem ti15 : tiO Tryz.prog 15 = some (false, 1, 8, [.pointer none]) := by kernel_rfl
theorem ti16 : tiO Tryz.prog 16 = some (false, 1, 8, [.pointer none]) := by kernel_rfl
theorem ti17 : tiO Tryz.prog 17 = some (false, 1, 8, [.pointer none]) := by kernel_rfl
theorem ti18 : tiO Tryz.prog 18 = some (true, 1, 8, [.pointer none]) := by kernel_rfl
theorem pl18 : plO Tryz.prog 18 = some [(0, 1)] := by kernel_rfl
theorem off18_0 : offO Tryz.prog 18 0 = some 0 := by kernel_rfl
theorem ti19 : tiO Tryz.prog 19 = some (true, 1, 8, [.pointer none]) := by kernel_rfl
theorem pl19 : plO Tryz.prog 19 = some [(0, 1)] := by kernel_rfl
theorem off19_0 : offO Tryz.prog 19 0 = some 0 := by kernel_rfl
theorem ti21 : tiO Tryz.prog 21 = some (false, 1, 4, [.int .i32 0]) := by kernel_rfl
theorem ti22 : tiO Tryz.prog 22 = some (false, 1, 24, [.slice none 0 0]) := by kernel_rfl
theorem el22 : elO Tryz.prog 22 = some (5, 1) := by kernel_rfl
theorem ti24 : tiO Tryz.prog 24 = some (false, 1, 24, [.slice none 0 0]) := by kernel_rfl
theorem el24 : elO Tryz.prog 24 = some (68, 4) := by kernel_rfl
theorem ti25 : tiO Tryz.prog 25 = some (false, 1, 24, [.slice none 0 0]) := by kernel_rfl
theorem el25 : elO Tryz.prog 25 = some (45, 3) := by kernel_rfl
theorem ti26 : tiO Tryz.prog 26 = some (false, 1, 24, [.slice none 0 0]) := by kernel_rfl
theorem el26 : elO Tryz.prog 26 = some (89, 8) := by kernel_rfl
theorem ti27 : tiO Tryz.prog 27 = some (true, 4, 80, [.int .i64 0, .slice none 0 0, .slice none 0 0, .slice none 0 0]) := by kernel_rfl
theorem pl27 : plO Tryz.prog 27 = some [(0, 1), (1, 1), (2, 1), (3, 1)] := by kernel_rfl
theorem off27_0 : offO Tryz.prog 27 0 = some 0 := by kernel_rfl
theorem off27_1 : offO Tryz.prog 27 1 = some 1 := by kernel_rfl
theorem off27_2 : offO Tryz.prog 27 2 = some 2 := by kernel_rfl
theorem off27_3 : offO Tryz.prog 27 3 = some 3 := by kernel_rfl
theorem ti28 : tiO Tryz.prog 28 = some (true, 4, 80, [.int .i64 0, .slice none 0 0, .slice none 0 0, .slice none 0 0]) := by kernel_rfl
theorem pl28 : plO Tryz.prog 28 = some [(0, 1), (1, 1), (2, 1), (3, 1)] := by kernel_rfl
theorem off28_0 : offO Tryz.prog 28 0 = some 0 := by kernel_rfl
theorem off28_1 : offO Tryz.prog 28 1 = some 1 := by kernel_rfl
theorem off28_2 : offO Tryz.prog 28 2 = some 2 := by kernel_rfl
theorem off28_3 : offO Tryz.prog 28 3 = some 3 := by kernel_rfl
theorem ti30 : tiO Tryz.prog 30 = some (false, 1, 24, [.slice none 0 0]) := by kernel_rfl
theorem el30 : elO Tryz.prog 30 = some (2, 1) := by kernel_rfl
theorem ti44 : tiO Tryz.prog 44 = some (true, 3, 40, [.int .i64 0, .int .i64 0, .slice none 0 0]) := by kernel_rfl
theorem pl44 : plO Tryz.prog 44 = some [(0, 1), (1, 1), (2, 1)] := by kernel_rfl
theorem off44_0 : offO Tryz.prog 44 0 = some 0 := by kernel_rfl
theorem off44_1 : offO Tryz.prog 44 1 = some 1 := by kernel_rfl
theorem off44_2 : offO Tryz.prog 44 2 = some 2 := by kernel_rfl
theorem ti45 : tiO Tryz.prog 45 = some (true, 3, 40, [.int .i64 0, .int .i64 0, .slice none 0 0]) := by kernel_rfl
theorem pl45 : plO Tryz.prog 45 = some [(0, 1), (1, 1), (2, 1)] := by kernel_rfl
theorem off45_0 : offO Tryz.prog 45 0 = some 0 := by kernel_rfl
theorem off45_1 : offO Tryz.prog 45 1 = some 1 := by kernel_rfl
theorem off45_2 : offO Tryz.prog 45 2 = some 2 := by kernel_rfl
theorem ti53 : tiO Tryz.prog 53 = some (true, 5, 40, [.int .i64 0, .int .i64 0, .int .i64 0, .int .i64 0, .int .i64 0]) := by kernel_rfl
theorem pl53 : plO Tryz.prog 53 = some [(0, 1), (1, 1), (2, 1), (3, 1), (4, 1)] := by kernel_rfl
theorem off53_0 : offO Tryz.prog 53 0 = some 0 := by kernel_rfl
theorem off53_1 : offO Tryz.prog 53 1 = some 1 := by kernel_rfl
theorem off53_2 : offO Tryz.prog 53 2 = some 2 := by kernel_rfl
theorem off53_3 : offO Tryz.prog 53 3 = some 3 := by kernel_rfl
theorem off53_4 : offO Tryz.prog 53 4 = some 4 := by kernel_rfl
theorem ti54 : tiO Tryz.prog 54 = some (true, 5, 40, [.int .i64 0, .int .i64 0, .int .i64 0, .int .i64 0, .int .i64 0]) := by kernel_rfl
theorem pl54 : plO Tryz.prog 54 = some [(0, 1), (1, 1), (2, 1), (3, 1), (4, 1)] := by kernel_rfl
theorem off54_0 : offO Tryz.prog 54 0 = some 0 := by kernel_rfl
theorem off54_1 : offO Tryz.prog 54 1 = some 1 := by kernel_rfl
theorem off54_2 : offO Tryz.prog 54 2 = some 2 := by kernel_rfl
theorem off54_3 : offO Tryz.prog 54 3 = some 3 := by kernel_rfl
theorem off54_4 : offO Tryz.prog 54 4 = some 4 := by kernel_rfl
theorem ti67 : tiO Tryz.prog 67 = some (true, 4, 40, [.int .i64 0, .string ByteArray.empty, .int .i64 0, .bool false]) := by kernel_rfl
theorem pl67 : plO Tryz.prog 67 = some [(0, 1), (1, 1), (2, 1), (3, 1)] := by kernel_rfl
theorem off67_0 : offO Tryz.prog 67 0 = some 0 := by kernel_rfl
theorem off67_1 : offO Tryz.prog 67 1 = some 1 := by kernel_rfl
theorem off67_2 : offO Tryz.prog 67 2 = some 2 := by kernel_rfl
theorem off67_3 : offO Tryz.prog 67 3 = some 3 := by kernel_rfl
theorem ti68 : tiO Tryz.prog 68 = some (true, 4, 40, [.int .i64 0, .string ByteArray.empty, .int .i64 0, .bool false]) := by kernel_rfl
theorem pl68 : plO Tryz.prog 68 = some [(0, 1), (1, 1), (2, 1), (3, 1)] := by kernel_rfl
theorem off68_0 : offO Tryz.prog 68 0 = some 0 := by kernel_rfl
theorem off68_1 : offO Tryz.prog 68 1 = some 1 := by kernel_rfl
theorem off68_2 : offO Tryz.prog 68 2 = some 2 := by kernel_rfl
theorem off68_3 : offO Tryz.prog 68 3 = some 3 := by kernel_rfl
theorem ti72 : tiO Tryz.prog 72 = some (false, 1, 24, [.slice none 0 0]) := by kernel_rfl
theorem el72 : elO Tryz.prog 72 = some (54, 5) := by kernel_rfl
theorem ti76 : tiO Tryz.prog 76 = some (true, 5, 40, [.int .i64 0, .int .i64 0, .int .i64 0, .int .i64 0, .bool false]) := by kernel_rfl
theorem pl76 : plO Tryz.prog 76 = some [(0, 1), (1, 1), (2, 1), (3, 1), (4, 1)] := by kernel_rfl
theorem off76_0 : offO Tryz.prog 76 0 = some 0 := by kernel_rfl
theorem off76_1 : offO Tryz.prog 76 1 = some 1 := by kernel_rfl
theorem off76_2 : offO Tryz.prog 76 2 = some 2 := by kernel_rfl
theorem off76_3 : offO Tryz.prog 76 3 = some 3 := by kernel_rfl
theorem off76_4 : offO Tryz.prog 76 4 = some 4 := by kernel_rfl
theorem ti77 : tiO Tryz.prog 77 = some (true, 5, 40, [.int .i64 0, .int .i64 0, .int .i64 0, .int .i64 0, .bool false]) := by kernel_rfl
theorem pl77 : plO Tryz.prog 77 = some [(0, 1), (1, 1), (2, 1), (3, 1), (4, 1)] := by kernel_rfl
theorem off77_0 : offO Tryz.prog 77 0 = some 0 := by kernel_rfl
theorem off77_1 : offO Tryz.prog 77 1 = some 1 := by kernel_rfl
theorem off77_2 : offO Tryz.prog 77 2 = some 2 := by kernel_rfl
theorem off77_3 : offO Tryz.prog 77 3 = some 3 := by kernel_rfl
theorem off77_4 : offO Tryz.prog 77 4 = some 4 := by kernel_rfl
theorem ti80 : tiO Tryz.prog 80 = some (false, 1, 8, [.pointer none]) := by kernel_rfl
theorem ti82 : tiO Tryz.prog 82 = some (false, 1, 8, [.int .u64 0]) := by kernel_rfl
theorem ti85 : tiO Tryz.prog 85 = some (false, 1, 8, [.pointer none]) := by kernel_rfl
theorem ti88 : tiO Tryz.prog 88 = some (true, 8, 64, [.int .i64 0, .int .i64 0, .int .i64 0, .int .i64 0, .int .i64 0, .int .i64 0, .int .i64 0, .bool false]) := by kernel_rfl
theorem pl88 : plO Tryz.prog 88 = some [(0, 1), (1, 1), (2, 1), (3, 5)] := by kernel_rfl
theorem off88_0 : offO Tryz.prog 88 0 = some 0 := by kernel_rfl
theorem off88_1 : offO Tryz.prog 88 1 = some 1 := by kernel_rfl
theorem off88_2 : offO Tryz.prog 88 2 = some 2 := by kernel_rfl
theorem off88_3 : offO Tryz.prog 88 3 = some 3 := by kernel_rfl
theorem ti89 : tiO Tryz.prog 89 = some (true, 8, 64, [.int .i64 0, .int .i64 0, .int .i64 0, .int .i64 0, .int .i64 0, .int .i64 0, .int .i64 0, .bool false]) := by kernel_rfl
theorem pl89 : plO Tryz.prog 89 = some [(0, 1), (1, 1), (2, 1), (3, 5)] := by kernel_rfl
theorem off89_0 : offO Tryz.prog 89 0 = some 0 := by kernel_rfl
theorem off89_1 : offO Tryz.prog 89 1 = some 1 := by kernel_rfl
theorem off89_2 : offO Tryz.prog 89 2 = some 2 := by kernel_rfl
theorem off89_3 : offO Tryz.prog 89 3 = some 3 := by kernel_rfl
theorem ti107 : tiO Tryz.prog 107 = some (false, 1, 24, [.slice none 0 0]) := by kernel_rfl
theorem el107 : elO Tryz.prog 107 = some (30, 1) := by kernel_rfl
theorem ti139 : tiO Tryz.prog 139 = some (true, 3, 40, [.slice none 0 0, .int .i64 0, .int .u64 0]) := by kernel_rfl
theorem pl139 : plO Tryz.prog 139 = some [(0, 1), (1, 1), (2, 1)] := by kernel_rfl
theorem off139_0 : offO Tryz.prog 139 0 = some 0 := by kernel_rfl
theorem off139_1 : offO Tryz.prog 139 1 = some 1 := by kernel_rfl
theorem off139_2 : offO Tryz.prog 139 2 = some 2 := by kernel_rfl
theorem ti140 : tiO Tryz.prog 140 = some (true, 3, 40, [.slice none 0 0, .int .i64 0, .int .u64 0]) := by kernel_rfl
theorem pl140 : plO Tryz.prog 140 = some [(0, 1), (1, 1), (2, 1)] := by kernel_rfl
theorem off140_0 : offO Tryz.prog 140 0 = some 0 := by kernel_rfl
theorem off140_1 : offO Tryz.prog 140 1 = some 1 := by kernel_rfl
theorem off140_2 : offO Tryz.prog 140 2 = some 2 := by kernel_rfl
theorem ti141 : tiO Tryz.prog 141 = some (false, 1, 8, [.int .u64 0]) := by kernel_rfl
theorem ti142 : tiO Tryz.prog 142 = some (true, 3, 40, [.slice none 0 0, .int .i64 0, .int .i64 0]) := by kernel_rfl
theorem pl142 : plO Tryz.prog 142 = some [(0, 1), (1, 1), (2, 1)] := by kernel_rfl
theorem off142_0 : offO Tryz.prog 142 0 = some 0 := by kernel_rfl
theorem off142_1 : offO Tryz.prog 142 1 = some 1 := by kernel_rfl
theorem off142_2 : offO Tryz.prog 142 2 = some 2 := by kernel_rfl
theorem ti143 : tiO Tryz.prog 143 = some (true, 3, 40, [.slice none 0 0, .int .i64 0, .int .i64 0]) := by kernel_rfl
theorem pl143 : plO Tryz.prog 143 = some [(0, 1), (1, 1), (2, 1)] := by kernel_rfl
theorem off143_0 : offO Tryz.prog 143 0 = some 0 := by kernel_rfl
theorem off143_1 : offO Tryz.prog 143 1 = some 1 := by kernel_rfl
theorem off143_2 : offO Tryz.prog 143 2 = some 2 := by kernel_rfl
theorem ti154 : tiO Tryz.prog 154 = some (false, 1, 8, [.nilFunc]) := by kernel_rfl
theorem ti159 : tiO Tryz.prog 159 = some (false, 1, 8, [.pointer none]) := by kernel_rfl
theorem ti160 : tiO Tryz.prog 160 = some (true, 3, 40, [.slice none 0 0, .int .i64 0, .bool false]) := by kernel_rfl
theorem pl160 : plO Tryz.prog 160 = some [(0, 1), (1, 1), (2, 1)] := by kernel_rfl
theorem off160_0 : offO Tryz.prog 160 0 = some 0 := by kernel_rfl
theorem off160_1 : offO Tryz.prog 160 1 = some 1 := by kernel_rfl
theorem off160_2 : offO Tryz.prog 160 2 = some 2 := by kernel_rfl
theorem ti161 : tiO Tryz.prog 161 = some (true, 3, 40, [.slice none 0 0, .int .i64 0, .bool false]) := by kernel_rfl
theorem pl161 : plO Tryz.prog 161 = some [(0, 1), (1, 1), (2, 1)] := by kernel_rfl
theorem off161_0 : offO Tryz.prog 161 0 = some 0 := by kernel_rfl
theorem off161_1 : offO Tryz.prog 161 1 = some 1 := by kernel_rfl
theorem off161_2 : offO Tryz.prog 161 2 = some 2 := by kernel_rfl
theorem ti189 : tiO Tryz.prog 189 = some (false, 1, 24, [.slice none 0 0]) := by kernel_rfl
theorem el189 : elO Tryz.prog 189 = some (9, 1) := by kernel_rfl
theorem ti195 : tiO Tryz.prog 195 = some (true, 2, 16, [.int .i64 0, .int .i64 0]) := by kernel_rfl
theorem pl195 : plO Tryz.prog 195 = some [(0, 1), (1, 1)] := by kernel_rfl
theorem off195_0 : offO Tryz.prog 195 0 = some 0 := by kernel_rfl
theorem off195_1 : offO Tryz.prog 195 1 = some 1 := by kernel_rfl
theorem ti196 : tiO Tryz.prog 196 = some (true, 2, 16, [.int .i64 0, .int .i64 0]) := by kernel_rfl
theorem pl196 : plO Tryz.prog 196 = some [(0, 1), (1, 1)] := by kernel_rfl
theorem off196_0 : offO Tryz.prog 196 0 = some 0 := by kernel_rfl
theorem off196_1 : offO Tryz.prog 196 1 = some 1 := by kernel_rfl
theorem ti211 : tiO Tryz.prog 211 = some (false, 1, 8, [.pointer none]) := by kernel_rfl
theorem ti218 : tiO Tryz.prog 218 = some (true, 2, 2, [.int .u8 0, .int .u8 0]) := by kernel_rfl
theorem pl218 : plO Tryz.prog 218 = some [(0, 1), (1, 1)] := by kernel_rfl
theorem off218_0 : offO Tryz.prog 218 0 = some 0 := by kernel_rfl
theorem off218_1 : offO Tryz.prog 218 1 = some 1 := by kernel_rfl
theorem ti219 : tiO Tryz.prog 219 = some (true, 2, 2, [.int .u8 0, .int .u8 0]) := by kernel_rfl
theorem pl219 : plO Tryz.prog 219 = some [(0, 1), (1, 1)] := by kernel_rfl
theorem off219_0 : offO Tryz.prog 219 0 = some 0 := by kernel_rfl
theorem off219_1 : offO Tryz.prog 219 1 = some 1 := by kernel_rfl
theorem ti220 : tiO Tryz.prog 220 = some (true, 32, 32, [.int .u8 0, .int .u8 0, .int .u8 0, .int .u8 0, .int .u8 0, .int .u8 0, .int .u8 0, .int .u8 0, .int .u8 0, .int .u8 0, .int .u8 0, .int .u8 0, .int .u8 0, .int .u8 0, .int .u8 0, .int .u8 0, .int .u8 0, .int .u8 0, .int .u8 0, .int .u8 0, .int .u8 0, .int .u8 0, .int .u8 0, .int .u8 0, .int .u8 0, .int .u8 0, .int .u8 0, .int .u8 0, .int .u8 0, .int .u8 0, .int .u8 0, .int .u8 0]) := by kernel_rfl
theorem ti226 : tiO Tryz.prog 226 = some (true, 4, 40, [.pointer none, .pointer none, .pointer none, .string ByteArray.empty]) := by kernel_rfl
theorem pl226 : plO Tryz.prog 226 = some [(0, 1), (1, 1), (2, 1), (3, 1)] := by kernel_rfl
theorem off226_0 : offO Tryz.prog 226 0 = some 0 := by kernel_rfl
theorem off226_1 : offO Tryz.prog 226 1 = some 1 := by kernel_rfl
theorem off226_2 : offO Tryz.prog 226 2 = some 2 := by kernel_rfl
theorem off226_3 : offO Tryz.prog 226 3 = some 3 := by kernel_rfl
theorem ti227 : tiO Tryz.prog 227 = some (true, 4, 40, [.pointer none, .pointer none, .pointer none, .string ByteArray.empty]) := by kernel_rfl
theorem pl227 : plO Tryz.prog 227 = some [(0, 1), (1, 1), (2, 1), (3, 1)] := by kernel_rfl
theorem off227_0 : offO Tryz.prog 227 0 = some 0 := by kernel_rfl
theorem off227_1 : offO Tryz.prog 227 1 = some 1 := by kernel_rfl
theorem off227_2 : offO Tryz.prog 227 2 = some 2 := by kernel_rfl
theorem off227_3 : offO Tryz.prog 227 3 = some 3 := by kernel_rfl
theorem ti228 : tiO Tryz.prog 228 = some (true, 0, 0, []) := by kernel_rfl
theorem ti229 : tiO Tryz.prog 229 = some (true, 0, 0, []) := by kernel_rfl
theorem pl229 : plO Tryz.prog 229 = some [(0, 0)] := by kernel_rfl
theorem ti230 : tiO Tryz.prog 230 = some (true, 0, 0, []) := by kernel_rfl
theorem pl230 : plO Tryz.prog 230 = some [(0, 0)] := by kernel_rfl
theorem ti232 : tiO Tryz.prog 232 = some (false, 1, 4, [.int .u32 0]) := by kernel_rfl
theorem ti233 : tiO Tryz.prog 233 = some (false, 1, 1, [.int .u8 0]) := by kernel_rfl
theorem ti234 : tiO Tryz.prog 234 = some (false, 1, 1, [.int .u8 0]) := by kernel_rfl
theorem ti236 : tiO Tryz.prog 236 = some (false, 1, 8, [.pointer none]) := by kernel_rfl
theorem ti237 : tiO Tryz.prog 237 = some (false, 1, 4, [.int .i32 0]) := by kernel_rfl
theorem ti238 : tiO Tryz.prog 238 = some (false, 1, 4, [.int .i32 0]) := by kernel_rfl
theorem ti239 : tiO Tryz.prog 239 = some (true, 11, 48, [.int .u64 0, .int .u64 0, .int .u32 0, .int .u8 0, .int .u8 0, .int .u8 0, .int .u8 0, .nilFunc, .pointer none, .int .i32 0, .int .i32 0]) := by kernel_rfl
theorem off239_0 : offO Tryz.prog 239 0 = some 0 := by kernel_rfl
theorem off239_1 : offO Tryz.prog 239 1 = some 1 := by kernel_rfl
theorem off239_2 : offO Tryz.prog 239 2 = some 2 := by kernel_rfl
theorem off239_3 : offO Tryz.prog 239 3 = some 3 := by kernel_rfl
theorem off239_4 : offO Tryz.prog 239 4 = some 4 := by kernel_rfl
theorem off239_5 : offO Tryz.prog 239 5 = some 5 := by kernel_rfl
theorem off239_6 : offO Tryz.prog 239 6 = some 6 := by kernel_rfl
theorem off239_8 : offO Tryz.prog 239 8 = some 8 := by kernel_rfl
theorem off239_9 : offO Tryz.prog 239 9 = some 9 := by kernel_rfl
theorem off239_10 : offO Tryz.prog 239 10 = some 10 := by kernel_rfl
theorem ti240 : tiO Tryz.prog 240 = some (true, 11, 48, [.int .u64 0, .int .u64 0, .int .u32 0, .int .u8 0, .int .u8 0, .int .u8 0, .int .u8 0, .nilFunc, .pointer none, .int .i32 0, .int .i32 0]) := by kernel_rfl
theorem off240_0 : offO Tryz.prog 240 0 = some 0 := by kernel_rfl
theorem off240_1 : offO Tryz.prog 240 1 = some 1 := by kernel_rfl
theorem off240_2 : offO Tryz.prog 240 2 = some 2 := by kernel_rfl
theorem off240_3 : offO Tryz.prog 240 3 = some 3 := by kernel_rfl
theorem off240_4 : offO Tryz.prog 240 4 = some 4 := by kernel_rfl
theorem off240_5 : offO Tryz.prog 240 5 = some 5 := by kernel_rfl
theorem off240_6 : offO Tryz.prog 240 6 = some 6 := by kernel_rfl
theorem off240_8 : offO Tryz.prog 240 8 = some 8 := by kernel_rfl
theorem off240_9 : offO Tryz.prog 240 9 = some 9 := by kernel_rfl
theorem off240_10 : offO Tryz.prog 240 10 = some 10 := by kernel_rfl
theorem ti241 : tiO Tryz.prog 241 = some (false, 1, 8, [.pointer none]) := by kernel_rfl
theorem ent2 : Enters Tryz.prog 2 := enters_of Tryz.func2 (by kernel_rfl) (by kernel_rfl)
theorem ent3 : Enters Tryz.prog 3 := enters_of Tryz.func3 (by kernel_rfl) (by kernel_rfl)
theorem ent4 : Enters Tryz.prog 4 := enters_of Tryz.func4 (by kernel_rfl) (by kernel_rfl)
theorem ent5 : Enters Tryz.prog 5 := enters_of Tryz.func5 (by kernel_rfl) (by kernel_rfl)
theorem ent6 : Enters Tryz.prog 6 := enters_of Tryz.func6 (by kernel_rfl) (by kernel_rfl)
theorem ent7 : Enters Tryz.prog 7 := enters_of Tryz.func7 (by kernel_rfl) (by kernel_rfl)
theorem ent8 : Enters Tryz.prog 8 := enters_of Tryz.func8 (by kernel_rfl) (by kernel_rfl)
theorem ent9 : Enters Tryz.prog 9 := enters_of Tryz.func9 (by kernel_rfl) (by kernel_rfl)
theorem ent10 : Enters Tryz.prog 10 := enters_of Tryz.func10 (by kernel_rfl) (by kernel_rfl)
theorem ent11 : Enters Tryz.prog 11 := enters_of Tryz.func11 (by kernel_rfl) (by kernel_rfl)
theorem ent12 : Enters Tryz.prog 12 := enters_of Tryz.func12 (by kernel_rfl) (by kernel_rfl)
theorem ent13 : Enters Tryz.prog 13 := enters_of Tryz.func13 (by kernel_rfl) (by kernel_rfl)
theorem ent14 : Enters Tryz.prog 14 := enters_of Tryz.func14 (by kernel_rfl) (by kernel_rfl)
theorem ent15 : Enters Tryz.prog 15 := enters_of Tryz.func15 (by kernel_rfl) (by kernel_rfl)
theorem ent16 : Enters Tryz.prog 16 := enters_of Tryz.func16 (by kernel_rfl) (by kernel_rfl)
theorem ent17 : Enters Tryz.prog 17 := enters_of Tryz.func17 (by kernel_rfl) (by kernel_rfl)
theorem ent18 : Enters Tryz.prog 18 := enters_of Tryz.func18 (by kernel_rfl) (by kernel_rfl)
theorem ent19 : Enters Tryz.prog 19 := enters_of Tryz.func19 (by kernel_rfl) (by kernel_rfl)
theorem ent20 : Enters Tryz.prog 20 := enters_of Tryz.func20 (by kernel_rfl) (by kernel_rfl)
theorem ent21 : Enters Tryz.prog 21 := enters_of Tryz.func21 (by kernel_rfl) (by kernel_rfl)
theorem ent22 : Enters Tryz.prog 22 := enters_of Tryz.func22 (by kernel_rfl) (by kernel_rfl)
theorem ent23 : Enters Tryz.prog 23 := enters_of Tryz.func23 (by kernel_rfl) (by kernel_rfl)
theorem ent24 : Enters Tryz.prog 24 := enters_of Tryz.func24 (by kernel_rfl) (by kernel_rfl)
theorem ent25 : Enters Tryz.prog 25 := enters_of Tryz.func25 (by kernel_rfl) (by kernel_rfl)
theorem ent26 : Enters Tryz.prog 26 := enters_of Tryz.func26 (by kernel_rfl) (by kernel_rfl)
theorem ent27 : Enters Tryz.prog 27 := enters_of Tryz.func27 (by kernel_rfl) (by kernel_rfl)
theorem ent28 : Enters Tryz.prog 28 := enters_of Tryz.func28 (by kernel_rfl) (by kernel_rfl)
theorem ent29 : Enters Tryz.prog 29 := enters_of Tryz.func29 (by kernel_rfl) (by kernel_rfl)
theorem ent30 : Enters Tryz.prog 30 := enters_of Tryz.func30 (by kernel_rfl) (by kernel_rfl)
theorem ent31 : Enters Tryz.prog 31 := enters_of Tryz.func31 (by kernel_rfl) (by kernel_rfl)
theorem ent32 : Enters Tryz.prog 32 := enters_of Tryz.func32 (by kernel_rfl) (by kernel_rfl)
theorem ent33 : Enters Tryz.prog 33 := enters_of Tryz.func33 (by kernel_rfl) (by kernel_rfl)
theorem ent34 : Enters Tryz.prog 34 := enters_of Tryz.func34 (by kernel_rfl) (by kernel_rfl)
theorem ent35 : Enters Tryz.prog 35 := enters_of Tryz.func35 (by kernel_rfl) (by kernel_rfl)
theorem ent36 : Enters Tryz.prog 36 := enters_of Tryz.func36 (by kernel_rfl) (by kernel_rfl)
theorem ent37 : Enters Tryz.prog 37 := enters_of Tryz.func37 (by kernel_rfl) (by kernel_rfl)
theorem ent38 : Enters Tryz.prog 38 := enters_of Tryz.func38 (by kernel_rfl) (by kernel_rfl)
theorem ent39 : Enters Tryz.prog 39 := enters_of Tryz.func39 (by kernel_rfl) (by kernel_rfl)
theorem ent40 : Enters Tryz.prog 40 := enters_of Tryz.func40 (by kernel_rfl) (by kernel_rfl)
theorem ent41 : Enters Tryz.prog 41 := enters_of Tryz.func41 (by kernel_rfl) (by kernel_rfl)
theorem ent42 : Enters Tryz.prog 42 := enters_of Tryz.func42 (by kernel_rfl) (by kernel_rfl)
theorem ent43 : Enters Tryz.prog 43 := enters_of Tryz.func43 (by kernel_rfl) (by kernel_rfl)
theorem ent44 : Enters Tryz.prog 44 := enters_of Tryz.func44 (by kernel_rfl) (by kernel_rfl)
theorem ent45 : Enters Tryz.prog 45 := enters_of Tryz.func45 (by kernel_rfl) (by kernel_rfl)
theorem ent46 : Enters Tryz.prog 46 := enters_of Tryz.func46 (by kernel_rfl) (by kernel_rfl)
theorem ent47 : Enters Tryz.prog 47 := enters_of Tryz.func47 (by kernel_rfl) (by kernel_rfl)
theorem ent48 : Enters Tryz.prog 48 := enters_of Tryz.func48 (by kernel_rfl) (by kernel_rfl)
theorem ent49 : Enters Tryz.prog 49 := enters_of Tryz.func49 (by kernel_rfl) (by kernel_rfl)
theorem ent50 : Enters Tryz.prog 50 := enters_of Tryz.func50 (by kernel_rfl) (by kernel_rfl)
theorem ent51 : Enters Tryz.prog 51 := enters_of Tryz.func51 (by kernel_rfl) (by kernel_rfl)
theorem ent52 : Enters Tryz.prog 52 := enters_of Tryz.func52 (by kernel_rfl) (by kernel_rfl)
theorem ent53 : Enters Tryz.prog 53 := enters_of Tryz.func53 (by kernel_rfl) (by kernel_rfl)
theorem ent54 : Enters Tryz.prog 54 := enters_of Tryz.func54 (by kernel_rfl) (by kernel_rfl)
theorem ent55 : Enters Tryz.prog 55 := enters_of Tryz.func55 (by kernel_rfl) (by kernel_rfl)
theorem ent56 : Enters Tryz.prog 56 := enters_of Tryz.func56 (by kernel_rfl) (by kernel_rfl)
theorem ent57 : Enters Tryz.prog 57 := enters_of Tryz.func57 (by kernel_rfl) (by kernel_rfl)
theorem ent58 : Enters Tryz.prog 58 := enters_of Tryz.func58 (by kernel_rfl) (by kernel_rfl)
theorem ent59 : Enters Tryz.prog 59 := enters_of Tryz.func59 (by kernel_rfl) (by kernel_rfl)
theorem ent60 : Enters Tryz.prog 60 := enters_of Tryz.func60 (by kernel_rfl) (by kernel_rfl)
theorem ent61 : Enters Tryz.prog 61 := enters_of Tryz.func61 (by kernel_rfl) (by kernel_rfl)
theorem ent62 : Enters Tryz.prog 62 := enters_of Tryz.func62 (by kernel_rfl) (by kernel_rfl)
theorem ent63 : Enters Tryz.prog 63 := enters_of Tryz.func63 (by kernel_rfl) (by kernel_rfl)
theorem ent64 : Enters Tryz.prog 64 := enters_of Tryz.func64 (by kernel_rfl) (by kernel_rfl)
theorem ent65 : Enters Tryz.prog 65 := enters_of Tryz.func65 (by kernel_rfl) (by kernel_rfl)
theorem ent66 : Enters Tryz.prog 66 := enters_of Tryz.func66 (by kernel_rfl) (by kernel_rfl)
theorem ent67 : Enters Tryz.prog 67 := enters_of Tryz.func67 (by kernel_rfl) (by kernel_rfl)
theorem ent68 : Enters Tryz.prog 68 := enters_of Tryz.func68 (by kernel_rfl) (by kernel_rfl)
theorem ent69 : Enters Tryz.prog 69 := enters_of Tryz.func69 (by kernel_rfl) (by kernel_rfl)
theorem ent70 : Enters Tryz.prog 70 := enters_of Tryz.func70 (by kernel_rfl) (by kernel_rfl)
theorem ent71 : Enters Tryz.prog 71 := enters_of Tryz.func71 (by kernel_rfl) (by kernel_rfl)
theorem ent72 : Enters Tryz.prog 72 := enters_of Tryz.func72 (by kernel_rfl) (by kernel_rfl)
theorem ent73 : Enters Tryz.prog 73 := enters_of Tryz.func73 (by kernel_rfl) (by kernel_rfl)
theorem ent74 : Enters Tryz.prog 74 := enters_of Tryz.func74 (by kernel_rfl) (by kernel_rfl)
theorem ent75 : Enters Tryz.prog 75 := enters_of Tryz.func75 (by kernel_rfl) (by kernel_rfl)
theorem ent76 : Enters Tryz.prog 76 := enters_of Tryz.func76 (by kernel_rfl) (by kernel_rfl)
theorem ent77 : Enters Tryz.prog 77 := enters_of Tryz.func77 (by kernel_rfl) (by kernel_rfl)
theorem ent78 : Enters Tryz.prog 78 := enters_of Tryz.func78 (by kernel_rfl) (by kernel_rfl)
theorem ent79 : Enters Tryz.prog 79 := enters_of Tryz.func79 (by kernel_rfl) (by kernel_rfl)
theorem ent80 : Enters Tryz.prog 80 := enters_of Tryz.func80 (by kernel_rfl) (by kernel_rfl)
theorem ent81 : Enters Tryz.prog 81 := enters_of Tryz.func81 (by kernel_rfl) (by kernel_rfl)
theorem ent82 : Enters Tryz.prog 82 := enters_of Tryz.func82 (by kernel_rfl) (by kernel_rfl)
theorem ent83 : Enters Tryz.prog 83 := enters_of Tryz.func83 (by kernel_rfl) (by kernel_rfl)
theorem ent84 : Enters Tryz.prog 84 := enters_of Tryz.func84 (by kernel_rfl) (by kernel_rfl)
theorem ent85 : Enters Tryz.prog 85 := enters_of Tryz.func85 (by kernel_rfl) (by kernel_rfl)
theorem ent86 : Enters Tryz.prog 86 := enters_of Tryz.func86 (by kernel_rfl) (by kernel_rfl)
theorem ent87 : Enters Tryz.prog 87 := enters_of Tryz.func87 (by kernel_rfl) (by kernel_rfl)
theorem ent88 : Enters Tryz.prog 88 := enters_of Tryz.func88 (by kernel_rfl) (by kernel_rfl)
theorem ent89 : Enters Tryz.prog 89 := enters_of Tryz.func89 (by kernel_rfl) (by kernel_rfl)
theorem ent90 : Enters Tryz.prog 90 := enters_of Tryz.func90 (by kernel_rfl) (by kernel_rfl)
theorem ent91 : Enters Tryz.prog 91 := enters_of Tryz.func91 (by kernel_rfl) (by kernel_rfl)
theorem ent92 : Enters Tryz.prog 92 := enters_of Tryz.func92 (by kernel_rfl) (by kernel_rfl)
theorem ent93 : Enters Tryz.prog 93 := enters_of Tryz.func93 (by kernel_rfl) (by kernel_rfl)
theorem ent94 : Enters Tryz.prog 94 := enters_of Tryz.func94 (by kernel_rfl) (by kernel_rfl)
theorem ent95 : Enters Tryz.prog 95 := enters_of Tryz.func95 (by kernel_rfl) (by kernel_rfl)
theorem ent96 : Enters Tryz.prog 96 := enters_of Tryz.func96 (by kernel_rfl) (by kernel_rfl)
theorem ent97 : Enters Tryz.prog 97 := enters_of Tryz.func97 (by kernel_rfl) (by kernel_rfl)
theorem ent98 : Enters Tryz.prog 98 := enters_of Tryz.func98 (by kernel_rfl) (by kernel_rfl)
theorem ent99 : Enters Tryz.prog 99 := enters_of Tryz.func99 (by kernel_rfl) (by kernel_rfl)
theorem ent100 : Enters Tryz.prog 100 := enters_of Tryz.func100 (by kernel_rfl) (by kernel_rfl)
theorem ent101 : Enters Tryz.prog 101 := enters_of Tryz.func101 (by kernel_rfl) (by kernel_rfl)
theorem ent102 : Enters Tryz.prog 102 := enters_of Tryz.func102 (by kernel_rfl) (by kernel_rfl)
theorem ent103 : Enters Tryz.prog 103 := enters_of Tryz.func103 (by kernel_rfl) (by kernel_rfl)
theorem ent104 : Enters Tryz.prog 104 := enters_of Tryz.func104 (by kernel_rfl) (by kernel_rfl)
theorem ent105 : Enters Tryz.prog 105 := enters_of Tryz.func105 (by kernel_rfl) (by kernel_rfl)
theorem ent106 : Enters Tryz.prog 106 := enters_of Tryz.func106 (by kernel_rfl) (by kernel_rfl)
theorem ent107 : Enters Tryz.prog 107 := enters_of Tryz.func107 (by kernel_rfl) (by kernel_rfl)
theorem ent108 : Enters Tryz.prog 108 := enters_of Tryz.func108 (by kernel_rfl) (by kernel_rfl)
theorem ent109 : Enters Tryz.prog 109 := enters_of Tryz.func109 (by kernel_rfl) (by kernel_rfl)
theorem ent110 : Enters Tryz.prog 110 := enters_of Tryz.func110 (by kernel_rfl) (by kernel_rfl)
theorem ent111 : Enters Tryz.prog 111 := enters_of Tryz.func111 (by kernel_rfl) (by kernel_rfl)
theorem ent112 : Enters Tryz.prog 112 := enters_of Tryz.func112 (by kernel_rfl) (by kernel_rfl)
theorem ent113 : Enters Tryz.prog 113 := enters_of Tryz.func113 (by kernel_rfl) (by kernel_rfl)
theorem ent114 : Enters Tryz.prog 114 := enters_of Tryz.func114 (by kernel_rfl) (by kernel_rfl)
theorem ent115 : Enters Tryz.prog 115 := enters_of Tryz.func115 (by kernel_rfl) (by kernel_rfl)
theorem ent116 : Enters Tryz.prog 116 := enters_of Tryz.func116 (by kernel_rfl) (by kernel_rfl)
theorem ent117 : Enters Tryz.prog 117 := enters_of Tryz.func117 (by kernel_rfl) (by kernel_rfl)
theorem ent118 : Enters Tryz.prog 118 := enters_of Tryz.func118 (by kernel_rfl) (by kernel_rfl)
theorem ent119 : Enters Tryz.prog 119 := enters_of Tryz.func119 (by kernel_rfl) (by kernel_rfl)
theorem ent120 : Enters Tryz.prog 120 := enters_of Tryz.func120 (by kernel_rfl) (by kernel_rfl)
theorem ent121 : Enters Tryz.prog 121 := enters_of Tryz.func121 (by kernel_rfl) (by kernel_rfl)
theorem ent122 : Enters Tryz.prog 122 := enters_of Tryz.func122 (by kernel_rfl) (by kernel_rfl)
theorem ent123 : Enters Tryz.prog 123 := enters_of Tryz.func123 (by kernel_rfl) (by kernel_rfl)
theorem ent124 : Enters Tryz.prog 124 := enters_of Tryz.func124 (by kernel_rfl) (by kernel_rfl)
theorem ent125 : Enters Tryz.prog 125 := enters_of Tryz.func125 (by kernel_rfl) (by kernel_rfl)
theorem ent126 : Enters Tryz.prog 126 := enters_of Tryz.func126 (by kernel_rfl) (by kernel_rfl)
theorem ent127 : Enters Tryz.prog 127 := enters_of Tryz.func127 (by kernel_rfl) (by kernel_rfl)
theorem ent128 : Enters Tryz.prog 128 := enters_of Tryz.func128 (by kernel_rfl) (by kernel_rfl)
theorem ent129 : Enters Tryz.prog 129 := enters_of Tryz.func129 (by kernel_rfl) (by kernel_rfl)
theorem ent130 : Enters Tryz.prog 130 := enters_of Tryz.func130 (by kernel_rfl) (by kernel_rfl)
theorem ent131 : Enters Tryz.prog 131 := enters_of Tryz.func131 (by kernel_rfl) (by kernel_rfl)
theorem ent132 : Enters Tryz.prog 132 := enters_of Tryz.func132 (by kernel_rfl) (by kernel_rfl)
theorem ent133 : Enters Tryz.prog 133 := enters_of Tryz.func133 (by kernel_rfl) (by kernel_rfl)
theorem ent134 : Enters Tryz.prog 134 := enters_of Tryz.func134 (by kernel_rfl) (by kernel_rfl)
theorem ent135 : Enters Tryz.prog 135 := enters_of Tryz.func135 (by kernel_rfl) (by kernel_rfl)
theorem ent136 : Enters Tryz.prog 136 := enters_of Tryz.func136 (by kernel_rfl) (by kernel_rfl)
theorem ent137 : Enters Tryz.prog 137 := enters_of Tryz.func137 (by kernel_rfl) (by kernel_rfl)
theorem ent138 : Enters Tryz.prog 138 := enters_of Tryz.func138 (by kernel_rfl) (by kernel_rfl)
theorem ent139 : Enters Tryz.prog 139 := enters_of Tryz.func139 (by kernel_rfl) (by kernel_rfl)
theorem ent140 : Enters Tryz.prog 140 := enters_of Tryz.func140 (by kernel_rfl) (by kernel_rfl)
theorem ent141 : Enters Tryz.prog 141 := enters_of Tryz.func141 (by kernel_rfl) (by kernel_rfl)
theorem ent142 : Enters Tryz.prog 142 := enters_of Tryz.func142 (by kernel_rfl) (by kernel_rfl)
theorem ent143 : Enters Tryz.prog 143 := enters_of Tryz.func143 (by kernel_rfl) (by kernel_rfl)
theorem ent144 : Enters Tryz.prog 144 := enters_of Tryz.func144 (by kernel_rfl) (by kernel_rfl)
theorem ent145 : Enters Tryz.prog 145 := enters_of Tryz.func145 (by kernel_rfl) (by kernel_rfl)
theorem ent146 : Enters Tryz.prog 146 := enters_of Tryz.func146 (by kernel_rfl) (by kernel_rfl)
theorem ent147 : Enters Tryz.prog 147 := enters_of Tryz.func147 (by kernel_rfl) (by kernel_rfl)
theorem ent148 : Enters Tryz.prog 148 := enters_of Tryz.func148 (by kernel_rfl) (by kernel_rfl)
theorem ent149 : Enters Tryz.prog 149 := enters_of Tryz.func149 (by kernel_rfl) (by kernel_rfl)
theorem ent150 : Enters Tryz.prog 150 := enters_of Tryz.func150 (by kernel_rfl) (by kernel_rfl)
theorem ent151 : Enters Tryz.prog 151 := enters_of Tryz.func151 (by kernel_rfl) (by kernel_rfl)
theorem ent152 : Enters Tryz.prog 152 := enters_of Tryz.func152 (by kernel_rfl) (by kernel_rfl)
theorem ent153 : Enters Tryz.prog 153 := enters_of Tryz.func153 (by kernel_rfl) (by kernel_rfl)
theorem ent154 : Enters Tryz.prog 154 := enters_of Tryz.func154 (by kernel_rfl) (by kernel_rfl)
theorem ent155 : Enters Tryz.prog 155 := enters_of Tryz.func155 (by kernel_rfl) (by kernel_rfl)
theorem ent156 : Enters Tryz.prog 156 := enters_of Tryz.func156 (by kernel_rfl) (by kernel_rfl)
theorem ent157 : Enters Tryz.prog 157 := enters_of Tryz.func157 (by kernel_rfl) (by kernel_rfl)
theorem ent158 : Enters Tryz.prog 158 := enters_of Tryz.func158 (by kernel_rfl) (by kernel_rfl)
theorem ent159 : Enters Tryz.prog 159 := enters_of Tryz.func159 (by kernel_rfl) (by kernel_rfl)
theorem ent160 : Enters Tryz.prog 160 := enters_of Tryz.func160 (by kernel_rfl) (by kernel_rfl)
theorem ent161 : Enters Tryz.prog 161 := enters_of Tryz.func161 (by kernel_rfl) (by kernel_rfl)
theorem ent162 : Enters Tryz.prog 162 := enters_of Tryz.func162 (by kernel_rfl) (by kernel_rfl)
theorem ent163 : Enters Tryz.prog 163 := enters_of Tryz.func163 (by kernel_rfl) (by kernel_rfl)
theorem ent164 : Enters Tryz.prog 164 := enters_of Tryz.func164 (by kernel_rfl) (by kernel_rfl)
theorem ent165 : Enters Tryz.prog 165 := enters_of Tryz.func165 (by kernel_rfl) (by kernel_rfl)
theorem ent166 : Enters Tryz.prog 166 := enters_of Tryz.func166 (by kernel_rfl) (by kernel_rfl)
theorem ent167 : Enters Tryz.prog 167 := enters_of Tryz.func167 (by kernel_rfl) (by kernel_rfl)
theorem ent168 : Enters Tryz.prog 168 := enters_of Tryz.func168 (by kernel_rfl) (by kernel_rfl)
theorem ent169 : Enters Tryz.prog 169 := enters_of Tryz.func169 (by kernel_rfl) (by kernel_rfl)
theorem ent170 : Enters Tryz.prog 170 := enters_of Tryz.func170 (by kernel_rfl) (by kernel_rfl)
theorem ent171 : Enters Tryz.prog 171 := enters_of Tryz.func171 (by kernel_rfl) (by kernel_rfl)
theorem ent172 : Enters Tryz.prog 172 := enters_of Tryz.func172 (by kernel_rfl) (by kernel_rfl)
theorem ent173 : Enters Tryz.prog 173 := enters_of Tryz.func173 (by kernel_rfl) (by kernel_rfl)
theorem ent174 : Enters Tryz.prog 174 := enters_of Tryz.func174 (by kernel_rfl) (by kernel_rfl)
theorem ent175 : Enters Tryz.prog 175 := enters_of Tryz.func175 (by kernel_rfl) (by kernel_rfl)
theorem ent176 : Enters Tryz.prog 176 := enters_of Tryz.func176 (by kernel_rfl) (by kernel_rfl)
theorem ent177 : Enters Tryz.prog 177 := enters_of Tryz.func177 (by kernel_rfl) (by kernel_rfl)
theorem ent178 : Enters Tryz.prog 178 := enters_of Tryz.func178 (by kernel_rfl) (by kernel_rfl)
theorem ent179 : Enters Tryz.prog 179 := enters_of Tryz.func179 (by kernel_rfl) (by kernel_rfl)
theorem ent180 : Enters Tryz.prog 180 := enters_of Tryz.func180 (by kernel_rfl) (by kernel_rfl)
theorem ent181 : Enters Tryz.prog 181 := enters_of Tryz.func181 (by kernel_rfl) (by kernel_rfl)
theorem ent182 : Enters Tryz.prog 182 := enters_of Tryz.func182 (by kernel_rfl) (by kernel_rfl)
theorem ent183 : Enters Tryz.prog 183 := enters_of Tryz.func183 (by kernel_rfl) (by kernel_rfl)
theorem ent184 : Enters Tryz.prog 184 := enters_of Tryz.func184 (by kernel_rfl) (by kernel_rfl)
theorem ent185 : Enters Tryz.prog 185 := enters_of Tryz.func185 (by kernel_rfl) (by kernel_rfl)
theorem ent186 : Enters Tryz.prog 186 := enters_of Tryz.func186 (by kernel_rfl) (by kernel_rfl)
theorem ent187 : Enters Tryz.prog 187 := enters_of Tryz.func187 (by kernel_rfl) (by kernel_rfl)
theorem ent188 : Enters Tryz.prog 188 := enters_of Tryz.func188 (by kernel_rfl) (by kernel_rfl)
theorem ent189 : Enters Tryz.prog 189 := enters_of Tryz.func189 (by kernel_rfl) (by kernel_rfl)
theorem ent190 : Enters Tryz.prog 190 := enters_of Tryz.func190 (by kernel_rfl) (by kernel_rfl)
theorem ent191 : Enters Tryz.prog 191 := enters_of Tryz.func191 (by kernel_rfl) (by kernel_rfl)
theorem ent192 : Enters Tryz.prog 192 := enters_of Tryz.func192 (by kernel_rfl) (by kernel_rfl)
theorem ent193 : Enters Tryz.prog 193 := enters_of Tryz.func193 (by kernel_rfl) (by kernel_rfl)
theorem ent194 : Enters Tryz.prog 194 := enters_of Tryz.func194 (by kernel_rfl) (by kernel_rfl)
theorem ent195 : Enters Tryz.prog 195 := enters_of Tryz.func195 (by kernel_rfl) (by kernel_rfl)
theorem ent196 : Enters Tryz.prog 196 := enters_of Tryz.func196 (by kernel_rfl) (by kernel_rfl)
theorem ent197 : Enters Tryz.prog 197 := enters_of Tryz.func197 (by kernel_rfl) (by kernel_rfl)
theorem ent198 : Enters Tryz.prog 198 := enters_of Tryz.func198 (by kernel_rfl) (by kernel_rfl)
theorem ent199 : Enters Tryz.prog 199 := enters_of Tryz.func199 (by kernel_rfl) (by kernel_rfl)
theorem ent200 : Enters Tryz.prog 200 := enters_of Tryz.func200 (by kernel_rfl) (by kernel_rfl)
theorem ent201 : Enters Tryz.prog 201 := enters_of Tryz.func201 (by kernel_rfl) (by kernel_rfl)
theorem ent202 : Enters Tryz.prog 202 := enters_of Tryz.func202 (by kernel_rfl) (by kernel_rfl)
theorem ent203 : Enters Tryz.prog 203 := enters_of Tryz.func203 (by kernel_rfl) (by kernel_rfl)
theorem ent204 : Enters Tryz.prog 204 := enters_of Tryz.func204 (by kernel_rfl) (by kernel_rfl)
theorem ent205 : Enters Tryz.prog 205 := enters_of Tryz.func205 (by kernel_rfl) (by kernel_rfl)
theorem ent206 : Enters Tryz.prog 206 := enters_of Tryz.func206 (by kernel_rfl) (by kernel_rfl)
theorem ent207 : Enters Tryz.prog 207 := enters_of Tryz.func207 (by kernel_rfl) (by kernel_rfl)
theorem ent208 : Enters Tryz.prog 208 := enters_of Tryz.func208 (by kernel_rfl) (by kernel_rfl)
theorem ent209 : Enters Tryz.prog 209 := enters_of Tryz.func209 (by kernel_rfl) (by kernel_rfl)
theorem ent210 : Enters Tryz.prog 210 := enters_of Tryz.func210 (by kernel_rfl) (by kernel_rfl)
theorem ent211 : Enters Tryz.prog 211 := enters_of Tryz.func211 (by kernel_rfl) (by kernel_rfl)
theorem ent212 : Enters Tryz.prog 212 := enters_of Tryz.func212 (by kernel_rfl) (by kernel_rfl)
theorem ent213 : Enters Tryz.prog 213 := enters_of Tryz.func213 (by kernel_rfl) (by kernel_rfl)
theorem ent214 : Enters Tryz.prog 214 := enters_of Tryz.func214 (by kernel_rfl) (by kernel_rfl)
theorem ent215 : Enters Tryz.prog 215 := enters_of Tryz.func215 (by kernel_rfl) (by kernel_rfl)
theorem ent216 : Enters Tryz.prog 216 := enters_of Tryz.func216 (by kernel_rfl) (by kernel_rfl)
theorem ent217 : Enters Tryz.prog 217 := enters_of Tryz.func217 (by kernel_rfl) (by kernel_rfl)
theorem ent218 : Enters Tryz.prog 218 := enters_of Tryz.func218 (by kernel_rfl) (by kernel_rfl)
theorem ent219 : Enters Tryz.prog 219 := enters_of Tryz.func219 (by kernel_rfl) (by kernel_rfl)
theorem ent220 : Enters Tryz.prog 220 := enters_of Tryz.func220 (by kernel_rfl) (by kernel_rfl)
theorem ent221 : Enters Tryz.prog 221 := enters_of Tryz.func221 (by kernel_rfl) (by kernel_rfl)
theorem ent222 : Enters Tryz.prog 222 := enters_of Tryz.func222 (by kernel_rfl) (by kernel_rfl)
theorem ent223 : Enters Tryz.prog 223 := enters_of Tryz.func223 (by kernel_rfl) (by kernel_rfl)
theorem ent224 : Enters Tryz.prog 224 := enters_of Tryz.func224 (by kernel_rfl) (by kernel_rfl)
theorem ent225 : Enters Tryz.prog 225 := enters_of Tryz.func225 (by kernel_rfl) (by kernel_rfl)
theorem ent226 : Enters Tryz.prog 226 := enters_of Tryz.func226 (by kernel_rfl) (by kernel_rfl)
theorem ent227 : Enters Tryz.prog 227 := enters_of Tryz.func227 (by kernel_rfl) (by kernel_rfl)
theorem ent228 : Enters Tryz.prog 228 := enters_of Tryz.func228 (by kernel_rfl) (by kernel_rfl)
theorem ent229 : Enters Tryz.prog 229 := enters_of Tryz.func229 (by kernel_rfl) (by kernel_rfl)
theorem ent230 : Enters Tryz.prog 230 := enters_of Tryz.func230 (by kernel_rfl) (by kernel_rfl)
theorem ent231 : Enters Tryz.prog 231 := enters_of Tryz.func231 (by kernel_rfl) (by kernel_rfl)
theorem ent232 : Enters Tryz.prog 232 := enters_of Tryz.func232 (by kernel_rfl) (by kernel_rfl)
theorem ent233 : Enters Tryz.prog 233 := enters_of Tryz.func233 (by kernel_rfl) (by kernel_rfl)
theorem ent234 : Enters Tryz.prog 234 := enters_of Tryz.func234 (by kernel_rfl) (by kernel_rfl)
theorem ent235 : Enters Tryz.prog 235 := enters_of Tryz.func235 (by kernel_rfl) (by kernel_rfl)
theorem ent236 : Enters Tryz.prog 236 := enters_of Tryz.func236 (by kernel_rfl) (by kernel_rfl)
theorem ent237 : Enters Tryz.prog 237 := enters_of Tryz.func237 (by kernel_rfl) (by kernel_rfl)
theorem ent238 : Enters Tryz.prog 238 := enters_of Tryz.func238 (by kernel_rfl) (by kernel_rfl)
theorem ent239 : Enters Tryz.prog 239 := enters_of Tryz.func239 (by kernel_rfl) (by kernel_rfl)
theorem ent240 : Enters Tryz.prog 240 := enters_of Tryz.func240 (by kernel_rfl) (by kernel_rfl)
theorem ent241 : Enters Tryz.prog 241 := enters_of Tryz.func241 (by kernel_rfl) (by kernel_rfl)
theorem ent242 : Enters Tryz.prog 242 := enters_of Tryz.func242 (by kernel_rfl) (by kernel_rfl)
theorem ent243 : Enters Tryz.prog 243 := enters_of Tryz.func243 (by kernel_rfl) (by kernel_rfl)
theorem ent244 : Enters Tryz.prog 244 := enters_of Tryz.func244 (by kernel_rfl) (by kernel_rfl)
theorem ent245 : Enters Tryz.prog 245 := enters_of Tryz.func245 (by kernel_rfl) (by kernel_rfl)
theorem ent246 : Enters Tryz.prog 246 := enters_of Tryz.func246 (by kernel_rfl) (by kernel_rfl)
theorem ent247 : Enters Tryz.prog 247 := enters_of Tryz.func247 (by kernel_rfl) (by kernel_rfl)
theorem ent248 : Enters Tryz.prog 248 := enters_of Tryz.func248 (by kernel_rfl) (by kernel_rfl)
theorem ent249 : Enters Tryz.prog 249 := enters_of Tryz.func249 (by kernel_rfl) (by kernel_rfl)
theorem ent250 : Enters Tryz.prog 250 := enters_of Tryz.func250 (by kernel_rfl) (by kernel_rfl)
theorem ent251 : Enters Tryz.prog 251 := enters_of Tryz.func251 (by kernel_rfl) (by kernel_rfl)
theorem ent252 : Enters Tryz.prog 252 := enters_of Tryz.func252 (by kernel_rfl) (by kernel_rfl)
theorem ent253 : Enters Tryz.prog 253 := enters_of Tryz.func253 (by kernel_rfl) (by kernel_rfl)
theorem ent254 : Enters Tryz.prog 254 := enters_of Tryz.func254 (by kernel_rfl) (by kernel_rfl)
theorem ent255 : Enters Tryz.prog 255 := enters_of Tryz.func255 (by kernel_rfl) (by kernel_rfl)
theorem ent256 : Enters Tryz.prog 256 := enters_of Tryz.func256 (by kernel_rfl) (by kernel_rfl)
theorem ent257 : Enters Tryz.prog 257 := enters_of Tryz.func257 (by kernel_rfl) (by kernel_rfl)
theorem ent258 : Enters Tryz.prog 258 := enters_of Tryz.func258 (by kernel_rfl) (by kernel_rfl)
theorem ent259 : Enters Tryz.prog 259 := enters_of Tryz.func259 (by kernel_rfl) (by kernel_rfl)
theorem ent260 : Enters Tryz.prog 260 := enters_of Tryz.func260 (by kernel_rfl) (by kernel_rfl)
theorem ent261 : Enters Tryz.prog 261 := enters_of Tryz.func261 (by kernel_rfl) (by kernel_rfl)
theorem ent262 : Enters Tryz.prog 262 := enters_of Tryz.func262 (by kernel_rfl) (by kernel_rfl)
theorem ent263 : Enters Tryz.prog 263 := enters_of Tryz.func263 (by kernel_rfl) (by kernel_rfl)
theorem ent264 : Enters Tryz.prog 264 := enters_of Tryz.func264 (by kernel_rfl) (by kernel_rfl)
theorem ent265 : Enters Tryz.prog 265 := enters_of Tryz.func265 (by kernel_rfl) (by kernel_rfl)
theorem ent266 : Enters Tryz.prog 266 := enters_of Tryz.func266 (by kernel_rfl) (by kernel_rfl)
theorem ent267 : Enters Tryz.prog 267 := enters_of Tryz.func267 (by kernel_rfl) (by kernel_rfl)
theorem ent268 : Enters Tryz.prog 268 := enters_of Tryz.func268 (by kernel_rfl) (by kernel_rfl)
theorem ent269 : Enters Tryz.prog 269 := enters_of Tryz.func269 (by kernel_rfl) (by kernel_rfl)
theorem ent271 : Enters Tryz.prog 271 := enters_of Tryz.func271 (by kernel_rfl) (by kernel_rfl)
theorem ent294 : Enters Tryz.prog 294 := enters_of Tryz.func294 (by kernel_rfl) (by kernel_rfl)
theorem mixed : Tryz.prog.follows .mixedOrders = true := by kernel_rfl
end Go.Proofs.YtojgfbbdjobdnaaGreatDoor
