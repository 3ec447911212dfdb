/- closed facts on the types and functions of this program, by a program of mine -/
import Derived.Test.YtfmihehpdfmgfaaGreatDoorFlowE
import Derived.Test.YtfmihehpdfmgfaaGreatDoorRows
namespace Go.Proofs.YtfmihehpdfmgfaaGreatDoor
theorem ti2 : tiO Tryz.prog 2 = some (false, 1, 8, [.int .i64 0]) := by kernel_rfl
theorem ti3 : tiO Tryz.prog 3 = some (false, 1, 8, [.int .i64 0]) := by kernel_rfl
theorem ti4 : tiO Tryz.prog 4 = some (false, 1, 1, [.bool false]) := by kernel_rfl
theorem ti5 : tiO Tryz.prog 5 = some (false, 1, 1, [.int .u8 0]) := by kernel_rfl
theorem ti6 : tiO Tryz.prog 6 = some (false, 1, 1, [.int .u8 0]) := by kernel_rfl
theorem ti7 : tiO Tryz.prog 7 = some (true, 4, 24, [.int .i64 0, .int .i64 0, .bool false, .int .u8 0]) := by kernel_rfl
theorem pl7 : plO Tryz.prog 7 = some [(0, 1), (1, 1), (2, 1), (3, 1)] := by kernel_rfl
theorem off7_0 : offO Tryz.prog 7 0 = some 0 := by kernel_rfl
theorem off7_1 : offO Tryz.prog 7 1 = some 1 := by kernel_rfl
theorem off7_2 : offO Tryz.prog 7 2 = some 2 := by kernel_rfl
theorem off7_3 : offO Tryz.prog 7 3 = some 3 := by kernel_rfl
theorem ti8 : tiO Tryz.prog 8 = some (true, 4, 24, [.int .i64 0, .int .i64 0, .bool false, .int .u8 0]) := by kernel_rfl
theorem pl8 : plO Tryz.prog 8 = some [(0, 1), (1, 1), (2, 1), (3, 1)] := by kernel_rfl
theorem off8_0 : offO Tryz.prog 8 0 = some 0 := by kernel_rfl
theorem off8_1 : offO Tryz.prog 8 1 = some 1 := by kernel_rfl
theorem off8_2 : offO Tryz.prog 8 2 = some 2 := by kernel_rfl
theorem off8_3 : offO Tryz.prog 8 3 = some 3 := by kernel_rfl
theorem ti9 : tiO Tryz.prog 9 = some (false, 1, 16, [.string ByteArray.empty]) := by kernel_rfl
theorem ti10 : tiO Tryz.prog 10 = some (false, 1, 16, [.string ByteArray.empty]) := by kernel_rfl
theorem ti11 : tiO Tryz.prog 11 = some (false, 1, 16, [.string ByteArray.empty]) := by kernel_rfl
theorem ti12 : tiO Tryz.prog 12 = some (false, 1, 8, [.int .u64 0]) := by kernel_rfl
theorem ti13 : tiO Tryz.prog 13 = some (true, 2, 24, [.string ByteArray.empty, .int .u64 0]) := by kernel_rfl
theorem pl13 : plO Tryz.prog 13 = some [(0, 1), (1, 1)] := by kernel_rfl
theorem off13_0 : offO Tryz.prog 13 0 = some 0 := by kernel_rfl
theorem off13_1 : offO Tryz.prog 13 1 = some 1 := by kernel_rfl
theorem ti14 : tiO Tryz.prog 14 = some (true, 2, 24, [.string ByteArray.empty, .int .u64 0]) := by kernel_rfl
theorem pl14 : plO Tryz.prog 14 = some [(0, 1), (1, 1)] := by kernel_rfl
theorem off14_0 : offO Tryz.prog 14 0 = some 0 := by kernel_rfl
theorem off14_1 : offO Tryz.prog 14 1 = some 1 := by kernel_rfl
theorem ti15 : tiO Tryz.prog 15 = some (false, 1, 8, [.pointer none]) := by kernel_rfl
theorem ti16 : tiO Tryz.prog 16 = some (false, 1, 8, [.pointer none]) := by kernel_rfl
theorem ti17 : tiO Tryz.prog 17 = some (false, 1, 8, [.pointer none]) := by kernel_rfl
theorem ti18 : tiO Tryz.prog 18 = some (true, 1, 8, [.pointer none]) := by kernel_rfl
theorem pl18 : plO Tryz.prog 18 = some [(0, 1)] := by kernel_rfl
theorem off18_0 : offO Tryz.prog 18 0 = some 0 := by kernel_rfl
theorem ti19 : tiO Tryz.prog 19 = some (true, 1, 8, [.pointer none]) := by kernel_rfl
theorem pl19 : plO Tryz.prog 19 = some [(0, 1)] := by kernel_rfl
theorem off19_0 : offO Tryz.prog 19 0 = some 0 := by kernel_rfl
theorem ti21 : tiO Tryz.prog 21 = some (false, 1, 4, [.int .i32 0]) := by kernel_rfl
theorem ti22 : tiO Tryz.prog 22 = some (false, 1, 24, [.slice none 0 0]) := by kernel_rfl
theorem el22 : elO Tryz.prog 22 = some (98, 4) := by kernel_rfl
theorem ti23 : tiO Tryz.prog 23 = some (false, 1, 24, [.slice none 0 0]) := by kernel_rfl
theorem el23 : elO Tryz.prog 23 = some (100, 3) := by kernel_rfl
theorem ti24 : tiO Tryz.prog 24 = some (false, 1, 24, [.slice none 0 0]) := by kernel_rfl
theorem el24 : elO Tryz.prog 24 = some (110, 8) := by kernel_rfl
theorem ti25 : tiO Tryz.prog 25 = some (true, 4, 80, [.int .i64 0, .slice none 0 0, .slice none 0 0, .slice none 0 0]) := by kernel_rfl
theorem pl25 : plO Tryz.prog 25 = some [(0, 1), (1, 1), (2, 1), (3, 1)] := by kernel_rfl
theorem off25_0 : offO Tryz.prog 25 0 = some 0 := by kernel_rfl
theorem off25_1 : offO Tryz.prog 25 1 = some 1 := by kernel_rfl
theorem off25_2 : offO Tryz.prog 25 2 = some 2 := by kernel_rfl
theorem off25_3 : offO Tryz.prog 25 3 = some 3 := by kernel_rfl
theorem ti26 : tiO Tryz.prog 26 = some (true, 4, 80, [.int .i64 0, .slice none 0 0, .slice none 0 0, .slice none 0 0]) := by kernel_rfl
theorem pl26 : plO Tryz.prog 26 = some [(0, 1), (1, 1), (2, 1), (3, 1)] := by kernel_rfl
theorem off26_0 : offO Tryz.prog 26 0 = some 0 := by kernel_rfl
theorem off26_1 : offO Tryz.prog 26 1 = some 1 := by kernel_rfl
theorem off26_2 : offO Tryz.prog 26 2 = some 2 := by kernel_rfl
theorem off26_3 : offO Tryz.prog 26 3 = some 3 := by kernel_rfl
theorem ti29 : tiO Tryz.prog 29 = some (false, 1, 24, [.slice none 0 0]) := by kernel_rfl
theorem el29 : elO Tryz.prog 29 = some (102, 4) := by kernel_rfl
theorem ti30 : tiO Tryz.prog 30 = some (false, 1, 24, [.slice none 0 0]) := by kernel_rfl
theorem el30 : elO Tryz.prog 30 = some (87, 3) := by kernel_rfl
theorem ti31 : tiO Tryz.prog 31 = some (false, 1, 24, [.slice none 0 0]) := by kernel_rfl
theorem el31 : elO Tryz.prog 31 = some (72, 8) := by kernel_rfl
theorem ti32 : tiO Tryz.prog 32 = some (true, 4, 80, [.int .i64 0, .slice none 0 0, .slice none 0 0, .slice none 0 0]) := by kernel_rfl
theorem pl32 : plO Tryz.prog 32 = some [(0, 1), (1, 1), (2, 1), (3, 1)] := by kernel_rfl
theorem off32_0 : offO Tryz.prog 32 0 = some 0 := by kernel_rfl
theorem off32_1 : offO Tryz.prog 32 1 = some 1 := by kernel_rfl
theorem off32_2 : offO Tryz.prog 32 2 = some 2 := by kernel_rfl
theorem off32_3 : offO Tryz.prog 32 3 = some 3 := by kernel_rfl
theorem ti33 : tiO Tryz.prog 33 = some (true, 4, 80, [.int .i64 0, .slice none 0 0, .slice none 0 0, .slice none 0 0]) := by kernel_rfl
theorem pl33 : plO Tryz.prog 33 = some [(0, 1), (1, 1), (2, 1), (3, 1)] := by kernel_rfl
theorem off33_0 : offO Tryz.prog 33 0 = some 0 := by kernel_rfl
theorem off33_1 : offO Tryz.prog 33 1 = some 1 := by kernel_rfl
theorem off33_2 : offO Tryz.prog 33 2 = some 2 := by kernel_rfl
theorem off33_3 : offO Tryz.prog 33 3 = some 3 := by kernel_rfl
theorem ti41 : tiO Tryz.prog 41 = some (true, 5, 40, [.int .i64 0, .int .i64 0, .int .i64 0, .int .i64 0, .int .i64 0]) := by kernel_rfl
theorem pl41 : plO Tryz.prog 41 = some [(0, 1), (1, 1), (2, 1), (3, 1), (4, 1)] := by kernel_rfl
theorem off41_0 : offO Tryz.prog 41 0 = some 0 := by kernel_rfl
theorem off41_1 : offO Tryz.prog 41 1 = some 1 := by kernel_rfl
theorem off41_2 : offO Tryz.prog 41 2 = some 2 := by kernel_rfl
theorem off41_3 : offO Tryz.prog 41 3 = some 3 := by kernel_rfl
theorem off41_4 : offO Tryz.prog 41 4 = some 4 := by kernel_rfl
theorem ti42 : tiO Tryz.prog 42 = some (true, 5, 40, [.int .i64 0, .int .i64 0, .int .i64 0, .int .i64 0, .int .i64 0]) := by kernel_rfl
theorem pl42 : plO Tryz.prog 42 = some [(0, 1), (1, 1), (2, 1), (3, 1), (4, 1)] := by kernel_rfl
theorem off42_0 : offO Tryz.prog 42 0 = some 0 := by kernel_rfl
theorem off42_1 : offO Tryz.prog 42 1 = some 1 := by kernel_rfl
theorem off42_2 : offO Tryz.prog 42 2 = some 2 := by kernel_rfl
theorem off42_3 : offO Tryz.prog 42 3 = some 3 := by kernel_rfl
theorem off42_4 : offO Tryz.prog 42 4 = some 4 := by kernel_rfl
theorem ti44 : tiO Tryz.prog 44 = some (true, 5, 40, [.int .i64 0, .int .i64 0, .int .i64 0, .int .i64 0, .int .i64 0]) := by kernel_rfl
theorem pl44 : plO Tryz.prog 44 = some [(0, 1), (1, 1), (2, 1), (3, 1), (4, 1)] := by kernel_rfl
theorem off44_0 : offO Tryz.prog 44 0 = some 0 := by kernel_rfl
theorem off44_1 : offO Tryz.prog 44 1 = some 1 := by kernel_rfl
theorem off44_2 : offO Tryz.prog 44 2 = some 2 := by kernel_rfl
theorem off44_3 : offO Tryz.prog 44 3 = some 3 := by kernel_rfl
theorem off44_4 : offO Tryz.prog 44 4 = some 4 := by kernel_rfl
theorem ti52 : tiO Tryz.prog 52 = some (true, 5, 40, [.int .i64 0, .int .i64 0, .int .i64 0, .int .i64 0, .bool false]) := by kernel_rfl
theorem pl52 : plO Tryz.prog 52 = some [(0, 1), (1, 1), (2, 1), (3, 1), (4, 1)] := by kernel_rfl
theorem off52_0 : offO Tryz.prog 52 0 = some 0 := by kernel_rfl
theorem off52_1 : offO Tryz.prog 52 1 = some 1 := by kernel_rfl
theorem off52_2 : offO Tryz.prog 52 2 = some 2 := by kernel_rfl
theorem off52_3 : offO Tryz.prog 52 3 = some 3 := by kernel_rfl
theorem off52_4 : offO Tryz.prog 52 4 = some 4 := by kernel_rfl
theorem ti53 : tiO Tryz.prog 53 = some (true, 5, 40, [.int .i64 0, .int .i64 0, .int .i64 0, .int .i64 0, .bool false]) := by kernel_rfl
theorem pl53 : plO Tryz.prog 53 = some [(0, 1), (1, 1), (2, 1), (3, 1), (4, 1)] := by kernel_rfl
theorem off53_0 : offO Tryz.prog 53 0 = some 0 := by kernel_rfl
theorem off53_1 : offO Tryz.prog 53 1 = some 1 := by kernel_rfl
theorem off53_2 : offO Tryz.prog 53 2 = some 2 := by kernel_rfl
theorem off53_3 : offO Tryz.prog 53 3 = some 3 := by kernel_rfl
theorem off53_4 : offO Tryz.prog 53 4 = some 4 := by kernel_rfl
theorem ti71 : tiO Tryz.prog 71 = some (true, 8, 64, [.int .i64 0, .int .i64 0, .int .i64 0, .int .i64 0, .int .i64 0, .int .i64 0, .int .i64 0, .bool false]) := by kernel_rfl
theorem pl71 : plO Tryz.prog 71 = some [(0, 1), (1, 1), (2, 1), (3, 5)] := by kernel_rfl
theorem off71_0 : offO Tryz.prog 71 0 = some 0 := by kernel_rfl
theorem off71_1 : offO Tryz.prog 71 1 = some 1 := by kernel_rfl
theorem off71_2 : offO Tryz.prog 71 2 = some 2 := by kernel_rfl
theorem off71_3 : offO Tryz.prog 71 3 = some 3 := by kernel_rfl
theorem ti72 : tiO Tryz.prog 72 = some (true, 8, 64, [.int .i64 0, .int .i64 0, .int .i64 0, .int .i64 0, .int .i64 0, .int .i64 0, .int .i64 0, .bool false]) := by kernel_rfl
theorem pl72 : plO Tryz.prog 72 = some [(0, 1), (1, 1), (2, 1), (3, 5)] := by kernel_rfl
theorem off72_0 : offO Tryz.prog 72 0 = some 0 := by kernel_rfl
theorem off72_1 : offO Tryz.prog 72 1 = some 1 := by kernel_rfl
theorem off72_2 : offO Tryz.prog 72 2 = some 2 := by kernel_rfl
theorem off72_3 : offO Tryz.prog 72 3 = some 3 := by kernel_rfl
theorem ti85 : tiO Tryz.prog 85 = some (false, 1, 24, [.slice none 0 0]) := by kernel_rfl
theorem el85 : elO Tryz.prog 85 = some (2, 1) := by kernel_rfl
theorem ti86 : tiO Tryz.prog 86 = some (true, 3, 40, [.int .i64 0, .int .i64 0, .slice none 0 0]) := by kernel_rfl
theorem pl86 : plO Tryz.prog 86 = some [(0, 1), (1, 1), (2, 1)] := by kernel_rfl
theorem off86_0 : offO Tryz.prog 86 0 = some 0 := by kernel_rfl
theorem off86_1 : offO Tryz.prog 86 1 = some 1 := by kernel_rfl
theorem off86_2 : offO Tryz.prog 86 2 = some 2 := by kernel_rfl
theorem ti87 : tiO Tryz.prog 87 = some (true, 3, 40, [.int .i64 0, .int .i64 0, .slice none 0 0]) := by kernel_rfl
theorem pl87 : plO Tryz.prog 87 = some [(0, 1), (1, 1), (2, 1)] := by kernel_rfl
theorem off87_0 : offO Tryz.prog 87 0 = some 0 := by kernel_rfl
theorem off87_1 : offO Tryz.prog 87 1 = some 1 := by kernel_rfl
theorem off87_2 : offO Tryz.prog 87 2 = some 2 := by kernel_rfl
theorem ti97 : tiO Tryz.prog 97 = some (true, 4, 40, [.int .i64 0, .string ByteArray.empty, .int .i64 0, .bool false]) := by kernel_rfl
theorem pl97 : plO Tryz.prog 97 = some [(0, 1), (1, 1), (2, 1), (3, 1)] := by kernel_rfl
theorem off97_0 : offO Tryz.prog 97 0 = some 0 := by kernel_rfl
theorem off97_1 : offO Tryz.prog 97 1 = some 1 := by kernel_rfl
theorem off97_2 : offO Tryz.prog 97 2 = some 2 := by kernel_rfl
theorem off97_3 : offO Tryz.prog 97 3 = some 3 := by kernel_rfl
theorem ti98 : tiO Tryz.prog 98 = some (true, 4, 40, [.int .i64 0, .string ByteArray.empty, .int .i64 0, .bool false]) := by kernel_rfl
theorem pl98 : plO Tryz.prog 98 = some [(0, 1), (1, 1), (2, 1), (3, 1)] := by kernel_rfl
theorem off98_0 : offO Tryz.prog 98 0 = some 0 := by kernel_rfl
theorem off98_1 : offO Tryz.prog 98 1 = some 1 := by kernel_rfl
theorem off98_2 : offO Tryz.prog 98 2 = some 2 := by kernel_rfl
theorem off98_3 : offO Tryz.prog 98 3 = some 3 := by kernel_rfl
theorem ti100 : tiO Tryz.prog 100 = some (true, 3, 40, [.int .i64 0, .int .i64 0, .slice none 0 0]) := by kernel_rfl
theorem pl100 : plO Tryz.prog 100 = some [(0, 1), (1, 1), (2, 1)] := by kernel_rfl
theorem off100_0 : offO Tryz.prog 100 0 = some 0 := by kernel_rfl
theorem off100_1 : offO Tryz.prog 100 1 = some 1 := by kernel_rfl
theorem off100_2 : offO Tryz.prog 100 2 = some 2 := by kernel_rfl
theorem ti102 : tiO Tryz.prog 102 = some (true, 4, 40, [.int .i64 0, .string ByteArray.empty, .int .i64 0, .bool false]) := by kernel_rfl
theorem pl102 : plO Tryz.prog 102 = some [(0, 1), (1, 1), (2, 1), (3, 1)] := by kernel_rfl
theorem off102_0 : offO Tryz.prog 102 0 = some 0 := by kernel_rfl
theorem off102_1 : offO Tryz.prog 102 1 = some 1 := by kernel_rfl
theorem off102_2 : offO Tryz.prog 102 2 = some 2 := by kernel_rfl
theorem off102_3 : offO Tryz.prog 102 3 = some 3 := by kernel_rfl
theorem ti108 : tiO Tryz.prog 108 = some (true, 5, 40, [.int .i64 0, .int .i64 0, .int .i64 0, .int .i64 0, .bool false]) := by kernel_rfl
theorem pl108 : plO Tryz.prog 108 = some [(0, 1), (1, 1), (2, 1), (3, 1), (4, 1)] := by kernel_rfl
theorem off108_0 : offO Tryz.prog 108 0 = some 0 := by kernel_rfl
theorem off108_1 : offO Tryz.prog 108 1 = some 1 := by kernel_rfl
theorem off108_2 : offO Tryz.prog 108 2 = some 2 := by kernel_rfl
theorem off108_3 : offO Tryz.prog 108 3 = some 3 := by kernel_rfl
theorem off108_4 : offO Tryz.prog 108 4 = some 4 := by kernel_rfl
theorem ti109 : tiO Tryz.prog 109 = some (true, 8, 64, [.int .i64 0, .int .i64 0, .int .i64 0, .int .i64 0, .int .i64 0, .int .i64 0, .int .i64 0, .bool false]) := by kernel_rfl
theorem pl109 : plO Tryz.prog 109 = some [(0, 1), (1, 1), (2, 1), (3, 5)] := by kernel_rfl
theorem off109_0 : offO Tryz.prog 109 0 = some 0 := by kernel_rfl
theorem off109_1 : offO Tryz.prog 109 1 = some 1 := by kernel_rfl
theorem off109_2 : offO Tryz.prog 109 2 = some 2 := by kernel_rfl
theorem off109_3 : offO Tryz.prog 109 3 = some 3 := by kernel_rfl
theorem ti110 : tiO Tryz.prog 110 = some (true, 8, 64, [.int .i64 0, .int .i64 0, .int .i64 0, .int .i64 0, .int .i64 0, .int .i64 0, .int .i64 0, .bool false]) := by kernel_rfl
theorem pl110 : plO Tryz.prog 110 = some [(0, 1), (1, 1), (2, 1), (3, 5)] := by kernel_rfl
theorem off110_0 : offO Tryz.prog 110 0 = some 0 := by kernel_rfl
theorem off110_1 : offO Tryz.prog 110 1 = some 1 := by kernel_rfl
theorem off110_2 : offO Tryz.prog 110 2 = some 2 := by kernel_rfl
theorem off110_3 : offO Tryz.prog 110 3 = some 3 := by kernel_rfl
theorem ti125 : tiO Tryz.prog 125 = some (false, 1, 8, [.int .u64 0]) := by kernel_rfl
theorem ti140 : tiO Tryz.prog 140 = some (false, 1, 8, [.pointer none]) := by kernel_rfl
theorem ti147 : tiO Tryz.prog 147 = some (true, 2, 2, [.int .u8 0, .int .u8 0]) := by kernel_rfl
theorem pl147 : plO Tryz.prog 147 = some [(0, 1), (1, 1)] := by kernel_rfl
theorem off147_0 : offO Tryz.prog 147 0 = some 0 := by kernel_rfl
theorem off147_1 : offO Tryz.prog 147 1 = some 1 := by kernel_rfl
theorem ti148 : tiO Tryz.prog 148 = some (true, 2, 2, [.int .u8 0, .int .u8 0]) := by kernel_rfl
theorem pl148 : plO Tryz.prog 148 = some [(0, 1), (1, 1)] := by kernel_rfl
theorem off148_0 : offO Tryz.prog 148 0 = some 0 := by kernel_rfl
theorem off148_1 : offO Tryz.prog 148 1 = some 1 := by kernel_rfl
theorem ti149 : tiO Tryz.prog 149 = some (true, 32, 32, [.int .u8 0, .int .u8 0, .int .u8 0, .int .u8 0, .int .u8 0, .int .u8 0, .int .u8 0, .int .u8 0, .int .u8 0, .int .u8 0, .int .u8 0, .int .u8 0, .int .u8 0, .int .u8 0, .int .u8 0, .int .u8 0, .int .u8 0, .int .u8 0, .int .u8 0, .int .u8 0, .int .u8 0, .int .u8 0, .int .u8 0, .int .u8 0, .int .u8 0, .int .u8 0, .int .u8 0, .int .u8 0, .int .u8 0, .int .u8 0, .int .u8 0, .int .u8 0]) := by kernel_rfl
theorem ti155 : tiO Tryz.prog 155 = some (true, 4, 40, [.pointer none, .pointer none, .pointer none, .string ByteArray.empty]) := by kernel_rfl
theorem pl155 : plO Tryz.prog 155 = some [(0, 1), (1, 1), (2, 1), (3, 1)] := by kernel_rfl
theorem off155_0 : offO Tryz.prog 155 0 = some 0 := by kernel_rfl
theorem off155_1 : offO Tryz.prog 155 1 = some 1 := by kernel_rfl
theorem off155_2 : offO Tryz.prog 155 2 = some 2 := by kernel_rfl
theorem off155_3 : offO Tryz.prog 155 3 = some 3 := by kernel_rfl
theorem ti156 : tiO Tryz.prog 156 = some (true, 4, 40, [.pointer none, .pointer none, .pointer none, .string ByteArray.empty]) := by kernel_rfl
theorem pl156 : plO Tryz.prog 156 = some [(0, 1), (1, 1), (2, 1), (3, 1)] := by kernel_rfl
theorem off156_0 : offO Tryz.prog 156 0 = some 0 := by kernel_rfl
theorem off156_1 : offO Tryz.prog 156 1 = some 1 := by kernel_rfl
theorem off156_2 : offO Tryz.prog 156 2 = some 2 := by kernel_rfl
theorem off156_3 : offO Tryz.prog 156 3 = some 3 := by kernel_rfl
theorem ti157 : tiO Tryz.prog 157 = some (true, 0, 0, []) := by kernel_rfl
theorem ti158 : tiO Tryz.prog 158 = some (true, 0, 0, []) := by kernel_rfl
theorem pl158 : plO Tryz.prog 158 = some [(0, 0)] := by kernel_rfl
theorem ti159 : tiO Tryz.prog 159 = some (true, 0, 0, []) := by kernel_rfl
theorem pl159 : plO Tryz.prog 159 = some [(0, 0)] := by kernel_rfl
theorem ti161 : tiO Tryz.prog 161 = some (false, 1, 4, [.int .u32 0]) := by kernel_rfl
theorem ti162 : tiO Tryz.prog 162 = some (false, 1, 1, [.int .u8 0]) := by kernel_rfl
theorem ti163 : tiO Tryz.prog 163 = some (false, 1, 1, [.int .u8 0]) := by kernel_rfl
theorem ti165 : tiO Tryz.prog 165 = some (false, 1, 8, [.pointer none]) := by kernel_rfl
theorem ti166 : tiO Tryz.prog 166 = some (false, 1, 4, [.int .i32 0]) := by kernel_rfl
theorem ti167 : tiO Tryz.prog 167 = some (false, 1, 4, [.int .i32 0]) := by kernel_rfl
theorem ti168 : tiO Tryz.prog 168 = some (true, 11, 48, [.int .u64 0, .int .u64 0, .int .u32 0, .int .u8 0, .int .u8 0, .int .u8 0, .int .u8 0, .nilFunc, .pointer none, .int .i32 0, .int .i32 0]) := by kernel_rfl
theorem off168_0 : offO Tryz.prog 168 0 = some 0 := by kernel_rfl
theorem off168_1 : offO Tryz.prog 168 1 = some 1 := by kernel_rfl
theorem off168_2 : offO Tryz.prog 168 2 = some 2 := by kernel_rfl
theorem off168_3 : offO Tryz.prog 168 3 = some 3 := by kernel_rfl
theorem off168_4 : offO Tryz.prog 168 4 = some 4 := by kernel_rfl
theorem off168_5 : offO Tryz.prog 168 5 = some 5 := by kernel_rfl
theorem off168_6 : offO Tryz.prog 168 6 = some 6 := by kernel_rfl
theorem off168_8 : offO Tryz.prog 168 8 = some 8 := by kernel_rfl
theorem off168_9 : offO Tryz.prog 168 9 = some 9 := by kernel_rfl
theorem off168_10 : offO Tryz.prog 168 10 = some 10 := by kernel_rfl
theorem ti169 : tiO Tryz.prog 169 = some (true, 11, 48, [.int .u64 0, .int .u64 0, .int .u32 0, .int .u8 0, .int .u8 0, .int .u8 0, .int .u8 0, .nilFunc, .pointer none, .int .i32 0, .int .i32 0]) := by kernel_rfl
theorem off169_0 : offO Tryz.prog 169 0 = some 0 := by kernel_rfl
theorem off169_1 : offO Tryz.prog 169 1 = some 1 := by kernel_rfl
theorem off169_2 : offO Tryz.prog 169 2 = some 2 := by kernel_rfl
theorem off169_3 : offO Tryz.prog 169 3 = some 3 := by kernel_rfl
theorem off169_4 : offO Tryz.prog 169 4 = some 4 := by kernel_rfl
theorem off169_5 : offO Tryz.prog 169 5 = some 5 := by kernel_rfl
theorem off169_6 : offO Tryz.prog 169 6 = some 6 := by kernel_rfl
theorem off169_8 : offO Tryz.prog 169 8 = some 8 := by kernel_rfl
theorem off169_9 : offO Tryz.prog 169 9 = some 9 := by kernel_rfl
theorem off169_10 : offO Tryz.prog 169 10 = some 10 := by kernel_rfl
theorem ti170 : tiO Tryz.prog 170 = some (false, 1, 8, [.pointer none]) := by kernel_rfl
theorem ent2 : Enters Tryz.prog 2 := enters_of Tryz.func2 (by kernel_rfl) (by kernel_rfl)
theorem ent3 : Enters Tryz.prog 3 := enters_of Tryz.func3 (by kernel_rfl) (by kernel_rfl)
theorem ent4 : Enters Tryz.prog 4 := enters_of Tryz.func4 (by kernel_rfl) (by kernel_rfl)
theorem ent5 : Enters Tryz.prog 5 := enters_of Tryz.func5 (by kernel_rfl) (by kernel_rfl)
theorem ent6 : Enters Tryz.prog 6 := enters_of Tryz.func6 (by kernel_rfl) (by kernel_rfl)
theorem ent7 : Enters Tryz.prog 7 := enters_of Tryz.func7 (by kernel_rfl) (by kernel_rfl)
theorem ent8 : Enters Tryz.prog 8 := enters_of Tryz.func8 (by kernel_rfl) (by kernel_rfl)
theorem ent9 : Enters Tryz.prog 9 := enters_of Tryz.func9 (by kernel_rfl) (by kernel_rfl)
theorem ent10 : Enters Tryz.prog 10 := enters_of Tryz.func10 (by kernel_rfl) (by kernel_rfl)
theorem ent11 : Enters Tryz.prog 11 := enters_of Tryz.func11 (by kernel_rfl) (by kernel_rfl)
theorem ent12 : Enters Tryz.prog 12 := enters_of Tryz.func12 (by kernel_rfl) (by kernel_rfl)
theorem ent13 : Enters Tryz.prog 13 := enters_of Tryz.func13 (by kernel_rfl) (by kernel_rfl)
theorem ent14 : Enters Tryz.prog 14 := enters_of Tryz.func14 (by kernel_rfl) (by kernel_rfl)
theorem ent15 : Enters Tryz.prog 15 := enters_of Tryz.func15 (by kernel_rfl) (by kernel_rfl)
theorem ent16 : Enters Tryz.prog 16 := enters_of Tryz.func16 (by kernel_rfl) (by kernel_rfl)
theorem ent17 : Enters Tryz.prog 17 := enters_of Tryz.func17 (by kernel_rfl) (by kernel_rfl)
theorem ent18 : Enters Tryz.prog 18 := enters_of Tryz.func18 (by kernel_rfl) (by kernel_rfl)
theorem ent19 : Enters Tryz.prog 19 := enters_of Tryz.func19 (by kernel_rfl) (by kernel_rfl)
theorem ent20 : Enters Tryz.prog 20 := enters_of Tryz.func20 (by kernel_rfl) (by kernel_rfl)
theorem ent21 : Enters Tryz.prog 21 := enters_of Tryz.func21 (by kernel_rfl) (by kernel_rfl)
theorem ent22 : Enters Tryz.prog 22 := enters_of Tryz.func22 (by kernel_rfl) (by kernel_rfl)
theorem ent23 : Enters Tryz.prog 23 := enters_of Tryz.func23 (by kernel_rfl) (by kernel_rfl)
theorem ent24 : Enters Tryz.prog 24 := enters_of Tryz.func24 (by kernel_rfl) (by kernel_rfl)
theorem ent25 : Enters Tryz.prog 25 := enters_of Tryz.func25 (by kernel_rfl) (by kernel_rfl)
theorem ent26 : Enters Tryz.prog 26 := enters_of Tryz.func26 (by kernel_rfl) (by kernel_rfl)
theorem ent27 : Enters Tryz.prog 27 := enters_of Tryz.func27 (by kernel_rfl) (by kernel_rfl)
theorem ent28 : Enters Tryz.prog 28 := enters_of Tryz.func28 (by kernel_rfl) (by kernel_rfl)
theorem ent29 : Enters Tryz.prog 29 := enters_of Tryz.func29 (by kernel_rfl) (by kernel_rfl)
theorem ent30 : Enters Tryz.prog 30 := enters_of Tryz.func30 (by kernel_rfl) (by kernel_rfl)
theorem ent31 : Enters Tryz.prog 31 := enters_of Tryz.func31 (by kernel_rfl) (by kernel_rfl)
theorem ent32 : Enters Tryz.prog 32 := enters_of Tryz.func32 (by kernel_rfl) (by kernel_rfl)
theorem ent33 : Enters Tryz.prog 33 := enters_of Tryz.func33 (by kernel_rfl) (by kernel_rfl)
theorem ent34 : Enters Tryz.prog 34 := enters_of Tryz.func34 (by kernel_rfl) (by kernel_rfl)
theorem ent35 : Enters Tryz.prog 35 := enters_of Tryz.func35 (by kernel_rfl) (by kernel_rfl)
theorem ent36 : Enters Tryz.prog 36 := enters_of Tryz.func36 (by kernel_rfl) (by kernel_rfl)
theorem ent37 : Enters Tryz.prog 37 := enters_of Tryz.func37 (by kernel_rfl) (by kernel_rfl)
theorem ent38 : Enters Tryz.prog 38 := enters_of Tryz.func38 (by kernel_rfl) (by kernel_rfl)
theorem ent39 : Enters Tryz.prog 39 := enters_of Tryz.func39 (by kernel_rfl) (by kernel_rfl)
theorem ent40 : Enters Tryz.prog 40 := enters_of Tryz.func40 (by kernel_rfl) (by kernel_rfl)
theorem ent41 : Enters Tryz.prog 41 := enters_of Tryz.func41 (by kernel_rfl) (by kernel_rfl)
theorem ent42 : Enters Tryz.prog 42 := enters_of Tryz.func42 (by kernel_rfl) (by kernel_rfl)
theorem ent43 : Enters Tryz.prog 43 := enters_of Tryz.func43 (by kernel_rfl) (by kernel_rfl)
theorem ent44 : Enters Tryz.prog 44 := enters_of Tryz.func44 (by kernel_rfl) (by kernel_rfl)
theorem ent45 : Enters Tryz.prog 45 := enters_of Tryz.func45 (by kernel_rfl) (by kernel_rfl)
theorem ent46 : Enters Tryz.prog 46 := enters_of Tryz.func46 (by kernel_rfl) (by kernel_rfl)
theorem ent47 : Enters Tryz.prog 47 := enters_of Tryz.func47 (by kernel_rfl) (by kernel_rfl)
theorem ent48 : Enters Tryz.prog 48 := enters_of Tryz.func48 (by kernel_rfl) (by kernel_rfl)
theorem ent49 : Enters Tryz.prog 49 := enters_of Tryz.func49 (by kernel_rfl) (by kernel_rfl)
theorem ent50 : Enters Tryz.prog 50 := enters_of Tryz.func50 (by kernel_rfl) (by kernel_rfl)
theorem ent51 : Enters Tryz.prog 51 := enters_of Tryz.func51 (by kernel_rfl) (by kernel_rfl)
theorem ent52 : Enters Tryz.prog 52 := enters_of Tryz.func52 (by kernel_rfl) (by kernel_rfl)
theorem ent53 : Enters Tryz.prog 53 := enters_of Tryz.func53 (by kernel_rfl) (by kernel_rfl)
theorem ent54 : Enters Tryz.prog 54 := enters_of Tryz.func54 (by kernel_rfl) (by kernel_rfl)
theorem ent55 : Enters Tryz.prog 55 := enters_of Tryz.func55 (by kernel_rfl) (by kernel_rfl)
theorem ent56 : Enters Tryz.prog 56 := enters_of Tryz.func56 (by kernel_rfl) (by kernel_rfl)
theorem ent57 : Enters Tryz.prog 57 := enters_of Tryz.func57 (by kernel_rfl) (by kernel_rfl)
theorem ent58 : Enters Tryz.prog 58 := enters_of Tryz.func58 (by kernel_rfl) (by kernel_rfl)
theorem ent59 : Enters Tryz.prog 59 := enters_of Tryz.func59 (by kernel_rfl) (by kernel_rfl)
theorem ent60 : Enters Tryz.prog 60 := enters_of Tryz.func60 (by kernel_rfl) (by kernel_rfl)
theorem ent61 : Enters Tryz.prog 61 := enters_of Tryz.func61 (by kernel_rfl) (by kernel_rfl)
theorem ent62 : Enters Tryz.prog 62 := enters_of Tryz.func62 (by kernel_rfl) (by kernel_rfl)
theorem ent63 : Enters Tryz.prog 63 := enters_of Tryz.func63 (by kernel_rfl) (by kernel_rfl)
theorem ent64 : Enters Tryz.prog 64 := enters_of Tryz.func64 (by kernel_rfl) (by kernel_rfl)
theorem ent65 : Enters Tryz.prog 65 := enters_of Tryz.func65 (by kernel_rfl) (by kernel_rfl)
theorem ent66 : Enters Tryz.prog 66 := enters_of Tryz.func66 (by kernel_rfl) (by kernel_rfl)
theorem ent67 : Enters Tryz.prog 67 := enters_of Tryz.func67 (by kernel_rfl) (by kernel_rfl)
theorem ent68 : Enters Tryz.prog 68 := enters_of Tryz.func68 (by kernel_rfl) (by kernel_rfl)
theorem ent69 : Enters Tryz.prog 69 := enters_of Tryz.func69 (by kernel_rfl) (by kernel_rfl)
theorem ent70 : Enters Tryz.prog 70 := enters_of Tryz.func70 (by kernel_rfl) (by kernel_rfl)
theorem ent71 : Enters Tryz.prog 71 := enters_of Tryz.func71 (by kernel_rfl) (by kernel_rfl)
theorem ent72 : Enters Tryz.prog 72 := enters_of Tryz.func72 (by kernel_rfl) (by kernel_rfl)
theorem ent73 : Enters Tryz.prog 73 := enters_of Tryz.func73 (by kernel_rfl) (by kernel_rfl)
theorem ent74 : Enters Tryz.prog 74 := enters_of Tryz.func74 (by kernel_rfl) (by kernel_rfl)
theorem ent75 : Enters Tryz.prog 75 := enters_of Tryz.func75 (by kernel_rfl) (by kernel_rfl)
theorem ent76 : Enters Tryz.prog 76 := enters_of Tryz.func76 (by kernel_rfl) (by kernel_rfl)
theorem ent77 : Enters Tryz.prog 77 := enters_of Tryz.func77 (by kernel_rfl) (by kernel_rfl)
theorem ent78 : Enters Tryz.prog 78 := enters_of Tryz.func78 (by kernel_rfl) (by kernel_rfl)
theorem ent79 : Enters Tryz.prog 79 := enters_of Tryz.func79 (by kernel_rfl) (by kernel_rfl)
theorem ent80 : Enters Tryz.prog 80 := enters_of Tryz.func80 (by kernel_rfl) (by kernel_rfl)
theorem ent81 : Enters Tryz.prog 81 := enters_of Tryz.func81 (by kernel_rfl) (by kernel_rfl)
theorem ent82 : Enters Tryz.prog 82 := enters_of Tryz.func82 (by kernel_rfl) (by kernel_rfl)
theorem ent83 : Enters Tryz.prog 83 := enters_of Tryz.func83 (by kernel_rfl) (by kernel_rfl)
theorem ent84 : Enters Tryz.prog 84 := enters_of Tryz.func84 (by kernel_rfl) (by kernel_rfl)
theorem ent85 : Enters Tryz.prog 85 := enters_of Tryz.func85 (by kernel_rfl) (by kernel_rfl)
theorem ent86 : Enters Tryz.prog 86 := enters_of Tryz.func86 (by kernel_rfl) (by kernel_rfl)
theorem ent87 : Enters Tryz.prog 87 := enters_of Tryz.func87 (by kernel_rfl) (by kernel_rfl)
theorem ent88 : Enters Tryz.prog 88 := enters_of Tryz.func88 (by kernel_rfl) (by kernel_rfl)
theorem ent89 : Enters Tryz.prog 89 := enters_of Tryz.func89 (by kernel_rfl) (by kernel_rfl)
theorem ent90 : Enters Tryz.prog 90 := enters_of Tryz.func90 (by kernel_rfl) (by kernel_rfl)
theorem ent91 : Enters Tryz.prog 91 := enters_of Tryz.func91 (by kernel_rfl) (by kernel_rfl)
theorem ent92 : Enters Tryz.prog 92 := enters_of Tryz.func92 (by kernel_rfl) (by kernel_rfl)
theorem ent93 : Enters Tryz.prog 93 := enters_of Tryz.func93 (by kernel_rfl) (by kernel_rfl)
theorem ent94 : Enters Tryz.prog 94 := enters_of Tryz.func94 (by kernel_rfl) (by kernel_rfl)
theorem ent95 : Enters Tryz.prog 95 := enters_of Tryz.func95 (by kernel_rfl) (by kernel_rfl)
theorem ent96 : Enters Tryz.prog 96 := enters_of Tryz.func96 (by kernel_rfl) (by kernel_rfl)
theorem ent97 : Enters Tryz.prog 97 := enters_of Tryz.func97 (by kernel_rfl) (by kernel_rfl)
theorem ent98 : Enters Tryz.prog 98 := enters_of Tryz.func98 (by kernel_rfl) (by kernel_rfl)
theorem ent99 : Enters Tryz.prog 99 := enters_of Tryz.func99 (by kernel_rfl) (by kernel_rfl)
theorem ent100 : Enters Tryz.prog 100 := enters_of Tryz.func100 (by kernel_rfl) (by kernel_rfl)
theorem ent101 : Enters Tryz.prog 101 := enters_of Tryz.func101 (by kernel_rfl) (by kernel_rfl)
theorem ent102 : Enters Tryz.prog 102 := enters_of Tryz.func102 (by kernel_rfl) (by kernel_rfl)
theorem ent103 : Enters Tryz.prog 103 := enters_of Tryz.func103 (by kernel_rfl) (by kernel_rfl)
theorem ent104 : Enters Tryz.prog 104 := enters_of Tryz.func104 (by kernel_rfl) (by kernel_rfl)
theorem ent105 : Enters Tryz.prog 105 := enters_of Tryz.func105 (by kernel_rfl) (by kernel_rfl)
theorem ent106 : Enters Tryz.prog 106 := enters_of Tryz.func106 (by kernel_rfl) (by kernel_rfl)
theorem ent107 : Enters Tryz.prog 107 := enters_of Tryz.func107 (by kernel_rfl) (by kernel_rfl)
theorem ent108 : Enters Tryz.prog 108 := enters_of Tryz.func108 (by kernel_rfl) (by kernel_rfl)
theorem ent109 : Enters Tryz.prog 109 := enters_of Tryz.func109 (by kernel_rfl) (by kernel_rfl)
theorem ent110 : Enters Tryz.prog 110 := enters_of Tryz.func110 (by kernel_rfl) (by kernel_rfl)
theorem ent111 : Enters Tryz.prog 111 := enters_of Tryz.func111 (by kernel_rfl) (by kernel_rfl)
theorem ent112 : Enters Tryz.prog 112 := enters_of Tryz.func112 (by kernel_rfl) (by kernel_rfl)
theorem ent113 : Enters Tryz.prog 113 := enters_of Tryz.func113 (by kernel_rfl) (by kernel_rfl)
theorem ent114 : Enters Tryz.prog 114 := enters_of Tryz.func114 (by kernel_rfl) (by kernel_rfl)
theorem ent115 : Enters Tryz.prog 115 := enters_of Tryz.func115 (by kernel_rfl) (by kernel_rfl)
theorem ent116 : Enters Tryz.prog 116 := enters_of Tryz.func116 (by kernel_rfl) (by kernel_rfl)
theorem ent117 : Enters Tryz.prog 117 := enters_of Tryz.func117 (by kernel_rfl) (by kernel_rfl)
theorem ent118 : Enters Tryz.prog 118 := enters_of Tryz.func118 (by kernel_rfl) (by kernel_rfl)
theorem ent119 : Enters Tryz.prog 119 := enters_of Tryz.func119 (by kernel_rfl) (by kernel_rfl)
theorem ent120 : Enters Tryz.prog 120 := enters_of Tryz.func120 (by kernel_rfl) (by kernel_rfl)
theorem ent121 : Enters Tryz.prog 121 := enters_of Tryz.func121 (by kernel_rfl) (by kernel_rfl)
theorem ent122 : Enters Tryz.prog 122 := enters_of Tryz.func122 (by kernel_rfl) (by kernel_rfl)
theorem ent123 : Enters Tryz.prog 123 := enters_of Tryz.func123 (by kernel_rfl) (by kernel_rfl)
theorem ent124 : Enters Tryz.prog 124 := enters_of Tryz.func124 (by kernel_rfl) (by kernel_rfl)
theorem ent125 : Enters Tryz.prog 125 := enters_of Tryz.func125 (by kernel_rfl) (by kernel_rfl)
theorem ent126 : Enters Tryz.prog 126 := enters_of Tryz.func126 (by kernel_rfl) (by kernel_rfl)
theorem ent127 : Enters Tryz.prog 127 := enters_of Tryz.func127 (by kernel_rfl) (by kernel_rfl)
theorem ent128 : Enters Tryz.prog 128 := enters_of Tryz.func128 (by kernel_rfl) (by kernel_rfl)
theorem ent129 : Enters Tryz.prog 129 := enters_of Tryz.func129 (by kernel_rfl) (by kernel_rfl)
theorem ent130 : Enters Tryz.prog 130 := enters_of Tryz.func130 (by kernel_rfl) (by kernel_rfl)
theorem ent131 : Enters Tryz.prog 131 := enters_of Tryz.func131 (by kernel_rfl) (by kernel_rfl)
theorem ent132 : Enters Tryz.prog 132 := enters_of Tryz.func132 (by kernel_rfl) (by kernel_rfl)
theorem ent133 : Enters Tryz.prog 133 := enters_of Tryz.func133 (by kernel_rfl) (by kernel_rfl)
theorem ent134 : Enters Tryz.prog 134 := enters_of Tryz.func134 (by kernel_rfl) (by kernel_rfl)
theorem ent135 : Enters Tryz.prog 135 := enters_of Tryz.func135 (by kernel_rfl) (by kernel_rfl)
theorem ent136 : Enters Tryz.prog 136 := enters_of Tryz.func136 (by kernel_rfl) (by kernel_rfl)
theorem ent137 : Enters Tryz.prog 137 := enters_of Tryz.func137 (by kernel_rfl) (by kernel_rfl)
theorem ent138 : Enters Tryz.prog 138 := enters_of Tryz.func138 (by kernel_rfl) (by kernel_rfl)
theorem ent139 : Enters Tryz.prog 139 := enters_of Tryz.func139 (by kernel_rfl) (by kernel_rfl)
theorem ent140 : Enters Tryz.prog 140 := enters_of Tryz.func140 (by kernel_rfl) (by kernel_rfl)
theorem ent141 : Enters Tryz.prog 141 := enters_of Tryz.func141 (by kernel_rfl) (by kernel_rfl)
theorem ent142 : Enters Tryz.prog 142 := enters_of Tryz.func142 (by kernel_rfl) (by kernel_rfl)
theorem ent143 : Enters Tryz.prog 143 := enters_of Tryz.func143 (by kernel_rfl) (by kernel_rfl)
theorem ent144 : Enters Tryz.prog 144 := enters_of Tryz.func144 (by kernel_rfl) (by kernel_rfl)
theorem ent145 : Enters Tryz.prog 145 := enters_of Tryz.func145 (by kernel_rfl) (by kernel_rfl)
theorem ent146 : Enters Tryz.prog 146 := enters_of Tryz.func146 (by kernel_rfl) (by kernel_rfl)
theorem ent147 : Enters Tryz.prog 147 := enters_of Tryz.func147 (by kernel_rfl) (by kernel_rfl)
theorem ent148 : Enters Tryz.prog 148 := enters_of Tryz.func148 (by kernel_rfl) (by kernel_rfl)
theorem ent149 : Enters Tryz.prog 149 := enters_of Tryz.func149 (by kernel_rfl) (by kernel_rfl)
theorem ent150 : Enters Tryz.prog 150 := enters_of Tryz.func150 (by kernel_rfl) (by kernel_rfl)
theorem ent151 : Enters Tryz.prog 151 := enters_of Tryz.func151 (by kernel_rfl) (by kernel_rfl)
theorem ent152 : Enters Tryz.prog 152 := enters_of Tryz.func152 (by kernel_rfl) (by kernel_rfl)
theorem ent153 : Enters Tryz.prog 153 := enters_of Tryz.func153 (by kernel_rfl) (by kernel_rfl)
theorem ent154 : Enters Tryz.prog 154 := enters_of Tryz.func154 (by kernel_rfl) (by kernel_rfl)
theorem ent155 : Enters Tryz.prog 155 := enters_of Tryz.func155 (by kernel_rfl) (by kernel_rfl)
theorem ent156 : Enters Tryz.prog 156 := enters_of Tryz.func156 (by kernel_rfl) (by kernel_rfl)
theorem ent157 : Enters Tryz.prog 157 := enters_of Tryz.func157 (by kernel_rfl) (by kernel_rfl)
theorem ent158 : Enters Tryz.prog 158 := enters_of Tryz.func158 (by kernel_rfl) (by kernel_rfl)
theorem ent159 : Enters Tryz.prog 159 := enters_of Tryz.func159 (by kernel_rfl) (by kernel_rfl)
theorem ent160 : Enters Tryz.prog 160 := enters_of Tryz.func160 (by kernel_rfl) (by kernel_rfl)
theorem ent161 : Enters Tryz.prog 161 := enters_of Tryz.func161 (by kernel_rfl) (by kernel_rfl)
theorem ent162 : Enters Tryz.prog 162 := enters_of Tryz.func162 (by kernel_rfl) (by kernel_rfl)
theorem ent163 : Enters Tryz.prog 163 := enters_of Tryz.func163 (by kernel_rfl) (by kernel_rfl)
theorem ent164 : Enters Tryz.prog 164 := enters_of Tryz.func164 (by kernel_rfl) (by kernel_rfl)
theorem ent165 : Enters Tryz.prog 165 := enters_of Tryz.func165 (by kernel_rfl) (by kernel_rfl)
theorem ent167 : Enters Tryz.prog 167 := enters_of Tryz.func167 (by kernel_rfl) (by kernel_rfl)
theorem ent189 : Enters Tryz.prog 189 := enters_of Tryz.func189 (by kernel_rfl) (by kernel_rfl)
theorem mixed : Tryz.prog.follows .mixedOrders = true := by kernel_rfl
end Go.Proofs.YtfmihehpdfmgfaaGreatDoor
