/- closed facts on the types and functions of this program, by a program of mine -/
import Derived.Test.YtdoibplhbdkapaaFlowE
import Derived.Test.YtdoibplhbdkapaaRows
namespace Go.Proofs.Ytdoibplhbdkapaa
theorem ti2 : tiO Try.prog 2 = some (false, 1, 8, [.int .i64 0]) := by kernel_rfl
theorem ti3 : tiO Try.prog 3 = some (false, 1, 8, [.int .i64 0]) := by kernel_rfl
theorem ti4 : tiO Try.prog 4 = some (false, 1, 1, [.bool false]) := by kernel_rfl
theorem ti5 : tiO Try.prog 5 = some (false, 1, 1, [.int .u8 0]) := by kernel_rfl
theorem ti6 : tiO Try.prog 6 = some (false, 1, 1, [.int .u8 0]) := by kernel_rfl
theorem ti7 : tiO Try.prog 7 = some (true, 4, 24, [.int .i64 0, .int .i64 0, .bool false, .int .u8 0]) := by kernel_rfl
theorem pl7 : plO Try.prog 7 = some [(0, 1), (1, 1), (2, 1), (3, 1)] := by kernel_rfl
theorem off7_0 : offO Try.prog 7 0 = some 0 := by kernel_rfl
theorem off7_1 : offO Try.prog 7 1 = some 1 := by kernel_rfl
theorem off7_2 : offO Try.prog 7 2 = some 2 := by kernel_rfl
theorem off7_3 : offO Try.prog 7 3 = some 3 := by kernel_rfl
theorem ti8 : tiO Try.prog 8 = some (true, 4, 24, [.int .i64 0, .int .i64 0, .bool false, .int .u8 0]) := by kernel_rfl
theorem pl8 : plO Try.prog 8 = some [(0, 1), (1, 1), (2, 1), (3, 1)] := by kernel_rfl
theorem off8_0 : offO Try.prog 8 0 = some 0 := by kernel_rfl
theorem off8_1 : offO Try.prog 8 1 = some 1 := by kernel_rfl
theorem off8_2 : offO Try.prog 8 2 = some 2 := by kernel_rfl
theorem off8_3 : offO Try.prog 8 3 = some 3 := by kernel_rfl
theorem ti9 : tiO Try.prog 9 = some (false, 1, 16, [.string ByteArray.empty]) := by kernel_rfl
theorem ti10 : tiO Try.prog 10 = some (false, 1, 16, [.string ByteArray.empty]) := by kernel_rfl
theorem ti11 : tiO Try.prog 11 = some (false, 1, 16, [.string ByteArray.empty]) := by kernel_rfl
theorem ti12 : tiO Try.prog 12 = some (false, 1, 8, [.int .u64 0]) := by kernel_rfl
theorem ti13 : tiO Try.prog 13 = some (true, 2, 24, [.string ByteArray.empty, .int .u64 0]) := by kernel_rfl
theorem pl13 : plO Try.prog 13 = some [(0, 1), (1, 1)] := by kernel_rfl
theorem off13_0 : offO Try.prog 13 0 = some 0 := by kernel_rfl
theorem off13_1 : offO Try.prog 13 1 = some 1 := by kernel_rfl
theorem ti14 : tiO Try.prog 14 = some (true, 2, 24, [.string ByteArray.empty, .int .u64 0]) := by kernel_rfl
theorem pl14 : plO Try.prog 14 = some [(0, 1), (1, 1)] := by kernel_rfl
theorem off14_0 : offO Try.prog 14 0 = some 0 := by kernel_rfl
theorem off14_1 : offO Try.prog 14 1 = some 1 := by kernel_rfl
theorem ti15 : tiO Try.prog 15 = some (false, 1, 8, [.pointer none]) := by kernel_rfl
theorem ti16 : tiO Try.prog 16 = some (false, 1, 8, [.pointer none]) := by kernel_rfl
theorem ti17 : tiO Try.prog 17 = some (false, 1, 8, [.pointer none]) := by kernel_rfl
theorem ti18 : tiO Try.prog 18 = some (true, 1, 8, [.pointer none]) := by kernel_rfl
theorem pl18 : plO Try.prog 18 = some [(0, 1)] := by kernel_rfl
theorem off18_0 : offO Try.prog 18 0 = some 0 := by kernel_rfl
theorem ti19 : tiO Try.prog 19 = some (true, 1, 8, [.pointer none]) := by kernel_rfl
theorem pl19 : plO Try.prog 19 = some [(0, 1)] := by kernel_rfl
theorem off19_0 : offO Try.prog 19 0 = some 0 := by kernel_rfl
theorem ti21 : tiO Try.prog 21 = some (false, 1, 4, [.int .i32 0]) := by kernel_rfl
theorem ti22 : tiO Try.prog 22 = some (false, 1, 24, [.slice none 0 0]) := by kernel_rfl
theorem el22 : elO Try.prog 22 = some (2, 1) := by kernel_rfl
theorem ti28 : tiO Try.prog 28 = some (false, 1, 24, [.slice none 0 0]) := by kernel_rfl
theorem el28 : elO Try.prog 28 = some (75, 3) := by kernel_rfl
theorem ti30 : tiO Try.prog 30 = some (false, 1, 24, [.slice none 0 0]) := by kernel_rfl
theorem el30 : elO Try.prog 30 = some (73, 3) := by kernel_rfl
theorem ti37 : tiO Try.prog 37 = some (false, 1, 24, [.slice none 0 0]) := by kernel_rfl
theorem el37 : elO Try.prog 37 = some (41, 8) := by kernel_rfl
theorem ti38 : tiO Try.prog 38 = some (true, 5, 40, [.int .i64 0, .int .i64 0, .int .i64 0, .int .i64 0, .bool false]) := by kernel_rfl
theorem pl38 : plO Try.prog 38 = some [(0, 1), (1, 1), (2, 1), (3, 1), (4, 1)] := by kernel_rfl
theorem off38_0 : offO Try.prog 38 0 = some 0 := by kernel_rfl
theorem off38_1 : offO Try.prog 38 1 = some 1 := by kernel_rfl
theorem off38_2 : offO Try.prog 38 2 = some 2 := by kernel_rfl
theorem off38_3 : offO Try.prog 38 3 = some 3 := by kernel_rfl
theorem off38_4 : offO Try.prog 38 4 = some 4 := by kernel_rfl
theorem ti39 : tiO Try.prog 39 = some (true, 5, 40, [.int .i64 0, .int .i64 0, .int .i64 0, .int .i64 0, .bool false]) := by kernel_rfl
theorem pl39 : plO Try.prog 39 = some [(0, 1), (1, 1), (2, 1), (3, 1), (4, 1)] := by kernel_rfl
theorem off39_0 : offO Try.prog 39 0 = some 0 := by kernel_rfl
theorem off39_1 : offO Try.prog 39 1 = some 1 := by kernel_rfl
theorem off39_2 : offO Try.prog 39 2 = some 2 := by kernel_rfl
theorem off39_3 : offO Try.prog 39 3 = some 3 := by kernel_rfl
theorem off39_4 : offO Try.prog 39 4 = some 4 := by kernel_rfl
theorem ti40 : tiO Try.prog 40 = some (true, 8, 64, [.int .i64 0, .int .i64 0, .int .i64 0, .int .i64 0, .int .i64 0, .int .i64 0, .int .i64 0, .bool false]) := by kernel_rfl
theorem pl40 : plO Try.prog 40 = some [(0, 1), (1, 1), (2, 1), (3, 5)] := by kernel_rfl
theorem off40_0 : offO Try.prog 40 0 = some 0 := by kernel_rfl
theorem off40_1 : offO Try.prog 40 1 = some 1 := by kernel_rfl
theorem off40_2 : offO Try.prog 40 2 = some 2 := by kernel_rfl
theorem off40_3 : offO Try.prog 40 3 = some 3 := by kernel_rfl
theorem ti41 : tiO Try.prog 41 = some (true, 8, 64, [.int .i64 0, .int .i64 0, .int .i64 0, .int .i64 0, .int .i64 0, .int .i64 0, .int .i64 0, .bool false]) := by kernel_rfl
theorem pl41 : plO Try.prog 41 = some [(0, 1), (1, 1), (2, 1), (3, 5)] := by kernel_rfl
theorem off41_0 : offO Try.prog 41 0 = some 0 := by kernel_rfl
theorem off41_1 : offO Try.prog 41 1 = some 1 := by kernel_rfl
theorem off41_2 : offO Try.prog 41 2 = some 2 := by kernel_rfl
theorem off41_3 : offO Try.prog 41 3 = some 3 := by kernel_rfl
theorem ti43 : tiO Try.prog 43 = some (false, 1, 24, [.slice none 0 0]) := by kernel_rfl
theorem el43 : elO Try.prog 43 = some (49, 8) := by kernel_rfl
theorem ti47 : tiO Try.prog 47 = some (true, 5, 40, [.int .i64 0, .int .i64 0, .int .i64 0, .int .i64 0, .bool false]) := by kernel_rfl
theorem pl47 : plO Try.prog 47 = some [(0, 1), (1, 1), (2, 1), (3, 1), (4, 1)] := by kernel_rfl
theorem off47_0 : offO Try.prog 47 0 = some 0 := by kernel_rfl
theorem off47_1 : offO Try.prog 47 1 = some 1 := by kernel_rfl
theorem off47_2 : offO Try.prog 47 2 = some 2 := by kernel_rfl
theorem off47_3 : offO Try.prog 47 3 = some 3 := by kernel_rfl
theorem off47_4 : offO Try.prog 47 4 = some 4 := by kernel_rfl
theorem ti48 : tiO Try.prog 48 = some (true, 8, 64, [.int .i64 0, .int .i64 0, .int .i64 0, .int .i64 0, .int .i64 0, .int .i64 0, .int .i64 0, .bool false]) := by kernel_rfl
theorem pl48 : plO Try.prog 48 = some [(0, 1), (1, 1), (2, 1), (3, 5)] := by kernel_rfl
theorem off48_0 : offO Try.prog 48 0 = some 0 := by kernel_rfl
theorem off48_1 : offO Try.prog 48 1 = some 1 := by kernel_rfl
theorem off48_2 : offO Try.prog 48 2 = some 2 := by kernel_rfl
theorem off48_3 : offO Try.prog 48 3 = some 3 := by kernel_rfl
theorem ti49 : tiO Try.prog 49 = some (true, 8, 64, [.int .i64 0, .int .i64 0, .int .i64 0, .int .i64 0, .int .i64 0, .int .i64 0, .int .i64 0, .bool false]) := by kernel_rfl
theorem pl49 : plO Try.prog 49 = some [(0, 1), (1, 1), (2, 1), (3, 5)] := by kernel_rfl
theorem off49_0 : offO Try.prog 49 0 = some 0 := by kernel_rfl
theorem off49_1 : offO Try.prog 49 1 = some 1 := by kernel_rfl
theorem off49_2 : offO Try.prog 49 2 = some 2 := by kernel_rfl
theorem off49_3 : offO Try.prog 49 3 = some 3 := by kernel_rfl
theorem ti54 : tiO Try.prog 54 = some (false, 1, 24, [.slice none 0 0]) := by kernel_rfl
theorem el54 : elO Try.prog 54 = some (5, 1) := by kernel_rfl
theorem ti68 : tiO Try.prog 68 = some (false, 1, 24, [.slice none 0 0]) := by kernel_rfl
theorem el68 : elO Try.prog 68 = some (22, 1) := by kernel_rfl
theorem ti72 : tiO Try.prog 72 = some (true, 3, 24, [.int .i64 0, .int .i64 0, .int .i64 0]) := by kernel_rfl
theorem pl72 : plO Try.prog 72 = some [(0, 1), (1, 1), (2, 1)] := by kernel_rfl
theorem off72_0 : offO Try.prog 72 0 = some 0 := by kernel_rfl
theorem off72_1 : offO Try.prog 72 1 = some 1 := by kernel_rfl
theorem off72_2 : offO Try.prog 72 2 = some 2 := by kernel_rfl
theorem ti73 : tiO Try.prog 73 = some (true, 3, 24, [.int .i64 0, .int .i64 0, .int .i64 0]) := by kernel_rfl
theorem pl73 : plO Try.prog 73 = some [(0, 1), (1, 1), (2, 1)] := by kernel_rfl
theorem off73_0 : offO Try.prog 73 0 = some 0 := by kernel_rfl
theorem off73_1 : offO Try.prog 73 1 = some 1 := by kernel_rfl
theorem off73_2 : offO Try.prog 73 2 = some 2 := by kernel_rfl
theorem ti75 : tiO Try.prog 75 = some (true, 3, 24, [.int .i64 0, .int .i64 0, .int .i64 0]) := by kernel_rfl
theorem pl75 : plO Try.prog 75 = some [(0, 1), (1, 1), (2, 1)] := by kernel_rfl
theorem off75_0 : offO Try.prog 75 0 = some 0 := by kernel_rfl
theorem off75_1 : offO Try.prog 75 1 = some 1 := by kernel_rfl
theorem off75_2 : offO Try.prog 75 2 = some 2 := by kernel_rfl
theorem ti89 : tiO Try.prog 89 = some (false, 1, 8, [.pointer none]) := by kernel_rfl
theorem ti102 : tiO Try.prog 102 = some (false, 1, 8, [.nilFunc]) := by kernel_rfl
theorem ti104 : tiO Try.prog 104 = some (false, 1, 8, [.int .u64 0]) := by kernel_rfl
theorem ti111 : tiO Try.prog 111 = some (true, 3, 40, [.slice none 0 0, .int .i64 0, .int .i64 0]) := by kernel_rfl
theorem pl111 : plO Try.prog 111 = some [(0, 1), (1, 1), (2, 1)] := by kernel_rfl
theorem off111_0 : offO Try.prog 111 0 = some 0 := by kernel_rfl
theorem off111_1 : offO Try.prog 111 1 = some 1 := by kernel_rfl
theorem off111_2 : offO Try.prog 111 2 = some 2 := by kernel_rfl
theorem ti112 : tiO Try.prog 112 = some (true, 3, 40, [.slice none 0 0, .int .i64 0, .int .i64 0]) := by kernel_rfl
theorem pl112 : plO Try.prog 112 = some [(0, 1), (1, 1), (2, 1)] := by kernel_rfl
theorem off112_0 : offO Try.prog 112 0 = some 0 := by kernel_rfl
theorem off112_1 : offO Try.prog 112 1 = some 1 := by kernel_rfl
theorem off112_2 : offO Try.prog 112 2 = some 2 := by kernel_rfl
theorem ti115 : tiO Try.prog 115 = some (true, 2, 16, [.int .i64 0, .int .i64 0]) := by kernel_rfl
theorem pl115 : plO Try.prog 115 = some [(0, 1), (1, 1)] := by kernel_rfl
theorem off115_0 : offO Try.prog 115 0 = some 0 := by kernel_rfl
theorem off115_1 : offO Try.prog 115 1 = some 1 := by kernel_rfl
theorem ti116 : tiO Try.prog 116 = some (true, 2, 16, [.int .i64 0, .int .i64 0]) := by kernel_rfl
theorem pl116 : plO Try.prog 116 = some [(0, 1), (1, 1)] := by kernel_rfl
theorem off116_0 : offO Try.prog 116 0 = some 0 := by kernel_rfl
theorem off116_1 : offO Try.prog 116 1 = some 1 := by kernel_rfl
theorem ti126 : tiO Try.prog 126 = some (true, 4, 40, [.pointer none, .pointer none, .pointer none, .string ByteArray.empty]) := by kernel_rfl
theorem pl126 : plO Try.prog 126 = some [(0, 1), (1, 1), (2, 1), (3, 1)] := by kernel_rfl
theorem off126_0 : offO Try.prog 126 0 = some 0 := by kernel_rfl
theorem off126_1 : offO Try.prog 126 1 = some 1 := by kernel_rfl
theorem off126_2 : offO Try.prog 126 2 = some 2 := by kernel_rfl
theorem off126_3 : offO Try.prog 126 3 = some 3 := by kernel_rfl
theorem ti127 : tiO Try.prog 127 = some (true, 4, 40, [.pointer none, .pointer none, .pointer none, .string ByteArray.empty]) := by kernel_rfl
theorem pl127 : plO Try.prog 127 = some [(0, 1), (1, 1), (2, 1), (3, 1)] := by kernel_rfl
theorem off127_0 : offO Try.prog 127 0 = some 0 := by kernel_rfl
theorem off127_1 : offO Try.prog 127 1 = some 1 := by kernel_rfl
theorem off127_2 : offO Try.prog 127 2 = some 2 := by kernel_rfl
theorem off127_3 : offO Try.prog 127 3 = some 3 := by kernel_rfl
theorem ti128 : tiO Try.prog 128 = some (true, 0, 0, []) := by kernel_rfl
theorem ti129 : tiO Try.prog 129 = some (true, 0, 0, []) := by kernel_rfl
theorem pl129 : plO Try.prog 129 = some [(0, 0)] := by kernel_rfl
theorem ti130 : tiO Try.prog 130 = some (true, 0, 0, []) := by kernel_rfl
theorem pl130 : plO Try.prog 130 = some [(0, 0)] := by kernel_rfl
theorem ti132 : tiO Try.prog 132 = some (false, 1, 4, [.int .u32 0]) := by kernel_rfl
theorem ti133 : tiO Try.prog 133 = some (false, 1, 1, [.int .u8 0]) := by kernel_rfl
theorem ti134 : tiO Try.prog 134 = some (false, 1, 1, [.int .u8 0]) := by kernel_rfl
theorem ti136 : tiO Try.prog 136 = some (false, 1, 8, [.pointer none]) := by kernel_rfl
theorem ti137 : tiO Try.prog 137 = some (false, 1, 4, [.int .i32 0]) := by kernel_rfl
theorem ti138 : tiO Try.prog 138 = some (false, 1, 4, [.int .i32 0]) := by kernel_rfl
theorem ti139 : tiO Try.prog 139 = some (true, 11, 48, [.int .u64 0, .int .u64 0, .int .u32 0, .int .u8 0, .int .u8 0, .int .u8 0, .int .u8 0, .nilFunc, .pointer none, .int .i32 0, .int .i32 0]) := by kernel_rfl
theorem off139_0 : offO Try.prog 139 0 = some 0 := by kernel_rfl
theorem off139_1 : offO Try.prog 139 1 = some 1 := by kernel_rfl
theorem off139_2 : offO Try.prog 139 2 = some 2 := by kernel_rfl
theorem off139_3 : offO Try.prog 139 3 = some 3 := by kernel_rfl
theorem off139_4 : offO Try.prog 139 4 = some 4 := by kernel_rfl
theorem off139_5 : offO Try.prog 139 5 = some 5 := by kernel_rfl
theorem off139_6 : offO Try.prog 139 6 = some 6 := by kernel_rfl
theorem off139_8 : offO Try.prog 139 8 = some 8 := by kernel_rfl
theorem off139_9 : offO Try.prog 139 9 = some 9 := by kernel_rfl
theorem off139_10 : offO Try.prog 139 10 = some 10 := by kernel_rfl
theorem ti140 : tiO Try.prog 140 = some (true, 11, 48, [.int .u64 0, .int .u64 0, .int .u32 0, .int .u8 0, .int .u8 0, .int .u8 0, .int .u8 0, .nilFunc, .pointer none, .int .i32 0, .int .i32 0]) := by kernel_rfl
theorem off140_0 : offO Try.prog 140 0 = some 0 := by kernel_rfl
theorem off140_1 : offO Try.prog 140 1 = some 1 := by kernel_rfl
theorem off140_2 : offO Try.prog 140 2 = some 2 := by kernel_rfl
theorem off140_3 : offO Try.prog 140 3 = some 3 := by kernel_rfl
theorem off140_4 : offO Try.prog 140 4 = some 4 := by kernel_rfl
theorem off140_5 : offO Try.prog 140 5 = some 5 := by kernel_rfl
theorem off140_6 : offO Try.prog 140 6 = some 6 := by kernel_rfl
theorem off140_8 : offO Try.prog 140 8 = some 8 := by kernel_rfl
theorem off140_9 : offO Try.prog 140 9 = some 9 := by kernel_rfl
theorem off140_10 : offO Try.prog 140 10 = some 10 := by kernel_rfl
theorem ti142 : tiO Try.prog 142 = some (false, 1, 8, [.pointer none]) := by kernel_rfl
theorem ent2 : Enters Try.prog 2 := enters_of Try.func2 (by kernel_rfl) (by kernel_rfl)
theorem ent3 : Enters Try.prog 3 := enters_of Try.func3 (by kernel_rfl) (by kernel_rfl)
theorem ent4 : Enters Try.prog 4 := enters_of Try.func4 (by kernel_rfl) (by kernel_rfl)
theorem ent5 : Enters Try.prog 5 := enters_of Try.func5 (by kernel_rfl) (by kernel_rfl)
theorem ent6 : Enters Try.prog 6 := enters_of Try.func6 (by kernel_rfl) (by kernel_rfl)
theorem ent7 : Enters Try.prog 7 := enters_of Try.func7 (by kernel_rfl) (by kernel_rfl)
theorem ent8 : Enters Try.prog 8 := enters_of Try.func8 (by kernel_rfl) (by kernel_rfl)
theorem ent9 : Enters Try.prog 9 := enters_of Try.func9 (by kernel_rfl) (by kernel_rfl)
theorem ent10 : Enters Try.prog 10 := enters_of Try.func10 (by kernel_rfl) (by kernel_rfl)
theorem ent11 : Enters Try.prog 11 := enters_of Try.func11 (by kernel_rfl) (by kernel_rfl)
theorem ent12 : Enters Try.prog 12 := enters_of Try.func12 (by kernel_rfl) (by kernel_rfl)
theorem ent13 : Enters Try.prog 13 := enters_of Try.func13 (by kernel_rfl) (by kernel_rfl)
theorem ent14 : Enters Try.prog 14 := enters_of Try.func14 (by kernel_rfl) (by kernel_rfl)
theorem ent15 : Enters Try.prog 15 := enters_of Try.func15 (by kernel_rfl) (by kernel_rfl)
theorem ent16 : Enters Try.prog 16 := enters_of Try.func16 (by kernel_rfl) (by kernel_rfl)
theorem ent17 : Enters Try.prog 17 := enters_of Try.func17 (by kernel_rfl) (by kernel_rfl)
theorem ent18 : Enters Try.prog 18 := enters_of Try.func18 (by kernel_rfl) (by kernel_rfl)
theorem ent19 : Enters Try.prog 19 := enters_of Try.func19 (by kernel_rfl) (by kernel_rfl)
theorem ent20 : Enters Try.prog 20 := enters_of Try.func20 (by kernel_rfl) (by kernel_rfl)
theorem ent21 : Enters Try.prog 21 := enters_of Try.func21 (by kernel_rfl) (by kernel_rfl)
theorem ent22 : Enters Try.prog 22 := enters_of Try.func22 (by kernel_rfl) (by kernel_rfl)
theorem ent23 : Enters Try.prog 23 := enters_of Try.func23 (by kernel_rfl) (by kernel_rfl)
theorem ent24 : Enters Try.prog 24 := enters_of Try.func24 (by kernel_rfl) (by kernel_rfl)
theorem ent25 : Enters Try.prog 25 := enters_of Try.func25 (by kernel_rfl) (by kernel_rfl)
theorem ent26 : Enters Try.prog 26 := enters_of Try.func26 (by kernel_rfl) (by kernel_rfl)
theorem ent27 : Enters Try.prog 27 := enters_of Try.func27 (by kernel_rfl) (by kernel_rfl)
theorem ent28 : Enters Try.prog 28 := enters_of Try.func28 (by kernel_rfl) (by kernel_rfl)
theorem ent29 : Enters Try.prog 29 := enters_of Try.func29 (by kernel_rfl) (by kernel_rfl)
theorem ent30 : Enters Try.prog 30 := enters_of Try.func30 (by kernel_rfl) (by kernel_rfl)
theorem ent31 : Enters Try.prog 31 := enters_of Try.func31 (by kernel_rfl) (by kernel_rfl)
theorem ent32 : Enters Try.prog 32 := enters_of Try.func32 (by kernel_rfl) (by kernel_rfl)
theorem ent33 : Enters Try.prog 33 := enters_of Try.func33 (by kernel_rfl) (by kernel_rfl)
theorem ent34 : Enters Try.prog 34 := enters_of Try.func34 (by kernel_rfl) (by kernel_rfl)
theorem ent35 : Enters Try.prog 35 := enters_of Try.func35 (by kernel_rfl) (by kernel_rfl)
theorem ent36 : Enters Try.prog 36 := enters_of Try.func36 (by kernel_rfl) (by kernel_rfl)
theorem ent37 : Enters Try.prog 37 := enters_of Try.func37 (by kernel_rfl) (by kernel_rfl)
theorem ent38 : Enters Try.prog 38 := enters_of Try.func38 (by kernel_rfl) (by kernel_rfl)
theorem ent39 : Enters Try.prog 39 := enters_of Try.func39 (by kernel_rfl) (by kernel_rfl)
theorem ent40 : Enters Try.prog 40 := enters_of Try.func40 (by kernel_rfl) (by kernel_rfl)
theorem ent41 : Enters Try.prog 41 := enters_of Try.func41 (by kernel_rfl) (by kernel_rfl)
theorem ent42 : Enters Try.prog 42 := enters_of Try.func42 (by kernel_rfl) (by kernel_rfl)
theorem ent43 : Enters Try.prog 43 := enters_of Try.func43 (by kernel_rfl) (by kernel_rfl)
theorem ent44 : Enters Try.prog 44 := enters_of Try.func44 (by kernel_rfl) (by kernel_rfl)
theorem ent45 : Enters Try.prog 45 := enters_of Try.func45 (by kernel_rfl) (by kernel_rfl)
theorem ent46 : Enters Try.prog 46 := enters_of Try.func46 (by kernel_rfl) (by kernel_rfl)
theorem ent47 : Enters Try.prog 47 := enters_of Try.func47 (by kernel_rfl) (by kernel_rfl)
theorem ent48 : Enters Try.prog 48 := enters_of Try.func48 (by kernel_rfl) (by kernel_rfl)
theorem ent49 : Enters Try.prog 49 := enters_of Try.func49 (by kernel_rfl) (by kernel_rfl)
theorem ent50 : Enters Try.prog 50 := enters_of Try.func50 (by kernel_rfl) (by kernel_rfl)
theorem ent51 : Enters Try.prog 51 := enters_of Try.func51 (by kernel_rfl) (by kernel_rfl)
theorem ent52 : Enters Try.prog 52 := enters_of Try.func52 (by kernel_rfl) (by kernel_rfl)
theorem ent53 : Enters Try.prog 53 := enters_of Try.func53 (by kernel_rfl) (by kernel_rfl)
theorem ent54 : Enters Try.prog 54 := enters_of Try.func54 (by kernel_rfl) (by kernel_rfl)
theorem ent55 : Enters Try.prog 55 := enters_of Try.func55 (by kernel_rfl) (by kernel_rfl)
theorem ent56 : Enters Try.prog 56 := enters_of Try.func56 (by kernel_rfl) (by kernel_rfl)
theorem ent57 : Enters Try.prog 57 := enters_of Try.func57 (by kernel_rfl) (by kernel_rfl)
theorem ent58 : Enters Try.prog 58 := enters_of Try.func58 (by kernel_rfl) (by kernel_rfl)
theorem ent59 : Enters Try.prog 59 := enters_of Try.func59 (by kernel_rfl) (by kernel_rfl)
theorem ent60 : Enters Try.prog 60 := enters_of Try.func60 (by kernel_rfl) (by kernel_rfl)
theorem ent61 : Enters Try.prog 61 := enters_of Try.func61 (by kernel_rfl) (by kernel_rfl)
theorem ent62 : Enters Try.prog 62 := enters_of Try.func62 (by kernel_rfl) (by kernel_rfl)
theorem ent63 : Enters Try.prog 63 := enters_of Try.func63 (by kernel_rfl) (by kernel_rfl)
theorem ent64 : Enters Try.prog 64 := enters_of Try.func64 (by kernel_rfl) (by kernel_rfl)
theorem ent65 : Enters Try.prog 65 := enters_of Try.func65 (by kernel_rfl) (by kernel_rfl)
theorem ent66 : Enters Try.prog 66 := enters_of Try.func66 (by kernel_rfl) (by kernel_rfl)
theorem ent67 : Enters Try.prog 67 := enters_of Try.func67 (by kernel_rfl) (by kernel_rfl)
theorem ent68 : Enters Try.prog 68 := enters_of Try.func68 (by kernel_rfl) (by kernel_rfl)
theorem ent69 : Enters Try.prog 69 := enters_of Try.func69 (by kernel_rfl) (by kernel_rfl)
theorem ent70 : Enters Try.prog 70 := enters_of Try.func70 (by kernel_rfl) (by kernel_rfl)
theorem ent71 : Enters Try.prog 71 := enters_of Try.func71 (by kernel_rfl) (by kernel_rfl)
theorem ent72 : Enters Try.prog 72 := enters_of Try.func72 (by kernel_rfl) (by kernel_rfl)
theorem ent73 : Enters Try.prog 73 := enters_of Try.func73 (by kernel_rfl) (by kernel_rfl)
theorem ent74 : Enters Try.prog 74 := enters_of Try.func74 (by kernel_rfl) (by kernel_rfl)
theorem ent75 : Enters Try.prog 75 := enters_of Try.func75 (by kernel_rfl) (by kernel_rfl)
theorem ent76 : Enters Try.prog 76 := enters_of Try.func76 (by kernel_rfl) (by kernel_rfl)
theorem ent77 : Enters Try.prog 77 := enters_of Try.func77 (by kernel_rfl) (by kernel_rfl)
theorem ent78 : Enters Try.prog 78 := enters_of Try.func78 (by kernel_rfl) (by kernel_rfl)
theorem ent79 : Enters Try.prog 79 := enters_of Try.func79 (by kernel_rfl) (by kernel_rfl)
theorem ent80 : Enters Try.prog 80 := enters_of Try.func80 (by kernel_rfl) (by kernel_rfl)
theorem ent81 : Enters Try.prog 81 := enters_of Try.func81 (by kernel_rfl) (by kernel_rfl)
theorem ent82 : Enters Try.prog 82 := enters_of Try.func82 (by kernel_rfl) (by kernel_rfl)
theorem ent83 : Enters Try.prog 83 := enters_of Try.func83 (by kernel_rfl) (by kernel_rfl)
theorem ent85 : Enters Try.prog 85 := enters_of Try.func85 (by kernel_rfl) (by kernel_rfl)
theorem ent86 : Enters Try.prog 86 := enters_of Try.func86 (by kernel_rfl) (by kernel_rfl)
theorem ent87 : Enters Try.prog 87 := enters_of Try.func87 (by kernel_rfl) (by kernel_rfl)
theorem ent88 : Enters Try.prog 88 := enters_of Try.func88 (by kernel_rfl) (by kernel_rfl)
theorem ent89 : Enters Try.prog 89 := enters_of Try.func89 (by kernel_rfl) (by kernel_rfl)
theorem ent90 : Enters Try.prog 90 := enters_of Try.func90 (by kernel_rfl) (by kernel_rfl)
theorem ent91 : Enters Try.prog 91 := enters_of Try.func91 (by kernel_rfl) (by kernel_rfl)
theorem ent92 : Enters Try.prog 92 := enters_of Try.func92 (by kernel_rfl) (by kernel_rfl)
theorem ent93 : Enters Try.prog 93 := enters_of Try.func93 (by kernel_rfl) (by kernel_rfl)
theorem ent94 : Enters Try.prog 94 := enters_of Try.func94 (by kernel_rfl) (by kernel_rfl)
theorem ent95 : Enters Try.prog 95 := enters_of Try.func95 (by kernel_rfl) (by kernel_rfl)
theorem ent96 : Enters Try.prog 96 := enters_of Try.func96 (by kernel_rfl) (by kernel_rfl)
theorem ent97 : Enters Try.prog 97 := enters_of Try.func97 (by kernel_rfl) (by kernel_rfl)
theorem ent98 : Enters Try.prog 98 := enters_of Try.func98 (by kernel_rfl) (by kernel_rfl)
theorem ent99 : Enters Try.prog 99 := enters_of Try.func99 (by kernel_rfl) (by kernel_rfl)
theorem ent100 : Enters Try.prog 100 := enters_of Try.func100 (by kernel_rfl) (by kernel_rfl)
theorem ent101 : Enters Try.prog 101 := enters_of Try.func101 (by kernel_rfl) (by kernel_rfl)
theorem ent102 : Enters Try.prog 102 := enters_of Try.func102 (by kernel_rfl) (by kernel_rfl)
theorem ent103 : Enters Try.prog 103 := enters_of Try.func103 (by kernel_rfl) (by kernel_rfl)
theorem ent104 : Enters Try.prog 104 := enters_of Try.func104 (by kernel_rfl) (by kernel_rfl)
theorem ent105 : Enters Try.prog 105 := enters_of Try.func105 (by kernel_rfl) (by kernel_rfl)
theorem ent106 : Enters Try.prog 106 := enters_of Try.func106 (by kernel_rfl) (by kernel_rfl)
theorem ent107 : Enters Try.prog 107 := enters_of Try.func107 (by kernel_rfl) (by kernel_rfl)
theorem ent108 : Enters Try.prog 108 := enters_of Try.func108 (by kernel_rfl) (by kernel_rfl)
theorem ent109 : Enters Try.prog 109 := enters_of Try.func109 (by kernel_rfl) (by kernel_rfl)
theorem ent110 : Enters Try.prog 110 := enters_of Try.func110 (by kernel_rfl) (by kernel_rfl)
theorem ent111 : Enters Try.prog 111 := enters_of Try.func111 (by kernel_rfl) (by kernel_rfl)
theorem ent112 : Enters Try.prog 112 := enters_of Try.func112 (by kernel_rfl) (by kernel_rfl)
theorem ent113 : Enters Try.prog 113 := enters_of Try.func113 (by kernel_rfl) (by kernel_rfl)
theorem ent114 : Enters Try.prog 114 := enters_of Try.func114 (by kernel_rfl) (by kernel_rfl)
theorem ent115 : Enters Try.prog 115 := enters_of Try.func115 (by kernel_rfl) (by kernel_rfl)
theorem ent116 : Enters Try.prog 116 := enters_of Try.func116 (by kernel_rfl) (by kernel_rfl)
theorem ent117 : Enters Try.prog 117 := enters_of Try.func117 (by kernel_rfl) (by kernel_rfl)
theorem ent118 : Enters Try.prog 118 := enters_of Try.func118 (by kernel_rfl) (by kernel_rfl)
theorem mixed : Try.prog.follows .mixedOrders = true := by kernel_rfl
end Go.Proofs.Ytdoibplhbdkapaa
