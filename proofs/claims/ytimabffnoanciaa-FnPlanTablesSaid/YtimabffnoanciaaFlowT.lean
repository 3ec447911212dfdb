/- closed facts on the types and functions of this program, by a program of mine -/
import Derived.Test.YtimabffnoanciaaFlowE
import Derived.Test.YtimabffnoanciaaRows
namespace Go.Proofs.Ytimabffnoanciaa
theorem ti2 : tiO Try.prog 2 = some (false, 1, 8, [.int .i64 0]) := by kernel_rfl
theorem ti3 : tiO Try.prog 3 = some (false, 1, 8, [.int .i64 0]) := by kernel_rfl
theorem ti4 : tiO Try.prog 4 = some (false, 1, 1, [.bool false]) := by kernel_rfl
theorem ti5 : tiO Try.prog 5 = some (false, 1, 1, [.int .u8 0]) := by kernel_rfl
theorem ti6 : tiO Try.prog 6 = some (false, 1, 1, [.int .u8 0]) := by kernel_rfl
theorem ti7 : tiO Try.prog 7 = some (true, 4, 24, [.int .i64 0, .int .i64 0, .bool false, .int .u8 0]) := by kernel_rfl
theorem pl7 : plO Try.prog 7 = some [(0, 1), (1, 1), (2, 1), (3, 1)] := by kernel_rfl
theorem off7_0 : offO Try.prog 7 0 = some 0 := by kernel_rfl
theorem off7_1 : offO Try.prog 7 1 = some 1 := by kernel_rfl
theorem off7_2 : offO Try.prog 7 2 = some 2 := by kernel_rfl
theorem off7_3 : offO Try.prog 7 3 = some 3 := by kernel_rfl
theorem ti8 : tiO Try.prog 8 = some (true, 4, 24, [.int .i64 0, .int .i64 0, .bool false, .int .u8 0]) := by kernel_rfl
theorem pl8 : plO Try.prog 8 = some [(0, 1), (1, 1), (2, 1), (3, 1)] := by kernel_rfl
theorem off8_0 : offO Try.prog 8 0 = some 0 := by kernel_rfl
theorem off8_1 : offO Try.prog 8 1 = some 1 := by kernel_rfl
theorem off8_2 : offO Try.prog 8 2 = some 2 := by kernel_rfl
theorem off8_3 : offO Try.prog 8 3 = some 3 := by kernel_rfl
theorem ti9 : tiO Try.prog 9 = some (false, 1, 16, [.string ByteArray.empty]) := by kernel_rfl
theorem ti10 : tiO Try.prog 10 = some (false, 1, 16, [.string ByteArray.empty]) := by kernel_rfl
theorem ti11 : tiO Try.prog 11 = some (false, 1, 16, [.string ByteArray.empty]) := by kernel_rfl
theorem ti12 : tiO Try.prog 12 = some (false, 1, 8, [.int .u64 0]) := by kernel_rfl
theorem ti13 : tiO Try.prog 13 = some (true, 2, 24, [.string ByteArray.empty, .int .u64 0]) := by kernel_rfl
theorem pl13 : plO Try.prog 13 = some [(0, 1), (1, 1)] := by kernel_rfl
theorem off13_0 : offO Try.prog 13 0 = some 0 := by kernel_rfl
theorem off13_1 : offO Try.prog 13 1 = some 1 := by kernel_rfl
theorem ti14 : tiO Try.prog 14 = some (true, 2, 24, [.string ByteArray.empty, .int .u64 0]) := by kernel_rfl
theorem pl14 : plO Try.prog 14 = some [(0, 1), (1, 1)] := by kernel_rfl
theorem off14_0 : offO Try.prog 14 0 = some 0 := by kernel_rfl
theorem off14_1 : offO Try.prog 14 1 = some 1 := by kernel_rfl
theorem ti15 : tiO Try.prog 15 = some (false, 1, 8, [.pointer none]) := by kernel_rfl
theorem ti16 : tiO Try.prog 16 = some (false, 1, 8, [.pointer none]) := by kernel_rfl
theorem ti17 : tiO Try.prog 17 = some (false, 1, 8, [.pointer none]) := by kernel_rfl
theorem ti18 : tiO Try.prog 18 = some (true, 1, 8, [.pointer none]) := by kernel_rfl
theorem pl18 : plO Try.prog 18 = some [(0, 1)] := by kernel_rfl
theorem off18_0 : offO Try.prog 18 0 = some 0 := by kernel_rfl
theorem ti19 : tiO Try.prog 19 = some (true, 1, 8, [.pointer none]) := by kernel_rfl
theorem pl19 : plO Try.prog 19 = some [(0, 1)] := by kernel_rfl
theorem off19_0 : offO Try.prog 19 0 = some 0 := by kernel_rfl
theorem ti21 : tiO Try.prog 21 = some (false, 1, 4, [.int .i32 0]) := by kernel_rfl
theorem ti22 : tiO Try.prog 22 = some (false, 1, 24, [.slice none 0 0]) := by kernel_rfl
theorem el22 : elO Try.prog 22 = some (5, 1) := by kernel_rfl
theorem ti24 : tiO Try.prog 24 = some (false, 1, 24, [.slice none 0 0]) := by kernel_rfl
theorem el24 : elO Try.prog 24 = some (2, 1) := by kernel_rfl
theorem ti32 : tiO Try.prog 32 = some (false, 1, 24, [.slice none 0 0]) := by kernel_rfl
theorem el32 : elO Try.prog 32 = some (94, 3) := by kernel_rfl
theorem ti36 : tiO Try.prog 36 = some (false, 1, 24, [.slice none 0 0]) := by kernel_rfl
theorem el36 : elO Try.prog 36 = some (79, 3) := by kernel_rfl
theorem ti45 : tiO Try.prog 45 = some (false, 1, 24, [.slice none 0 0]) := by kernel_rfl
theorem el45 : elO Try.prog 45 = some (102, 2) := by kernel_rfl
theorem ti48 : tiO Try.prog 48 = some (false, 1, 24, [.slice none 0 0]) := by kernel_rfl
theorem el48 : elO Try.prog 48 = some (104, 2) := by kernel_rfl
theorem ti56 : tiO Try.prog 56 = some (false, 1, 24, [.slice none 0 0]) := by kernel_rfl
theorem el56 : elO Try.prog 56 = some (110, 3) := by kernel_rfl
theorem ti60 : tiO Try.prog 60 = some (false, 1, 24, [.slice none 0 0]) := by kernel_rfl
theorem el60 : elO Try.prog 60 = some (114, 3) := by kernel_rfl
theorem ti74 : tiO Try.prog 74 = some (false, 1, 24, [.slice none 0 0]) := by kernel_rfl
theorem el74 : elO Try.prog 74 = some (24, 1) := by kernel_rfl
theorem ti78 : tiO Try.prog 78 = some (true, 3, 24, [.int .i64 0, .int .i64 0, .int .i64 0]) := by kernel_rfl
theorem pl78 : plO Try.prog 78 = some [(0, 1), (1, 1), (2, 1)] := by kernel_rfl
theorem off78_0 : offO Try.prog 78 0 = some 0 := by kernel_rfl
theorem off78_1 : offO Try.prog 78 1 = some 1 := by kernel_rfl
theorem off78_2 : offO Try.prog 78 2 = some 2 := by kernel_rfl
theorem ti79 : tiO Try.prog 79 = some (true, 3, 24, [.int .i64 0, .int .i64 0, .int .i64 0]) := by kernel_rfl
theorem pl79 : plO Try.prog 79 = some [(0, 1), (1, 1), (2, 1)] := by kernel_rfl
theorem off79_0 : offO Try.prog 79 0 = some 0 := by kernel_rfl
theorem off79_1 : offO Try.prog 79 1 = some 1 := by kernel_rfl
theorem off79_2 : offO Try.prog 79 2 = some 2 := by kernel_rfl
theorem ti84 : tiO Try.prog 84 = some (false, 1, 8, [.pointer none]) := by kernel_rfl
theorem ti94 : tiO Try.prog 94 = some (true, 3, 24, [.int .i64 0, .int .i64 0, .int .i64 0]) := by kernel_rfl
theorem pl94 : plO Try.prog 94 = some [(0, 1), (1, 1), (2, 1)] := by kernel_rfl
theorem off94_0 : offO Try.prog 94 0 = some 0 := by kernel_rfl
theorem off94_1 : offO Try.prog 94 1 = some 1 := by kernel_rfl
theorem off94_2 : offO Try.prog 94 2 = some 2 := by kernel_rfl
theorem ti101 : tiO Try.prog 101 = some (true, 2, 16, [.int .i64 0, .int .i64 0]) := by kernel_rfl
theorem pl101 : plO Try.prog 101 = some [(0, 1), (1, 1)] := by kernel_rfl
theorem off101_0 : offO Try.prog 101 0 = some 0 := by kernel_rfl
theorem off101_1 : offO Try.prog 101 1 = some 1 := by kernel_rfl
theorem ti102 : tiO Try.prog 102 = some (true, 2, 16, [.int .i64 0, .int .i64 0]) := by kernel_rfl
theorem pl102 : plO Try.prog 102 = some [(0, 1), (1, 1)] := by kernel_rfl
theorem off102_0 : offO Try.prog 102 0 = some 0 := by kernel_rfl
theorem off102_1 : offO Try.prog 102 1 = some 1 := by kernel_rfl
theorem ti104 : tiO Try.prog 104 = some (true, 2, 16, [.int .i64 0, .int .i64 0]) := by kernel_rfl
theorem pl104 : plO Try.prog 104 = some [(0, 1), (1, 1)] := by kernel_rfl
theorem off104_0 : offO Try.prog 104 0 = some 0 := by kernel_rfl
theorem off104_1 : offO Try.prog 104 1 = some 1 := by kernel_rfl
theorem ti109 : tiO Try.prog 109 = some (true, 3, 40, [.int .i64 0, .int .i64 0, .slice none 0 0]) := by kernel_rfl
theorem pl109 : plO Try.prog 109 = some [(0, 1), (1, 1), (2, 1)] := by kernel_rfl
theorem off109_0 : offO Try.prog 109 0 = some 0 := by kernel_rfl
theorem off109_1 : offO Try.prog 109 1 = some 1 := by kernel_rfl
theorem off109_2 : offO Try.prog 109 2 = some 2 := by kernel_rfl
theorem ti110 : tiO Try.prog 110 = some (true, 3, 40, [.int .i64 0, .int .i64 0, .slice none 0 0]) := by kernel_rfl
theorem pl110 : plO Try.prog 110 = some [(0, 1), (1, 1), (2, 1)] := by kernel_rfl
theorem off110_0 : offO Try.prog 110 0 = some 0 := by kernel_rfl
theorem off110_1 : offO Try.prog 110 1 = some 1 := by kernel_rfl
theorem off110_2 : offO Try.prog 110 2 = some 2 := by kernel_rfl
theorem ti114 : tiO Try.prog 114 = some (true, 3, 40, [.int .i64 0, .int .i64 0, .slice none 0 0]) := by kernel_rfl
theorem pl114 : plO Try.prog 114 = some [(0, 1), (1, 1), (2, 1)] := by kernel_rfl
theorem off114_0 : offO Try.prog 114 0 = some 0 := by kernel_rfl
theorem off114_1 : offO Try.prog 114 1 = some 1 := by kernel_rfl
theorem off114_2 : offO Try.prog 114 2 = some 2 := by kernel_rfl
theorem ti121 : tiO Try.prog 121 = some (true, 3, 40, [.slice none 0 0, .int .i64 0, .int .i64 0]) := by kernel_rfl
theorem pl121 : plO Try.prog 121 = some [(0, 1), (1, 1), (2, 1)] := by kernel_rfl
theorem off121_0 : offO Try.prog 121 0 = some 0 := by kernel_rfl
theorem off121_1 : offO Try.prog 121 1 = some 1 := by kernel_rfl
theorem off121_2 : offO Try.prog 121 2 = some 2 := by kernel_rfl
theorem ti122 : tiO Try.prog 122 = some (true, 3, 40, [.slice none 0 0, .int .i64 0, .int .i64 0]) := by kernel_rfl
theorem pl122 : plO Try.prog 122 = some [(0, 1), (1, 1), (2, 1)] := by kernel_rfl
theorem off122_0 : offO Try.prog 122 0 = some 0 := by kernel_rfl
theorem off122_1 : offO Try.prog 122 1 = some 1 := by kernel_rfl
theorem off122_2 : offO Try.prog 122 2 = some 2 := by kernel_rfl
theorem ti123 : tiO Try.prog 123 = some (false, 1, 24, [.slice none 0 0]) := by kernel_rfl
theorem el123 : elO Try.prog 123 = some (9, 1) := by kernel_rfl
theorem ti143 : tiO Try.prog 143 = some (false, 1, 8, [.int .u64 0]) := by kernel_rfl
theorem ti146 : tiO Try.prog 146 = some (false, 1, 4, [.int .u32 0]) := by kernel_rfl
theorem ti149 : tiO Try.prog 149 = some (false, 1, 8, [.int .u64 0]) := by kernel_rfl
theorem ti153 : tiO Try.prog 153 = some (true, 4, 40, [.pointer none, .pointer none, .pointer none, .string ByteArray.empty]) := by kernel_rfl
theorem pl153 : plO Try.prog 153 = some [(0, 1), (1, 1), (2, 1), (3, 1)] := by kernel_rfl
theorem off153_0 : offO Try.prog 153 0 = some 0 := by kernel_rfl
theorem off153_1 : offO Try.prog 153 1 = some 1 := by kernel_rfl
theorem off153_2 : offO Try.prog 153 2 = some 2 := by kernel_rfl
theorem off153_3 : offO Try.prog 153 3 = some 3 := by kernel_rfl
theorem ti154 : tiO Try.prog 154 = some (true, 4, 40, [.pointer none, .pointer none, .pointer none, .string ByteArray.empty]) := by kernel_rfl
theorem pl154 : plO Try.prog 154 = some [(0, 1), (1, 1), (2, 1), (3, 1)] := by kernel_rfl
theorem off154_0 : offO Try.prog 154 0 = some 0 := by kernel_rfl
theorem off154_1 : offO Try.prog 154 1 = some 1 := by kernel_rfl
theorem off154_2 : offO Try.prog 154 2 = some 2 := by kernel_rfl
theorem off154_3 : offO Try.prog 154 3 = some 3 := by kernel_rfl
theorem ti155 : tiO Try.prog 155 = some (true, 0, 0, []) := by kernel_rfl
theorem ti156 : tiO Try.prog 156 = some (true, 0, 0, []) := by kernel_rfl
theorem pl156 : plO Try.prog 156 = some [(0, 0)] := by kernel_rfl
theorem ti157 : tiO Try.prog 157 = some (true, 0, 0, []) := by kernel_rfl
theorem pl157 : plO Try.prog 157 = some [(0, 0)] := by kernel_rfl
theorem ti159 : tiO Try.prog 159 = some (false, 1, 1, [.int .u8 0]) := by kernel_rfl
theorem ti160 : tiO Try.prog 160 = some (false, 1, 1, [.int .u8 0]) := by kernel_rfl
theorem ti162 : tiO Try.prog 162 = some (false, 1, 8, [.pointer none]) := by kernel_rfl
theorem ti163 : tiO Try.prog 163 = some (false, 1, 4, [.int .i32 0]) := by kernel_rfl
theorem ti164 : tiO Try.prog 164 = some (false, 1, 4, [.int .i32 0]) := by kernel_rfl
theorem ti165 : tiO Try.prog 165 = some (true, 11, 48, [.int .u64 0, .int .u64 0, .int .u32 0, .int .u8 0, .int .u8 0, .int .u8 0, .int .u8 0, .nilFunc, .pointer none, .int .i32 0, .int .i32 0]) := by kernel_rfl
theorem off165_0 : offO Try.prog 165 0 = some 0 := by kernel_rfl
theorem off165_1 : offO Try.prog 165 1 = some 1 := by kernel_rfl
theorem off165_2 : offO Try.prog 165 2 = some 2 := by kernel_rfl
theorem off165_3 : offO Try.prog 165 3 = some 3 := by kernel_rfl
theorem off165_4 : offO Try.prog 165 4 = some 4 := by kernel_rfl
theorem off165_5 : offO Try.prog 165 5 = some 5 := by kernel_rfl
theorem off165_6 : offO Try.prog 165 6 = some 6 := by kernel_rfl
theorem off165_8 : offO Try.prog 165 8 = some 8 := by kernel_rfl
theorem off165_9 : offO Try.prog 165 9 = some 9 := by kernel_rfl
theorem off165_10 : offO Try.prog 165 10 = some 10 := by kernel_rfl
theorem ti166 : tiO Try.prog 166 = some (true, 11, 48, [.int .u64 0, .int .u64 0, .int .u32 0, .int .u8 0, .int .u8 0, .int .u8 0, .int .u8 0, .nilFunc, .pointer none, .int .i32 0, .int .i32 0]) := by kernel_rfl
theorem off166_0 : offO Try.prog 166 0 = some 0 := by kernel_rfl
theorem off166_1 : offO Try.prog 166 1 = some 1 := by kernel_rfl
theorem off166_2 : offO Try.prog 166 2 = some 2 := by kernel_rfl
theorem off166_3 : offO Try.prog 166 3 = some 3 := by kernel_rfl
theorem off166_4 : offO Try.prog 166 4 = some 4 := by kernel_rfl
theorem off166_5 : offO Try.prog 166 5 = some 5 := by kernel_rfl
theorem off166_6 : offO Try.prog 166 6 = some 6 := by kernel_rfl
theorem off166_8 : offO Try.prog 166 8 = some 8 := by kernel_rfl
theorem off166_9 : offO Try.prog 166 9 = some 9 := by kernel_rfl
theorem off166_10 : offO Try.prog 166 10 = some 10 := by kernel_rfl
theorem ti167 : tiO Try.prog 167 = some (false, 1, 8, [.pointer none]) := by kernel_rfl
theorem ent2 : Enters Try.prog 2 := enters_of Try.func2 (by kernel_rfl) (by kernel_rfl)
theorem ent3 : Enters Try.prog 3 := enters_of Try.func3 (by kernel_rfl) (by kernel_rfl)
theorem ent4 : Enters Try.prog 4 := enters_of Try.func4 (by kernel_rfl) (by kernel_rfl)
theorem ent5 : Enters Try.prog 5 := enters_of Try.func5 (by kernel_rfl) (by kernel_rfl)
theorem ent6 : Enters Try.prog 6 := enters_of Try.func6 (by kernel_rfl) (by kernel_rfl)
theorem ent7 : Enters Try.prog 7 := enters_of Try.func7 (by kernel_rfl) (by kernel_rfl)
theorem ent8 : Enters Try.prog 8 := enters_of Try.func8 (by kernel_rfl) (by kernel_rfl)
theorem ent9 : Enters Try.prog 9 := enters_of Try.func9 (by kernel_rfl) (by kernel_rfl)
theorem ent10 : Enters Try.prog 10 := enters_of Try.func10 (by kernel_rfl) (by kernel_rfl)
theorem ent11 : Enters Try.prog 11 := enters_of Try.func11 (by kernel_rfl) (by kernel_rfl)
theorem ent12 : Enters Try.prog 12 := enters_of Try.func12 (by kernel_rfl) (by kernel_rfl)
theorem ent13 : Enters Try.prog 13 := enters_of Try.func13 (by kernel_rfl) (by kernel_rfl)
theorem ent14 : Enters Try.prog 14 := enters_of Try.func14 (by kernel_rfl) (by kernel_rfl)
theorem ent15 : Enters Try.prog 15 := enters_of Try.func15 (by kernel_rfl) (by kernel_rfl)
theorem ent16 : Enters Try.prog 16 := enters_of Try.func16 (by kernel_rfl) (by kernel_rfl)
theorem ent17 : Enters Try.prog 17 := enters_of Try.func17 (by kernel_rfl) (by kernel_rfl)
theorem ent18 : Enters Try.prog 18 := enters_of Try.func18 (by kernel_rfl) (by kernel_rfl)
theorem ent19 : Enters Try.prog 19 := enters_of Try.func19 (by kernel_rfl) (by kernel_rfl)
theorem ent20 : Enters Try.prog 20 := enters_of Try.func20 (by kernel_rfl) (by kernel_rfl)
theorem ent21 : Enters Try.prog 21 := enters_of Try.func21 (by kernel_rfl) (by kernel_rfl)
theorem ent22 : Enters Try.prog 22 := enters_of Try.func22 (by kernel_rfl) (by kernel_rfl)
theorem ent23 : Enters Try.prog 23 := enters_of Try.func23 (by kernel_rfl) (by kernel_rfl)
theorem ent24 : Enters Try.prog 24 := enters_of Try.func24 (by kernel_rfl) (by kernel_rfl)
theorem ent25 : Enters Try.prog 25 := enters_of Try.func25 (by kernel_rfl) (by kernel_rfl)
theorem ent26 : Enters Try.prog 26 := enters_of Try.func26 (by kernel_rfl) (by kernel_rfl)
theorem ent27 : Enters Try.prog 27 := enters_of Try.func27 (by kernel_rfl) (by kernel_rfl)
theorem ent28 : Enters Try.prog 28 := enters_of Try.func28 (by kernel_rfl) (by kernel_rfl)
theorem ent29 : Enters Try.prog 29 := enters_of Try.func29 (by kernel_rfl) (by kernel_rfl)
theorem ent30 : Enters Try.prog 30 := enters_of Try.func30 (by kernel_rfl) (by kernel_rfl)
theorem ent31 : Enters Try.prog 31 := enters_of Try.func31 (by kernel_rfl) (by kernel_rfl)
theorem ent32 : Enters Try.prog 32 := enters_of Try.func32 (by kernel_rfl) (by kernel_rfl)
theorem ent33 : Enters Try.prog 33 := enters_of Try.func33 (by kernel_rfl) (by kernel_rfl)
theorem ent34 : Enters Try.prog 34 := enters_of Try.func34 (by kernel_rfl) (by kernel_rfl)
theorem ent35 : Enters Try.prog 35 := enters_of Try.func35 (by kernel_rfl) (by kernel_rfl)
theorem ent36 : Enters Try.prog 36 := enters_of Try.func36 (by kernel_rfl) (by kernel_rfl)
theorem ent37 : Enters Try.prog 37 := enters_of Try.func37 (by kernel_rfl) (by kernel_rfl)
theorem ent38 : Enters Try.prog 38 := enters_of Try.func38 (by kernel_rfl) (by kernel_rfl)
theorem ent39 : Enters Try.prog 39 := enters_of Try.func39 (by kernel_rfl) (by kernel_rfl)
theorem ent40 : Enters Try.prog 40 := enters_of Try.func40 (by kernel_rfl) (by kernel_rfl)
theorem ent41 : Enters Try.prog 41 := enters_of Try.func41 (by kernel_rfl) (by kernel_rfl)
theorem ent42 : Enters Try.prog 42 := enters_of Try.func42 (by kernel_rfl) (by kernel_rfl)
theorem ent43 : Enters Try.prog 43 := enters_of Try.func43 (by kernel_rfl) (by kernel_rfl)
theorem ent44 : Enters Try.prog 44 := enters_of Try.func44 (by kernel_rfl) (by kernel_rfl)
theorem ent45 : Enters Try.prog 45 := enters_of Try.func45 (by kernel_rfl) (by kernel_rfl)
theorem ent46 : Enters Try.prog 46 := enters_of Try.func46 (by kernel_rfl) (by kernel_rfl)
theorem ent47 : Enters Try.prog 47 := enters_of Try.func47 (by kernel_rfl) (by kernel_rfl)
theorem ent48 : Enters Try.prog 48 := enters_of Try.func48 (by kernel_rfl) (by kernel_rfl)
theorem ent49 : Enters Try.prog 49 := enters_of Try.func49 (by kernel_rfl) (by kernel_rfl)
theorem ent50 : Enters Try.prog 50 := enters_of Try.func50 (by kernel_rfl) (by kernel_rfl)
theorem ent51 : Enters Try.prog 51 := enters_of Try.func51 (by kernel_rfl) (by kernel_rfl)
theorem ent52 : Enters Try.prog 52 := enters_of Try.func52 (by kernel_rfl) (by kernel_rfl)
theorem ent53 : Enters Try.prog 53 := enters_of Try.func53 (by kernel_rfl) (by kernel_rfl)
theorem ent54 : Enters Try.prog 54 := enters_of Try.func54 (by kernel_rfl) (by kernel_rfl)
theorem ent55 : Enters Try.prog 55 := enters_of Try.func55 (by kernel_rfl) (by kernel_rfl)
theorem ent56 : Enters Try.prog 56 := enters_of Try.func56 (by kernel_rfl) (by kernel_rfl)
theorem ent57 : Enters Try.prog 57 := enters_of Try.func57 (by kernel_rfl) (by kernel_rfl)
theorem ent58 : Enters Try.prog 58 := enters_of Try.func58 (by kernel_rfl) (by kernel_rfl)
theorem ent59 : Enters Try.prog 59 := enters_of Try.func59 (by kernel_rfl) (by kernel_rfl)
theorem ent60 : Enters Try.prog 60 := enters_of Try.func60 (by kernel_rfl) (by kernel_rfl)
theorem ent61 : Enters Try.prog 61 := enters_of Try.func61 (by kernel_rfl) (by kernel_rfl)
theorem ent62 : Enters Try.prog 62 := enters_of Try.func62 (by kernel_rfl) (by kernel_rfl)
theorem ent63 : Enters Try.prog 63 := enters_of Try.func63 (by kernel_rfl) (by kernel_rfl)
theorem ent64 : Enters Try.prog 64 := enters_of Try.func64 (by kernel_rfl) (by kernel_rfl)
theorem ent65 : Enters Try.prog 65 := enters_of Try.func65 (by kernel_rfl) (by kernel_rfl)
theorem ent66 : Enters Try.prog 66 := enters_of Try.func66 (by kernel_rfl) (by kernel_rfl)
theorem ent67 : Enters Try.prog 67 := enters_of Try.func67 (by kernel_rfl) (by kernel_rfl)
theorem ent68 : Enters Try.prog 68 := enters_of Try.func68 (by kernel_rfl) (by kernel_rfl)
theorem ent69 : Enters Try.prog 69 := enters_of Try.func69 (by kernel_rfl) (by kernel_rfl)
theorem ent70 : Enters Try.prog 70 := enters_of Try.func70 (by kernel_rfl) (by kernel_rfl)
theorem ent71 : Enters Try.prog 71 := enters_of Try.func71 (by kernel_rfl) (by kernel_rfl)
theorem ent72 : Enters Try.prog 72 := enters_of Try.func72 (by kernel_rfl) (by kernel_rfl)
theorem ent73 : Enters Try.prog 73 := enters_of Try.func73 (by kernel_rfl) (by kernel_rfl)
theorem ent74 : Enters Try.prog 74 := enters_of Try.func74 (by kernel_rfl) (by kernel_rfl)
theorem ent75 : Enters Try.prog 75 := enters_of Try.func75 (by kernel_rfl) (by kernel_rfl)
theorem ent76 : Enters Try.prog 76 := enters_of Try.func76 (by kernel_rfl) (by kernel_rfl)
theorem ent77 : Enters Try.prog 77 := enters_of Try.func77 (by kernel_rfl) (by kernel_rfl)
theorem ent78 : Enters Try.prog 78 := enters_of Try.func78 (by kernel_rfl) (by kernel_rfl)
theorem ent79 : Enters Try.prog 79 := enters_of Try.func79 (by kernel_rfl) (by kernel_rfl)
theorem ent80 : Enters Try.prog 80 := enters_of Try.func80 (by kernel_rfl) (by kernel_rfl)
theorem ent81 : Enters Try.prog 81 := enters_of Try.func81 (by kernel_rfl) (by kernel_rfl)
theorem ent82 : Enters Try.prog 82 := enters_of Try.func82 (by kernel_rfl) (by kernel_rfl)
theorem ent83 : Enters Try.prog 83 := enters_of Try.func83 (by kernel_rfl) (by kernel_rfl)
theorem ent84 : Enters Try.prog 84 := enters_of Try.func84 (by kernel_rfl) (by kernel_rfl)
theorem ent85 : Enters Try.prog 85 := enters_of Try.func85 (by kernel_rfl) (by kernel_rfl)
theorem ent86 : Enters Try.prog 86 := enters_of Try.func86 (by kernel_rfl) (by kernel_rfl)
theorem ent87 : Enters Try.prog 87 := enters_of Try.func87 (by kernel_rfl) (by kernel_rfl)
theorem ent88 : Enters Try.prog 88 := enters_of Try.func88 (by kernel_rfl) (by kernel_rfl)
theorem ent89 : Enters Try.prog 89 := enters_of Try.func89 (by kernel_rfl) (by kernel_rfl)
theorem ent90 : Enters Try.prog 90 := enters_of Try.func90 (by kernel_rfl) (by kernel_rfl)
theorem ent91 : Enters Try.prog 91 := enters_of Try.func91 (by kernel_rfl) (by kernel_rfl)
theorem ent92 : Enters Try.prog 92 := enters_of Try.func92 (by kernel_rfl) (by kernel_rfl)
theorem ent93 : Enters Try.prog 93 := enters_of Try.func93 (by kernel_rfl) (by kernel_rfl)
theorem ent94 : Enters Try.prog 94 := enters_of Try.func94 (by kernel_rfl) (by kernel_rfl)
theorem ent95 : Enters Try.prog 95 := enters_of Try.func95 (by kernel_rfl) (by kernel_rfl)
theorem ent96 : Enters Try.prog 96 := enters_of Try.func96 (by kernel_rfl) (by kernel_rfl)
theorem ent97 : Enters Try.prog 97 := enters_of Try.func97 (by kernel_rfl) (by kernel_rfl)
theorem ent98 : Enters Try.prog 98 := enters_of Try.func98 (by kernel_rfl) (by kernel_rfl)
theorem ent99 : Enters Try.prog 99 := enters_of Try.func99 (by kernel_rfl) (by kernel_rfl)
theorem ent100 : Enters Try.prog 100 := enters_of Try.func100 (by kernel_rfl) (by kernel_rfl)
theorem ent101 : Enters Try.prog 101 := enters_of Try.func101 (by kernel_rfl) (by kernel_rfl)
theorem ent102 : Enters Try.prog 102 := enters_of Try.func102 (by kernel_rfl) (by kernel_rfl)
theorem ent103 : Enters Try.prog 103 := enters_of Try.func103 (by kernel_rfl) (by kernel_rfl)
theorem ent104 : Enters Try.prog 104 := enters_of Try.func104 (by kernel_rfl) (by kernel_rfl)
theorem ent105 : Enters Try.prog 105 := enters_of Try.func105 (by kernel_rfl) (by kernel_rfl)
theorem ent106 : Enters Try.prog 106 := enters_of Try.func106 (by kernel_rfl) (by kernel_rfl)
theorem ent107 : Enters Try.prog 107 := enters_of Try.func107 (by kernel_rfl) (by kernel_rfl)
theorem ent108 : Enters Try.prog 108 := enters_of Try.func108 (by kernel_rfl) (by kernel_rfl)
theorem ent109 : Enters Try.prog 109 := enters_of Try.func109 (by kernel_rfl) (by kernel_rfl)
theorem ent110 : Enters Try.prog 110 := enters_of Try.func110 (by kernel_rfl) (by kernel_rfl)
theorem ent111 : Enters Try.prog 111 := enters_of Try.func111 (by kernel_rfl) (by kernel_rfl)
theorem ent112 : Enters Try.prog 112 := enters_of Try.func112 (by kernel_rfl) (by kernel_rfl)
theorem ent113 : Enters Try.prog 113 := enters_of Try.func113 (by kernel_rfl) (by kernel_rfl)
theorem ent114 : Enters Try.prog 114 := enters_of Try.func114 (by kernel_rfl) (by kernel_rfl)
theorem ent115 : Enters Try.prog 115 := enters_of Try.func115 (by kernel_rfl) (by kernel_rfl)
theorem ent116 : Enters Try.prog 116 := enters_of Try.func116 (by kernel_rfl) (by kernel_rfl)
theorem ent117 : Enters Try.prog 117 := enters_of Try.func117 (by kernel_rfl) (by kernel_rfl)
theorem ent118 : Enters Try.prog 118 := enters_of Try.func118 (by kernel_rfl) (by kernel_rfl)
theorem ent119 : Enters Try.prog 119 := enters_of Try.func119 (by kernel_rfl) (by kernel_rfl)
theorem ent120 : Enters Try.prog 120 := enters_of Try.func120 (by kernel_rfl) (by kernel_rfl)
theorem ent121 : Enters Try.prog 121 := enters_of Try.func121 (by kernel_rfl) (by kernel_rfl)
theorem ent122 : Enters Try.prog 122 := enters_of Try.func122 (by kernel_rfl) (by kernel_rfl)
theorem ent123 : Enters Try.prog 123 := enters_of Try.func123 (by kernel_rfl) (by kernel_rfl)
theorem ent124 : Enters Try.prog 124 := enters_of Try.func124 (by kernel_rfl) (by kernel_rfl)
theorem ent125 : Enters Try.prog 125 := enters_of Try.func125 (by kernel_rfl) (by kernel_rfl)
theorem ent126 : Enters Try.prog 126 := enters_of Try.func126 (by kernel_rfl) (by kernel_rfl)
theorem ent127 : Enters Try.prog 127 := enters_of Try.func127 (by kernel_rfl) (by kernel_rfl)
theorem ent128 : Enters Try.prog 128 := enters_of Try.func128 (by kernel_rfl) (by kernel_rfl)
theorem ent129 : Enters Try.prog 129 := enters_of Try.func129 (by kernel_rfl) (by kernel_rfl)
theorem ent130 : Enters Try.prog 130 := enters_of Try.func130 (by kernel_rfl) (by kernel_rfl)
theorem ent131 : Enters Try.prog 131 := enters_of Try.func131 (by kernel_rfl) (by kernel_rfl)
theorem ent132 : Enters Try.prog 132 := enters_of Try.func132 (by kernel_rfl) (by kernel_rfl)
theorem ent133 : Enters Try.prog 133 := enters_of Try.func133 (by kernel_rfl) (by kernel_rfl)
theorem ent134 : Enters Try.prog 134 := enters_of Try.func134 (by kernel_rfl) (by kernel_rfl)
theorem ent135 : Enters Try.prog 135 := enters_of Try.func135 (by kernel_rfl) (by kernel_rfl)
theorem ent136 : Enters Try.prog 136 := enters_of Try.func136 (by kernel_rfl) (by kernel_rfl)
theorem ent137 : Enters Try.prog 137 := enters_of Try.func137 (by kernel_rfl) (by kernel_rfl)
theorem ent138 : Enters Try.prog 138 := enters_of Try.func138 (by kernel_rfl) (by kernel_rfl)
theorem ent139 : Enters Try.prog 139 := enters_of Try.func139 (by kernel_rfl) (by kernel_rfl)
theorem mixed : Try.prog.follows .mixedOrders = true := by kernel_rfl
end Go.Proofs.Ytimabffnoanciaa
