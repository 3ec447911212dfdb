/- closed facts on the types and functions of this program, by a program of mine -/
import Derived.Test.YtdikgcccdcgjdaaFlowD
import Derived.Test.YtdikgcccdcgjdaaRows
namespace Go.Proofs.Ytdikgcccdcgjdaa
theorem ti2 : tiO Try.prog 2 = some (false, 1, 8, [.int .i64 0]) := by kernel_rfl
theorem ti3 : tiO Try.prog 3 = some (false, 1, 8, [.int .i64 0]) := by kernel_rfl
theorem ti4 : tiO Try.prog 4 = some (false, 1, 1, [.bool false]) := by kernel_rfl
theorem ti5 : tiO Try.prog 5 = some (false, 1, 1, [.int .u8 0]) := by kernel_rfl
theorem ti6 : tiO Try.prog 6 = some (false, 1, 1, [.int .u8 0]) := by kernel_rfl
theorem ti7 : tiO Try.prog 7 = some (true, 4, 24, [.int .i64 0, .int .i64 0, .bool false, .int .u8 0]) := by kernel_rfl
theorem off7_0 : offO Try.prog 7 0 = some 0 := by kernel_rfl
theorem off7_1 : offO Try.prog 7 1 = some 1 := by kernel_rfl
theorem off7_2 : offO Try.prog 7 2 = some 2 := by kernel_rfl
theorem off7_3 : offO Try.prog 7 3 = some 3 := by kernel_rfl
theorem ti8 : tiO Try.prog 8 = some (true, 4, 24, [.int .i64 0, .int .i64 0, .bool false, .int .u8 0]) := by kernel_rfl
theorem off8_0 : offO Try.prog 8 0 = some 0 := by kernel_rfl
theorem off8_1 : offO Try.prog 8 1 = some 1 := by kernel_rfl
theorem off8_2 : offO Try.prog 8 2 = some 2 := by kernel_rfl
theorem off8_3 : offO Try.prog 8 3 = some 3 := by kernel_rfl
theorem ti9 : tiO Try.prog 9 = some (false, 1, 16, [.string ByteArray.empty]) := by kernel_rfl
theorem ti10 : tiO Try.prog 10 = some (false, 1, 16, [.string ByteArray.empty]) := by kernel_rfl
theorem ti11 : tiO Try.prog 11 = some (false, 1, 16, [.string ByteArray.empty]) := by kernel_rfl
theorem ti12 : tiO Try.prog 12 = some (false, 1, 8, [.int .u64 0]) := by kernel_rfl
theorem ti13 : tiO Try.prog 13 = some (true, 2, 24, [.string ByteArray.empty, .int .u64 0]) := by kernel_rfl
theorem off13_0 : offO Try.prog 13 0 = some 0 := by kernel_rfl
theorem off13_1 : offO Try.prog 13 1 = some 1 := by kernel_rfl
theorem ti14 : tiO Try.prog 14 = some (true, 2, 24, [.string ByteArray.empty, .int .u64 0]) := by kernel_rfl
theorem off14_0 : offO Try.prog 14 0 = some 0 := by kernel_rfl
theorem off14_1 : offO Try.prog 14 1 = some 1 := by kernel_rfl
theorem ti15 : tiO Try.prog 15 = some (false, 1, 8, [.pointer none]) := by kernel_rfl
theorem ti16 : tiO Try.prog 16 = some (false, 1, 8, [.pointer none]) := by kernel_rfl
theorem ti17 : tiO Try.prog 17 = some (false, 1, 8, [.pointer none]) := by kernel_rfl
theorem ti18 : tiO Try.prog 18 = some (true, 1, 8, [.pointer none]) := by kernel_rfl
theorem off18_0 : offO Try.prog 18 0 = some 0 := by kernel_rfl
theorem ti19 : tiO Try.prog 19 = some (true, 1, 8, [.pointer none]) := by kernel_rfl
theorem off19_0 : offO Try.prog 19 0 = some 0 := by kernel_rfl
theorem ti21 : tiO Try.prog 21 = some (false, 1, 4, [.int .i32 0]) := by kernel_rfl
theorem ti22 : tiO Try.prog 22 = some (true, 5, 40, [.int .i64 0, .int .i64 0, .int .i64 0, .int .i64 0, .bool false]) := by kernel_rfl
theorem off22_0 : offO Try.prog 22 0 = some 0 := by kernel_rfl
theorem off22_1 : offO Try.prog 22 1 = some 1 := by kernel_rfl
theorem off22_2 : offO Try.prog 22 2 = some 2 := by kernel_rfl
theorem off22_3 : offO Try.prog 22 3 = some 3 := by kernel_rfl
theorem off22_4 : offO Try.prog 22 4 = some 4 := by kernel_rfl
theorem ti23 : tiO Try.prog 23 = some (true, 5, 40, [.int .i64 0, .int .i64 0, .int .i64 0, .int .i64 0, .bool false]) := by kernel_rfl
theorem off23_0 : offO Try.prog 23 0 = some 0 := by kernel_rfl
theorem off23_1 : offO Try.prog 23 1 = some 1 := by kernel_rfl
theorem off23_2 : offO Try.prog 23 2 = some 2 := by kernel_rfl
theorem off23_3 : offO Try.prog 23 3 = some 3 := by kernel_rfl
theorem off23_4 : offO Try.prog 23 4 = some 4 := by kernel_rfl
theorem ti24 : tiO Try.prog 24 = some (true, 8, 64, [.int .i64 0, .int .i64 0, .int .i64 0, .int .i64 0, .int .i64 0, .int .i64 0, .int .i64 0, .bool false]) := by kernel_rfl
theorem off24_0 : offO Try.prog 24 0 = some 0 := by kernel_rfl
theorem off24_1 : offO Try.prog 24 1 = some 1 := by kernel_rfl
theorem off24_2 : offO Try.prog 24 2 = some 2 := by kernel_rfl
theorem off24_3 : offO Try.prog 24 3 = some 3 := by kernel_rfl
theorem ti25 : tiO Try.prog 25 = some (true, 8, 64, [.int .i64 0, .int .i64 0, .int .i64 0, .int .i64 0, .int .i64 0, .int .i64 0, .int .i64 0, .bool false]) := by kernel_rfl
theorem off25_0 : offO Try.prog 25 0 = some 0 := by kernel_rfl
theorem off25_1 : offO Try.prog 25 1 = some 1 := by kernel_rfl
theorem off25_2 : offO Try.prog 25 2 = some 2 := by kernel_rfl
theorem off25_3 : offO Try.prog 25 3 = some 3 := by kernel_rfl
theorem ti27 : tiO Try.prog 27 = some (true, 5, 40, [.int .i64 0, .int .i64 0, .int .i64 0, .int .i64 0, .bool false]) := by kernel_rfl
theorem off27_0 : offO Try.prog 27 0 = some 0 := by kernel_rfl
theorem off27_1 : offO Try.prog 27 1 = some 1 := by kernel_rfl
theorem off27_2 : offO Try.prog 27 2 = some 2 := by kernel_rfl
theorem off27_3 : offO Try.prog 27 3 = some 3 := by kernel_rfl
theorem off27_4 : offO Try.prog 27 4 = some 4 := by kernel_rfl
theorem ti28 : tiO Try.prog 28 = some (true, 8, 64, [.int .i64 0, .int .i64 0, .int .i64 0, .int .i64 0, .int .i64 0, .int .i64 0, .int .i64 0, .bool false]) := by kernel_rfl
theorem off28_0 : offO Try.prog 28 0 = some 0 := by kernel_rfl
theorem off28_1 : offO Try.prog 28 1 = some 1 := by kernel_rfl
theorem off28_2 : offO Try.prog 28 2 = some 2 := by kernel_rfl
theorem off28_3 : offO Try.prog 28 3 = some 3 := by kernel_rfl
theorem ti29 : tiO Try.prog 29 = some (true, 8, 64, [.int .i64 0, .int .i64 0, .int .i64 0, .int .i64 0, .int .i64 0, .int .i64 0, .int .i64 0, .bool false]) := by kernel_rfl
theorem off29_0 : offO Try.prog 29 0 = some 0 := by kernel_rfl
theorem off29_1 : offO Try.prog 29 1 = some 1 := by kernel_rfl
theorem off29_2 : offO Try.prog 29 2 = some 2 := by kernel_rfl
theorem off29_3 : offO Try.prog 29 3 = some 3 := by kernel_rfl
theorem ti32 : tiO Try.prog 32 = some (false, 1, 24, [.slice none 0 0]) := by kernel_rfl
theorem el32 : elO Try.prog 32 = some (2, 1) := by kernel_rfl
theorem ti37 : tiO Try.prog 37 = some (false, 1, 24, [.slice none 0 0]) := by kernel_rfl
theorem el37 : elO Try.prog 37 = some (61, 3) := by kernel_rfl
theorem ti40 : tiO Try.prog 40 = some (false, 1, 24, [.slice none 0 0]) := by kernel_rfl
theorem el40 : elO Try.prog 40 = some (58, 3) := by kernel_rfl
theorem ti50 : tiO Try.prog 50 = some (false, 1, 24, [.slice none 0 0]) := by kernel_rfl
theorem el50 : elO Try.prog 50 = some (5, 1) := by kernel_rfl
theorem ti57 : tiO Try.prog 57 = some (true, 3, 24, [.int .i64 0, .int .i64 0, .int .i64 0]) := by kernel_rfl
theorem off57_0 : offO Try.prog 57 0 = some 0 := by kernel_rfl
theorem off57_1 : offO Try.prog 57 1 = some 1 := by kernel_rfl
theorem off57_2 : offO Try.prog 57 2 = some 2 := by kernel_rfl
theorem ti58 : tiO Try.prog 58 = some (true, 3, 24, [.int .i64 0, .int .i64 0, .int .i64 0]) := by kernel_rfl
theorem off58_0 : offO Try.prog 58 0 = some 0 := by kernel_rfl
theorem off58_1 : offO Try.prog 58 1 = some 1 := by kernel_rfl
theorem off58_2 : offO Try.prog 58 2 = some 2 := by kernel_rfl
theorem ti61 : tiO Try.prog 61 = some (true, 3, 24, [.int .i64 0, .int .i64 0, .int .i64 0]) := by kernel_rfl
theorem off61_0 : offO Try.prog 61 0 = some 0 := by kernel_rfl
theorem off61_1 : offO Try.prog 61 1 = some 1 := by kernel_rfl
theorem off61_2 : offO Try.prog 61 2 = some 2 := by kernel_rfl
theorem ti65 : tiO Try.prog 65 = some (false, 1, 8, [.pointer none]) := by kernel_rfl
theorem ti70 : tiO Try.prog 70 = some (true, 3, 40, [.slice none 0 0, .int .i64 0, .int .i64 0]) := by kernel_rfl
theorem off70_0 : offO Try.prog 70 0 = some 0 := by kernel_rfl
theorem off70_1 : offO Try.prog 70 1 = some 1 := by kernel_rfl
theorem off70_2 : offO Try.prog 70 2 = some 2 := by kernel_rfl
theorem ti71 : tiO Try.prog 71 = some (true, 3, 40, [.slice none 0 0, .int .i64 0, .int .i64 0]) := by kernel_rfl
theorem off71_0 : offO Try.prog 71 0 = some 0 := by kernel_rfl
theorem off71_1 : offO Try.prog 71 1 = some 1 := by kernel_rfl
theorem off71_2 : offO Try.prog 71 2 = some 2 := by kernel_rfl
theorem ti72 : tiO Try.prog 72 = some (false, 1, 24, [.slice none 0 0]) := by kernel_rfl
theorem el72 : elO Try.prog 72 = some (9, 1) := by kernel_rfl
theorem ti74 : tiO Try.prog 74 = some (true, 4, 40, [.pointer none, .pointer none, .pointer none, .string ByteArray.empty]) := by kernel_rfl
theorem off74_0 : offO Try.prog 74 0 = some 0 := by kernel_rfl
theorem off74_1 : offO Try.prog 74 1 = some 1 := by kernel_rfl
theorem off74_2 : offO Try.prog 74 2 = some 2 := by kernel_rfl
theorem off74_3 : offO Try.prog 74 3 = some 3 := by kernel_rfl
theorem ti75 : tiO Try.prog 75 = some (true, 4, 40, [.pointer none, .pointer none, .pointer none, .string ByteArray.empty]) := by kernel_rfl
theorem off75_0 : offO Try.prog 75 0 = some 0 := by kernel_rfl
theorem off75_1 : offO Try.prog 75 1 = some 1 := by kernel_rfl
theorem off75_2 : offO Try.prog 75 2 = some 2 := by kernel_rfl
theorem off75_3 : offO Try.prog 75 3 = some 3 := by kernel_rfl
theorem ti76 : tiO Try.prog 76 = some (true, 0, 0, []) := by kernel_rfl
theorem ti77 : tiO Try.prog 77 = some (true, 0, 0, []) := by kernel_rfl
theorem ti78 : tiO Try.prog 78 = some (true, 0, 0, []) := by kernel_rfl
theorem ti80 : tiO Try.prog 80 = some (false, 1, 4, [.int .u32 0]) := by kernel_rfl
theorem ti81 : tiO Try.prog 81 = some (false, 1, 1, [.int .u8 0]) := by kernel_rfl
theorem ti82 : tiO Try.prog 82 = some (false, 1, 1, [.int .u8 0]) := by kernel_rfl
theorem ti84 : tiO Try.prog 84 = some (false, 1, 8, [.pointer none]) := by kernel_rfl
theorem ti85 : tiO Try.prog 85 = some (false, 1, 4, [.int .i32 0]) := by kernel_rfl
theorem ti86 : tiO Try.prog 86 = some (false, 1, 4, [.int .i32 0]) := by kernel_rfl
theorem ti87 : tiO Try.prog 87 = some (true, 11, 48, [.int .u64 0, .int .u64 0, .int .u32 0, .int .u8 0, .int .u8 0, .int .u8 0, .int .u8 0, .nilFunc, .pointer none, .int .i32 0, .int .i32 0]) := by kernel_rfl
theorem off87_0 : offO Try.prog 87 0 = some 0 := by kernel_rfl
theorem off87_1 : offO Try.prog 87 1 = some 1 := by kernel_rfl
theorem off87_2 : offO Try.prog 87 2 = some 2 := by kernel_rfl
theorem off87_3 : offO Try.prog 87 3 = some 3 := by kernel_rfl
theorem off87_4 : offO Try.prog 87 4 = some 4 := by kernel_rfl
theorem off87_5 : offO Try.prog 87 5 = some 5 := by kernel_rfl
theorem off87_6 : offO Try.prog 87 6 = some 6 := by kernel_rfl
theorem off87_8 : offO Try.prog 87 8 = some 8 := by kernel_rfl
theorem off87_9 : offO Try.prog 87 9 = some 9 := by kernel_rfl
theorem off87_10 : offO Try.prog 87 10 = some 10 := by kernel_rfl
theorem ti88 : tiO Try.prog 88 = some (true, 11, 48, [.int .u64 0, .int .u64 0, .int .u32 0, .int .u8 0, .int .u8 0, .int .u8 0, .int .u8 0, .nilFunc, .pointer none, .int .i32 0, .int .i32 0]) := by kernel_rfl
theorem off88_0 : offO Try.prog 88 0 = some 0 := by kernel_rfl
theorem off88_1 : offO Try.prog 88 1 = some 1 := by kernel_rfl
theorem off88_2 : offO Try.prog 88 2 = some 2 := by kernel_rfl
theorem off88_3 : offO Try.prog 88 3 = some 3 := by kernel_rfl
theorem off88_4 : offO Try.prog 88 4 = some 4 := by kernel_rfl
theorem off88_5 : offO Try.prog 88 5 = some 5 := by kernel_rfl
theorem off88_6 : offO Try.prog 88 6 = some 6 := by kernel_rfl
theorem off88_8 : offO Try.prog 88 8 = some 8 := by kernel_rfl
theorem off88_9 : offO Try.prog 88 9 = some 9 := by kernel_rfl
theorem off88_10 : offO Try.prog 88 10 = some 10 := by kernel_rfl
theorem ti89 : tiO Try.prog 89 = some (false, 1, 8, [.pointer none]) := by kernel_rfl
theorem ent2 : Enters Try.prog 2 := enters_of Try.func2 (by kernel_rfl) (by kernel_rfl)
theorem ent3 : Enters Try.prog 3 := enters_of Try.func3 (by kernel_rfl) (by kernel_rfl)
theorem ent4 : Enters Try.prog 4 := enters_of Try.func4 (by kernel_rfl) (by kernel_rfl)
theorem ent5 : Enters Try.prog 5 := enters_of Try.func5 (by kernel_rfl) (by kernel_rfl)
theorem ent6 : Enters Try.prog 6 := enters_of Try.func6 (by kernel_rfl) (by kernel_rfl)
theorem ent7 : Enters Try.prog 7 := enters_of Try.func7 (by kernel_rfl) (by kernel_rfl)
theorem ent8 : Enters Try.prog 8 := enters_of Try.func8 (by kernel_rfl) (by kernel_rfl)
theorem ent9 : Enters Try.prog 9 := enters_of Try.func9 (by kernel_rfl) (by kernel_rfl)
theorem ent10 : Enters Try.prog 10 := enters_of Try.func10 (by kernel_rfl) (by kernel_rfl)
theorem ent11 : Enters Try.prog 11 := enters_of Try.func11 (by kernel_rfl) (by kernel_rfl)
theorem ent12 : Enters Try.prog 12 := enters_of Try.func12 (by kernel_rfl) (by kernel_rfl)
theorem ent13 : Enters Try.prog 13 := enters_of Try.func13 (by kernel_rfl) (by kernel_rfl)
theorem ent14 : Enters Try.prog 14 := enters_of Try.func14 (by kernel_rfl) (by kernel_rfl)
theorem ent15 : Enters Try.prog 15 := enters_of Try.func15 (by kernel_rfl) (by kernel_rfl)
theorem ent16 : Enters Try.prog 16 := enters_of Try.func16 (by kernel_rfl) (by kernel_rfl)
theorem ent17 : Enters Try.prog 17 := enters_of Try.func17 (by kernel_rfl) (by kernel_rfl)
theorem ent18 : Enters Try.prog 18 := enters_of Try.func18 (by kernel_rfl) (by kernel_rfl)
theorem ent19 : Enters Try.prog 19 := enters_of Try.func19 (by kernel_rfl) (by kernel_rfl)
theorem ent20 : Enters Try.prog 20 := enters_of Try.func20 (by kernel_rfl) (by kernel_rfl)
theorem ent21 : Enters Try.prog 21 := enters_of Try.func21 (by kernel_rfl) (by kernel_rfl)
theorem ent22 : Enters Try.prog 22 := enters_of Try.func22 (by kernel_rfl) (by kernel_rfl)
theorem ent23 : Enters Try.prog 23 := enters_of Try.func23 (by kernel_rfl) (by kernel_rfl)
theorem ent24 : Enters Try.prog 24 := enters_of Try.func24 (by kernel_rfl) (by kernel_rfl)
theorem ent25 : Enters Try.prog 25 := enters_of Try.func25 (by kernel_rfl) (by kernel_rfl)
theorem ent26 : Enters Try.prog 26 := enters_of Try.func26 (by kernel_rfl) (by kernel_rfl)
theorem ent27 : Enters Try.prog 27 := enters_of Try.func27 (by kernel_rfl) (by kernel_rfl)
theorem ent28 : Enters Try.prog 28 := enters_of Try.func28 (by kernel_rfl) (by kernel_rfl)
theorem ent29 : Enters Try.prog 29 := enters_of Try.func29 (by kernel_rfl) (by kernel_rfl)
theorem ent30 : Enters Try.prog 30 := enters_of Try.func30 (by kernel_rfl) (by kernel_rfl)
theorem ent31 : Enters Try.prog 31 := enters_of Try.func31 (by kernel_rfl) (by kernel_rfl)
theorem ent32 : Enters Try.prog 32 := enters_of Try.func32 (by kernel_rfl) (by kernel_rfl)
theorem ent33 : Enters Try.prog 33 := enters_of Try.func33 (by kernel_rfl) (by kernel_rfl)
theorem ent34 : Enters Try.prog 34 := enters_of Try.func34 (by kernel_rfl) (by kernel_rfl)
theorem ent35 : Enters Try.prog 35 := enters_of Try.func35 (by kernel_rfl) (by kernel_rfl)
theorem ent36 : Enters Try.prog 36 := enters_of Try.func36 (by kernel_rfl) (by kernel_rfl)
theorem ent37 : Enters Try.prog 37 := enters_of Try.func37 (by kernel_rfl) (by kernel_rfl)
theorem ent38 : Enters Try.prog 38 := enters_of Try.func38 (by kernel_rfl) (by kernel_rfl)
theorem ent39 : Enters Try.prog 39 := enters_of Try.func39 (by kernel_rfl) (by kernel_rfl)
theorem ent40 : Enters Try.prog 40 := enters_of Try.func40 (by kernel_rfl) (by kernel_rfl)
theorem ent41 : Enters Try.prog 41 := enters_of Try.func41 (by kernel_rfl) (by kernel_rfl)
theorem ent42 : Enters Try.prog 42 := enters_of Try.func42 (by kernel_rfl) (by kernel_rfl)
theorem ent43 : Enters Try.prog 43 := enters_of Try.func43 (by kernel_rfl) (by kernel_rfl)
theorem ent44 : Enters Try.prog 44 := enters_of Try.func44 (by kernel_rfl) (by kernel_rfl)
theorem ent45 : Enters Try.prog 45 := enters_of Try.func45 (by kernel_rfl) (by kernel_rfl)
theorem ent46 : Enters Try.prog 46 := enters_of Try.func46 (by kernel_rfl) (by kernel_rfl)
theorem ent47 : Enters Try.prog 47 := enters_of Try.func47 (by kernel_rfl) (by kernel_rfl)
theorem ent48 : Enters Try.prog 48 := enters_of Try.func48 (by kernel_rfl) (by kernel_rfl)
theorem ent49 : Enters Try.prog 49 := enters_of Try.func49 (by kernel_rfl) (by kernel_rfl)
theorem ent50 : Enters Try.prog 50 := enters_of Try.func50 (by kernel_rfl) (by kernel_rfl)
theorem mixed : Try.prog.follows .mixedOrders = true := by kernel_rfl
end Go.Proofs.Ytdikgcccdcgjdaa
