/- closed facts on the types and functions of this program, by a program of mine -/
import Derived.Test.YtfdiihhbfblfaaaFlowD
import Derived.Test.YtfdiihhbfblfaaaRows
namespace Go.Proofs.Ytfdiihhbfblfaaa
theorem ti2 : tiO Try.prog 2 = some (false, 1, 8, [.int .i64 0]) := by kernel_rfl
theorem ti3 : tiO Try.prog 3 = some (false, 1, 8, [.int .i64 0]) := by kernel_rfl
theorem ti4 : tiO Try.prog 4 = some (false, 1, 1, [.bool false]) := by kernel_rfl
theorem ti5 : tiO Try.prog 5 = some (false, 1, 1, [.int .u8 0]) := by kernel_rfl
theorem ti6 : tiO Try.prog 6 = some (false, 1, 1, [.int .u8 0]) := by kernel_rfl
theorem ti7 : tiO Try.prog 7 = some (true, 4, 24, [.int .i64 0, .int .i64 0, .bool false, .int .u8 0]) := by kernel_rfl
theorem off7_0 : offO Try.prog 7 0 = some 0 := by kernel_rfl
theorem off7_1 : offO Try.prog 7 1 = some 1 := by kernel_rfl
theorem off7_2 : offO Try.prog 7 2 = some 2 := by kernel_rfl
theorem off7_3 : offO Try.prog 7 3 = some 3 := by kernel_rfl
theorem ti8 : tiO Try.prog 8 = some (true, 4, 24, [.int .i64 0, .int .i64 0, .bool false, .int .u8 0]) := by kernel_rfl
theorem off8_0 : offO Try.prog 8 0 = some 0 := by kernel_rfl
theorem off8_1 : offO Try.prog 8 1 = some 1 := by kernel_rfl
theorem off8_2 : offO Try.prog 8 2 = some 2 := by kernel_rfl
theorem off8_3 : offO Try.prog 8 3 = some 3 := by kernel_rfl
theorem ti9 : tiO Try.prog 9 = some (false, 1, 16, [.string ByteArray.empty]) := by kernel_rfl
theorem ti10 : tiO Try.prog 10 = some (false, 1, 16, [.string ByteArray.empty]) := by kernel_rfl
theorem ti11 : tiO Try.prog 11 = some (false, 1, 16, [.string ByteArray.empty]) := by kernel_rfl
theorem ti12 : tiO Try.prog 12 = some (false, 1, 8, [.int .u64 0]) := by kernel_rfl
theorem ti13 : tiO Try.prog 13 = some (true, 2, 24, [.string ByteArray.empty, .int .u64 0]) := by kernel_rfl
theorem off13_0 : offO Try.prog 13 0 = some 0 := by kernel_rfl
theorem off13_1 : offO Try.prog 13 1 = some 1 := by kernel_rfl
theorem ti14 : tiO Try.prog 14 = some (true, 2, 24, [.string ByteArray.empty, .int .u64 0]) := by kernel_rfl
theorem off14_0 : offO Try.prog 14 0 = some 0 := by kernel_rfl
theorem off14_1 : offO Try.prog 14 1 = some 1 := by kernel_rfl
theorem ti15 : tiO Try.prog 15 = some (false, 1, 8, [.pointer none]) := by kernel_rfl
theorem ti16 : tiO Try.prog 16 = some (false, 1, 8, [.pointer none]) := by kernel_rfl
theorem ti17 : tiO Try.prog 17 = some (false, 1, 8, [.pointer none]) := by kernel_rfl
theorem ti18 : tiO Try.prog 18 = some (true, 1, 8, [.pointer none]) := by kernel_rfl
theorem off18_0 : offO Try.prog 18 0 = some 0 := by kernel_rfl
theorem ti19 : tiO Try.prog 19 = some (true, 1, 8, [.pointer none]) := by kernel_rfl
theorem off19_0 : offO Try.prog 19 0 = some 0 := by kernel_rfl
theorem ti21 : tiO Try.prog 21 = some (false, 1, 4, [.int .i32 0]) := by kernel_rfl
theorem ti22 : tiO Try.prog 22 = some (false, 1, 24, [.slice none 0 0]) := by kernel_rfl
theorem el22 : elO Try.prog 22 = some (54, 3) := by kernel_rfl
theorem ti26 : tiO Try.prog 26 = some (false, 1, 24, [.slice none 0 0]) := by kernel_rfl
theorem el26 : elO Try.prog 26 = some (56, 3) := by kernel_rfl
theorem ti30 : tiO Try.prog 30 = some (false, 1, 24, [.slice none 0 0]) := by kernel_rfl
theorem el30 : elO Try.prog 30 = some (2, 1) := by kernel_rfl
theorem ti44 : tiO Try.prog 44 = some (false, 1, 24, [.slice none 0 0]) := by kernel_rfl
theorem el44 : elO Try.prog 44 = some (5, 1) := by kernel_rfl
theorem ti53 : tiO Try.prog 53 = some (true, 3, 40, [.int .i64 0, .int .i64 0, .slice none 0 0]) := by kernel_rfl
theorem off53_0 : offO Try.prog 53 0 = some 0 := by kernel_rfl
theorem off53_1 : offO Try.prog 53 1 = some 1 := by kernel_rfl
theorem off53_2 : offO Try.prog 53 2 = some 2 := by kernel_rfl
theorem ti54 : tiO Try.prog 54 = some (true, 3, 40, [.int .i64 0, .int .i64 0, .slice none 0 0]) := by kernel_rfl
theorem off54_0 : offO Try.prog 54 0 = some 0 := by kernel_rfl
theorem off54_1 : offO Try.prog 54 1 = some 1 := by kernel_rfl
theorem off54_2 : offO Try.prog 54 2 = some 2 := by kernel_rfl
theorem ti56 : tiO Try.prog 56 = some (true, 3, 40, [.int .i64 0, .int .i64 0, .slice none 0 0]) := by kernel_rfl
theorem off56_0 : offO Try.prog 56 0 = some 0 := by kernel_rfl
theorem off56_1 : offO Try.prog 56 1 = some 1 := by kernel_rfl
theorem off56_2 : offO Try.prog 56 2 = some 2 := by kernel_rfl
theorem ti68 : tiO Try.prog 68 = some (false, 1, 8, [.pointer none]) := by kernel_rfl
theorem ti74 : tiO Try.prog 74 = some (false, 1, 8, [.pointer none]) := by kernel_rfl
theorem ti75 : tiO Try.prog 75 = some (true, 3, 40, [.slice none 0 0, .int .i64 0, .bool false]) := by kernel_rfl
theorem off75_0 : offO Try.prog 75 0 = some 0 := by kernel_rfl
theorem off75_1 : offO Try.prog 75 1 = some 1 := by kernel_rfl
theorem off75_2 : offO Try.prog 75 2 = some 2 := by kernel_rfl
theorem ti76 : tiO Try.prog 76 = some (true, 3, 40, [.slice none 0 0, .int .i64 0, .bool false]) := by kernel_rfl
theorem off76_0 : offO Try.prog 76 0 = some 0 := by kernel_rfl
theorem off76_1 : offO Try.prog 76 1 = some 1 := by kernel_rfl
theorem off76_2 : offO Try.prog 76 2 = some 2 := by kernel_rfl
theorem ti81 : tiO Try.prog 81 = some (true, 3, 40, [.slice none 0 0, .int .i64 0, .int .i64 0]) := by kernel_rfl
theorem off81_0 : offO Try.prog 81 0 = some 0 := by kernel_rfl
theorem off81_1 : offO Try.prog 81 1 = some 1 := by kernel_rfl
theorem off81_2 : offO Try.prog 81 2 = some 2 := by kernel_rfl
theorem ti82 : tiO Try.prog 82 = some (true, 3, 40, [.slice none 0 0, .int .i64 0, .int .i64 0]) := by kernel_rfl
theorem off82_0 : offO Try.prog 82 0 = some 0 := by kernel_rfl
theorem off82_1 : offO Try.prog 82 1 = some 1 := by kernel_rfl
theorem off82_2 : offO Try.prog 82 2 = some 2 := by kernel_rfl
theorem ti87 : tiO Try.prog 87 = some (false, 1, 8, [.int .u64 0]) := by kernel_rfl
theorem ti90 : tiO Try.prog 90 = some (false, 1, 4, [.int .u32 0]) := by kernel_rfl
theorem ti93 : tiO Try.prog 93 = some (false, 1, 8, [.int .u64 0]) := by kernel_rfl
theorem ti97 : tiO Try.prog 97 = some (true, 4, 40, [.pointer none, .pointer none, .pointer none, .string ByteArray.empty]) := by kernel_rfl
theorem off97_0 : offO Try.prog 97 0 = some 0 := by kernel_rfl
theorem off97_1 : offO Try.prog 97 1 = some 1 := by kernel_rfl
theorem off97_2 : offO Try.prog 97 2 = some 2 := by kernel_rfl
theorem off97_3 : offO Try.prog 97 3 = some 3 := by kernel_rfl
theorem ti98 : tiO Try.prog 98 = some (true, 4, 40, [.pointer none, .pointer none, .pointer none, .string ByteArray.empty]) := by kernel_rfl
theorem off98_0 : offO Try.prog 98 0 = some 0 := by kernel_rfl
theorem off98_1 : offO Try.prog 98 1 = some 1 := by kernel_rfl
theorem off98_2 : offO Try.prog 98 2 = some 2 := by kernel_rfl
theorem off98_3 : offO Try.prog 98 3 = some 3 := by kernel_rfl
theorem ti99 : tiO Try.prog 99 = some (true, 0, 0, []) := by kernel_rfl
theorem ti100 : tiO Try.prog 100 = some (true, 0, 0, []) := by kernel_rfl
theorem ti101 : tiO Try.prog 101 = some (true, 0, 0, []) := by kernel_rfl
theorem ti103 : tiO Try.prog 103 = some (false, 1, 1, [.int .u8 0]) := by kernel_rfl
theorem ti104 : tiO Try.prog 104 = some (false, 1, 1, [.int .u8 0]) := by kernel_rfl
theorem ti106 : tiO Try.prog 106 = some (false, 1, 8, [.pointer none]) := by kernel_rfl
theorem ti107 : tiO Try.prog 107 = some (false, 1, 4, [.int .i32 0]) := by kernel_rfl
theorem ti108 : tiO Try.prog 108 = some (false, 1, 4, [.int .i32 0]) := by kernel_rfl
theorem ti109 : tiO Try.prog 109 = some (true, 11, 48, [.int .u64 0, .int .u64 0, .int .u32 0, .int .u8 0, .int .u8 0, .int .u8 0, .int .u8 0, .nilFunc, .pointer none, .int .i32 0, .int .i32 0]) := by kernel_rfl
theorem off109_0 : offO Try.prog 109 0 = some 0 := by kernel_rfl
theorem off109_1 : offO Try.prog 109 1 = some 1 := by kernel_rfl
theorem off109_2 : offO Try.prog 109 2 = some 2 := by kernel_rfl
theorem off109_3 : offO Try.prog 109 3 = some 3 := by kernel_rfl
theorem off109_4 : offO Try.prog 109 4 = some 4 := by kernel_rfl
theorem off109_5 : offO Try.prog 109 5 = some 5 := by kernel_rfl
theorem off109_6 : offO Try.prog 109 6 = some 6 := by kernel_rfl
theorem off109_8 : offO Try.prog 109 8 = some 8 := by kernel_rfl
theorem off109_9 : offO Try.prog 109 9 = some 9 := by kernel_rfl
theorem off109_10 : offO Try.prog 109 10 = some 10 := by kernel_rfl
theorem ti110 : tiO Try.prog 110 = some (true, 11, 48, [.int .u64 0, .int .u64 0, .int .u32 0, .int .u8 0, .int .u8 0, .int .u8 0, .int .u8 0, .nilFunc, .pointer none, .int .i32 0, .int .i32 0]) := by kernel_rfl
theorem off110_0 : offO Try.prog 110 0 = some 0 := by kernel_rfl
theorem off110_1 : offO Try.prog 110 1 = some 1 := by kernel_rfl
theorem off110_2 : offO Try.prog 110 2 = some 2 := by kernel_rfl
theorem off110_3 : offO Try.prog 110 3 = some 3 := by kernel_rfl
theorem off110_4 : offO Try.prog 110 4 = some 4 := by kernel_rfl
theorem off110_5 : offO Try.prog 110 5 = some 5 := by kernel_rfl
theorem off110_6 : offO Try.prog 110 6 = some 6 := by kernel_rfl
theorem off110_8 : offO Try.prog 110 8 = some 8 := by kernel_rfl
theorem off110_9 : offO Try.prog 110 9 = some 9 := by kernel_rfl
theorem off110_10 : offO Try.prog 110 10 = some 10 := by kernel_rfl
theorem ti111 : tiO Try.prog 111 = some (false, 1, 8, [.pointer none]) := by kernel_rfl
theorem ent2 : Enters Try.prog 2 := enters_of Try.func2 (by kernel_rfl) (by kernel_rfl)
theorem ent3 : Enters Try.prog 3 := enters_of Try.func3 (by kernel_rfl) (by kernel_rfl)
theorem ent4 : Enters Try.prog 4 := enters_of Try.func4 (by kernel_rfl) (by kernel_rfl)
theorem ent5 : Enters Try.prog 5 := enters_of Try.func5 (by kernel_rfl) (by kernel_rfl)
theorem ent6 : Enters Try.prog 6 := enters_of Try.func6 (by kernel_rfl) (by kernel_rfl)
theorem ent7 : Enters Try.prog 7 := enters_of Try.func7 (by kernel_rfl) (by kernel_rfl)
theorem ent8 : Enters Try.prog 8 := enters_of Try.func8 (by kernel_rfl) (by kernel_rfl)
theorem ent9 : Enters Try.prog 9 := enters_of Try.func9 (by kernel_rfl) (by kernel_rfl)
theorem ent10 : Enters Try.prog 10 := enters_of Try.func10 (by kernel_rfl) (by kernel_rfl)
theorem ent11 : Enters Try.prog 11 := enters_of Try.func11 (by kernel_rfl) (by kernel_rfl)
theorem ent12 : Enters Try.prog 12 := enters_of Try.func12 (by kernel_rfl) (by kernel_rfl)
theorem ent13 : Enters Try.prog 13 := enters_of Try.func13 (by kernel_rfl) (by kernel_rfl)
theorem ent14 : Enters Try.prog 14 := enters_of Try.func14 (by kernel_rfl) (by kernel_rfl)
theorem ent15 : Enters Try.prog 15 := enters_of Try.func15 (by kernel_rfl) (by kernel_rfl)
theorem ent16 : Enters Try.prog 16 := enters_of Try.func16 (by kernel_rfl) (by kernel_rfl)
theorem ent17 : Enters Try.prog 17 := enters_of Try.func17 (by kernel_rfl) (by kernel_rfl)
theorem ent18 : Enters Try.prog 18 := enters_of Try.func18 (by kernel_rfl) (by kernel_rfl)
theorem ent19 : Enters Try.prog 19 := enters_of Try.func19 (by kernel_rfl) (by kernel_rfl)
theorem ent20 : Enters Try.prog 20 := enters_of Try.func20 (by kernel_rfl) (by kernel_rfl)
theorem ent21 : Enters Try.prog 21 := enters_of Try.func21 (by kernel_rfl) (by kernel_rfl)
theorem ent22 : Enters Try.prog 22 := enters_of Try.func22 (by kernel_rfl) (by kernel_rfl)
theorem ent23 : Enters Try.prog 23 := enters_of Try.func23 (by kernel_rfl) (by kernel_rfl)
theorem ent24 : Enters Try.prog 24 := enters_of Try.func24 (by kernel_rfl) (by kernel_rfl)
theorem ent25 : Enters Try.prog 25 := enters_of Try.func25 (by kernel_rfl) (by kernel_rfl)
theorem ent26 : Enters Try.prog 26 := enters_of Try.func26 (by kernel_rfl) (by kernel_rfl)
theorem ent27 : Enters Try.prog 27 := enters_of Try.func27 (by kernel_rfl) (by kernel_rfl)
theorem ent28 : Enters Try.prog 28 := enters_of Try.func28 (by kernel_rfl) (by kernel_rfl)
theorem ent29 : Enters Try.prog 29 := enters_of Try.func29 (by kernel_rfl) (by kernel_rfl)
theorem ent30 : Enters Try.prog 30 := enters_of Try.func30 (by kernel_rfl) (by kernel_rfl)
theorem ent31 : Enters Try.prog 31 := enters_of Try.func31 (by kernel_rfl) (by kernel_rfl)
theorem ent32 : Enters Try.prog 32 := enters_of Try.func32 (by kernel_rfl) (by kernel_rfl)
theorem ent33 : Enters Try.prog 33 := enters_of Try.func33 (by kernel_rfl) (by kernel_rfl)
theorem ent34 : Enters Try.prog 34 := enters_of Try.func34 (by kernel_rfl) (by kernel_rfl)
theorem ent35 : Enters Try.prog 35 := enters_of Try.func35 (by kernel_rfl) (by kernel_rfl)
theorem ent36 : Enters Try.prog 36 := enters_of Try.func36 (by kernel_rfl) (by kernel_rfl)
theorem ent37 : Enters Try.prog 37 := enters_of Try.func37 (by kernel_rfl) (by kernel_rfl)
theorem ent38 : Enters Try.prog 38 := enters_of Try.func38 (by kernel_rfl) (by kernel_rfl)
theorem ent39 : Enters Try.prog 39 := enters_of Try.func39 (by kernel_rfl) (by kernel_rfl)
theorem ent40 : Enters Try.prog 40 := enters_of Try.func40 (by kernel_rfl) (by kernel_rfl)
theorem ent41 : Enters Try.prog 41 := enters_of Try.func41 (by kernel_rfl) (by kernel_rfl)
theorem ent42 : Enters Try.prog 42 := enters_of Try.func42 (by kernel_rfl) (by kernel_rfl)
theorem ent43 : Enters Try.prog 43 := enters_of Try.func43 (by kernel_rfl) (by kernel_rfl)
theorem ent44 : Enters Try.prog 44 := enters_of Try.func44 (by kernel_rfl) (by kernel_rfl)
theorem ent45 : Enters Try.prog 45 := enters_of Try.func45 (by kernel_rfl) (by kernel_rfl)
theorem ent46 : Enters Try.prog 46 := enters_of Try.func46 (by kernel_rfl) (by kernel_rfl)
theorem ent47 : Enters Try.prog 47 := enters_of Try.func47 (by kernel_rfl) (by kernel_rfl)
theorem ent48 : Enters Try.prog 48 := enters_of Try.func48 (by kernel_rfl) (by kernel_rfl)
theorem ent49 : Enters Try.prog 49 := enters_of Try.func49 (by kernel_rfl) (by kernel_rfl)
theorem ent50 : Enters Try.prog 50 := enters_of Try.func50 (by kernel_rfl) (by kernel_rfl)
theorem ent51 : Enters Try.prog 51 := enters_of Try.func51 (by kernel_rfl) (by kernel_rfl)
theorem ent52 : Enters Try.prog 52 := enters_of Try.func52 (by kernel_rfl) (by kernel_rfl)
theorem ent53 : Enters Try.prog 53 := enters_of Try.func53 (by kernel_rfl) (by kernel_rfl)
theorem ent54 : Enters Try.prog 54 := enters_of Try.func54 (by kernel_rfl) (by kernel_rfl)
theorem ent55 : Enters Try.prog 55 := enters_of Try.func55 (by kernel_rfl) (by kernel_rfl)
theorem ent56 : Enters Try.prog 56 := enters_of Try.func56 (by kernel_rfl) (by kernel_rfl)
theorem ent57 : Enters Try.prog 57 := enters_of Try.func57 (by kernel_rfl) (by kernel_rfl)
theorem ent58 : Enters Try.prog 58 := enters_of Try.func58 (by kernel_rfl) (by kernel_rfl)
theorem ent59 : Enters Try.prog 59 := enters_of Try.func59 (by kernel_rfl) (by kernel_rfl)
theorem ent60 : Enters Try.prog 60 := enters_of Try.func60 (by kernel_rfl) (by kernel_rfl)
theorem ent61 : Enters Try.prog 61 := enters_of Try.func61 (by kernel_rfl) (by kernel_rfl)
theorem ent62 : Enters Try.prog 62 := enters_of Try.func62 (by kernel_rfl) (by kernel_rfl)
theorem ent63 : Enters Try.prog 63 := enters_of Try.func63 (by kernel_rfl) (by kernel_rfl)
theorem ent64 : Enters Try.prog 64 := enters_of Try.func64 (by kernel_rfl) (by kernel_rfl)
theorem ent65 : Enters Try.prog 65 := enters_of Try.func65 (by kernel_rfl) (by kernel_rfl)
theorem ent66 : Enters Try.prog 66 := enters_of Try.func66 (by kernel_rfl) (by kernel_rfl)
theorem ent67 : Enters Try.prog 67 := enters_of Try.func67 (by kernel_rfl) (by kernel_rfl)
theorem ent68 : Enters Try.prog 68 := enters_of Try.func68 (by kernel_rfl) (by kernel_rfl)
theorem ent69 : Enters Try.prog 69 := enters_of Try.func69 (by kernel_rfl) (by kernel_rfl)
theorem ent70 : Enters Try.prog 70 := enters_of Try.func70 (by kernel_rfl) (by kernel_rfl)
theorem ent71 : Enters Try.prog 71 := enters_of Try.func71 (by kernel_rfl) (by kernel_rfl)
theorem ent72 : Enters Try.prog 72 := enters_of Try.func72 (by kernel_rfl) (by kernel_rfl)
theorem ent73 : Enters Try.prog 73 := enters_of Try.func73 (by kernel_rfl) (by kernel_rfl)
theorem ent74 : Enters Try.prog 74 := enters_of Try.func74 (by kernel_rfl) (by kernel_rfl)
theorem ent75 : Enters Try.prog 75 := enters_of Try.func75 (by kernel_rfl) (by kernel_rfl)
theorem ent76 : Enters Try.prog 76 := enters_of Try.func76 (by kernel_rfl) (by kernel_rfl)
theorem ent77 : Enters Try.prog 77 := enters_of Try.func77 (by kernel_rfl) (by kernel_rfl)
theorem ent78 : Enters Try.prog 78 := enters_of Try.func78 (by kernel_rfl) (by kernel_rfl)
theorem ent79 : Enters Try.prog 79 := enters_of Try.func79 (by kernel_rfl) (by kernel_rfl)
theorem ent80 : Enters Try.prog 80 := enters_of Try.func80 (by kernel_rfl) (by kernel_rfl)
theorem ent81 : Enters Try.prog 81 := enters_of Try.func81 (by kernel_rfl) (by kernel_rfl)
theorem mixed : Try.prog.follows .mixedOrders = true := by kernel_rfl
end Go.Proofs.Ytfdiihhbfblfaaa
