/- closed facts on the types and functions of this program, by a program of mine -/
import Derived.Test.YtojgfbbdjobdnaaFlowE
import Derived.Test.YtojgfbbdjobdnaaRows
namespace Go.Proofs.Ytojgfbbdjobdnaa
theorem ti2 : tiO Try.prog 2 = some (false, 1, 8, [.int .i64 0]) := by kernel_rfl
theorem ti3 : tiO Try.prog 3 = some (false, 1, 8, [.int .i64 0]) := by kernel_rfl
theorem ti4 : tiO Try.prog 4 = some (false, 1, 1, [.bool false]) := by kernel_rfl
theorem ti5 : tiO Try.prog 5 = some (false, 1, 1, [.int .u8 0]) := by kernel_rfl
theorem ti6 : tiO Try.prog 6 = some (false, 1, 1, [.int .u8 0]) := by kernel_rfl
theorem ti7 : tiO Try.prog 7 = some (true, 4, 24, [.int .i64 0, .int .i64 0, .bool false, .int .u8 0]) := by kernel_rfl
theorem pl7 : plO Try.prog 7 = some [(0, 1), (1, 1), (2, 1), (3, 1)] := by kernel_rfl
theorem off7_0 : offO Try.prog 7 0 = some 0 := by kernel_rfl
theorem off7_1 : offO Try.prog 7 1 = some 1 := by kernel_rfl
theorem off7_2 : offO Try.prog 7 2 = some 2 := by kernel_rfl
theorem off7_3 : offO Try.prog 7 3 = some 3 := by kernel_rfl
theorem ti8 : tiO Try.prog 8 = some (true, 4, 24, [.int .i64 0, .int .i64 0, .bool false, .int .u8 0]) := by kernel_rfl
theorem pl8 : plO Try.prog 8 = some [(0, 1), (1, 1), (2, 1), (3, 1)] := by kernel_rfl
theorem off8_0 : offO Try.prog 8 0 = some 0 := by kernel_rfl
theorem off8_1 : offO Try.prog 8 1 = some 1 := by kernel_rfl
theorem off8_2 : offO Try.prog 8 2 = some 2 := by kernel_rfl
theorem off8_3 : offO Try.prog 8 3 = some 3 := by kernel_rfl
theorem ti9 : tiO Try.prog 9 = some (false, 1, 16, [.string ByteArray.empty]) := by kernel_rfl
theorem ti10 : tiO Try.prog 10 = some (false, 1, 16, [.string ByteArray.empty]) := by kernel_rfl
theorem ti11 : tiO Try.prog 11 = some (false, 1, 16, [.string ByteArray.empty]) := by kernel_rfl
theorem ti12 : tiO Try.prog 12 = some (false, 1, 8, [.int .u64 0]) := by kernel_rfl
theorem ti13 : tiO Try.prog 13 = some (true, 2, 24, [.string ByteArray.empty, .int .u64 0]) := by kernel_rfl
theorem pl13 : plO Try.prog 13 = some [(0, 1), (1, 1)] := by kernel_rfl
theorem off13_0 : offO Try.prog 13 0 = some 0 := by kernel_rfl
theorem off13_1 : offO Try.prog 13 1 = some 1 := by kernel_rfl
theorem ti14 : tiO Try.prog 14 = some (true, 2, 24, [.string ByteArray.empty, .int .u64 0]) := by kernel_rfl
theorem pl14 : plO Try.prog 14 = some [(0, 1), (1, 1)] := by kernel_rfl
theorem off14_0 : offO Try.prog 14 0 = some 0 := by kernel_rfl
theorem off14_1 : offO Try.prog 14 1 = some 1 := by kernel_rfl
theorem ti15 : tiO Try.prog 15 = some (false, 1, 8, [.pointer none]) := by kernel_rfl
theorem ti16 : tiO Try.prog 16 = some (false, 1, 8, [.pointer none]) := by kernel_rfl
theorem ti17 : tiO Try.prog 17 = some (false, 1, 8, [.pointer none]) := by kernel_rfl
theorem ti18 : tiO Try.prog 18 = some (true, 1, 8, [.pointer none]) := by kernel_rfl
theorem pl18 : plO Try.prog 18 = some [(0, 1)] := by kernel_rfl
theorem off18_0 : offO Try.prog 18 0 = some 0 := by kernel_rfl
theorem ti19 : tiO Try.prog 19 = some (true, 1, 8, [.pointer none]) := by kernel_rfl
theorem pl19 : plO Try.prog 19 = some [(0, 1)] := by kernel_rfl
theorem off19_0 : offO Try.prog 19 0 = some 0 := by kernel_rfl
theorem ti21 : tiO Try.prog 21 = some (false, 1, 4, [.int .i32 0]) := by kernel_rfl
theorem ti22 : tiO Try.prog 22 = some (false, 1, 24, [.slice none 0 0]) := by kernel_rfl
theorem el22 : elO Try.prog 22 = some (5, 1) := by kernel_rfl
theorem ti24 : tiO Try.prog 24 = some (false, 1, 24, [.slice none 0 0]) := by kernel_rfl
theorem el24 : elO Try.prog 24 = some (71, 3) := by kernel_rfl
theorem ti26 : tiO Try.prog 26 = some (false, 1, 24, [.slice none 0 0]) := by kernel_rfl
theorem el26 : elO Try.prog 26 = some (2, 1) := by kernel_rfl
theorem ti35 : tiO Try.prog 35 = some (false, 1, 24, [.slice none 0 0]) := by kernel_rfl
theorem el35 : elO Try.prog 35 = some (46, 8) := by kernel_rfl
theorem ti38 : tiO Try.prog 38 = some (true, 5, 40, [.int .i64 0, .int .i64 0, .int .i64 0, .int .i64 0, .bool false]) := by kernel_rfl
theorem pl38 : plO Try.prog 38 = some [(0, 1), (1, 1), (2, 1), (3, 1), (4, 1)] := by kernel_rfl
theorem off38_0 : offO Try.prog 38 0 = some 0 := by kernel_rfl
theorem off38_1 : offO Try.prog 38 1 = some 1 := by kernel_rfl
theorem off38_2 : offO Try.prog 38 2 = some 2 := by kernel_rfl
theorem off38_3 : offO Try.prog 38 3 = some 3 := by kernel_rfl
theorem off38_4 : offO Try.prog 38 4 = some 4 := by kernel_rfl
theorem ti39 : tiO Try.prog 39 = some (true, 5, 40, [.int .i64 0, .int .i64 0, .int .i64 0, .int .i64 0, .bool false]) := by kernel_rfl
theorem pl39 : plO Try.prog 39 = some [(0, 1), (1, 1), (2, 1), (3, 1), (4, 1)] := by kernel_rfl
theorem off39_0 : offO Try.prog 39 0 = some 0 := by kernel_rfl
theorem off39_1 : offO Try.prog 39 1 = some 1 := by kernel_rfl
theorem off39_2 : offO Try.prog 39 2 = some 2 := by kernel_rfl
theorem off39_3 : offO Try.prog 39 3 = some 3 := by kernel_rfl
theorem off39_4 : offO Try.prog 39 4 = some 4 := by kernel_rfl
theorem ti45 : tiO Try.prog 45 = some (true, 8, 64, [.int .i64 0, .int .i64 0, .int .i64 0, .int .i64 0, .int .i64 0, .int .i64 0, .int .i64 0, .bool false]) := by kernel_rfl
theorem pl45 : plO Try.prog 45 = some [(0, 1), (1, 1), (2, 1), (3, 5)] := by kernel_rfl
theorem off45_0 : offO Try.prog 45 0 = some 0 := by kernel_rfl
theorem off45_1 : offO Try.prog 45 1 = some 1 := by kernel_rfl
theorem off45_2 : offO Try.prog 45 2 = some 2 := by kernel_rfl
theorem off45_3 : offO Try.prog 45 3 = some 3 := by kernel_rfl
theorem ti46 : tiO Try.prog 46 = some (true, 8, 64, [.int .i64 0, .int .i64 0, .int .i64 0, .int .i64 0, .int .i64 0, .int .i64 0, .int .i64 0, .bool false]) := by kernel_rfl
theorem pl46 : plO Try.prog 46 = some [(0, 1), (1, 1), (2, 1), (3, 5)] := by kernel_rfl
theorem off46_0 : offO Try.prog 46 0 = some 0 := by kernel_rfl
theorem off46_1 : offO Try.prog 46 1 = some 1 := by kernel_rfl
theorem off46_2 : offO Try.prog 46 2 = some 2 := by kernel_rfl
theorem off46_3 : offO Try.prog 46 3 = some 3 := by kernel_rfl
theorem ti60 : tiO Try.prog 60 = some (false, 1, 8, [.pointer none]) := by kernel_rfl
theorem ti70 : tiO Try.prog 70 = some (true, 3, 40, [.int .i64 0, .int .i64 0, .slice none 0 0]) := by kernel_rfl
theorem pl70 : plO Try.prog 70 = some [(0, 1), (1, 1), (2, 1)] := by kernel_rfl
theorem off70_0 : offO Try.prog 70 0 = some 0 := by kernel_rfl
theorem off70_1 : offO Try.prog 70 1 = some 1 := by kernel_rfl
theorem off70_2 : offO Try.prog 70 2 = some 2 := by kernel_rfl
theorem ti71 : tiO Try.prog 71 = some (true, 3, 40, [.int .i64 0, .int .i64 0, .slice none 0 0]) := by kernel_rfl
theorem pl71 : plO Try.prog 71 = some [(0, 1), (1, 1), (2, 1)] := by kernel_rfl
theorem off71_0 : offO Try.prog 71 0 = some 0 := by kernel_rfl
theorem off71_1 : offO Try.prog 71 1 = some 1 := by kernel_rfl
theorem off71_2 : offO Try.prog 71 2 = some 2 := by kernel_rfl
theorem ti90 : tiO Try.prog 90 = some (true, 3, 40, [.slice none 0 0, .int .i64 0, .int .i64 0]) := by kernel_rfl
theorem pl90 : plO Try.prog 90 = some [(0, 1), (1, 1), (2, 1)] := by kernel_rfl
theorem off90_0 : offO Try.prog 90 0 = some 0 := by kernel_rfl
theorem off90_1 : offO Try.prog 90 1 = some 1 := by kernel_rfl
theorem off90_2 : offO Try.prog 90 2 = some 2 := by kernel_rfl
theorem ti91 : tiO Try.prog 91 = some (true, 3, 40, [.slice none 0 0, .int .i64 0, .int .i64 0]) := by kernel_rfl
theorem pl91 : plO Try.prog 91 = some [(0, 1), (1, 1), (2, 1)] := by kernel_rfl
theorem off91_0 : offO Try.prog 91 0 = some 0 := by kernel_rfl
theorem off91_1 : offO Try.prog 91 1 = some 1 := by kernel_rfl
theorem off91_2 : offO Try.prog 91 2 = some 2 := by kernel_rfl
theorem ti93 : tiO Try.prog 93 = some (false, 1, 8, [.pointer none]) := by kernel_rfl
theorem ti94 : tiO Try.prog 94 = some (true, 3, 40, [.slice none 0 0, .int .i64 0, .bool false]) := by kernel_rfl
theorem pl94 : plO Try.prog 94 = some [(0, 1), (1, 1), (2, 1)] := by kernel_rfl
theorem off94_0 : offO Try.prog 94 0 = some 0 := by kernel_rfl
theorem off94_1 : offO Try.prog 94 1 = some 1 := by kernel_rfl
theorem off94_2 : offO Try.prog 94 2 = some 2 := by kernel_rfl
theorem ti95 : tiO Try.prog 95 = some (true, 3, 40, [.slice none 0 0, .int .i64 0, .bool false]) := by kernel_rfl
theorem pl95 : plO Try.prog 95 = some [(0, 1), (1, 1), (2, 1)] := by kernel_rfl
theorem off95_0 : offO Try.prog 95 0 = some 0 := by kernel_rfl
theorem off95_1 : offO Try.prog 95 1 = some 1 := by kernel_rfl
theorem off95_2 : offO Try.prog 95 2 = some 2 := by kernel_rfl
theorem ti105 : tiO Try.prog 105 = some (false, 1, 8, [.int .u64 0]) := by kernel_rfl
theorem ti112 : tiO Try.prog 112 = some (true, 4, 40, [.pointer none, .pointer none, .pointer none, .string ByteArray.empty]) := by kernel_rfl
theorem pl112 : plO Try.prog 112 = some [(0, 1), (1, 1), (2, 1), (3, 1)] := by kernel_rfl
theorem off112_0 : offO Try.prog 112 0 = some 0 := by kernel_rfl
theorem off112_1 : offO Try.prog 112 1 = some 1 := by kernel_rfl
theorem off112_2 : offO Try.prog 112 2 = some 2 := by kernel_rfl
theorem off112_3 : offO Try.prog 112 3 = some 3 := by kernel_rfl
theorem ti113 : tiO Try.prog 113 = some (true, 4, 40, [.pointer none, .pointer none, .pointer none, .string ByteArray.empty]) := by kernel_rfl
theorem pl113 : plO Try.prog 113 = some [(0, 1), (1, 1), (2, 1), (3, 1)] := by kernel_rfl
theorem off113_0 : offO Try.prog 113 0 = some 0 := by kernel_rfl
theorem off113_1 : offO Try.prog 113 1 = some 1 := by kernel_rfl
theorem off113_2 : offO Try.prog 113 2 = some 2 := by kernel_rfl
theorem off113_3 : offO Try.prog 113 3 = some 3 := by kernel_rfl
theorem ti114 : tiO Try.prog 114 = some (true, 0, 0, []) := by kernel_rfl
theorem ti115 : tiO Try.prog 115 = some (true, 0, 0, []) := by kernel_rfl
theorem pl115 : plO Try.prog 115 = some [(0, 0)] := by kernel_rfl
theorem ti116 : tiO Try.prog 116 = some (true, 0, 0, []) := by kernel_rfl
theorem pl116 : plO Try.prog 116 = some [(0, 0)] := by kernel_rfl
theorem ti118 : tiO Try.prog 118 = some (false, 1, 4, [.int .u32 0]) := by kernel_rfl
theorem ti119 : tiO Try.prog 119 = some (false, 1, 1, [.int .u8 0]) := by kernel_rfl
theorem ti120 : tiO Try.prog 120 = some (false, 1, 1, [.int .u8 0]) := by kernel_rfl
theorem ti122 : tiO Try.prog 122 = some (false, 1, 8, [.pointer none]) := by kernel_rfl
theorem ti123 : tiO Try.prog 123 = some (false, 1, 4, [.int .i32 0]) := by kernel_rfl
theorem ti124 : tiO Try.prog 124 = some (false, 1, 4, [.int .i32 0]) := by kernel_rfl
theorem ti125 : tiO Try.prog 125 = some (true, 11, 48, [.int .u64 0, .int .u64 0, .int .u32 0, .int .u8 0, .int .u8 0, .int .u8 0, .int .u8 0, .nilFunc, .pointer none, .int .i32 0, .int .i32 0]) := by kernel_rfl
theorem off125_0 : offO Try.prog 125 0 = some 0 := by kernel_rfl
theorem off125_1 : offO Try.prog 125 1 = some 1 := by kernel_rfl
theorem off125_2 : offO Try.prog 125 2 = some 2 := by kernel_rfl
theorem off125_3 : offO Try.prog 125 3 = some 3 := by kernel_rfl
theorem off125_4 : offO Try.prog 125 4 = some 4 := by kernel_rfl
theorem off125_5 : offO Try.prog 125 5 = some 5 := by kernel_rfl
theorem off125_6 : offO Try.prog 125 6 = some 6 := by kernel_rfl
theorem off125_8 : offO Try.prog 125 8 = some 8 := by kernel_rfl
theorem off125_9 : offO Try.prog 125 9 = some 9 := by kernel_rfl
theorem off125_10 : offO Try.prog 125 10 = some 10 := by kernel_rfl
theorem ti126 : tiO Try.prog 126 = some (true, 11, 48, [.int .u64 0, .int .u64 0, .int .u32 0, .int .u8 0, .int .u8 0, .int .u8 0, .int .u8 0, .nilFunc, .pointer none, .int .i32 0, .int .i32 0]) := by kernel_rfl
theorem off126_0 : offO Try.prog 126 0 = some 0 := by kernel_rfl
theorem off126_1 : offO Try.prog 126 1 = some 1 := by kernel_rfl
theorem off126_2 : offO Try.prog 126 2 = some 2 := by kernel_rfl
theorem off126_3 : offO Try.prog 126 3 = some 3 := by kernel_rfl
theorem off126_4 : offO Try.prog 126 4 = some 4 := by kernel_rfl
theorem off126_5 : offO Try.prog 126 5 = some 5 := by kernel_rfl
theorem off126_6 : offO Try.prog 126 6 = some 6 := by kernel_rfl
theorem off126_8 : offO Try.prog 126 8 = some 8 := by kernel_rfl
theorem off126_9 : offO Try.prog 126 9 = some 9 := by kernel_rfl
theorem off126_10 : offO Try.prog 126 10 = some 10 := by kernel_rfl
theorem ti127 : tiO Try.prog 127 = some (false, 1, 8, [.pointer none]) := by kernel_rfl
theorem ent2 : Enters Try.prog 2 := enters_of Try.func2 (by kernel_rfl) (by kernel_rfl)
theorem ent3 : Enters Try.prog 3 := enters_of Try.func3 (by kernel_rfl) (by kernel_rfl)
theorem ent4 : Enters Try.prog 4 := enters_of Try.func4 (by kernel_rfl) (by kernel_rfl)
theorem ent5 : Enters Try.prog 5 := enters_of Try.func5 (by kernel_rfl) (by kernel_rfl)
theorem ent6 : Enters Try.prog 6 := enters_of Try.func6 (by kernel_rfl) (by kernel_rfl)
theorem ent7 : Enters Try.prog 7 := enters_of Try.func7 (by kernel_rfl) (by kernel_rfl)
theorem ent8 : Enters Try.prog 8 := enters_of Try.func8 (by kernel_rfl) (by kernel_rfl)
theorem ent9 : Enters Try.prog 9 := enters_of Try.func9 (by kernel_rfl) (by kernel_rfl)
theorem ent10 : Enters Try.prog 10 := enters_of Try.func10 (by kernel_rfl) (by kernel_rfl)
theorem ent11 : Enters Try.prog 11 := enters_of Try.func11 (by kernel_rfl) (by kernel_rfl)
theorem ent12 : Enters Try.prog 12 := enters_of Try.func12 (by kernel_rfl) (by kernel_rfl)
theorem ent13 : Enters Try.prog 13 := enters_of Try.func13 (by kernel_rfl) (by kernel_rfl)
theorem ent14 : Enters Try.prog 14 := enters_of Try.func14 (by kernel_rfl) (by kernel_rfl)
theorem ent15 : Enters Try.prog 15 := enters_of Try.func15 (by kernel_rfl) (by kernel_rfl)
theorem ent16 : Enters Try.prog 16 := enters_of Try.func16 (by kernel_rfl) (by kernel_rfl)
theorem ent17 : Enters Try.prog 17 := enters_of Try.func17 (by kernel_rfl) (by kernel_rfl)
theorem ent18 : Enters Try.prog 18 := enters_of Try.func18 (by kernel_rfl) (by kernel_rfl)
theorem ent19 : Enters Try.prog 19 := enters_of Try.func19 (by kernel_rfl) (by kernel_rfl)
theorem ent20 : Enters Try.prog 20 := enters_of Try.func20 (by kernel_rfl) (by kernel_rfl)
theorem ent21 : Enters Try.prog 21 := enters_of Try.func21 (by kernel_rfl) (by kernel_rfl)
theorem ent22 : Enters Try.prog 22 := enters_of Try.func22 (by kernel_rfl) (by kernel_rfl)
theorem ent23 : Enters Try.prog 23 := enters_of Try.func23 (by kernel_rfl) (by kernel_rfl)
theorem ent24 : Enters Try.prog 24 := enters_of Try.func24 (by kernel_rfl) (by kernel_rfl)
theorem ent25 : Enters Try.prog 25 := enters_of Try.func25 (by kernel_rfl) (by kernel_rfl)
theorem ent26 : Enters Try.prog 26 := enters_of Try.func26 (by kernel_rfl) (by kernel_rfl)
theorem ent27 : Enters Try.prog 27 := enters_of Try.func27 (by kernel_rfl) (by kernel_rfl)
theorem ent28 : Enters Try.prog 28 := enters_of Try.func28 (by kernel_rfl) (by kernel_rfl)
theorem ent29 : Enters Try.prog 29 := enters_of Try.func29 (by kernel_rfl) (by kernel_rfl)
theorem ent30 : Enters Try.prog 30 := enters_of Try.func30 (by kernel_rfl) (by kernel_rfl)
theorem ent31 : Enters Try.prog 31 := enters_of Try.func31 (by kernel_rfl) (by kernel_rfl)
theorem ent32 : Enters Try.prog 32 := enters_of Try.func32 (by kernel_rfl) (by kernel_rfl)
theorem ent33 : Enters Try.prog 33 := enters_of Try.func33 (by kernel_rfl) (by kernel_rfl)
theorem ent34 : Enters Try.prog 34 := enters_of Try.func34 (by kernel_rfl) (by kernel_rfl)
theorem ent35 : Enters Try.prog 35 := enters_of Try.func35 (by kernel_rfl) (by kernel_rfl)
theorem ent36 : Enters Try.prog 36 := enters_of Try.func36 (by kernel_rfl) (by kernel_rfl)
theorem ent37 : Enters Try.prog 37 := enters_of Try.func37 (by kernel_rfl) (by kernel_rfl)
theorem ent38 : Enters Try.prog 38 := enters_of Try.func38 (by kernel_rfl) (by kernel_rfl)
theorem ent39 : Enters Try.prog 39 := enters_of Try.func39 (by kernel_rfl) (by kernel_rfl)
theorem ent40 : Enters Try.prog 40 := enters_of Try.func40 (by kernel_rfl) (by kernel_rfl)
theorem ent41 : Enters Try.prog 41 := enters_of Try.func41 (by kernel_rfl) (by kernel_rfl)
theorem ent42 : Enters Try.prog 42 := enters_of Try.func42 (by kernel_rfl) (by kernel_rfl)
theorem ent43 : Enters Try.prog 43 := enters_of Try.func43 (by kernel_rfl) (by kernel_rfl)
theorem ent44 : Enters Try.prog 44 := enters_of Try.func44 (by kernel_rfl) (by kernel_rfl)
theorem ent45 : Enters Try.prog 45 := enters_of Try.func45 (by kernel_rfl) (by kernel_rfl)
theorem ent46 : Enters Try.prog 46 := enters_of Try.func46 (by kernel_rfl) (by kernel_rfl)
theorem ent47 : Enters Try.prog 47 := enters_of Try.func47 (by kernel_rfl) (by kernel_rfl)
theorem ent48 : Enters Try.prog 48 := enters_of Try.func48 (by kernel_rfl) (by kernel_rfl)
theorem ent49 : Enters Try.prog 49 := enters_of Try.func49 (by kernel_rfl) (by kernel_rfl)
theorem ent50 : Enters Try.prog 50 := enters_of Try.func50 (by kernel_rfl) (by kernel_rfl)
theorem ent51 : Enters Try.prog 51 := enters_of Try.func51 (by kernel_rfl) (by kernel_rfl)
theorem ent52 : Enters Try.prog 52 := enters_of Try.func52 (by kernel_rfl) (by kernel_rfl)
theorem ent53 : Enters Try.prog 53 := enters_of Try.func53 (by kernel_rfl) (by kernel_rfl)
theorem ent54 : Enters Try.prog 54 := enters_of Try.func54 (by kernel_rfl) (by kernel_rfl)
theorem ent55 : Enters Try.prog 55 := enters_of Try.func55 (by kernel_rfl) (by kernel_rfl)
theorem ent56 : Enters Try.prog 56 := enters_of Try.func56 (by kernel_rfl) (by kernel_rfl)
theorem ent57 : Enters Try.prog 57 := enters_of Try.func57 (by kernel_rfl) (by kernel_rfl)
theorem ent58 : Enters Try.prog 58 := enters_of Try.func58 (by kernel_rfl) (by kernel_rfl)
theorem ent59 : Enters Try.prog 59 := enters_of Try.func59 (by kernel_rfl) (by kernel_rfl)
theorem ent60 : Enters Try.prog 60 := enters_of Try.func60 (by kernel_rfl) (by kernel_rfl)
theorem ent61 : Enters Try.prog 61 := enters_of Try.func61 (by kernel_rfl) (by kernel_rfl)
theorem ent62 : Enters Try.prog 62 := enters_of Try.func62 (by kernel_rfl) (by kernel_rfl)
theorem ent63 : Enters Try.prog 63 := enters_of Try.func63 (by kernel_rfl) (by kernel_rfl)
theorem ent64 : Enters Try.prog 64 := enters_of Try.func64 (by kernel_rfl) (by kernel_rfl)
theorem ent65 : Enters Try.prog 65 := enters_of Try.func65 (by kernel_rfl) (by kernel_rfl)
theorem ent66 : Enters Try.prog 66 := enters_of Try.func66 (by kernel_rfl) (by kernel_rfl)
theorem ent67 : Enters Try.prog 67 := enters_of Try.func67 (by kernel_rfl) (by kernel_rfl)
theorem ent68 : Enters Try.prog 68 := enters_of Try.func68 (by kernel_rfl) (by kernel_rfl)
theorem ent69 : Enters Try.prog 69 := enters_of Try.func69 (by kernel_rfl) (by kernel_rfl)
theorem ent70 : Enters Try.prog 70 := enters_of Try.func70 (by kernel_rfl) (by kernel_rfl)
theorem ent71 : Enters Try.prog 71 := enters_of Try.func71 (by kernel_rfl) (by kernel_rfl)
theorem ent72 : Enters Try.prog 72 := enters_of Try.func72 (by kernel_rfl) (by kernel_rfl)
theorem ent73 : Enters Try.prog 73 := enters_of Try.func73 (by kernel_rfl) (by kernel_rfl)
theorem ent74 : Enters Try.prog 74 := enters_of Try.func74 (by kernel_rfl) (by kernel_rfl)
theorem ent75 : Enters Try.prog 75 := enters_of Try.func75 (by kernel_rfl) (by kernel_rfl)
theorem ent76 : Enters Try.prog 76 := enters_of Try.func76 (by kernel_rfl) (by kernel_rfl)
theorem ent77 : Enters Try.prog 77 := enters_of Try.func77 (by kernel_rfl) (by kernel_rfl)
theorem ent78 : Enters Try.prog 78 := enters_of Try.func78 (by kernel_rfl) (by kernel_rfl)
theorem ent79 : Enters Try.prog 79 := enters_of Try.func79 (by kernel_rfl) (by kernel_rfl)
theorem ent80 : Enters Try.prog 80 := enters_of Try.func80 (by kernel_rfl) (by kernel_rfl)
theorem ent81 : Enters Try.prog 81 := enters_of Try.func81 (by kernel_rfl) (by kernel_rfl)
theorem ent82 : Enters Try.prog 82 := enters_of Try.func82 (by kernel_rfl) (by kernel_rfl)
theorem ent83 : Enters Try.prog 83 := enters_of Try.func83 (by kernel_rfl) (by kernel_rfl)
theorem ent84 : Enters Try.prog 84 := enters_of Try.func84 (by kernel_rfl) (by kernel_rfl)
theorem ent85 : Enters Try.prog 85 := enters_of Try.func85 (by kernel_rfl) (by kernel_rfl)
theorem ent86 : Enters Try.prog 86 := enters_of Try.func86 (by kernel_rfl) (by kernel_rfl)
theorem ent87 : Enters Try.prog 87 := enters_of Try.func87 (by kernel_rfl) (by kernel_rfl)
theorem ent89 : Enters Try.prog 89 := enters_of Try.func89 (by kernel_rfl) (by kernel_rfl)
theorem ent90 : Enters Try.prog 90 := enters_of Try.func90 (by kernel_rfl) (by kernel_rfl)
theorem ent91 : Enters Try.prog 91 := enters_of Try.func91 (by kernel_rfl) (by kernel_rfl)
theorem ent92 : Enters Try.prog 92 := enters_of Try.func92 (by kernel_rfl) (by kernel_rfl)
theorem ent93 : Enters Try.prog 93 := enters_of Try.func93 (by kernel_rfl) (by kernel_rfl)
theorem ent94 : Enters Try.prog 94 := enters_of Try.func94 (by kernel_rfl) (by kernel_rfl)
theorem ent95 : Enters Try.prog 95 := enters_of Try.func95 (by kernel_rfl) (by kernel_rfl)
theorem ent96 : Enters Try.prog 96 := enters_of Try.func96 (by kernel_rfl) (by kernel_rfl)
theorem ent97 : Enters Try.prog 97 := enters_of Try.func97 (by kernel_rfl) (by kernel_rfl)
theorem ent98 : Enters Try.prog 98 := enters_of Try.func98 (by kernel_rfl) (by kernel_rfl)
theorem ent99 : Enters Try.prog 99 := enters_of Try.func99 (by kernel_rfl) (by kernel_rfl)
theorem ent100 : Enters Try.prog 100 := enters_of Try.func100 (by kernel_rfl) (by kernel_rfl)
theorem ent101 : Enters Try.prog 101 := enters_of Try.func101 (by kernel_rfl) (by kernel_rfl)
theorem ent102 : Enters Try.prog 102 := enters_of Try.func102 (by kernel_rfl) (by kernel_rfl)
theorem ent103 : Enters Try.prog 103 := enters_of Try.func103 (by kernel_rfl) (by kernel_rfl)
theorem ent104 : Enters Try.prog 104 := enters_of Try.func104 (by kernel_rfl) (by kernel_rfl)
theorem ent105 : Enters Try.prog 105 := enters_of Try.func105 (by kernel_rfl) (by kernel_rfl)
theorem ent106 : Enters Try.prog 106 := enters_of Try.func106 (by kernel_rfl) (by kernel_rfl)
theorem mixed : Try.prog.follows .mixedOrders = true := by kernel_rfl
end Go.Proofs.Ytojgfbbdjobdnaa
