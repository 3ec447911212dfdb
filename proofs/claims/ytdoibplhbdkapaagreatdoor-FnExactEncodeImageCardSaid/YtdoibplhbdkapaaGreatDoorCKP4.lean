/- Texts of the seat that a law needs, put together. No condition. -/
import Derived.Test.YtdoibplhbdkapaaGreatDoorCKP2
import Derived.Test.YtdoibplhbdkapaaGreatDoorRows
import Derived.Test.YtdoibplhbdkapaaGreatDoorCKP3
namespace Go.Proofs.YtdoibplhbdkapaaGreatDoor
theorem ti2 : tiO Tryz.prog 2 = some (false, 1, 8, [.int .i64 0]) := by kernel_rfl
theorem ti3 : tiO Tryz.prog 3 = some (false, 1, 8, [.int .i64 0]) := by kernel_rfl
theorem ti4 : tiO Tryz.prog 4 = some (false, 1, 1, [.bool false]) := by kernel_rfl
theorem ti5 : tiO Tryz.prog 5 = some (false, 1, 1, [.int .u8 0]) := by kernel_rfl
theorem ti9 : tiO Tryz.prog 9 = some (false, 1, 16, [.string ByteArray.empty]) := by kernel_rfl
theorem el22 : elO Tryz.prog 22 = some (5, 1) := by kernel_rfl
theorem ti24 : tiO Tryz.prog 24 = some (false, 1, 24, [.slice none 0 0]) := by kernel_rfl
theorem el24 : elO Tryz.prog 24 = some (59, 4) := by kernel_rfl
theorem ti25 : tiO Tryz.prog 25 = some (false, 1, 24, [.slice none 0 0]) := by kernel_rfl
theorem el25 : elO Tryz.prog 25 = some (92, 3) := by kernel_rfl
theorem ti26 : tiO Tryz.prog 26 = some (false, 1, 24, [.slice none 0 0]) := by kernel_rfl
theorem el26 : elO Tryz.prog 26 = some (89, 8) := by kernel_rfl
theorem ti28 : tiO Tryz.prog 28 = some (true, 4, 80, [.int .i64 0, .slice none 0 0, .slice none 0 0, .slice none 0 0]) := by kernel_rfl
theorem off28_0 : offO Tryz.prog 28 0 = some 0 := by kernel_rfl
theorem off28_1 : offO Tryz.prog 28 1 = some 1 := by kernel_rfl
theorem off28_2 : offO Tryz.prog 28 2 = some 2 := by kernel_rfl
theorem off28_3 : offO Tryz.prog 28 3 = some 3 := by kernel_rfl
theorem ti30 : tiO Tryz.prog 30 = some (false, 1, 24, [.slice none 0 0]) := by kernel_rfl
theorem el30 : elO Tryz.prog 30 = some (2, 1) := by kernel_rfl
theorem ti59 : tiO Tryz.prog 59 = some (true, 4, 40, [.int .i64 0, .string ByteArray.empty, .int .i64 0, .bool false]) := by kernel_rfl
theorem off59_0 : offO Tryz.prog 59 0 = some 0 := by kernel_rfl
theorem off59_1 : offO Tryz.prog 59 1 = some 1 := by kernel_rfl
theorem off59_2 : offO Tryz.prog 59 2 = some 2 := by kernel_rfl
theorem off59_3 : offO Tryz.prog 59 3 = some 3 := by kernel_rfl
theorem ti67 : tiO Tryz.prog 67 = some (true, 5, 40, [.int .i64 0, .int .i64 0, .int .i64 0, .int .i64 0, .bool false]) := by kernel_rfl
theorem off67_0 : offO Tryz.prog 67 0 = some 0 := by kernel_rfl
theorem off67_1 : offO Tryz.prog 67 1 = some 1 := by kernel_rfl
theorem off67_2 : offO Tryz.prog 67 2 = some 2 := by kernel_rfl
theorem off67_3 : offO Tryz.prog 67 3 = some 3 := by kernel_rfl
theorem off67_4 : offO Tryz.prog 67 4 = some 4 := by kernel_rfl
theorem ti77 : tiO Tryz.prog 77 = some (false, 1, 24, [.slice none 0 0]) := by kernel_rfl
theorem el77 : elO Tryz.prog 77 = some (202, 4) := by kernel_rfl
theorem ti78 : tiO Tryz.prog 78 = some (false, 1, 24, [.slice none 0 0]) := by kernel_rfl
theorem el78 : elO Tryz.prog 78 = some (204, 3) := by kernel_rfl
theorem ti79 : tiO Tryz.prog 79 = some (false, 1, 24, [.slice none 0 0]) := by kernel_rfl
theorem el79 : elO Tryz.prog 79 = some (210, 8) := by kernel_rfl
theorem ti81 : tiO Tryz.prog 81 = some (true, 4, 80, [.int .i64 0, .slice none 0 0, .slice none 0 0, .slice none 0 0]) := by kernel_rfl
theorem off81_0 : offO Tryz.prog 81 0 = some 0 := by kernel_rfl
theorem off81_1 : offO Tryz.prog 81 1 = some 1 := by kernel_rfl
theorem off81_2 : offO Tryz.prog 81 2 = some 2 := by kernel_rfl
theorem off81_3 : offO Tryz.prog 81 3 = some 3 := by kernel_rfl
theorem ti89 : tiO Tryz.prog 89 = some (true, 8, 64, [.int .i64 0, .int .i64 0, .int .i64 0, .int .i64 0, .int .i64 0, .int .i64 0, .int .i64 0, .bool false]) := by kernel_rfl
theorem pl89 : plO Tryz.prog 89 = some [(0, 1), (1, 1), (2, 1), (3, 5)] := by kernel_rfl
theorem off89_0 : offO Tryz.prog 89 0 = some 0 := by kernel_rfl
theorem off89_1 : offO Tryz.prog 89 1 = some 1 := by kernel_rfl
theorem off89_2 : offO Tryz.prog 89 2 = some 2 := by kernel_rfl
theorem off89_3 : offO Tryz.prog 89 3 = some 3 := by kernel_rfl
theorem ti92 : tiO Tryz.prog 92 = some (true, 3, 40, [.int .i64 0, .int .i64 0, .slice none 0 0]) := by kernel_rfl
theorem off92_0 : offO Tryz.prog 92 0 = some 0 := by kernel_rfl
theorem off92_1 : offO Tryz.prog 92 1 = some 1 := by kernel_rfl
theorem off92_2 : offO Tryz.prog 92 2 = some 2 := by kernel_rfl
theorem ti107 : tiO Tryz.prog 107 = some (false, 1, 24, [.slice none 0 0]) := by kernel_rfl
theorem el107 : elO Tryz.prog 107 = some (30, 1) := by kernel_rfl
theorem ti202 : tiO Tryz.prog 202 = some (true, 4, 40, [.int .i64 0, .string ByteArray.empty, .int .i64 0, .bool false]) := by kernel_rfl
theorem off202_0 : offO Tryz.prog 202 0 = some 0 := by kernel_rfl
theorem off202_1 : offO Tryz.prog 202 1 = some 1 := by kernel_rfl
theorem off202_2 : offO Tryz.prog 202 2 = some 2 := by kernel_rfl
theorem off202_3 : offO Tryz.prog 202 3 = some 3 := by kernel_rfl
theorem ti204 : tiO Tryz.prog 204 = some (true, 3, 40, [.int .i64 0, .int .i64 0, .slice none 0 0]) := by kernel_rfl
theorem off204_0 : offO Tryz.prog 204 0 = some 0 := by kernel_rfl
theorem off204_1 : offO Tryz.prog 204 1 = some 1 := by kernel_rfl
theorem off204_2 : offO Tryz.prog 204 2 = some 2 := by kernel_rfl
theorem ti208 : tiO Tryz.prog 208 = some (true, 5, 40, [.int .i64 0, .int .i64 0, .int .i64 0, .int .i64 0, .bool false]) := by kernel_rfl
theorem off208_0 : offO Tryz.prog 208 0 = some 0 := by kernel_rfl
theorem off208_1 : offO Tryz.prog 208 1 = some 1 := by kernel_rfl
theorem off208_2 : offO Tryz.prog 208 2 = some 2 := by kernel_rfl
theorem off208_3 : offO Tryz.prog 208 3 = some 3 := by kernel_rfl
theorem off208_4 : offO Tryz.prog 208 4 = some 4 := by kernel_rfl
theorem ti210 : tiO Tryz.prog 210 = some (true, 8, 64, [.int .i64 0, .int .i64 0, .int .i64 0, .int .i64 0, .int .i64 0, .int .i64 0, .int .i64 0, .bool false]) := by kernel_rfl
theorem off210_0 : offO Tryz.prog 210 0 = some 0 := by kernel_rfl
theorem off210_1 : offO Tryz.prog 210 1 = some 1 := by kernel_rfl
theorem off210_2 : offO Tryz.prog 210 2 = some 2 := by kernel_rfl
theorem off210_3 : offO Tryz.prog 210 3 = some 3 := by kernel_rfl
theorem ti218 : tiO Tryz.prog 218 = some (true, 2, 16, [.int .i64 0, .int .i64 0]) := by kernel_rfl
theorem pl218 : plO Tryz.prog 218 = some [(0, 1), (1, 1)] := by kernel_rfl
theorem off218_0 : offO Tryz.prog 218 0 = some 0 := by kernel_rfl
theorem off218_1 : offO Tryz.prog 218 1 = some 1 := by kernel_rfl
theorem ent13 : Enters Tryz.prog 13 := enters_of Tryz.func13 (by kernel_rfl) (by kernel_rfl)
theorem ent14 : Enters Tryz.prog 14 := enters_of Tryz.func14 (by kernel_rfl) (by kernel_rfl)
theorem ent23 : Enters Tryz.prog 23 := enters_of Tryz.func23 (by kernel_rfl) (by kernel_rfl)
theorem ent24 : Enters Tryz.prog 24 := enters_of Tryz.func24 (by kernel_rfl) (by kernel_rfl)
theorem ent25 : Enters Tryz.prog 25 := enters_of Tryz.func25 (by kernel_rfl) (by kernel_rfl)
theorem ent26 : Enters Tryz.prog 26 := enters_of Tryz.func26 (by kernel_rfl) (by kernel_rfl)
theorem ent27 : Enters Tryz.prog 27 := enters_of Tryz.func27 (by kernel_rfl) (by kernel_rfl)
theorem ent33 : Enters Tryz.prog 33 := enters_of Tryz.func33 (by kernel_rfl) (by kernel_rfl)
theorem ent61 : Enters Tryz.prog 61 := enters_of Tryz.func61 (by kernel_rfl) (by kernel_rfl)
theorem ent62 : Enters Tryz.prog 62 := enters_of Tryz.func62 (by kernel_rfl) (by kernel_rfl)
theorem ent63 : Enters Tryz.prog 63 := enters_of Tryz.func63 (by kernel_rfl) (by kernel_rfl)
theorem ent68 : Enters Tryz.prog 68 := enters_of Tryz.func68 (by kernel_rfl) (by kernel_rfl)
theorem ent69 : Enters Tryz.prog 69 := enters_of Tryz.func69 (by kernel_rfl) (by kernel_rfl)
theorem ent70 : Enters Tryz.prog 70 := enters_of Tryz.func70 (by kernel_rfl) (by kernel_rfl)
theorem ent71 : Enters Tryz.prog 71 := enters_of Tryz.func71 (by kernel_rfl) (by kernel_rfl)
theorem ent72 : Enters Tryz.prog 72 := enters_of Tryz.func72 (by kernel_rfl) (by kernel_rfl)
theorem ent73 : Enters Tryz.prog 73 := enters_of Tryz.func73 (by kernel_rfl) (by kernel_rfl)
theorem ent83 : Enters Tryz.prog 83 := enters_of Tryz.func83 (by kernel_rfl) (by kernel_rfl)
theorem ent88 : Enters Tryz.prog 88 := enters_of Tryz.func88 (by kernel_rfl) (by kernel_rfl)
theorem ent89 : Enters Tryz.prog 89 := enters_of Tryz.func89 (by kernel_rfl) (by kernel_rfl)
theorem ent90 : Enters Tryz.prog 90 := enters_of Tryz.func90 (by kernel_rfl) (by kernel_rfl)
theorem ent91 : Enters Tryz.prog 91 := enters_of Tryz.func91 (by kernel_rfl) (by kernel_rfl)
theorem ent92 : Enters Tryz.prog 92 := enters_of Tryz.func92 (by kernel_rfl) (by kernel_rfl)
theorem ent93 : Enters Tryz.prog 93 := enters_of Tryz.func93 (by kernel_rfl) (by kernel_rfl)
theorem ent99 : Enters Tryz.prog 99 := enters_of Tryz.func99 (by kernel_rfl) (by kernel_rfl)
theorem ent105 : Enters Tryz.prog 105 := enters_of Tryz.func105 (by kernel_rfl) (by kernel_rfl)
theorem ent106 : Enters Tryz.prog 106 := enters_of Tryz.func106 (by kernel_rfl) (by kernel_rfl)
theorem ent107 : Enters Tryz.prog 107 := enters_of Tryz.func107 (by kernel_rfl) (by kernel_rfl)
theorem ent109 : Enters Tryz.prog 109 := enters_of Tryz.func109 (by kernel_rfl) (by kernel_rfl)
theorem ent111 : Enters Tryz.prog 111 := enters_of Tryz.func111 (by kernel_rfl) (by kernel_rfl)
theorem ent113 : Enters Tryz.prog 113 := enters_of Tryz.func113 (by kernel_rfl) (by kernel_rfl)
theorem ent114 : Enters Tryz.prog 114 := enters_of Tryz.func114 (by kernel_rfl) (by kernel_rfl)
theorem ent116 : Enters Tryz.prog 116 := enters_of Tryz.func116 (by kernel_rfl) (by kernel_rfl)
theorem ent117 : Enters Tryz.prog 117 := enters_of Tryz.func117 (by kernel_rfl) (by kernel_rfl)
theorem ent120 : Enters Tryz.prog 120 := enters_of Tryz.func120 (by kernel_rfl) (by kernel_rfl)
theorem ent137 : Enters Tryz.prog 137 := enters_of Tryz.func137 (by kernel_rfl) (by kernel_rfl)
theorem ent138 : Enters Tryz.prog 138 := enters_of Tryz.func138 (by kernel_rfl) (by kernel_rfl)
theorem ent139 : Enters Tryz.prog 139 := enters_of Tryz.func139 (by kernel_rfl) (by kernel_rfl)
theorem ent140 : Enters Tryz.prog 140 := enters_of Tryz.func140 (by kernel_rfl) (by kernel_rfl)
theorem ent141 : Enters Tryz.prog 141 := enters_of Tryz.func141 (by kernel_rfl) (by kernel_rfl)
theorem ent142 : Enters Tryz.prog 142 := enters_of Tryz.func142 (by kernel_rfl) (by kernel_rfl)
theorem ent146 : Enters Tryz.prog 146 := enters_of Tryz.func146 (by kernel_rfl) (by kernel_rfl)
theorem ent147 : Enters Tryz.prog 147 := enters_of Tryz.func147 (by kernel_rfl) (by kernel_rfl)
theorem ent148 : Enters Tryz.prog 148 := enters_of Tryz.func148 (by kernel_rfl) (by kernel_rfl)
theorem ent149 : Enters Tryz.prog 149 := enters_of Tryz.func149 (by kernel_rfl) (by kernel_rfl)
theorem ent150 : Enters Tryz.prog 150 := enters_of Tryz.func150 (by kernel_rfl) (by kernel_rfl)
theorem ent151 : Enters Tryz.prog 151 := enters_of Tryz.func151 (by kernel_rfl) (by kernel_rfl)
theorem ent152 : Enters Tryz.prog 152 := enters_of Tryz.func152 (by kernel_rfl) (by kernel_rfl)
theorem ent153 : Enters Tryz.prog 153 := enters_of Tryz.func153 (by kernel_rfl) (by kernel_rfl)
theorem ent154 : Enters Tryz.prog 154 := enters_of Tryz.func154 (by kernel_rfl) (by kernel_rfl)
theorem ent155 : Enters Tryz.prog 155 := enters_of Tryz.func155 (by kernel_rfl) (by kernel_rfl)
theorem ent156 : Enters Tryz.prog 156 := enters_of Tryz.func156 (by kernel_rfl) (by kernel_rfl)
theorem ent157 : Enters Tryz.prog 157 := enters_of Tryz.func157 (by kernel_rfl) (by kernel_rfl)
theorem ent158 : Enters Tryz.prog 158 := enters_of Tryz.func158 (by kernel_rfl) (by kernel_rfl)
theorem ent163 : Enters Tryz.prog 163 := enters_of Tryz.func163 (by kernel_rfl) (by kernel_rfl)
theorem ent165 : Enters Tryz.prog 165 := enters_of Tryz.func165 (by kernel_rfl) (by kernel_rfl)
theorem ent167 : Enters Tryz.prog 167 := enters_of Tryz.func167 (by kernel_rfl) (by kernel_rfl)
theorem ent173 : Enters Tryz.prog 173 := enters_of Tryz.func173 (by kernel_rfl) (by kernel_rfl)
theorem ent174 : Enters Tryz.prog 174 := enters_of Tryz.func174 (by kernel_rfl) (by kernel_rfl)
theorem ent175 : Enters Tryz.prog 175 := enters_of Tryz.func175 (by kernel_rfl) (by kernel_rfl)
theorem ent176 : Enters Tryz.prog 176 := enters_of Tryz.func176 (by kernel_rfl) (by kernel_rfl)
theorem ent181 : Enters Tryz.prog 181 := enters_of Tryz.func181 (by kernel_rfl) (by kernel_rfl)
theorem ent183 : Enters Tryz.prog 183 := enters_of Tryz.func183 (by kernel_rfl) (by kernel_rfl)
theorem ent184 : Enters Tryz.prog 184 := enters_of Tryz.func184 (by kernel_rfl) (by kernel_rfl)
theorem ent185 : Enters Tryz.prog 185 := enters_of Tryz.func185 (by kernel_rfl) (by kernel_rfl)
theorem ent186 : Enters Tryz.prog 186 := enters_of Tryz.func186 (by kernel_rfl) (by kernel_rfl)
theorem ent187 : Enters Tryz.prog 187 := enters_of Tryz.func187 (by kernel_rfl) (by kernel_rfl)
theorem ent188 : Enters Tryz.prog 188 := enters_of Tryz.func188 (by kernel_rfl) (by kernel_rfl)
theorem ent189 : Enters Tryz.prog 189 := enters_of Tryz.func189 (by kernel_rfl) (by kernel_rfl)
theorem ent190 : Enters Tryz.prog 190 := enters_of Tryz.func190 (by kernel_rfl) (by kernel_rfl)
theorem ent191 : Enters Tryz.prog 191 := enters_of Tryz.func191 (by kernel_rfl) (by kernel_rfl)
theorem ent197 : Enters Tryz.prog 197 := enters_of Tryz.func197 (by kernel_rfl) (by kernel_rfl)
theorem ent198 : Enters Tryz.prog 198 := enters_of Tryz.func198 (by kernel_rfl) (by kernel_rfl)
theorem ent199 : Enters Tryz.prog 199 := enters_of Tryz.func199 (by kernel_rfl) (by kernel_rfl)
theorem ent205 : Enters Tryz.prog 205 := enters_of Tryz.func205 (by kernel_rfl) (by kernel_rfl)
theorem ent209 : Enters Tryz.prog 209 := enters_of Tryz.func209 (by kernel_rfl) (by kernel_rfl)
theorem ent210 : Enters Tryz.prog 210 := enters_of Tryz.func210 (by kernel_rfl) (by kernel_rfl)
theorem ent211 : Enters Tryz.prog 211 := enters_of Tryz.func211 (by kernel_rfl) (by kernel_rfl)
theorem ent212 : Enters Tryz.prog 212 := enters_of Tryz.func212 (by kernel_rfl) (by kernel_rfl)
theorem ent213 : Enters Tryz.prog 213 := enters_of Tryz.func213 (by kernel_rfl) (by kernel_rfl)
theorem ent215 : Enters Tryz.prog 215 := enters_of Tryz.func215 (by kernel_rfl) (by kernel_rfl)
theorem ent216 : Enters Tryz.prog 216 := enters_of Tryz.func216 (by kernel_rfl) (by kernel_rfl)
theorem ent217 : Enters Tryz.prog 217 := enters_of Tryz.func217 (by kernel_rfl) (by kernel_rfl)
theorem ent218 : Enters Tryz.prog 218 := enters_of Tryz.func218 (by kernel_rfl) (by kernel_rfl)
theorem ent219 : Enters Tryz.prog 219 := enters_of Tryz.func219 (by kernel_rfl) (by kernel_rfl)
theorem ent220 : Enters Tryz.prog 220 := enters_of Tryz.func220 (by kernel_rfl) (by kernel_rfl)
theorem ent221 : Enters Tryz.prog 221 := enters_of Tryz.func221 (by kernel_rfl) (by kernel_rfl)
theorem ent222 : Enters Tryz.prog 222 := enters_of Tryz.func222 (by kernel_rfl) (by kernel_rfl)
theorem ent223 : Enters Tryz.prog 223 := enters_of Tryz.func223 (by kernel_rfl) (by kernel_rfl)
theorem ent224 : Enters Tryz.prog 224 := enters_of Tryz.func224 (by kernel_rfl) (by kernel_rfl)
theorem ent225 : Enters Tryz.prog 225 := enters_of Tryz.func225 (by kernel_rfl) (by kernel_rfl)
theorem ent226 : Enters Tryz.prog 226 := enters_of Tryz.func226 (by kernel_rfl) (by kernel_rfl)
theorem ent227 : Enters Tryz.prog 227 := enters_of Tryz.func227 (by kernel_rfl) (by kernel_rfl)
theorem ent228 : Enters Tryz.prog 228 := enters_of Tryz.func228 (by kernel_rfl) (by kernel_rfl)
theorem ent229 : Enters Tryz.prog 229 := enters_of Tryz.func229 (by kernel_rfl) (by kernel_rfl)
theorem ent230 : Enters Tryz.prog 230 := enters_of Tryz.func230 (by kernel_rfl) (by kernel_rfl)
theorem ent231 : Enters Tryz.prog 231 := enters_of Tryz.func231 (by kernel_rfl) (by kernel_rfl)
theorem ent232 : Enters Tryz.prog 232 := enters_of Tryz.func232 (by kernel_rfl) (by kernel_rfl)
theorem ent233 : Enters Tryz.prog 233 := enters_of Tryz.func233 (by kernel_rfl) (by kernel_rfl)
theorem ent234 : Enters Tryz.prog 234 := enters_of Tryz.func234 (by kernel_rfl) (by kernel_rfl)
theorem ent235 : Enters Tryz.prog 235 := enters_of Tryz.func235 (by kernel_rfl) (by kernel_rfl)
theorem ent236 : Enters Tryz.prog 236 := enters_of Tryz.func236 (by kernel_rfl) (by kernel_rfl)
theorem ent237 : Enters Tryz.prog 237 := enters_of Tryz.func237 (by kernel_rfl) (by kernel_rfl)
theorem ent238 : Enters Tryz.prog 238 := enters_of Tryz.func238 (by kernel_rfl) (by kernel_rfl)
theorem ent239 : Enters Tryz.prog 239 := enters_of Tryz.func239 (by kernel_rfl) (by kernel_rfl)
theorem ent242 : Enters Tryz.prog 242 := enters_of Tryz.func242 (by kernel_rfl) (by kernel_rfl)
theorem ent245 : Enters Tryz.prog 245 := enters_of Tryz.func245 (by kernel_rfl) (by kernel_rfl)
theorem ent246 : Enters Tryz.prog 246 := enters_of Tryz.func246 (by kernel_rfl) (by kernel_rfl)
theorem ent247 : Enters Tryz.prog 247 := enters_of Tryz.func247 (by kernel_rfl) (by kernel_rfl)
theorem ent248 : Enters Tryz.prog 248 := enters_of Tryz.func248 (by kernel_rfl) (by kernel_rfl)
theorem ent249 : Enters Tryz.prog 249 := enters_of Tryz.func249 (by kernel_rfl) (by kernel_rfl)
theorem ent254 : Enters Tryz.prog 254 := enters_of Tryz.func254 (by kernel_rfl) (by kernel_rfl)
theorem ent255 : Enters Tryz.prog 255 := enters_of Tryz.func255 (by kernel_rfl) (by kernel_rfl)
theorem ent256 : Enters Tryz.prog 256 := enters_of Tryz.func256 (by kernel_rfl) (by kernel_rfl)
theorem ent257 : Enters Tryz.prog 257 := enters_of Tryz.func257 (by kernel_rfl) (by kernel_rfl)
theorem ent258 : Enters Tryz.prog 258 := enters_of Tryz.func258 (by kernel_rfl) (by kernel_rfl)
theorem ent259 : Enters Tryz.prog 259 := enters_of Tryz.func259 (by kernel_rfl) (by kernel_rfl)
theorem ent260 : Enters Tryz.prog 260 := enters_of Tryz.func260 (by kernel_rfl) (by kernel_rfl)
theorem ent261 : Enters Tryz.prog 261 := enters_of Tryz.func261 (by kernel_rfl) (by kernel_rfl)
theorem ent262 : Enters Tryz.prog 262 := enters_of Tryz.func262 (by kernel_rfl) (by kernel_rfl)
theorem ent263 : Enters Tryz.prog 263 := enters_of Tryz.func263 (by kernel_rfl) (by kernel_rfl)
theorem ent264 : Enters Tryz.prog 264 := enters_of Tryz.func264 (by kernel_rfl) (by kernel_rfl)
theorem ent265 : Enters Tryz.prog 265 := enters_of Tryz.func265 (by kernel_rfl) (by kernel_rfl)
theorem ent266 : Enters Tryz.prog 266 := enters_of Tryz.func266 (by kernel_rfl) (by kernel_rfl)
theorem ent274 : Enters Tryz.prog 274 := enters_of Tryz.func274 (by kernel_rfl) (by kernel_rfl)
theorem ent275 : Enters Tryz.prog 275 := enters_of Tryz.func275 (by kernel_rfl) (by kernel_rfl)
theorem ent276 : Enters Tryz.prog 276 := enters_of Tryz.func276 (by kernel_rfl) (by kernel_rfl)
theorem ent277 : Enters Tryz.prog 277 := enters_of Tryz.func277 (by kernel_rfl) (by kernel_rfl)
theorem ent278 : Enters Tryz.prog 278 := enters_of Tryz.func278 (by kernel_rfl) (by kernel_rfl)
theorem ent279 : Enters Tryz.prog 279 := enters_of Tryz.func279 (by kernel_rfl) (by kernel_rfl)
theorem ent284 : Enters Tryz.prog 284 := enters_of Tryz.func284 (by kernel_rfl) (by kernel_rfl)
theorem ent285 : Enters Tryz.prog 285 := enters_of Tryz.func285 (by kernel_rfl) (by kernel_rfl)
theorem mixed : Tryz.prog.follows .mixedOrders = true := by kernel_rfl
end Go.Proofs.YtdoibplhbdkapaaGreatDoor
namespace Go.Proofs.YtdoibplhbdkapaaGreatDoor
open Go.RowKit
set_option linter.unusedVariables false

theorem Own.cap {w : World} {lo n c s : Nat} {t : TypeId} {A : Option Addr} {cs : List Value} (h : Own w lo t s A n c cs) : n ≤ c := by
  rcases Nat.eq_zero_or_pos n with e | e
  · omega
  · obtain ⟨_, _, _, _, _, hn, _⟩ := h.form e; exact hn
theorem flat_drop {α : Type} {enc : α → List Value} {s : Nat} (he : ∀ x, (enc x).length = s) : ∀ (xs : List α) (k : Nat), (xs.flatMap enc).drop (k * s) = (xs.drop k).flatMap enc
  | xs, 0 => by simp
  | [], k + 1 => by simp
  | x :: r, k + 1 => by
    rw [List.flatMap_cons, Nat.add_mul, Nat.one_mul, Nat.add_comm, List.drop_append, List.drop_of_length_le (by rw [he]; omega), he, List.nil_append, show s + k * s - s = k * s by omega, flat_drop he r k]; rfl
theorem flat_take {α : Type} {enc : α → List Value} {s : Nat} (he : ∀ x, (enc x).length = s) : ∀ (xs : List α) (k : Nat), (xs.flatMap enc).take (k * s) = (xs.take k).flatMap enc
  | xs, 0 => by simp
  | [], k + 1 => by simp
  | x :: r, k + 1 => by
    rw [List.flatMap_cons, Nat.add_mul, Nat.one_mul, Nat.add_comm, List.take_append, List.take_of_length_le (by rw [he]; omega), he, show s + k * s - s = k * s by omega, flat_take he r k]; rfl
theorem map_add0 (A : Option Addr) : A.map (·.add 0) = A := by cases A <;> rfl
/-- a part of a row that is read -/
theorem Sl.part {α : Type} {enc : α → List Value} {s : Nat} {w : World} {B : Nat} {A : Option Addr} {xs : List α} (h : Sl B w A (xs.flatMap enc)) (he : ∀ x, (enc x).length = s) (l m c : Nat) (hm : c = l → m = 0) :
    Sl B w (if c = l then A else A.map (·.add (l * s))) (((xs.drop l).take m).flatMap enc) := by
  by_cases hc : c = l
  · rw [hm hc]; simp only [List.take_zero, List.flatMap_nil]; exact Sl.nil_ h.1 _
  · rw [if_neg hc]
    have h1 := h.cut (l * s) (m * s)
    rw [flat_drop he, flat_take he] at h1
    by_cases h0 : l * s = 0
    · rw [if_pos h0] at h1; rw [h0, map_add0]; exact h1
    · rw [if_neg h0] at h1; exact h1
section
variable {P : Program} {e : List (Nat × Value)} {w : World} {K : Value → World → Prop} {ty t el : TypeId} {x lo hi : Operand} {s : Nat} {α : Type} {enc : α → List Value} {B n c l h : Nat} {A : Option Addr} {xs : List α} {k1 k2 : IntKind} {m1 m2 : Int}
theorem elem_of (ht : elO P t = some (el, s)) : P.underlying t = some (.slice (P.elem t)) ∧ ∀ w, (sizeOf (P.elem t)).run P w = .ok s w := by
  obtain ⟨ti, hu, hti, hts⟩ := elO_spec ht
  have he : P.elem t = el := by simp [Program.elem, hu]
  rw [he]
  exact ⟨hu, fun w => by simp only [run_sizeOf' hti, hts]⟩
theorem ow_sliceLH (ht : elO P t = some (el, s)) (hs : Sl B w A (xs.flatMap enc)) (he : ∀ x, (enc x).length = s) (hx : evO e x = some (.slice A n c)) (h1 : evO e lo = some (.int k1 m1)) (h2 : evO e hi = some (.int k2 m2)) (e1 : m1 = (l : Int)) (e2 : m2 = (h : Int))
    (hlh : l ≤ h) (hc : h ≤ c) (hK : ∀ A', Sl B w A' (((xs.drop l).take (h - l)).flatMap enc) → K (.slice A' (h - l) (c - l)) w) : OpWp P e (.slice t x (some lo) (some hi) none) ty w K := fun ρ d p a g hρ => by
  have g0 := hρ _ _ hx; have g1 := hρ _ _ h1; have g2 := hρ _ _ h2
  obtain ⟨hu, hsz⟩ := elem_of ht
  subst e1; subst e2
  have hr := run_slice_lh (P := P) (w := w) t A n c hu k1 k2 (l : Int) (h : Int) (by omega) (by omega) (by omega)
  simp only [execOp, g0, Option.map_some, Option.map_none, g1, g2, Sem.run_bind, run_sliceAt_slice w t _ _ _ _ hu, hr, hsz, Result.andThen_ok, Sem.run_pure, upto, sliced, Int.toNat_natCast]
  exact hK _ (hs.part he l (h - l) c (fun e => by omega))
theorem ow_sliceH (ht : elO P t = some (el, s)) (hs : Sl B w A (xs.flatMap enc)) (he : ∀ x, (enc x).length = s) (hx : evO e x = some (.slice A n c)) (h2 : evO e hi = some (.int k2 m2)) (e2 : m2 = (h : Int))
    (hc : h ≤ c) (hK : ∀ A', Sl B w A' ((xs.take h).flatMap enc) → K (.slice A' h c) w) : OpWp P e (.slice t x none (some hi) none) ty w K := fun ρ d p a g hρ => by
  have g0 := hρ _ _ hx; have g2 := hρ _ _ h2
  obtain ⟨hu, hsz⟩ := elem_of ht
  subst e2
  have hr := run_slice_h (P := P) (w := w) t A n c hu k2 (h : Int) (by omega) (by omega)
  simp only [execOp, g0, Option.map_some, Option.map_none, g2, Sem.run_bind, run_sliceAt_slice w t _ _ _ _ hu, hr, hsz, Result.andThen_ok, Sem.run_pure, upto, sliced, Int.toNat_natCast]
  have h3 := hs.part he 0 h c (fun e => by omega)
  rw [List.drop_zero] at h3
  exact hK _ h3
end
end Go.Proofs.YtdoibplhbdkapaaGreatDoor
namespace Go.Proofs.YtdoibplhbdkapaaGreatDoor
open Go.RowKit
set_option linter.unusedVariables false
set_option linter.unusedSimpArgs false
theorem one_ints : ∀ (xs : List Int), ∀ u ∈ xs.flatMap eI, u.oneCell' = true := fun xs u hu => by
  obtain ⟨x, _, h⟩ := List.mem_flatMap.1 hu
  have : u = .int .i64 x := by simpa [eI] using h
  subst this; rfl
section
variable {P : Program} {e : List (Nat × Value)} {ty : TypeId} {w : World} {K : Value → World → Prop} {x y : Operand} {t el : TypeId} {s b : Nat} {z : List Value} {a : Bool}
end
section
variable {P : Program} {n : Nat} {ops : Array Oper} {I : World → Prop} {K : Act → World → Prop} {fuel : Nat} {listed listed' : Array Bool} {e : List (Nat × Value)} {w : World}
end
end Go.Proofs.YtdoibplhbdkapaaGreatDoor
namespace Go.Proofs.YtdoibplhbdkapaaGreatDoor
open Go.RowKit
set_option linter.unusedVariables false
set_option linter.unusedSimpArgs false
set_option maxRecDepth 20000
theorem dataOk_in {k z : Int} (h : dataOk k z = true) : 0 ≤ z ∧ z ≤ 32 := by
  unfold dataOk at h
  split at h
  · exact inB_iff.1 h
  · split at h
    · have := inB_iff.1 h; omega
    · simp at h; omega
theorem bodyS_in (k : Int) {z : Int} (h : 0 ≤ z ∧ z ≤ 32) : 1 ≤ bodyS k z ∧ bodyS k z ≤ 42 := by
  unfold bodyS; (repeat' split) <;> omega
theorem cellsS_in (k : Int) {z : Int} (h : 0 ≤ z ∧ z ≤ 32) : 41 ≤ cellsS k z ∧ cellsS k z ≤ 1000 := by
  have := bodyS_in k h; unfold cellsS; omega
theorem l01In_c (a b c : Int) (w : World)  :
    Calls Tryz.prog 111 #[.int .i64 a, .int .i64 b, .int .i64 c] w (Ret fun v w' => v = .bool (inB a b c) ∧ Ext w w') := by
  have X := Ext.refl w
  refine calls_of (args := [.int .i64 a, .int .i64 b, .int .i64 c]) Tryz.func111 Tryz.ntmps111 rfl rfl ?_
  refine c_seqR ?_
  refine ops_cons rfl (ow_assign rfl ?_)
  refine ops_nil ?_
  refine c_seqR ?_
  refine ops_cons rfl (ow_move rfl ?_)
  refine ops_cons rfl (ow_move rfl ?_)
  refine ops_cons rfl (ow_geq2 rfl rfl (fun h1 => ?_) (fun h1 => ?_))
  refine ops_cons rfl (ow_move rfl ?_)
  refine ops_want rfl rfl rfl (ow_move rfl ?_)
  refine ops_want rfl rfl rfl (ow_move rfl ?_)
  refine ops_want rfl rfl rfl (ow_leq rfl rfl ?_)
  refine ops_cons rfl (ow_pick rfl rfl ?_)
  refine ops_cons rfl (ow_assign rfl ?_)
  refine ops_nil ?_
  refine c_ret ?_
  refine fin_ret1 rfl rfl ?_
  exact ⟨by simp [inB, *], X⟩
  refine ops_cons rfl (ow_move rfl ?_)
  refine ops_skip rfl rfl rfl rfl ?_
  refine ops_skip rfl rfl rfl rfl ?_
  refine ops_skip rfl rfl rfl rfl ?_
  refine ops_cons rfl (ow_pick rfl rfl ?_)
  refine ops_cons rfl (ow_assign rfl ?_)
  refine ops_nil ?_
  refine c_ret ?_
  refine fin_ret1 rfl rfl ?_
  exact ⟨by simp [inB, *], X⟩

theorem within_c (a b c : Int) (w : World)  :
    Calls Tryz.prog 109 #[.int .i64 a, .int .i64 b, .int .i64 c] w (Ret fun v w' => v = .bool (inB a b c) ∧ Ext w w') := by
  have X := Ext.refl w
  refine calls_of (args := [.int .i64 a, .int .i64 b, .int .i64 c]) Tryz.func109 Tryz.ntmps109 rfl rfl ?_
  refine c_seqR ?_
  refine ops_cons rfl (ow_assign rfl ?_)
  refine ops_nil ?_
  refine c_seqR ?_
  refine ops_cons rfl (ow_move rfl ?_)
  refine ops_cons rfl (ow_move rfl ?_)
  refine ops_cons rfl (ow_geq2 rfl rfl (fun h1 => ?_) (fun h1 => ?_))
  refine ops_cons rfl (ow_move rfl ?_)
  refine ops_want rfl rfl rfl (ow_move rfl ?_)
  refine ops_want rfl rfl rfl (ow_move rfl ?_)
  refine ops_want rfl rfl rfl (ow_leq rfl rfl ?_)
  refine ops_cons rfl (ow_pick rfl rfl ?_)
  refine ops_cons rfl (ow_assign rfl ?_)
  refine ops_nil ?_
  refine c_ret ?_
  refine fin_ret1 rfl rfl ?_
  exact ⟨by simp [inB, *], X⟩
  refine ops_cons rfl (ow_move rfl ?_)
  refine ops_skip rfl rfl rfl rfl ?_
  refine ops_skip rfl rfl rfl rfl ?_
  refine ops_skip rfl rfl rfl rfl ?_
  refine ops_cons rfl (ow_pick rfl rfl ?_)
  refine ops_cons rfl (ow_assign rfl ?_)
  refine ops_nil ?_
  refine c_ret ?_
  refine fin_ret1 rfl rfl ?_
  exact ⟨by simp [inB, *], X⟩

theorem l05Node_c (a : Int) (w : World)  :
    Calls Tryz.prog 275 #[.int .i64 a] w (Ret fun v w' => v = .bool (inB a 0 31) ∧ Ext w w') := by
  have X := Ext.refl w
  refine calls_of (args := [.int .i64 a]) Tryz.func275 Tryz.ntmps275 rfl rfl ?_
  refine c_seqR ?_
  refine ops_cons rfl (ow_assign rfl ?_)
  refine ops_nil ?_
  refine c_seqR ?_
  refine ops_cons rfl (ow_move rfl ?_)
  refine ops_cons rfl (ow_call ent111 rfl (ret_mono (l01In_c _ _ _ _) ?_))
  rintro _ w2 ⟨rfl, x1⟩
  replace X := Ext.trans X x1; clear x1
  refine ops_cons rfl (ow_assign rfl ?_)
  refine ops_nil ?_
  refine c_ret ?_
  refine fin_ret1 rfl rfl ?_
  exact ⟨by first | rfl | (simp [*]; done), X⟩

theorem isNode_c (a : Int) (w : World)  :
    Calls Tryz.prog 116 #[.int .i64 a] w (Ret fun v w' => v = .bool (inB a 0 31) ∧ Ext w w') := by
  have X := Ext.refl w
  refine calls_of (args := [.int .i64 a]) Tryz.func116 Tryz.ntmps116 rfl rfl ?_
  refine c_seqR ?_
  refine ops_cons rfl (ow_assign rfl ?_)
  refine ops_nil ?_
  refine c_seqR ?_
  refine ops_cons rfl (ow_move rfl ?_)
  refine ops_cons rfl (ow_call ent109 rfl (ret_mono (within_c _ _ _ _) ?_))
  rintro _ w2 ⟨rfl, x1⟩
  replace X := Ext.trans X x1; clear x1
  refine ops_cons rfl (ow_assign rfl ?_)
  refine ops_nil ?_
  refine c_ret ?_
  refine fin_ret1 rfl rfl ?_
  exact ⟨by first | rfl | (simp [*]; done), X⟩

theorem l06Kind_c (a : Int) (w : World)  :
    Calls Tryz.prog 278 #[.int .i64 a] w (Ret fun v w' => v = .bool (inB a 0 3) ∧ Ext w w') := by
  have X := Ext.refl w
  refine calls_of (args := [.int .i64 a]) Tryz.func278 Tryz.ntmps278 rfl rfl ?_
  refine c_seqR ?_
  refine ops_cons rfl (ow_assign rfl ?_)
  refine ops_nil ?_
  refine c_seqR ?_
  refine ops_cons rfl (ow_move rfl ?_)
  refine ops_cons rfl (ow_call ent111 rfl (ret_mono (l01In_c _ _ _ _) ?_))
  rintro _ w2 ⟨rfl, x1⟩
  replace X := Ext.trans X x1; clear x1
  refine ops_cons rfl (ow_assign rfl ?_)
  refine ops_nil ?_
  refine c_ret ?_
  refine fin_ret1 rfl rfl ?_
  exact ⟨by first | rfl | (simp [*]; done), X⟩

theorem isKind_c (a : Int) (w : World)  :
    Calls Tryz.prog 262 #[.int .i64 a] w (Ret fun v w' => v = .bool (inB a 0 3) ∧ Ext w w') := by
  have X := Ext.refl w
  refine calls_of (args := [.int .i64 a]) Tryz.func262 Tryz.ntmps262 rfl rfl ?_
  refine c_seqR ?_
  refine ops_cons rfl (ow_assign rfl ?_)
  refine ops_nil ?_
  refine c_seqR ?_
  refine ops_cons rfl (ow_move rfl ?_)
  refine ops_cons rfl (ow_call ent109 rfl (ret_mono (within_c _ _ _ _) ?_))
  rintro _ w2 ⟨rfl, x1⟩
  replace X := Ext.trans X x1; clear x1
  refine ops_cons rfl (ow_assign rfl ?_)
  refine ops_nil ?_
  refine c_ret ?_
  refine fin_ret1 rfl rfl ?_
  exact ⟨by first | rfl | (simp [*]; done), X⟩

theorem l06Size_c (a b : Int) (w : World)  :
    Calls Tryz.prog 279 #[.int .i64 a, .int .i64 b] w (Ret fun v w' => v = .bool (dataOk a b) ∧ Ext w w') := by
  have X := Ext.refl w
  refine calls_of (args := [.int .i64 a, .int .i64 b]) Tryz.func279 Tryz.ntmps279 rfl rfl ?_
  refine c_seqR ?_
  refine ops_cons rfl (ow_assign rfl ?_)
  refine ops_nil ?_
  refine c_seq ?_
  refine c_seqR ?_
  refine ops_cons rfl (ow_move rfl ?_)
  refine ops_nil ?_
  refine c_block ?_
  refine c_seqR ?_
  refine ops_cons rfl (ow_eql2 rfl rfl (fun h1 => ?_) (fun h1 => ?_))
  refine ops_cons rfl (ow_assign rfl ?_)
  refine ops_nil ?_
  refine c_true rfl ?_
  refine c_seqR ?_
  refine ops_cons rfl (ow_move rfl ?_)
  refine ops_cons rfl (ow_call ent111 rfl (ret_mono (l01In_c _ _ _ _) ?_))
  rintro _ w3 ⟨rfl, x2⟩
  replace X := Ext.trans X x2; clear x2
  refine ops_cons rfl (ow_assign rfl ?_)
  refine ops_nil ?_
  refine c_ret ?_
  refine bq_r ?_
  refine tq_r ?_
  refine fin_ret1 rfl rfl ?_
  exact ⟨by simp [dataOk, *], X⟩
  refine ops_cons rfl (ow_assign rfl ?_)
  refine ops_nil ?_
  refine c_false rfl ?_
  refine c_seqR ?_
  refine ops_cons rfl (ow_eql2 rfl rfl (fun h4 => ?_) (fun h4 => ?_))
  refine ops_cons rfl (ow_assign rfl ?_)
  refine ops_nil ?_
  refine c_true rfl ?_
  refine c_seqR ?_
  refine ops_cons rfl (ow_move rfl ?_)
  refine ops_cons rfl (ow_call ent111 rfl (ret_mono (l01In_c _ _ _ _) ?_))
  rintro _ w6 ⟨rfl, x5⟩
  replace X := Ext.trans X x5; clear x5
  refine ops_cons rfl (ow_assign rfl ?_)
  refine ops_nil ?_
  refine c_ret ?_
  refine bq_r ?_
  refine tq_r ?_
  refine fin_ret1 rfl rfl ?_
  exact ⟨by simp [dataOk, *], X⟩
  refine ops_cons rfl (ow_assign rfl ?_)
  refine ops_nil ?_
  refine c_false rfl ?_
  refine c_skip ?_
  refine bq_n ?_
  refine tq_n ?_
  refine c_seqR ?_
  refine ops_cons rfl (ow_move rfl ?_)
  refine ops_cons rfl (ow_eql rfl rfl ?_)
  refine ops_cons rfl (ow_assign rfl ?_)
  refine ops_nil ?_
  refine c_ret ?_
  refine fin_ret1 rfl rfl ?_
  exact ⟨by simp [dataOk, *], X⟩

theorem isDataSize_c (a b : Int) (w : World)  :
    Calls Tryz.prog 263 #[.int .i64 a, .int .i64 b] w (Ret fun v w' => v = .bool (dataOk a b) ∧ Ext w w') := by
  have X := Ext.refl w
  refine calls_of (args := [.int .i64 a, .int .i64 b]) Tryz.func263 Tryz.ntmps263 rfl rfl ?_
  refine c_seqR ?_
  refine ops_cons rfl (ow_assign rfl ?_)
  refine ops_nil ?_
  refine c_seq ?_
  refine c_seqR ?_
  refine ops_cons rfl (ow_move rfl ?_)
  refine ops_nil ?_
  refine c_block ?_
  refine c_seqR ?_
  refine ops_cons rfl (ow_eql2 rfl rfl (fun h1 => ?_) (fun h1 => ?_))
  refine ops_cons rfl (ow_assign rfl ?_)
  refine ops_nil ?_
  refine c_true rfl ?_
  refine c_seqR ?_
  refine ops_cons rfl (ow_move rfl ?_)
  refine ops_cons rfl (ow_call ent109 rfl (ret_mono (within_c _ _ _ _) ?_))
  rintro _ w3 ⟨rfl, x2⟩
  replace X := Ext.trans X x2; clear x2
  refine ops_cons rfl (ow_assign rfl ?_)
  refine ops_nil ?_
  refine c_ret ?_
  refine bq_r ?_
  refine tq_r ?_
  refine fin_ret1 rfl rfl ?_
  exact ⟨by simp [dataOk, *], X⟩
  refine ops_cons rfl (ow_assign rfl ?_)
  refine ops_nil ?_
  refine c_false rfl ?_
  refine c_seqR ?_
  refine ops_cons rfl (ow_eql2 rfl rfl (fun h4 => ?_) (fun h4 => ?_))
  refine ops_cons rfl (ow_assign rfl ?_)
  refine ops_nil ?_
  refine c_true rfl ?_
  refine c_seqR ?_
  refine ops_cons rfl (ow_move rfl ?_)
  refine ops_cons rfl (ow_call ent109 rfl (ret_mono (within_c _ _ _ _) ?_))
  rintro _ w6 ⟨rfl, x5⟩
  replace X := Ext.trans X x5; clear x5
  refine ops_cons rfl (ow_assign rfl ?_)
  refine ops_nil ?_
  refine c_ret ?_
  refine bq_r ?_
  refine tq_r ?_
  refine fin_ret1 rfl rfl ?_
  exact ⟨by simp [dataOk, *], X⟩
  refine ops_cons rfl (ow_assign rfl ?_)
  refine ops_nil ?_
  refine c_false rfl ?_
  refine c_skip ?_
  refine bq_n ?_
  refine tq_n ?_
  refine c_seqR ?_
  refine ops_cons rfl (ow_move rfl ?_)
  refine ops_cons rfl (ow_eql rfl rfl ?_)
  refine ops_cons rfl (ow_assign rfl ?_)
  refine ops_nil ?_
  refine c_ret ?_
  refine fin_ret1 rfl rfl ?_
  exact ⟨by simp [dataOk, *], X⟩

theorem l06State_c (a : Int) (w : World)  :
    Calls Tryz.prog 274 #[.int .i64 a] w (Ret fun v w' => v = .bool (decide (a ≠ 0)) ∧ Ext w w') := by
  have X := Ext.refl w
  refine calls_of (args := [.int .i64 a]) Tryz.func274 Tryz.ntmps274 rfl rfl ?_
  refine c_seqR ?_
  refine ops_cons rfl (ow_assign rfl ?_)
  refine ops_nil ?_
  refine c_seqR ?_
  refine ops_cons rfl (ow_move rfl ?_)
  refine ops_cons rfl (ow_neq rfl rfl ?_)
  refine ops_cons rfl (ow_assign rfl ?_)
  refine ops_nil ?_
  refine c_ret ?_
  refine fin_ret1 rfl rfl ?_
  exact ⟨by rfl, X⟩

theorem hasState_c (a : Int) (w : World)  :
    Calls Tryz.prog 284 #[.int .i64 a] w (Ret fun v w' => v = .bool (decide (a ≠ 0)) ∧ Ext w w') := by
  have X := Ext.refl w
  refine calls_of (args := [.int .i64 a]) Tryz.func284 Tryz.ntmps284 rfl rfl ?_
  refine c_seqR ?_
  refine ops_cons rfl (ow_assign rfl ?_)
  refine ops_nil ?_
  refine c_seqR ?_
  refine ops_cons rfl (ow_move rfl ?_)
  refine ops_cons rfl (ow_neq rfl rfl ?_)
  refine ops_cons rfl (ow_assign rfl ?_)
  refine ops_nil ?_
  refine c_ret ?_
  refine fin_ret1 rfl rfl ?_
  exact ⟨by rfl, X⟩

theorem l06Data_c (a : Int) (w : World)  :
    Calls Tryz.prog 247 #[.int .i64 a] w (Ret fun v w' => v = .bool (decide (a = 0 ∨ a = 2)) ∧ Ext w w') := by
  have X := Ext.refl w
  refine calls_of (args := [.int .i64 a]) Tryz.func247 Tryz.ntmps247 rfl rfl ?_
  refine c_seqR ?_
  refine ops_cons rfl (ow_assign rfl ?_)
  refine ops_nil ?_
  refine c_seqR ?_
  refine ops_cons rfl (ow_move rfl ?_)
  refine ops_cons rfl (ow_eql2 rfl rfl (fun h1 => ?_) (fun h1 => ?_))
  refine ops_cons rfl (ow_move rfl ?_)
  refine ops_skip rfl rfl rfl rfl ?_
  refine ops_skip rfl rfl rfl rfl ?_
  refine ops_cons rfl (ow_pick rfl rfl ?_)
  refine ops_cons rfl (ow_assign rfl ?_)
  refine ops_nil ?_
  refine c_ret ?_
  refine fin_ret1 rfl rfl ?_
  exact ⟨by simp [*], X⟩
  refine ops_cons rfl (ow_move rfl ?_)
  refine ops_want rfl rfl rfl (ow_move rfl ?_)
  refine ops_want rfl rfl rfl (ow_eql rfl rfl ?_)
  refine ops_cons rfl (ow_pick rfl rfl ?_)
  refine ops_cons rfl (ow_assign rfl ?_)
  refine ops_nil ?_
  refine c_ret ?_
  refine fin_ret1 rfl rfl ?_
  exact ⟨by simp [*], X⟩

theorem hasData_c (a : Int) (w : World)  :
    Calls Tryz.prog 285 #[.int .i64 a] w (Ret fun v w' => v = .bool (decide (a = 0 ∨ a = 2)) ∧ Ext w w') := by
  have X := Ext.refl w
  refine calls_of (args := [.int .i64 a]) Tryz.func285 Tryz.ntmps285 rfl rfl ?_
  refine c_seqR ?_
  refine ops_cons rfl (ow_assign rfl ?_)
  refine ops_nil ?_
  refine c_seqR ?_
  refine ops_cons rfl (ow_move rfl ?_)
  refine ops_cons rfl (ow_eql2 rfl rfl (fun h1 => ?_) (fun h1 => ?_))
  refine ops_cons rfl (ow_move rfl ?_)
  refine ops_skip rfl rfl rfl rfl ?_
  refine ops_skip rfl rfl rfl rfl ?_
  refine ops_cons rfl (ow_pick rfl rfl ?_)
  refine ops_cons rfl (ow_assign rfl ?_)
  refine ops_nil ?_
  refine c_ret ?_
  refine fin_ret1 rfl rfl ?_
  exact ⟨by simp [*], X⟩
  refine ops_cons rfl (ow_move rfl ?_)
  refine ops_want rfl rfl rfl (ow_move rfl ?_)
  refine ops_want rfl rfl rfl (ow_eql rfl rfl ?_)
  refine ops_cons rfl (ow_pick rfl rfl ?_)
  refine ops_cons rfl (ow_assign rfl ?_)
  refine ops_nil ?_
  refine c_ret ?_
  refine fin_ret1 rfl rfl ?_
  exact ⟨by simp [*], X⟩

theorem l06Body_c (a b : Int) (w : World) (hb : 0 ≤ b ∧ b ≤ 32) :
    Calls Tryz.prog 256 #[.int .i64 a, .int .i64 b] w (Ret fun v w' => v = .int .i64 (bodyS a b) ∧ Ext w w') := by
  have X := Ext.refl w
  refine calls_of (args := [.int .i64 a, .int .i64 b]) Tryz.func256 Tryz.ntmps256 rfl rfl ?_
  refine c_seqR ?_
  refine ops_cons rfl (ow_assign rfl ?_)
  refine ops_nil ?_
  refine c_seqR ?_
  refine ops_cons rfl (ow_assign rfl ?_)
  refine ops_nil ?_
  refine c_seq ?_
  refine c_seqR ?_
  refine ops_cons rfl (ow_move rfl ?_)
  refine ops_cons rfl (ow_callB ent274 rfl (l06State_c _ _) (fun w3 h1 x2 => ?_) (fun w3 h1 x2 => ?_))
  replace X := Ext.trans X x2; clear x2
  refine ops_nil ?_
  refine c_true rfl ?_
  refine c_region ?_
  refine ops_cons rfl (ow_move rfl ?_)
  refine ops_cons rfl (ow_add rfl rfl (w64 (by omega)) ?_)
  refine ops_cons rfl (ow_assign rfl ?_)
  refine ops_nil ?_
  refine tq_n ?_
  refine c_seq ?_
  refine c_seqR ?_
  refine ops_cons rfl (ow_move rfl ?_)
  refine ops_cons rfl (ow_callB ent247 rfl (l06Data_c _ _) (fun w6 h4 x5 => ?_) (fun w6 h4 x5 => ?_))
  replace X := Ext.trans X x5; clear x5
  refine ops_nil ?_
  refine c_true rfl ?_
  refine c_region ?_
  refine ops_cons rfl (ow_move rfl ?_)
  refine ops_cons rfl (ow_add rfl rfl (w64 (by omega)) ?_)
  refine ops_cons rfl (ow_move rfl ?_)
  refine ops_cons rfl (ow_add rfl rfl (w64 (by omega)) ?_)
  refine ops_cons rfl (ow_assign rfl ?_)
  refine ops_nil ?_
  refine tq_n ?_
  refine c_seqR ?_
  refine ops_cons rfl (ow_move rfl ?_)
  refine ops_cons rfl (ow_assign rfl ?_)
  refine ops_nil ?_
  refine c_ret ?_
  refine fin_ret1 rfl rfl ?_
  · skip
    refine ⟨congrArg (Value.int .i64) ?_, X⟩
    simp only [decide_eq_true_eq, decide_eq_false_iff_not] at *
    unfold bodyS
    (repeat' split) <;> omega
  replace X := Ext.trans X x5; clear x5
  refine ops_nil ?_
  refine c_false rfl ?_
  refine c_skip ?_
  refine tq_n ?_
  refine c_seqR ?_
  refine ops_cons rfl (ow_move rfl ?_)
  refine ops_cons rfl (ow_assign rfl ?_)
  refine ops_nil ?_
  refine c_ret ?_
  refine fin_ret1 rfl rfl ?_
  · skip
    refine ⟨congrArg (Value.int .i64) ?_, X⟩
    simp only [decide_eq_true_eq, decide_eq_false_iff_not] at *
    unfold bodyS
    (repeat' split) <;> omega
  replace X := Ext.trans X x2; clear x2
  refine ops_nil ?_
  refine c_false rfl ?_
  refine c_skip ?_
  refine tq_n ?_
  refine c_seq ?_
  refine c_seqR ?_
  refine ops_cons rfl (ow_move rfl ?_)
  refine ops_cons rfl (ow_callB ent247 rfl (l06Data_c _ _) (fun w9 h7 x8 => ?_) (fun w9 h7 x8 => ?_))
  replace X := Ext.trans X x8; clear x8
  refine ops_nil ?_
  refine c_true rfl ?_
  refine c_region ?_
  refine ops_cons rfl (ow_move rfl ?_)
  refine ops_cons rfl (ow_add rfl rfl (w64 (by omega)) ?_)
  refine ops_cons rfl (ow_move rfl ?_)
  refine ops_cons rfl (ow_add rfl rfl (w64 (by omega)) ?_)
  refine ops_cons rfl (ow_assign rfl ?_)
  refine ops_nil ?_
  refine tq_n ?_
  refine c_seqR ?_
  refine ops_cons rfl (ow_move rfl ?_)
  refine ops_cons rfl (ow_assign rfl ?_)
  refine ops_nil ?_
  refine c_ret ?_
  refine fin_ret1 rfl rfl ?_
  · skip
    refine ⟨congrArg (Value.int .i64) ?_, X⟩
    simp only [decide_eq_true_eq, decide_eq_false_iff_not] at *
    unfold bodyS
    (repeat' split) <;> omega
  replace X := Ext.trans X x8; clear x8
  refine ops_nil ?_
  refine c_false rfl ?_
  refine c_skip ?_
  refine tq_n ?_
  refine c_seqR ?_
  refine ops_cons rfl (ow_move rfl ?_)
  refine ops_cons rfl (ow_assign rfl ?_)
  refine ops_nil ?_
  refine c_ret ?_
  refine fin_ret1 rfl rfl ?_
  · skip
    refine ⟨congrArg (Value.int .i64) ?_, X⟩
    simp only [decide_eq_true_eq, decide_eq_false_iff_not] at *
    unfold bodyS
    (repeat' split) <;> omega

theorem bodySize_c (a b : Int) (w : World) (hb : 0 ≤ b ∧ b ≤ 32) :
    Calls Tryz.prog 277 #[.int .i64 a, .int .i64 b] w (Ret fun v w' => v = .int .i64 (bodyS a b) ∧ Ext w w') := by
  have X := Ext.refl w
  refine calls_of (args := [.int .i64 a, .int .i64 b]) Tryz.func277 Tryz.ntmps277 rfl rfl ?_
  refine c_seqR ?_
  refine ops_cons rfl (ow_assign rfl ?_)
  refine ops_nil ?_
  refine c_seqR ?_
  refine ops_cons rfl (ow_assign rfl ?_)
  refine ops_nil ?_
  refine c_seq ?_
  refine c_seqR ?_
  refine ops_cons rfl (ow_move rfl ?_)
  refine ops_cons rfl (ow_callB ent284 rfl (hasState_c _ _) (fun w3 h1 x2 => ?_) (fun w3 h1 x2 => ?_))
  replace X := Ext.trans X x2; clear x2
  refine ops_nil ?_
  refine c_true rfl ?_
  refine c_region ?_
  refine ops_cons rfl (ow_move rfl ?_)
  refine ops_cons rfl (ow_add rfl rfl (w64 (by omega)) ?_)
  refine ops_cons rfl (ow_assign rfl ?_)
  refine ops_nil ?_
  refine tq_n ?_
  refine c_seq ?_
  refine c_seqR ?_
  refine ops_cons rfl (ow_move rfl ?_)
  refine ops_cons rfl (ow_callB ent285 rfl (hasData_c _ _) (fun w6 h4 x5 => ?_) (fun w6 h4 x5 => ?_))
  replace X := Ext.trans X x5; clear x5
  refine ops_nil ?_
  refine c_true rfl ?_
  refine c_region ?_
  refine ops_cons rfl (ow_move rfl ?_)
  refine ops_cons rfl (ow_move rfl ?_)
  refine ops_cons rfl (ow_add rfl rfl (w64 (by omega)) ?_)
  refine ops_cons rfl (ow_add rfl rfl (w64 (by omega)) ?_)
  refine ops_cons rfl (ow_assign rfl ?_)
  refine ops_nil ?_
  refine tq_n ?_
  refine c_seqR ?_
  refine ops_cons rfl (ow_move rfl ?_)
  refine ops_cons rfl (ow_assign rfl ?_)
  refine ops_nil ?_
  refine c_ret ?_
  refine fin_ret1 rfl rfl ?_
  · skip
    refine ⟨congrArg (Value.int .i64) ?_, X⟩
    simp only [decide_eq_true_eq, decide_eq_false_iff_not] at *
    unfold bodyS
    (repeat' split) <;> omega
  replace X := Ext.trans X x5; clear x5
  refine ops_nil ?_
  refine c_false rfl ?_
  refine c_skip ?_
  refine tq_n ?_
  refine c_seqR ?_
  refine ops_cons rfl (ow_move rfl ?_)
  refine ops_cons rfl (ow_assign rfl ?_)
  refine ops_nil ?_
  refine c_ret ?_
  refine fin_ret1 rfl rfl ?_
  · skip
    refine ⟨congrArg (Value.int .i64) ?_, X⟩
    simp only [decide_eq_true_eq, decide_eq_false_iff_not] at *
    unfold bodyS
    (repeat' split) <;> omega
  replace X := Ext.trans X x2; clear x2
  refine ops_nil ?_
  refine c_false rfl ?_
  refine c_skip ?_
  refine tq_n ?_
  refine c_seq ?_
  refine c_seqR ?_
  refine ops_cons rfl (ow_move rfl ?_)
  refine ops_cons rfl (ow_callB ent285 rfl (hasData_c _ _) (fun w9 h7 x8 => ?_) (fun w9 h7 x8 => ?_))
  replace X := Ext.trans X x8; clear x8
  refine ops_nil ?_
  refine c_true rfl ?_
  refine c_region ?_
  refine ops_cons rfl (ow_move rfl ?_)
  refine ops_cons rfl (ow_move rfl ?_)
  refine ops_cons rfl (ow_add rfl rfl (w64 (by omega)) ?_)
  refine ops_cons rfl (ow_add rfl rfl (w64 (by omega)) ?_)
  refine ops_cons rfl (ow_assign rfl ?_)
  refine ops_nil ?_
  refine tq_n ?_
  refine c_seqR ?_
  refine ops_cons rfl (ow_move rfl ?_)
  refine ops_cons rfl (ow_assign rfl ?_)
  refine ops_nil ?_
  refine c_ret ?_
  refine fin_ret1 rfl rfl ?_
  · skip
    refine ⟨congrArg (Value.int .i64) ?_, X⟩
    simp only [decide_eq_true_eq, decide_eq_false_iff_not] at *
    unfold bodyS
    (repeat' split) <;> omega
  replace X := Ext.trans X x8; clear x8
  refine ops_nil ?_
  refine c_false rfl ?_
  refine c_skip ?_
  refine tq_n ?_
  refine c_seqR ?_
  refine ops_cons rfl (ow_move rfl ?_)
  refine ops_cons rfl (ow_assign rfl ?_)
  refine ops_nil ?_
  refine c_ret ?_
  refine fin_ret1 rfl rfl ?_
  · skip
    refine ⟨congrArg (Value.int .i64) ?_, X⟩
    simp only [decide_eq_true_eq, decide_eq_false_iff_not] at *
    unfold bodyS
    (repeat' split) <;> omega

theorem l08Cells_c (a b : Int) (w : World) (hb : 0 ≤ b ∧ b ≤ 32) :
    Calls Tryz.prog 215 #[.int .i64 a, .int .i64 b] w (Ret fun v w' => v = .int .i64 (cellsS a b) ∧ Ext w w') := by
  have h1 := bodyS_in a hb
  have X := Ext.refl w
  refine calls_of (args := [.int .i64 a, .int .i64 b]) Tryz.func215 Tryz.ntmps215 rfl rfl ?_
  refine c_seqR ?_
  refine ops_cons rfl (ow_assign rfl ?_)
  refine ops_nil ?_
  refine c_seqR ?_
  refine ops_cons rfl (ow_move rfl ?_)
  refine ops_cons rfl (ow_move rfl ?_)
  refine ops_cons rfl (ow_call ent256 rfl (ret_mono (l06Body_c _ _ _ hb) ?_))
  rintro _ w2 ⟨rfl, x1⟩
  replace X := Ext.trans X x1; clear x1
  refine ops_cons rfl (ow_add rfl rfl (w64 (by omega)) ?_)
  refine ops_cons rfl (ow_mul rfl rfl (w64 (by omega)) ?_)
  refine ops_cons rfl (ow_add rfl rfl (w64 (by omega)) ?_)
  refine ops_cons rfl (ow_assign rfl ?_)
  refine ops_nil ?_
  refine c_ret ?_
  refine fin_ret1 rfl rfl ?_
  exact ⟨by rfl, X⟩

theorem cellsNeeded_c (a b : Int) (w : World) (hb : 0 ≤ b ∧ b ≤ 32) :
    Calls Tryz.prog 264 #[.int .i64 a, .int .i64 b] w (Ret fun v w' => v = .int .i64 (cellsS a b) ∧ Ext w w') := by
  have h1 := bodyS_in a hb
  have X := Ext.refl w
  refine calls_of (args := [.int .i64 a, .int .i64 b]) Tryz.func264 Tryz.ntmps264 rfl rfl ?_
  refine c_seqR ?_
  refine ops_cons rfl (ow_assign rfl ?_)
  refine ops_nil ?_
  refine c_seqR ?_
  refine ops_cons rfl (ow_move rfl ?_)
  refine ops_cons rfl (ow_move rfl ?_)
  refine ops_cons rfl (ow_call ent277 rfl (ret_mono (bodySize_c _ _ _ hb) ?_))
  rintro _ w2 ⟨rfl, x1⟩
  replace X := Ext.trans X x1; clear x1
  refine ops_cons rfl (ow_add rfl rfl (w64 (by omega)) ?_)
  refine ops_cons rfl (ow_mul rfl rfl (w64 (by omega)) ?_)
  refine ops_cons rfl (ow_add rfl rfl (w64 (by omega)) ?_)
  refine ops_cons rfl (ow_assign rfl ?_)
  refine ops_nil ?_
  refine c_ret ?_
  refine fin_ret1 rfl rfl ?_
  exact ⟨by rfl, X⟩

theorem sIsDesc_c (d : Desc) (w : World)  :
    Calls Tryz.prog 266 #[.agg d.cells.toArray] w (Ret fun v w' => v = .bool (descOk d) ∧ Ext w w') := by
  have X := Ext.refl w
  refine calls_of (args := [.agg d.cells.toArray]) Tryz.func266 Tryz.ntmps266 rfl rfl ?_
  refine c_seqR ?_
  refine ops_cons rfl (ow_box rfl rfl ?_)
  intro g4 w3 eg4 b1 x2 zg4
  have lg4 : w.heap.size ≤ g4 := Nat.le_trans X.size (Nat.le_of_eq eg4.symm)
  replace X := Ext.trans X x2; clear x2
  refine ops_cons rfl (ow_assign rfl ?_)
  refine ops_nil ?_
  refine c_seq ?_
  refine c_seqR ?_
  refine ops_cons rfl (ow_fieldAddrB off67_0 rfl rfl ?_)
  refine ops_cons rfl (ow_loadB b1 ti2 rfl rfl ?_)
  refine ops_cons rfl (ow_callB ent275 rfl (l05Node_c _ _) (fun w7 h5 x6 => ?_) (fun w7 h5 x6 => ?_))
  replace b1 := b1.ext x6
  replace X := Ext.trans X x6; clear x6
  refine ops_cons rfl (ow_not rfl ?_)
  refine ops_cons rfl (ow_move rfl ?_)
  refine ops_want rfl rfl rfl (ow_fieldAddrB off67_1 rfl rfl ?_)
  refine ops_want rfl rfl rfl (ow_loadB b1 ti2 rfl rfl ?_)
  refine ops_want rfl rfl rfl (ow_callB ent278 rfl (l06Kind_c _ _) (fun w10 h8 x9 => ?_) (fun w10 h8 x9 => ?_))
  replace b1 := b1.ext x9
  replace X := Ext.trans X x9; clear x9
  refine ops_want rfl rfl rfl (ow_not rfl ?_)
  refine ops_cons rfl (ow_pick rfl rfl ?_)
  refine ops_cons rfl (ow_move rfl ?_)
  refine ops_want rfl rfl rfl (ow_fieldAddrB off67_1 rfl rfl ?_)
  refine ops_want rfl rfl rfl (ow_loadB b1 ti2 rfl rfl ?_)
  refine ops_want rfl rfl rfl (ow_fieldAddrB off67_2 rfl rfl ?_)
  refine ops_want rfl rfl rfl (ow_loadB b1 ti2 rfl rfl ?_)
  refine ops_want rfl rfl rfl (ow_callB ent279 rfl (l06Size_c _ _ _) (fun w13 h11 x12 => ?_) (fun w13 h11 x12 => ?_))
  replace b1 := b1.ext x12
  replace X := Ext.trans X x12; clear x12
  refine ops_want rfl rfl rfl (ow_not rfl ?_)
  refine ops_cons rfl (ow_pick rfl rfl ?_)
  refine ops_cons rfl (ow_move rfl ?_)
  refine ops_want rfl rfl rfl (ow_fieldAddrB off67_1 rfl rfl ?_)
  refine ops_want rfl rfl rfl (ow_loadB b1 ti2 rfl rfl ?_)
  refine ops_want rfl rfl rfl (ow_eql2 rfl rfl (fun h14 => ?_) (fun h14 => ?_))
  refine ops_want rfl rfl rfl (ow_move rfl ?_)
  refine ops_want rfl rfl rfl (ow_fieldAddrB off67_4 rfl rfl ?_)
  refine ops_want rfl rfl rfl (ow_loadB b1 ti4 rfl rfl ?_)
  cases hb15 : d.change
  refine ops_want rfl rfl rfl (ow_pick rfl rfl ?_)
  refine ops_cons rfl (ow_pick rfl rfl ?_)
  refine ops_nil ?_
  refine c_false rfl ?_
  refine c_skip ?_
  refine tq_n ?_
  refine c_seqD [false, false, false, false, false, false, false, false, false, false] mixed (by kernel_rfl) ?_
  refine f_q rfl (fun wq sq => ow_fieldAddrB off67_3 rfl rfl ⟨rfl, Ext.refl _⟩) ?_
  refine f_q rfl (fun wq sq => ow_loadB (b1.ext sq) ti2 rfl rfl ⟨rfl, Ext.refl _⟩) ?_
  refine f_q rfl (fun wq sq => ow_fieldAddrB off67_1 rfl rfl ⟨rfl, Ext.refl _⟩) ?_
  refine f_q rfl (fun wq sq => ow_loadB (b1.ext sq) ti2 rfl rfl ⟨rfl, Ext.refl _⟩) ?_
  refine f_q rfl (fun wq sq => ow_fieldAddrB off67_2 rfl rfl ⟨rfl, Ext.refl _⟩) ?_
  refine f_q rfl (fun wq sq => ow_loadB (b1.ext sq) ti2 rfl rfl ⟨rfl, Ext.refl _⟩) ?_
  have hb : 0 ≤ d.size ∧ d.size ≤ 32 := dataOk_in ‹dataOk d.kind d.size = true›
  have h0 := cellsS_in d.kind hb
  refine f_q rfl (fun wq sq => ow_call ent215 rfl (l08Cells_c _ _ _ hb)) ?_
  refine f_q rfl (fun wq sq => ow_add rfl rfl (w64 (by omega)) ⟨rfl, Ext.refl _⟩) ?_
  refine f_q rfl (fun wq sq => ow_call ent111 rfl (l01In_c _ _ _ _)) ?_
  refine f_q rfl (fun wq sq => ow_assign rfl ⟨rfl, Ext.refl _⟩) ?_
  refine f_nil (fun w16 sq => ?_)
  have xq := sq
  replace b1 := b1.ext xq
  replace X := Ext.trans X xq; clear xq sq
  refine ops_nil ?_
  refine c_ret ?_
  refine fin_ret1 rfl rfl ?_
  · skip
    refine ⟨congrArg Value.bool ?_, X⟩
    first | (simp [descOk, *]; done) | (simp_all [descOk]; done)
  refine ops_want rfl rfl rfl (ow_pick rfl rfl ?_)
  refine ops_cons rfl (ow_pick rfl rfl ?_)
  refine ops_nil ?_
  refine c_true rfl ?_
  refine c_seqR ?_
  refine ops_cons rfl (ow_assign rfl ?_)
  refine ops_nil ?_
  refine c_ret ?_
  refine tq_r ?_
  refine fin_ret1 rfl rfl ?_
  · skip
    refine ⟨congrArg Value.bool ?_, X⟩
    first | (simp [descOk, *]; done) | (simp_all [descOk]; done)
  refine ops_want rfl rfl rfl (ow_move rfl ?_)
  refine ops_skip rfl rfl rfl rfl ?_
  refine ops_skip rfl rfl rfl rfl ?_
  refine ops_want rfl rfl rfl (ow_pick rfl rfl ?_)
  refine ops_cons rfl (ow_pick rfl rfl ?_)
  refine ops_nil ?_
  refine c_false rfl ?_
  refine c_skip ?_
  refine tq_n ?_
  refine c_seqD [false, false, false, false, false, false, false, false, false, false] mixed (by kernel_rfl) ?_
  refine f_q rfl (fun wq sq => ow_fieldAddrB off67_3 rfl rfl ⟨rfl, Ext.refl _⟩) ?_
  refine f_q rfl (fun wq sq => ow_loadB (b1.ext sq) ti2 rfl rfl ⟨rfl, Ext.refl _⟩) ?_
  refine f_q rfl (fun wq sq => ow_fieldAddrB off67_1 rfl rfl ⟨rfl, Ext.refl _⟩) ?_
  refine f_q rfl (fun wq sq => ow_loadB (b1.ext sq) ti2 rfl rfl ⟨rfl, Ext.refl _⟩) ?_
  refine f_q rfl (fun wq sq => ow_fieldAddrB off67_2 rfl rfl ⟨rfl, Ext.refl _⟩) ?_
  refine f_q rfl (fun wq sq => ow_loadB (b1.ext sq) ti2 rfl rfl ⟨rfl, Ext.refl _⟩) ?_
  have hb : 0 ≤ d.size ∧ d.size ≤ 32 := dataOk_in ‹dataOk d.kind d.size = true›
  have h0 := cellsS_in d.kind hb
  refine f_q rfl (fun wq sq => ow_call ent215 rfl (l08Cells_c _ _ _ hb)) ?_
  refine f_q rfl (fun wq sq => ow_add rfl rfl (w64 (by omega)) ⟨rfl, Ext.refl _⟩) ?_
  refine f_q rfl (fun wq sq => ow_call ent111 rfl (l01In_c _ _ _ _)) ?_
  refine f_q rfl (fun wq sq => ow_assign rfl ⟨rfl, Ext.refl _⟩) ?_
  refine f_nil (fun w17 sq => ?_)
  have xq := sq
  replace b1 := b1.ext xq
  replace X := Ext.trans X xq; clear xq sq
  refine ops_nil ?_
  refine c_ret ?_
  refine fin_ret1 rfl rfl ?_
  · skip
    refine ⟨congrArg Value.bool ?_, X⟩
    first | (simp [descOk, *]; done) | (simp_all [descOk]; done)
  replace b1 := b1.ext x12
  replace X := Ext.trans X x12; clear x12
  refine ops_want rfl rfl rfl (ow_not rfl ?_)
  refine ops_cons rfl (ow_pick rfl rfl ?_)
  refine ops_cons rfl (ow_move rfl ?_)
  refine ops_skip rfl rfl rfl rfl ?_
  refine ops_skip rfl rfl rfl rfl ?_
  refine ops_skip rfl rfl rfl rfl ?_
  refine ops_skip rfl rfl rfl rfl ?_
  refine ops_skip2 rfl rfl rfl ?_
  refine ops_skip2 rfl rfl rfl ?_
  refine ops_skip rfl rfl rfl rfl ?_
  refine ops_cons rfl (ow_pick rfl rfl ?_)
  refine ops_nil ?_
  refine c_true rfl ?_
  refine c_seqR ?_
  refine ops_cons rfl (ow_assign rfl ?_)
  refine ops_nil ?_
  refine c_ret ?_
  refine tq_r ?_
  refine fin_ret1 rfl rfl ?_
  · skip
    refine ⟨congrArg Value.bool ?_, X⟩
    first | (simp [descOk, *]; done) | (simp_all [descOk]; done)
  replace b1 := b1.ext x9
  replace X := Ext.trans X x9; clear x9
  refine ops_want rfl rfl rfl (ow_not rfl ?_)
  refine ops_cons rfl (ow_pick rfl rfl ?_)
  refine ops_cons rfl (ow_move rfl ?_)
  refine ops_skip rfl rfl rfl rfl ?_
  refine ops_skip rfl rfl rfl rfl ?_
  refine ops_skip rfl rfl rfl rfl ?_
  refine ops_skip rfl rfl rfl rfl ?_
  refine ops_skip rfl rfl rfl rfl ?_
  refine ops_skip rfl rfl rfl rfl ?_
  refine ops_cons rfl (ow_pick rfl rfl ?_)
  refine ops_cons rfl (ow_move rfl ?_)
  refine ops_skip rfl rfl rfl rfl ?_
  refine ops_skip rfl rfl rfl rfl ?_
  refine ops_skip rfl rfl rfl rfl ?_
  refine ops_skip rfl rfl rfl rfl ?_
  refine ops_skip2 rfl rfl rfl ?_
  refine ops_skip2 rfl rfl rfl ?_
  refine ops_skip rfl rfl rfl rfl ?_
  refine ops_cons rfl (ow_pick rfl rfl ?_)
  refine ops_nil ?_
  refine c_true rfl ?_
  refine c_seqR ?_
  refine ops_cons rfl (ow_assign rfl ?_)
  refine ops_nil ?_
  refine c_ret ?_
  refine tq_r ?_
  refine fin_ret1 rfl rfl ?_
  · skip
    refine ⟨congrArg Value.bool ?_, X⟩
    first | (simp [descOk, *]; done) | (simp_all [descOk]; done)
  replace b1 := b1.ext x6
  replace X := Ext.trans X x6; clear x6
  refine ops_cons rfl (ow_not rfl ?_)
  refine ops_cons rfl (ow_move rfl ?_)
  refine ops_skip rfl rfl rfl rfl ?_
  refine ops_skip rfl rfl rfl rfl ?_
  refine ops_skip rfl rfl rfl rfl ?_
  refine ops_skip rfl rfl rfl rfl ?_
  refine ops_cons rfl (ow_pick rfl rfl ?_)
  refine ops_cons rfl (ow_move rfl ?_)
  refine ops_skip rfl rfl rfl rfl ?_
  refine ops_skip rfl rfl rfl rfl ?_
  refine ops_skip rfl rfl rfl rfl ?_
  refine ops_skip rfl rfl rfl rfl ?_
  refine ops_skip rfl rfl rfl rfl ?_
  refine ops_skip rfl rfl rfl rfl ?_
  refine ops_cons rfl (ow_pick rfl rfl ?_)
  refine ops_cons rfl (ow_move rfl ?_)
  refine ops_skip rfl rfl rfl rfl ?_
  refine ops_skip rfl rfl rfl rfl ?_
  refine ops_skip rfl rfl rfl rfl ?_
  refine ops_skip rfl rfl rfl rfl ?_
  refine ops_skip2 rfl rfl rfl ?_
  refine ops_skip2 rfl rfl rfl ?_
  refine ops_skip rfl rfl rfl rfl ?_
  refine ops_cons rfl (ow_pick rfl rfl ?_)
  refine ops_nil ?_
  refine c_true rfl ?_
  refine c_seqR ?_
  refine ops_cons rfl (ow_assign rfl ?_)
  refine ops_nil ?_
  refine c_ret ?_
  refine tq_r ?_
  refine fin_ret1 rfl rfl ?_
  · skip
    refine ⟨congrArg Value.bool ?_, X⟩
    first | (simp [descOk, *]; done) | (simp_all [descOk]; done)

theorem iIsDesc_c (d : Desc) (w : World)  :
    Calls Tryz.prog 237 #[.agg d.cells.toArray] w (Ret fun v w' => v = .bool (descOk d) ∧ Ext w w') := by
  have X := Ext.refl w
  refine calls_of (args := [.agg d.cells.toArray]) Tryz.func237 Tryz.ntmps237 rfl rfl ?_
  refine c_seqR ?_
  refine ops_cons rfl (ow_box rfl rfl ?_)
  intro g4 w3 eg4 b1 x2 zg4
  have lg4 : w.heap.size ≤ g4 := Nat.le_trans X.size (Nat.le_of_eq eg4.symm)
  replace X := Ext.trans X x2; clear x2
  refine ops_cons rfl (ow_assign rfl ?_)
  refine ops_nil ?_
  refine c_seq ?_
  refine c_seqR ?_
  refine ops_cons rfl (ow_fieldAddrB off67_0 rfl rfl ?_)
  refine ops_cons rfl (ow_loadB b1 ti2 rfl rfl ?_)
  refine ops_cons rfl (ow_callB ent116 rfl (isNode_c _ _) (fun w7 h5 x6 => ?_) (fun w7 h5 x6 => ?_))
  replace b1 := b1.ext x6
  replace X := Ext.trans X x6; clear x6
  refine ops_cons rfl (ow_not rfl ?_)
  refine ops_cons rfl (ow_move rfl ?_)
  refine ops_want rfl rfl rfl (ow_fieldAddrB off67_1 rfl rfl ?_)
  refine ops_want rfl rfl rfl (ow_loadB b1 ti2 rfl rfl ?_)
  refine ops_want rfl rfl rfl (ow_callB ent262 rfl (isKind_c _ _) (fun w10 h8 x9 => ?_) (fun w10 h8 x9 => ?_))
  replace b1 := b1.ext x9
  replace X := Ext.trans X x9; clear x9
  refine ops_want rfl rfl rfl (ow_not rfl ?_)
  refine ops_cons rfl (ow_pick rfl rfl ?_)
  refine ops_cons rfl (ow_move rfl ?_)
  refine ops_want rfl rfl rfl (ow_fieldAddrB off67_1 rfl rfl ?_)
  refine ops_want rfl rfl rfl (ow_loadB b1 ti2 rfl rfl ?_)
  refine ops_want rfl rfl rfl (ow_fieldAddrB off67_2 rfl rfl ?_)
  refine ops_want rfl rfl rfl (ow_loadB b1 ti2 rfl rfl ?_)
  refine ops_want rfl rfl rfl (ow_callB ent263 rfl (isDataSize_c _ _ _) (fun w13 h11 x12 => ?_) (fun w13 h11 x12 => ?_))
  replace b1 := b1.ext x12
  replace X := Ext.trans X x12; clear x12
  refine ops_want rfl rfl rfl (ow_not rfl ?_)
  refine ops_cons rfl (ow_pick rfl rfl ?_)
  refine ops_cons rfl (ow_move rfl ?_)
  refine ops_want rfl rfl rfl (ow_fieldAddrB off67_4 rfl rfl ?_)
  refine ops_want rfl rfl rfl (ow_loadB b1 ti4 rfl rfl ?_)
  cases hb14 : d.change
  refine ops_want rfl rfl rfl (ow_move rfl ?_)
  refine ops_skip rfl rfl rfl rfl ?_
  refine ops_skip rfl rfl rfl rfl ?_
  refine ops_skip rfl rfl rfl rfl ?_
  refine ops_want rfl rfl rfl (ow_pick rfl rfl ?_)
  refine ops_cons rfl (ow_pick rfl rfl ?_)
  refine ops_nil ?_
  refine c_false rfl ?_
  refine c_skip ?_
  refine tq_n ?_
  refine c_seqD [false, false, false, false, false, false, false, false, false, false] mixed (by kernel_rfl) ?_
  refine f_q rfl (fun wq sq => ow_fieldAddrB off67_3 rfl rfl ⟨rfl, Ext.refl _⟩) ?_
  refine f_q rfl (fun wq sq => ow_loadB (b1.ext sq) ti2 rfl rfl ⟨rfl, Ext.refl _⟩) ?_
  refine f_q rfl (fun wq sq => ow_fieldAddrB off67_1 rfl rfl ⟨rfl, Ext.refl _⟩) ?_
  refine f_q rfl (fun wq sq => ow_loadB (b1.ext sq) ti2 rfl rfl ⟨rfl, Ext.refl _⟩) ?_
  refine f_q rfl (fun wq sq => ow_fieldAddrB off67_2 rfl rfl ⟨rfl, Ext.refl _⟩) ?_
  refine f_q rfl (fun wq sq => ow_loadB (b1.ext sq) ti2 rfl rfl ⟨rfl, Ext.refl _⟩) ?_
  have hb : 0 ≤ d.size ∧ d.size ≤ 32 := dataOk_in ‹dataOk d.kind d.size = true›
  have h0 := cellsS_in d.kind hb
  refine f_q rfl (fun wq sq => ow_call ent264 rfl (cellsNeeded_c _ _ _ hb)) ?_
  refine f_q rfl (fun wq sq => ow_add rfl rfl (w64 (by omega)) ⟨rfl, Ext.refl _⟩) ?_
  refine f_q rfl (fun wq sq => ow_call ent109 rfl (within_c _ _ _ _)) ?_
  refine f_q rfl (fun wq sq => ow_assign rfl ⟨rfl, Ext.refl _⟩) ?_
  refine f_nil (fun w15 sq => ?_)
  have xq := sq
  replace b1 := b1.ext xq
  replace X := Ext.trans X xq; clear xq sq
  refine ops_nil ?_
  refine c_ret ?_
  refine fin_ret1 rfl rfl ?_
  · skip
    refine ⟨congrArg Value.bool ?_, X⟩
    first | (simp [descOk, *]; done) | (simp_all [descOk]; done)
  refine ops_want rfl rfl rfl (ow_move rfl ?_)
  refine ops_want rfl rfl rfl (ow_fieldAddrB off67_1 rfl rfl ?_)
  refine ops_want rfl rfl rfl (ow_loadB b1 ti2 rfl rfl ?_)
  refine ops_want rfl rfl rfl (ow_eql2 rfl rfl (fun h16 => ?_) (fun h16 => ?_))
  refine ops_want rfl rfl rfl (ow_pick rfl rfl ?_)
  refine ops_cons rfl (ow_pick rfl rfl ?_)
  refine ops_nil ?_
  refine c_true rfl ?_
  refine c_seqR ?_
  refine ops_cons rfl (ow_assign rfl ?_)
  refine ops_nil ?_
  refine c_ret ?_
  refine tq_r ?_
  refine fin_ret1 rfl rfl ?_
  · skip
    refine ⟨congrArg Value.bool ?_, X⟩
    first | (simp [descOk, *]; done) | (simp_all [descOk]; done)
  refine ops_want rfl rfl rfl (ow_pick rfl rfl ?_)
  refine ops_cons rfl (ow_pick rfl rfl ?_)
  refine ops_nil ?_
  refine c_false rfl ?_
  refine c_skip ?_
  refine tq_n ?_
  refine c_seqD [false, false, false, false, false, false, false, false, false, false] mixed (by kernel_rfl) ?_
  refine f_q rfl (fun wq sq => ow_fieldAddrB off67_3 rfl rfl ⟨rfl, Ext.refl _⟩) ?_
  refine f_q rfl (fun wq sq => ow_loadB (b1.ext sq) ti2 rfl rfl ⟨rfl, Ext.refl _⟩) ?_
  refine f_q rfl (fun wq sq => ow_fieldAddrB off67_1 rfl rfl ⟨rfl, Ext.refl _⟩) ?_
  refine f_q rfl (fun wq sq => ow_loadB (b1.ext sq) ti2 rfl rfl ⟨rfl, Ext.refl _⟩) ?_
  refine f_q rfl (fun wq sq => ow_fieldAddrB off67_2 rfl rfl ⟨rfl, Ext.refl _⟩) ?_
  refine f_q rfl (fun wq sq => ow_loadB (b1.ext sq) ti2 rfl rfl ⟨rfl, Ext.refl _⟩) ?_
  have hb : 0 ≤ d.size ∧ d.size ≤ 32 := dataOk_in ‹dataOk d.kind d.size = true›
  have h0 := cellsS_in d.kind hb
  refine f_q rfl (fun wq sq => ow_call ent264 rfl (cellsNeeded_c _ _ _ hb)) ?_
  refine f_q rfl (fun wq sq => ow_add rfl rfl (w64 (by omega)) ⟨rfl, Ext.refl _⟩) ?_
  refine f_q rfl (fun wq sq => ow_call ent109 rfl (within_c _ _ _ _)) ?_
  refine f_q rfl (fun wq sq => ow_assign rfl ⟨rfl, Ext.refl _⟩) ?_
  refine f_nil (fun w17 sq => ?_)
  have xq := sq
  replace b1 := b1.ext xq
  replace X := Ext.trans X xq; clear xq sq
  refine ops_nil ?_
  refine c_ret ?_
  refine fin_ret1 rfl rfl ?_
  · skip
    refine ⟨congrArg Value.bool ?_, X⟩
    first | (simp [descOk, *]; done) | (simp_all [descOk]; done)
  replace b1 := b1.ext x12
  replace X := Ext.trans X x12; clear x12
  refine ops_want rfl rfl rfl (ow_not rfl ?_)
  refine ops_cons rfl (ow_pick rfl rfl ?_)
  refine ops_cons rfl (ow_move rfl ?_)
  refine ops_skip rfl rfl rfl rfl ?_
  refine ops_skip rfl rfl rfl rfl ?_
  refine ops_skip rfl rfl rfl rfl ?_
  refine ops_skip2 rfl rfl rfl ?_
  refine ops_skip2 rfl rfl rfl ?_
  refine ops_skip2 rfl rfl rfl ?_
  refine ops_skip rfl rfl rfl rfl ?_
  refine ops_cons rfl (ow_pick rfl rfl ?_)
  refine ops_nil ?_
  refine c_true rfl ?_
  refine c_seqR ?_
  refine ops_cons rfl (ow_assign rfl ?_)
  refine ops_nil ?_
  refine c_ret ?_
  refine tq_r ?_
  refine fin_ret1 rfl rfl ?_
  · skip
    refine ⟨congrArg Value.bool ?_, X⟩
    first | (simp [descOk, *]; done) | (simp_all [descOk]; done)
  replace b1 := b1.ext x9
  replace X := Ext.trans X x9; clear x9
  refine ops_want rfl rfl rfl (ow_not rfl ?_)
  refine ops_cons rfl (ow_pick rfl rfl ?_)
  refine ops_cons rfl (ow_move rfl ?_)
  refine ops_skip rfl rfl rfl rfl ?_
  refine ops_skip rfl rfl rfl rfl ?_
  refine ops_skip rfl rfl rfl rfl ?_
  refine ops_skip rfl rfl rfl rfl ?_
  refine ops_skip rfl rfl rfl rfl ?_
  refine ops_skip rfl rfl rfl rfl ?_
  refine ops_cons rfl (ow_pick rfl rfl ?_)
  refine ops_cons rfl (ow_move rfl ?_)
  refine ops_skip rfl rfl rfl rfl ?_
  refine ops_skip rfl rfl rfl rfl ?_
  refine ops_skip rfl rfl rfl rfl ?_
  refine ops_skip2 rfl rfl rfl ?_
  refine ops_skip2 rfl rfl rfl ?_
  refine ops_skip2 rfl rfl rfl ?_
  refine ops_skip rfl rfl rfl rfl ?_
  refine ops_cons rfl (ow_pick rfl rfl ?_)
  refine ops_nil ?_
  refine c_true rfl ?_
  refine c_seqR ?_
  refine ops_cons rfl (ow_assign rfl ?_)
  refine ops_nil ?_
  refine c_ret ?_
  refine tq_r ?_
  refine fin_ret1 rfl rfl ?_
  · skip
    refine ⟨congrArg Value.bool ?_, X⟩
    first | (simp [descOk, *]; done) | (simp_all [descOk]; done)
  replace b1 := b1.ext x6
  replace X := Ext.trans X x6; clear x6
  refine ops_cons rfl (ow_not rfl ?_)
  refine ops_cons rfl (ow_move rfl ?_)
  refine ops_skip rfl rfl rfl rfl ?_
  refine ops_skip rfl rfl rfl rfl ?_
  refine ops_skip rfl rfl rfl rfl ?_
  refine ops_skip rfl rfl rfl rfl ?_
  refine ops_cons rfl (ow_pick rfl rfl ?_)
  refine ops_cons rfl (ow_move rfl ?_)
  refine ops_skip rfl rfl rfl rfl ?_
  refine ops_skip rfl rfl rfl rfl ?_
  refine ops_skip rfl rfl rfl rfl ?_
  refine ops_skip rfl rfl rfl rfl ?_
  refine ops_skip rfl rfl rfl rfl ?_
  refine ops_skip rfl rfl rfl rfl ?_
  refine ops_cons rfl (ow_pick rfl rfl ?_)
  refine ops_cons rfl (ow_move rfl ?_)
  refine ops_skip rfl rfl rfl rfl ?_
  refine ops_skip rfl rfl rfl rfl ?_
  refine ops_skip rfl rfl rfl rfl ?_
  refine ops_skip2 rfl rfl rfl ?_
  refine ops_skip2 rfl rfl rfl ?_
  refine ops_skip2 rfl rfl rfl ?_
  refine ops_skip rfl rfl rfl rfl ?_
  refine ops_cons rfl (ow_pick rfl rfl ?_)
  refine ops_nil ?_
  refine c_true rfl ?_
  refine c_seqR ?_
  refine ops_cons rfl (ow_assign rfl ?_)
  refine ops_nil ?_
  refine c_ret ?_
  refine tq_r ?_
  refine fin_ret1 rfl rfl ?_
  · skip
    refine ⟨congrArg Value.bool ?_, X⟩
    first | (simp [descOk, *]; done) | (simp_all [descOk]; done)
end Go.Proofs.YtdoibplhbdkapaaGreatDoor
