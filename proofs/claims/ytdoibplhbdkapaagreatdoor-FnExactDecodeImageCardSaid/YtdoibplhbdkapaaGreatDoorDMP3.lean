/- Texts of the seat that a law needs, put together. No condition. -/
import Derived.Test.YtdoibplhbdkapaaGreatDoorDMP2
import Derived.Test.YtdoibplhbdkapaaGreatDoorRows
import Derived.Laws.ResultCell
import Derived.Laws.BytesArg
namespace Go.Proofs.YtdoibplhbdkapaaGreatDoor
theorem ti2 : tiO Tryz.prog 2 = some (false, 1, 8, [.int .i64 0]) := by kernel_rfl
theorem ti3 : tiO Tryz.prog 3 = some (false, 1, 8, [.int .i64 0]) := by kernel_rfl
theorem ti4 : tiO Tryz.prog 4 = some (false, 1, 1, [.bool false]) := by kernel_rfl
theorem ti5 : tiO Tryz.prog 5 = some (false, 1, 1, [.int .u8 0]) := by kernel_rfl
theorem ti9 : tiO Tryz.prog 9 = some (false, 1, 16, [.string ByteArray.empty]) := by kernel_rfl
theorem el22 : elO Tryz.prog 22 = some (5, 1) := by kernel_rfl
theorem ti24 : tiO Tryz.prog 24 = some (false, 1, 24, [.slice none 0 0]) := by kernel_rfl
theorem el24 : elO Tryz.prog 24 = some (59, 4) := by kernel_rfl
theorem ti25 : tiO Tryz.prog 25 = some (false, 1, 24, [.slice none 0 0]) := by kernel_rfl
theorem el25 : elO Tryz.prog 25 = some (92, 3) := by kernel_rfl
theorem ti26 : tiO Tryz.prog 26 = some (false, 1, 24, [.slice none 0 0]) := by kernel_rfl
theorem el26 : elO Tryz.prog 26 = some (89, 8) := by kernel_rfl
theorem ti28 : tiO Tryz.prog 28 = some (true, 4, 80, [.int .i64 0, .slice none 0 0, .slice none 0 0, .slice none 0 0]) := by kernel_rfl
theorem pl28 : plO Tryz.prog 28 = some [(0, 1), (1, 1), (2, 1), (3, 1)] := by kernel_rfl
theorem off28_0 : offO Tryz.prog 28 0 = some 0 := by kernel_rfl
theorem off28_1 : offO Tryz.prog 28 1 = some 1 := by kernel_rfl
theorem off28_2 : offO Tryz.prog 28 2 = some 2 := by kernel_rfl
theorem off28_3 : offO Tryz.prog 28 3 = some 3 := by kernel_rfl
theorem ti30 : tiO Tryz.prog 30 = some (false, 1, 24, [.slice none 0 0]) := by kernel_rfl
theorem el30 : elO Tryz.prog 30 = some (2, 1) := by kernel_rfl
theorem ti59 : tiO Tryz.prog 59 = some (true, 4, 40, [.int .i64 0, .string ByteArray.empty, .int .i64 0, .bool false]) := by kernel_rfl
theorem pl59 : plO Tryz.prog 59 = some [(0, 1), (1, 1), (2, 1), (3, 1)] := by kernel_rfl
theorem off59_0 : offO Tryz.prog 59 0 = some 0 := by kernel_rfl
theorem off59_1 : offO Tryz.prog 59 1 = some 1 := by kernel_rfl
theorem off59_2 : offO Tryz.prog 59 2 = some 2 := by kernel_rfl
theorem off59_3 : offO Tryz.prog 59 3 = some 3 := by kernel_rfl
theorem ti67 : tiO Tryz.prog 67 = some (true, 5, 40, [.int .i64 0, .int .i64 0, .int .i64 0, .int .i64 0, .bool false]) := by kernel_rfl
theorem pl67 : plO Tryz.prog 67 = some [(0, 1), (1, 1), (2, 1), (3, 1), (4, 1)] := by kernel_rfl
theorem off67_0 : offO Tryz.prog 67 0 = some 0 := by kernel_rfl
theorem off67_1 : offO Tryz.prog 67 1 = some 1 := by kernel_rfl
theorem off67_2 : offO Tryz.prog 67 2 = some 2 := by kernel_rfl
theorem off67_3 : offO Tryz.prog 67 3 = some 3 := by kernel_rfl
theorem off67_4 : offO Tryz.prog 67 4 = some 4 := by kernel_rfl
theorem ti89 : tiO Tryz.prog 89 = some (true, 8, 64, [.int .i64 0, .int .i64 0, .int .i64 0, .int .i64 0, .int .i64 0, .int .i64 0, .int .i64 0, .bool false]) := by kernel_rfl
theorem pl89 : plO Tryz.prog 89 = some [(0, 1), (1, 1), (2, 1), (3, 5)] := by kernel_rfl
theorem off89_0 : offO Tryz.prog 89 0 = some 0 := by kernel_rfl
theorem off89_1 : offO Tryz.prog 89 1 = some 1 := by kernel_rfl
theorem off89_2 : offO Tryz.prog 89 2 = some 2 := by kernel_rfl
theorem off89_3 : offO Tryz.prog 89 3 = some 3 := by kernel_rfl
theorem ti92 : tiO Tryz.prog 92 = some (true, 3, 40, [.int .i64 0, .int .i64 0, .slice none 0 0]) := by kernel_rfl
theorem pl92 : plO Tryz.prog 92 = some [(0, 1), (1, 1), (2, 1)] := by kernel_rfl
theorem off92_0 : offO Tryz.prog 92 0 = some 0 := by kernel_rfl
theorem off92_1 : offO Tryz.prog 92 1 = some 1 := by kernel_rfl
theorem off92_2 : offO Tryz.prog 92 2 = some 2 := by kernel_rfl
theorem ti107 : tiO Tryz.prog 107 = some (false, 1, 24, [.slice none 0 0]) := by kernel_rfl
theorem el107 : elO Tryz.prog 107 = some (30, 1) := by kernel_rfl
theorem ti166 : tiO Tryz.prog 166 = some (true, 3, 40, [.slice none 0 0, .int .i64 0, .bool false]) := by kernel_rfl
theorem pl166 : plO Tryz.prog 166 = some [(0, 1), (1, 1), (2, 1)] := by kernel_rfl
theorem off166_0 : offO Tryz.prog 166 0 = some 0 := by kernel_rfl
theorem off166_1 : offO Tryz.prog 166 1 = some 1 := by kernel_rfl
theorem off166_2 : offO Tryz.prog 166 2 = some 2 := by kernel_rfl
theorem ti218 : tiO Tryz.prog 218 = some (true, 2, 16, [.int .i64 0, .int .i64 0]) := by kernel_rfl
theorem pl218 : plO Tryz.prog 218 = some [(0, 1), (1, 1)] := by kernel_rfl
theorem off218_0 : offO Tryz.prog 218 0 = some 0 := by kernel_rfl
theorem off218_1 : offO Tryz.prog 218 1 = some 1 := by kernel_rfl
theorem ent18 : Enters Tryz.prog 18 := enters_of Tryz.func18 (by kernel_rfl) (by kernel_rfl)
theorem ent20 : Enters Tryz.prog 20 := enters_of Tryz.func20 (by kernel_rfl) (by kernel_rfl)
theorem ent22 : Enters Tryz.prog 22 := enters_of Tryz.func22 (by kernel_rfl) (by kernel_rfl)
theorem ent23 : Enters Tryz.prog 23 := enters_of Tryz.func23 (by kernel_rfl) (by kernel_rfl)
theorem ent24 : Enters Tryz.prog 24 := enters_of Tryz.func24 (by kernel_rfl) (by kernel_rfl)
theorem ent25 : Enters Tryz.prog 25 := enters_of Tryz.func25 (by kernel_rfl) (by kernel_rfl)
theorem ent26 : Enters Tryz.prog 26 := enters_of Tryz.func26 (by kernel_rfl) (by kernel_rfl)
theorem ent27 : Enters Tryz.prog 27 := enters_of Tryz.func27 (by kernel_rfl) (by kernel_rfl)
theorem ent28 : Enters Tryz.prog 28 := enters_of Tryz.func28 (by kernel_rfl) (by kernel_rfl)
theorem ent33 : Enters Tryz.prog 33 := enters_of Tryz.func33 (by kernel_rfl) (by kernel_rfl)
theorem ent63 : Enters Tryz.prog 63 := enters_of Tryz.func63 (by kernel_rfl) (by kernel_rfl)
theorem ent69 : Enters Tryz.prog 69 := enters_of Tryz.func69 (by kernel_rfl) (by kernel_rfl)
theorem ent70 : Enters Tryz.prog 70 := enters_of Tryz.func70 (by kernel_rfl) (by kernel_rfl)
theorem ent72 : Enters Tryz.prog 72 := enters_of Tryz.func72 (by kernel_rfl) (by kernel_rfl)
theorem ent73 : Enters Tryz.prog 73 := enters_of Tryz.func73 (by kernel_rfl) (by kernel_rfl)
theorem ent74 : Enters Tryz.prog 74 := enters_of Tryz.func74 (by kernel_rfl) (by kernel_rfl)
theorem ent75 : Enters Tryz.prog 75 := enters_of Tryz.func75 (by kernel_rfl) (by kernel_rfl)
theorem ent76 : Enters Tryz.prog 76 := enters_of Tryz.func76 (by kernel_rfl) (by kernel_rfl)
theorem ent77 : Enters Tryz.prog 77 := enters_of Tryz.func77 (by kernel_rfl) (by kernel_rfl)
theorem ent78 : Enters Tryz.prog 78 := enters_of Tryz.func78 (by kernel_rfl) (by kernel_rfl)
theorem ent82 : Enters Tryz.prog 82 := enters_of Tryz.func82 (by kernel_rfl) (by kernel_rfl)
theorem ent83 : Enters Tryz.prog 83 := enters_of Tryz.func83 (by kernel_rfl) (by kernel_rfl)
theorem ent84 : Enters Tryz.prog 84 := enters_of Tryz.func84 (by kernel_rfl) (by kernel_rfl)
theorem ent85 : Enters Tryz.prog 85 := enters_of Tryz.func85 (by kernel_rfl) (by kernel_rfl)
theorem ent86 : Enters Tryz.prog 86 := enters_of Tryz.func86 (by kernel_rfl) (by kernel_rfl)
theorem ent87 : Enters Tryz.prog 87 := enters_of Tryz.func87 (by kernel_rfl) (by kernel_rfl)
theorem ent88 : Enters Tryz.prog 88 := enters_of Tryz.func88 (by kernel_rfl) (by kernel_rfl)
theorem ent89 : Enters Tryz.prog 89 := enters_of Tryz.func89 (by kernel_rfl) (by kernel_rfl)
theorem ent90 : Enters Tryz.prog 90 := enters_of Tryz.func90 (by kernel_rfl) (by kernel_rfl)
theorem ent91 : Enters Tryz.prog 91 := enters_of Tryz.func91 (by kernel_rfl) (by kernel_rfl)
theorem ent92 : Enters Tryz.prog 92 := enters_of Tryz.func92 (by kernel_rfl) (by kernel_rfl)
theorem ent93 : Enters Tryz.prog 93 := enters_of Tryz.func93 (by kernel_rfl) (by kernel_rfl)
theorem ent94 : Enters Tryz.prog 94 := enters_of Tryz.func94 (by kernel_rfl) (by kernel_rfl)
theorem ent95 : Enters Tryz.prog 95 := enters_of Tryz.func95 (by kernel_rfl) (by kernel_rfl)
theorem ent96 : Enters Tryz.prog 96 := enters_of Tryz.func96 (by kernel_rfl) (by kernel_rfl)
theorem ent98 : Enters Tryz.prog 98 := enters_of Tryz.func98 (by kernel_rfl) (by kernel_rfl)
theorem ent99 : Enters Tryz.prog 99 := enters_of Tryz.func99 (by kernel_rfl) (by kernel_rfl)
theorem ent100 : Enters Tryz.prog 100 := enters_of Tryz.func100 (by kernel_rfl) (by kernel_rfl)
theorem ent101 : Enters Tryz.prog 101 := enters_of Tryz.func101 (by kernel_rfl) (by kernel_rfl)
theorem ent105 : Enters Tryz.prog 105 := enters_of Tryz.func105 (by kernel_rfl) (by kernel_rfl)
theorem ent106 : Enters Tryz.prog 106 := enters_of Tryz.func106 (by kernel_rfl) (by kernel_rfl)
theorem ent107 : Enters Tryz.prog 107 := enters_of Tryz.func107 (by kernel_rfl) (by kernel_rfl)
theorem ent109 : Enters Tryz.prog 109 := enters_of Tryz.func109 (by kernel_rfl) (by kernel_rfl)
theorem ent111 : Enters Tryz.prog 111 := enters_of Tryz.func111 (by kernel_rfl) (by kernel_rfl)
theorem ent113 : Enters Tryz.prog 113 := enters_of Tryz.func113 (by kernel_rfl) (by kernel_rfl)
theorem ent114 : Enters Tryz.prog 114 := enters_of Tryz.func114 (by kernel_rfl) (by kernel_rfl)
theorem ent116 : Enters Tryz.prog 116 := enters_of Tryz.func116 (by kernel_rfl) (by kernel_rfl)
theorem ent117 : Enters Tryz.prog 117 := enters_of Tryz.func117 (by kernel_rfl) (by kernel_rfl)
theorem ent120 : Enters Tryz.prog 120 := enters_of Tryz.func120 (by kernel_rfl) (by kernel_rfl)
theorem ent147 : Enters Tryz.prog 147 := enters_of Tryz.func147 (by kernel_rfl) (by kernel_rfl)
theorem ent148 : Enters Tryz.prog 148 := enters_of Tryz.func148 (by kernel_rfl) (by kernel_rfl)
theorem ent151 : Enters Tryz.prog 151 := enters_of Tryz.func151 (by kernel_rfl) (by kernel_rfl)
theorem ent152 : Enters Tryz.prog 152 := enters_of Tryz.func152 (by kernel_rfl) (by kernel_rfl)
theorem ent153 : Enters Tryz.prog 153 := enters_of Tryz.func153 (by kernel_rfl) (by kernel_rfl)
theorem ent154 : Enters Tryz.prog 154 := enters_of Tryz.func154 (by kernel_rfl) (by kernel_rfl)
theorem ent155 : Enters Tryz.prog 155 := enters_of Tryz.func155 (by kernel_rfl) (by kernel_rfl)
theorem ent158 : Enters Tryz.prog 158 := enters_of Tryz.func158 (by kernel_rfl) (by kernel_rfl)
theorem ent159 : Enters Tryz.prog 159 := enters_of Tryz.func159 (by kernel_rfl) (by kernel_rfl)
theorem ent160 : Enters Tryz.prog 160 := enters_of Tryz.func160 (by kernel_rfl) (by kernel_rfl)
theorem ent161 : Enters Tryz.prog 161 := enters_of Tryz.func161 (by kernel_rfl) (by kernel_rfl)
theorem ent162 : Enters Tryz.prog 162 := enters_of Tryz.func162 (by kernel_rfl) (by kernel_rfl)
theorem ent163 : Enters Tryz.prog 163 := enters_of Tryz.func163 (by kernel_rfl) (by kernel_rfl)
theorem ent164 : Enters Tryz.prog 164 := enters_of Tryz.func164 (by kernel_rfl) (by kernel_rfl)
theorem ent165 : Enters Tryz.prog 165 := enters_of Tryz.func165 (by kernel_rfl) (by kernel_rfl)
theorem ent166 : Enters Tryz.prog 166 := enters_of Tryz.func166 (by kernel_rfl) (by kernel_rfl)
theorem ent167 : Enters Tryz.prog 167 := enters_of Tryz.func167 (by kernel_rfl) (by kernel_rfl)
theorem ent168 : Enters Tryz.prog 168 := enters_of Tryz.func168 (by kernel_rfl) (by kernel_rfl)
theorem ent169 : Enters Tryz.prog 169 := enters_of Tryz.func169 (by kernel_rfl) (by kernel_rfl)
theorem ent170 : Enters Tryz.prog 170 := enters_of Tryz.func170 (by kernel_rfl) (by kernel_rfl)
theorem ent171 : Enters Tryz.prog 171 := enters_of Tryz.func171 (by kernel_rfl) (by kernel_rfl)
theorem ent172 : Enters Tryz.prog 172 := enters_of Tryz.func172 (by kernel_rfl) (by kernel_rfl)
theorem ent173 : Enters Tryz.prog 173 := enters_of Tryz.func173 (by kernel_rfl) (by kernel_rfl)
theorem ent174 : Enters Tryz.prog 174 := enters_of Tryz.func174 (by kernel_rfl) (by kernel_rfl)
theorem ent175 : Enters Tryz.prog 175 := enters_of Tryz.func175 (by kernel_rfl) (by kernel_rfl)
theorem ent176 : Enters Tryz.prog 176 := enters_of Tryz.func176 (by kernel_rfl) (by kernel_rfl)
theorem ent178 : Enters Tryz.prog 178 := enters_of Tryz.func178 (by kernel_rfl) (by kernel_rfl)
theorem ent181 : Enters Tryz.prog 181 := enters_of Tryz.func181 (by kernel_rfl) (by kernel_rfl)
theorem ent183 : Enters Tryz.prog 183 := enters_of Tryz.func183 (by kernel_rfl) (by kernel_rfl)
theorem ent184 : Enters Tryz.prog 184 := enters_of Tryz.func184 (by kernel_rfl) (by kernel_rfl)
theorem ent185 : Enters Tryz.prog 185 := enters_of Tryz.func185 (by kernel_rfl) (by kernel_rfl)
theorem ent186 : Enters Tryz.prog 186 := enters_of Tryz.func186 (by kernel_rfl) (by kernel_rfl)
theorem ent187 : Enters Tryz.prog 187 := enters_of Tryz.func187 (by kernel_rfl) (by kernel_rfl)
theorem ent188 : Enters Tryz.prog 188 := enters_of Tryz.func188 (by kernel_rfl) (by kernel_rfl)
theorem ent189 : Enters Tryz.prog 189 := enters_of Tryz.func189 (by kernel_rfl) (by kernel_rfl)
theorem ent190 : Enters Tryz.prog 190 := enters_of Tryz.func190 (by kernel_rfl) (by kernel_rfl)
theorem ent191 : Enters Tryz.prog 191 := enters_of Tryz.func191 (by kernel_rfl) (by kernel_rfl)
theorem ent196 : Enters Tryz.prog 196 := enters_of Tryz.func196 (by kernel_rfl) (by kernel_rfl)
theorem ent197 : Enters Tryz.prog 197 := enters_of Tryz.func197 (by kernel_rfl) (by kernel_rfl)
theorem ent198 : Enters Tryz.prog 198 := enters_of Tryz.func198 (by kernel_rfl) (by kernel_rfl)
theorem ent199 : Enters Tryz.prog 199 := enters_of Tryz.func199 (by kernel_rfl) (by kernel_rfl)
theorem ent205 : Enters Tryz.prog 205 := enters_of Tryz.func205 (by kernel_rfl) (by kernel_rfl)
theorem ent215 : Enters Tryz.prog 215 := enters_of Tryz.func215 (by kernel_rfl) (by kernel_rfl)
theorem ent217 : Enters Tryz.prog 217 := enters_of Tryz.func217 (by kernel_rfl) (by kernel_rfl)
theorem ent219 : Enters Tryz.prog 219 := enters_of Tryz.func219 (by kernel_rfl) (by kernel_rfl)
theorem ent220 : Enters Tryz.prog 220 := enters_of Tryz.func220 (by kernel_rfl) (by kernel_rfl)
theorem ent221 : Enters Tryz.prog 221 := enters_of Tryz.func221 (by kernel_rfl) (by kernel_rfl)
theorem ent222 : Enters Tryz.prog 222 := enters_of Tryz.func222 (by kernel_rfl) (by kernel_rfl)
theorem ent223 : Enters Tryz.prog 223 := enters_of Tryz.func223 (by kernel_rfl) (by kernel_rfl)
theorem ent224 : Enters Tryz.prog 224 := enters_of Tryz.func224 (by kernel_rfl) (by kernel_rfl)
theorem ent225 : Enters Tryz.prog 225 := enters_of Tryz.func225 (by kernel_rfl) (by kernel_rfl)
theorem ent226 : Enters Tryz.prog 226 := enters_of Tryz.func226 (by kernel_rfl) (by kernel_rfl)
theorem ent227 : Enters Tryz.prog 227 := enters_of Tryz.func227 (by kernel_rfl) (by kernel_rfl)
theorem ent228 : Enters Tryz.prog 228 := enters_of Tryz.func228 (by kernel_rfl) (by kernel_rfl)
theorem ent229 : Enters Tryz.prog 229 := enters_of Tryz.func229 (by kernel_rfl) (by kernel_rfl)
theorem ent230 : Enters Tryz.prog 230 := enters_of Tryz.func230 (by kernel_rfl) (by kernel_rfl)
theorem ent231 : Enters Tryz.prog 231 := enters_of Tryz.func231 (by kernel_rfl) (by kernel_rfl)
theorem ent232 : Enters Tryz.prog 232 := enters_of Tryz.func232 (by kernel_rfl) (by kernel_rfl)
theorem ent233 : Enters Tryz.prog 233 := enters_of Tryz.func233 (by kernel_rfl) (by kernel_rfl)
theorem ent234 : Enters Tryz.prog 234 := enters_of Tryz.func234 (by kernel_rfl) (by kernel_rfl)
theorem ent235 : Enters Tryz.prog 235 := enters_of Tryz.func235 (by kernel_rfl) (by kernel_rfl)
theorem ent236 : Enters Tryz.prog 236 := enters_of Tryz.func236 (by kernel_rfl) (by kernel_rfl)
theorem ent237 : Enters Tryz.prog 237 := enters_of Tryz.func237 (by kernel_rfl) (by kernel_rfl)
theorem ent238 : Enters Tryz.prog 238 := enters_of Tryz.func238 (by kernel_rfl) (by kernel_rfl)
theorem ent239 : Enters Tryz.prog 239 := enters_of Tryz.func239 (by kernel_rfl) (by kernel_rfl)
theorem ent240 : Enters Tryz.prog 240 := enters_of Tryz.func240 (by kernel_rfl) (by kernel_rfl)
theorem ent241 : Enters Tryz.prog 241 := enters_of Tryz.func241 (by kernel_rfl) (by kernel_rfl)
theorem ent242 : Enters Tryz.prog 242 := enters_of Tryz.func242 (by kernel_rfl) (by kernel_rfl)
theorem ent245 : Enters Tryz.prog 245 := enters_of Tryz.func245 (by kernel_rfl) (by kernel_rfl)
theorem ent246 : Enters Tryz.prog 246 := enters_of Tryz.func246 (by kernel_rfl) (by kernel_rfl)
theorem ent247 : Enters Tryz.prog 247 := enters_of Tryz.func247 (by kernel_rfl) (by kernel_rfl)
theorem ent248 : Enters Tryz.prog 248 := enters_of Tryz.func248 (by kernel_rfl) (by kernel_rfl)
theorem ent249 : Enters Tryz.prog 249 := enters_of Tryz.func249 (by kernel_rfl) (by kernel_rfl)
theorem ent256 : Enters Tryz.prog 256 := enters_of Tryz.func256 (by kernel_rfl) (by kernel_rfl)
theorem ent257 : Enters Tryz.prog 257 := enters_of Tryz.func257 (by kernel_rfl) (by kernel_rfl)
theorem ent258 : Enters Tryz.prog 258 := enters_of Tryz.func258 (by kernel_rfl) (by kernel_rfl)
theorem ent259 : Enters Tryz.prog 259 := enters_of Tryz.func259 (by kernel_rfl) (by kernel_rfl)
theorem ent260 : Enters Tryz.prog 260 := enters_of Tryz.func260 (by kernel_rfl) (by kernel_rfl)
theorem ent261 : Enters Tryz.prog 261 := enters_of Tryz.func261 (by kernel_rfl) (by kernel_rfl)
theorem ent262 : Enters Tryz.prog 262 := enters_of Tryz.func262 (by kernel_rfl) (by kernel_rfl)
theorem ent263 : Enters Tryz.prog 263 := enters_of Tryz.func263 (by kernel_rfl) (by kernel_rfl)
theorem ent264 : Enters Tryz.prog 264 := enters_of Tryz.func264 (by kernel_rfl) (by kernel_rfl)
theorem ent265 : Enters Tryz.prog 265 := enters_of Tryz.func265 (by kernel_rfl) (by kernel_rfl)
theorem ent266 : Enters Tryz.prog 266 := enters_of Tryz.func266 (by kernel_rfl) (by kernel_rfl)
theorem ent274 : Enters Tryz.prog 274 := enters_of Tryz.func274 (by kernel_rfl) (by kernel_rfl)
theorem ent275 : Enters Tryz.prog 275 := enters_of Tryz.func275 (by kernel_rfl) (by kernel_rfl)
theorem ent276 : Enters Tryz.prog 276 := enters_of Tryz.func276 (by kernel_rfl) (by kernel_rfl)
theorem ent277 : Enters Tryz.prog 277 := enters_of Tryz.func277 (by kernel_rfl) (by kernel_rfl)
theorem ent278 : Enters Tryz.prog 278 := enters_of Tryz.func278 (by kernel_rfl) (by kernel_rfl)
theorem ent279 : Enters Tryz.prog 279 := enters_of Tryz.func279 (by kernel_rfl) (by kernel_rfl)
theorem ent284 : Enters Tryz.prog 284 := enters_of Tryz.func284 (by kernel_rfl) (by kernel_rfl)
theorem ent285 : Enters Tryz.prog 285 := enters_of Tryz.func285 (by kernel_rfl) (by kernel_rfl)
theorem mixed : Tryz.prog.follows .mixedOrders = true := by kernel_rfl
end Go.Proofs.YtdoibplhbdkapaaGreatDoor
namespace Go.Proofs.YtdoibplhbdkapaaGreatDoor
open Go.RowKit
set_option linter.unusedVariables false
set_option linter.unusedSimpArgs false

section
variable {P : Program} {n : Nat} {fn : Func} {e : List (Nat × Value)} {w : World} {R : Value → World → Prop} {s b : Nat} {z cs vs : List Value} {g i : Nat} {T T' : TypeId} {t u : Tmp} {v : Value}
theorem fin_cell1 (hr : fn.results = #[.cell t T]) (hv : lk e t = some (.pointer (some ⟨g, i, none⟩))) (hb : Blk w g T' cs) (ht : tiO P T = some (true, s, b, z)) (hs : subL cs i s = some vs) (h : R (.agg vs.toArray) w) : fin P n fn R .ret e w := fun a ha => by
  have h1 := ha.2.2 t _ hv
  have h2 : (loadVar T ⟨g, i, none⟩).run P w = .ok (.agg vs.toArray) w := run_loadVarA ht (subL_spec hs).1 (fun j v hj => by rw [add_blk, hb.cell]; exact (subL_spec hs).2 j v hj)
  simp only [Array.getD_eq_getD_getElem?] at h1
  refine ⟨_, ?_, h⟩
  simp only [results, hr]
  simp [asAddr, h1, h2]
theorem fin_cell2 (hr : fn.results = #[.cell t T, .tmp u]) (hv : lk e t = some (.pointer (some ⟨g, i, none⟩))) (hb : Blk w g T' cs) (ht : tiO P T = some (true, s, b, z)) (hs : subL cs i s = some vs) (hu : lk e u = some v) (h : R (.tuple #[.agg vs.toArray, v]) w) : fin P n fn R .ret e w := fun a ha => by
  have h1 := ha.2.2 t _ hv
  have h3 := ha.2.2 u _ hu
  have h2 : (loadVar T ⟨g, i, none⟩).run P w = .ok (.agg vs.toArray) w := run_loadVarA ht (subL_spec hs).1 (fun j v hj => by rw [add_blk, hb.cell]; exact (subL_spec hs).2 j v hj)
  refine ⟨_, ?_, h⟩
  rw [results_cell_tmp hr, h1, h3]
  simp [asAddr, h2]
end

structure Desc where
  node : Int
  kind : Int
  size : Int
  duration : Int
  change : Bool
def Desc.cells (d : Desc) : List Value := [.int .i64 d.node, .int .i64 d.kind, .int .i64 d.size, .int .i64 d.duration, .bool d.change]
theorem Desc.len (d : Desc) : d.cells.length = 5 := rfl
structure SlotI where
  mode : Int
  round : Int
  slot : Int
  desc : Desc
def SlotI.cells (s : SlotI) : List Value := [.int .i64 s.mode, .int .i64 s.round, .int .i64 s.slot, .int .i64 s.desc.node, .int .i64 s.desc.kind, .int .i64 s.desc.size, .int .i64 s.desc.duration, .bool s.desc.change]
theorem SlotI.len (s : SlotI) : s.cells.length = 8 := rfl
structure Dem where
  node : Int
  every : Int
  size : Int
def Dem.cells (d : Dem) : List Value := [.int .i64 d.node, .int .i64 d.every, .int .i64 d.size]
theorem Dem.len (d : Dem) : d.cells.length = 3 := rfl

def cmpI (a b : Int) : Int := if a < b then -1 else if b < a then 1 else 0
def cmpS (a b : SlotI) : Int := if a.mode ≠ b.mode then cmpI a.mode b.mode else if a.round ≠ b.round then cmpI a.round b.round else cmpI a.slot b.slot

theorem cmp3_eq {a b : SlotI} {k : Nat} (h : ∀ i : Nat, i < k → [a.mode, a.round, a.slot][i]? = [b.mode, b.round, b.slot][i]?) (hk : 3 ≤ k) : 0 = cmpS a b := by
  have h0 := h 0 (by omega); have h1 := h 1 (by omega); have h2 := h 2 (by omega)
  simp at h0 h1 h2
  simp [cmpS, h0, h1, h2, cmpI]
theorem cmp3_lt {a b : SlotI} {k : Nat} {x y : Int} (h : ∀ i : Nat, i < k → [a.mode, a.round, a.slot][i]? = [b.mode, b.round, b.slot][i]?) (hx : [a.mode, a.round, a.slot][k]? = some x) (hy : [b.mode, b.round, b.slot][k]? = some y) (hlt : x < y) : -1 = cmpS a b := by
  match k, h, hx, hy with
  | 0, h, hx, hy => simp at hx hy; subst hx; subst hy; simp [cmpS, cmpI, hlt, Int.ne_of_lt hlt]
  | 1, h, hx, hy =>
    have h0 := h 0 (by omega)
    simp at hx hy h0; subst hx; subst hy; simp [cmpS, cmpI, hlt, Int.ne_of_lt hlt, h0]
  | 2, h, hx, hy =>
    have h0 := h 0 (by omega); have h1 := h 1 (by omega)
    simp at hx hy h0 h1; subst hx; subst hy; simp [cmpS, cmpI, hlt, h0, h1]
  | k + 3, h, hx, hy => simp at hx
theorem cmp3_gt {a b : SlotI} {k : Nat} {x y : Int} (h : ∀ i : Nat, i < k → [a.mode, a.round, a.slot][i]? = [b.mode, b.round, b.slot][i]?) (hx : [a.mode, a.round, a.slot][k]? = some x) (hy : [b.mode, b.round, b.slot][k]? = some y) (hlt : y < x) : 1 = cmpS a b := by
  have hn : ¬ x < y := by omega
  match k, h, hx, hy with
  | 0, h, hx, hy => simp at hx hy; subst hx; subst hy; simp [cmpS, cmpI, hlt, hn, (Int.ne_of_lt hlt).symm]
  | 1, h, hx, hy =>
    have h0 := h 0 (by omega)
    simp at hx hy h0; subst hx; subst hy; simp [cmpS, cmpI, hlt, hn, (Int.ne_of_lt hlt).symm, h0]
  | 2, h, hx, hy =>
    have h0 := h 0 (by omega); have h1 := h 1 (by omega)
    simp at hx hy h0 h1; subst hx; subst hy; simp [cmpS, cmpI, hlt, hn, h0, h1]
  | k + 3, h, hx, hy => simp at hx

end Go.Proofs.YtdoibplhbdkapaaGreatDoor
namespace Go.Proofs.YtdoibplhbdkapaaGreatDoor
open Go.RowKit
set_option linter.unusedVariables false

section
variable {P : Program} {e : List (Nat × Value)} {w : World} {K : Value → World → Prop} {ty : TypeId} {m : Bool}
theorem ow_callB {f : FuncId} {args : Array Operand} {ts : Array TypeId} {vs : List Value} (hf : Enters P f) (hx : argsO e args.toList = some vs)
    (hc : Calls P f vs.toArray w (Ret fun v w' => v = .bool m ∧ Ext w w')) (h1 : ∀ w', m = true → Ext w w' → K (.bool true) w') (h2 : ∀ w', m = false → Ext w w' → K (.bool false) w') : OpWp P e (.call ⟨.value (.func f), args, ts⟩) ty w K :=
  ow_call hf hx (ret_mono hc fun v w' h => by
    obtain ⟨rfl, hx⟩ := h
    cases hm : m
    · exact h2 w' hm hx
    · exact h1 w' hm hx)
end

section
variable {P : Program} {n : Nat} {ops : Array Oper} {K : List (Nat × Value) → World → Prop} {l : List Oper} {fl : List Bool} {e : List (Nat × Value)} {S : World → Prop} {dst : Option Tmp} {op : Op} {ty : TypeId} {pos : String} {af : Array Edge} {m : Bool}
theorem f_qB (hd : dstOk n dst = true) (hy : ∀ w, S w → OpWp P e op ty w fun u w' => u = .bool m ∧ Ext w w')
    (h1 : m = true → FOps P n ops K l fl (updO e dst (.bool true)) S) (h2 : m = false → FOps P n ops K l fl (updO e dst (.bool false)) S) : FOps P n ops K (⟨dst, op, ty, pos, af, none⟩ :: l) (false :: fl) e S := by
  refine f_q hd hy ?_
  cases hm : m
  · exact h2 hm
  · exact h1 hm
end

theorem drop_at {α : Type} {xs : List α} {k : Nat} (h : k < xs.length) : ∃ x, xs[k]? = some x ∧ xs.drop k = x :: xs.drop (k + 1) :=
  ⟨xs[k], List.getElem?_eq_getElem h, List.drop_eq_getElem_cons h⟩
theorem drop_end {α : Type} {xs : List α} {k : Nat} (h : ¬ (k : Int) < (xs.length : Int)) : xs.drop k = [] :=
  List.drop_eq_nil_of_le (by omega)
theorem drop_at' {α : Type} {xs : List α} {k : Nat} (h : (k : Int) < (xs.length : Int)) : ∃ x, xs[k]? = some x ∧ xs.drop k = x :: xs.drop (k + 1) := drop_at (by omega)

theorem repL_flat {α : Type} {enc : α → List Value} (y : α) : ∀ n, repL n (enc y) = (List.replicate n y).flatMap enc
  | 0 => rfl
  | n + 1 => by rw [List.replicate_succ, List.flatMap_cons, ← repL_flat y n]; rfl
/-- a store into one place of a row of typed elements -/
theorem set_flat {α : Type} {enc : α → List Value} {s : Nat} (he : ∀ x, (enc x).length = s) (x : α) : ∀ (xs : List α) (k : Nat), k < xs.length →
    (xs.flatMap enc).take (k * s) ++ enc x ++ (xs.flatMap enc).drop (k * s + s) = (xs.set k x).flatMap enc
  | [], k, h => by simp at h
  | y :: ys, 0, h => by
    simp only [Nat.zero_mul, List.take_zero, List.nil_append, Nat.zero_add, List.flatMap_cons, List.set_cons_zero]
    rw [List.drop_append, List.drop_of_length_le (by rw [he]; omega), he]; simp
  | y :: ys, k + 1, h => by
    have ih := set_flat he x ys k (by simp at h; omega)
    have e1 : (k + 1) * s = s + k * s := by rw [Nat.add_mul, Nat.one_mul, Nat.add_comm]
    simp only [List.flatMap_cons, List.set_cons_succ, e1, ← ih]
    rw [List.take_append, List.take_of_length_le (by rw [he]; omega), List.drop_append, List.drop_of_length_le (by rw [he]; omega), he,
      show s + k * s - s = k * s by omega, show s + k * s + s - s = k * s + s by omega]
    simp
theorem set_fill {α : Type} {xs : List α} {k : Nat} {x y : α} (h : xs[k]? = some x) : (xs.take k ++ List.replicate (xs.length - k) y).set k x = xs.take (k + 1) ++ List.replicate (xs.length - (k + 1)) y := by
  obtain ⟨hk, hx⟩ := List.getElem?_eq_some_iff.1 h
  have e1 : (xs.take k).length = k := by simp; omega
  rw [List.set_append, if_neg (by omega), e1, Nat.sub_self, show xs.length - k = (xs.length - (k + 1)) + 1 by omega, List.replicate_succ, List.set_cons_zero, List.take_add_one, h]
  simp
theorem at_fill {α : Type} {xs : List α} {k : Nat} {y : α} (hk : k < xs.length) : (xs.take k ++ List.replicate (xs.length - k) y)[k]? = some y := by
  have e1 : (xs.take k).length = k := by simp; omega
  rw [List.getElem?_append_right (by omega), e1, Nat.sub_self, List.getElem?_replicate, if_pos (by omega)]
theorem end_fill {α : Type} {xs : List α} {k : Nat} {y : α} (hk : ¬ (k : Int) < (xs.length : Int)) : xs.take k ++ List.replicate (xs.length - k) y = xs := by
  rw [List.take_of_length_le (by omega), show xs.length - k = 0 by omega]; simp
theorem Own.to {w : World} {lo : Nat} {t : TypeId} {s n c : Nat} {A : Option Addr} {cs cs' : List Value} (h : Own w lo t s A n c cs) (e : cs = cs') : Own w lo t s A n c cs' := e ▸ h
end Go.Proofs.YtdoibplhbdkapaaGreatDoor
namespace Go.Proofs.YtdoibplhbdkapaaGreatDoor
open Go.RowKit
set_option linter.unusedVariables false

theorem snoc {α : Type} (enc : α → List Value) (xs : List α) (x : α) : (xs ++ [x]).flatMap enc = xs.flatMap enc ++ enc x := by simp
def strOf (bs : List UInt8) : ByteArray := ⟨bs.toArray⟩
theorem flat_eB (bs : List UInt8) : bs.flatMap eB = (bs.map (fun b => (b.toNat : Int))).map (Value.int .u8) := by
  induction bs with
  | nil => rfl
  | cons b bs ih => simp [List.flatMap_cons, ih, eB]

section
variable {P : Program} {e : List (Nat × Value)} {w : World} {K : Value → World → Prop} {ty : TypeId} {x : Operand}
theorem ow_convBS {src dst el : TypeId} {A : Option Addr} {B n c : Nat} {bs : List UInt8} (hs : P.underlying src = some (.slice el)) (he : P.underlying el = some (.int .u8)) (hd : P.underlying dst = some .string)
    (hr : Sl B w A (bs.flatMap eB)) (hx : evO e x = some (.slice A n c)) (hn : n = bs.length) (h : K (.string (strOf bs)) w) : OpWp P e (.convert src dst x) ty w K := fun ρ d p a g hρ => by
  have h1 := hρ _ _ hx
  have hrun : (convert src dst (.slice A n c)).run P w = .ok (.string (strOf bs)) w := by
    match A with
    | none =>
      have hb : bs = [] := by
        cases bs with
        | nil => rfl
        | cons b bs =>
          have := (hr.2 0 _ (by rw [List.flatMap_cons]; rfl)).1
          simp at this
      subst hb
      exact run_convert_bytes_nil w src el hs he _ _ dst hd
    | some ad =>
      have hl : (loadCells ad n).run P w = .ok ((bs.map (fun b => (b.toNat : Int))).map (Value.int .u8)).toArray w := by
        have := run_loadCells_list (P := P) w ad (bs.flatMap eB) (fun j v hj => hr.at_ hj)
        rw [flat_len eB_len, Nat.mul_one, ← hn] at this
        rw [this, flat_eB]
      rw [run_convert_bytes_string w src dst el _ n c hs he hd, run_bytesToString w _ n c _ hl, foldl_push_bytes]
      have e1 : (bs.map (fun b => (b.toNat : Int))).map (fun n => UInt8.ofNat n.toNat) = bs := by
        rw [List.map_map]
        conv => rhs; rw [← List.map_id bs]
        apply List.map_congr_left
        intro b _
        simp
      rw [e1]
      simp [strOf, ByteArray.empty, ByteArray.emptyWithCapacity]
      rfl
  simp only [execOp, h1, hrun, upto, Sem.run_bind, Result.andThen_ok, Sem.run_pure]
  exact h
end

def seqG {α : Type} (g : Nat → α) (n : Nat) : List α := (List.range n).map g
theorem seqG_len {α : Type} (g : Nat → α) (n : Nat) : (seqG g n).length = n := by simp [seqG]
theorem seqG_set {α : Type} {g : Nat → α} {k : Nat} {xs : List α} (hk : k < xs.length) : (seqG g k ++ xs.drop k).set k (g k) = seqG g (k + 1) ++ xs.drop (k + 1) := by
  rw [List.set_append, if_neg (by simp [seqG_len]), seqG_len, Nat.sub_self, List.drop_eq_getElem_cons hk, List.set_cons_zero]
  simp [seqG, List.range_succ]
theorem seqG_at {α : Type} {g : Nat → α} {k n : Nat} (h : k < n) : (seqG g n)[k]? = some (g k) := by simp [seqG, h]
theorem seqG_at' {α : Type} {g : Nat → α} {k : Nat} {xs : List α} {x : α} (hx : xs[k]? = some x) : (seqG g k ++ xs.drop k)[k]? = some x := by
  rw [List.getElem?_append_right (by simp [seqG_len]), seqG_len, Nat.sub_self, List.getElem?_drop, Nat.add_zero, hx]
theorem seqG_end {α : Type} {g : Nat → α} {k : Nat} {xs : List α} (h0 : k ≤ xs.length) (hk : ¬ (k : Int) < (xs.length : Int)) : seqG g k ++ xs.drop k = seqG g xs.length := by
  rw [drop_end hk, List.append_nil, show k = xs.length by omega]
theorem seqG_all {α : Type} {g : Nat → α} {k : Nat} {xs : List α} (hk : k ≤ xs.length) : (seqG g k ++ xs.drop k).length = xs.length := by simp [seqG_len]; omega
theorem set_at {α : Type} {l : List α} {k : Nat} {x : α} (h : k < l.length) : (l.set k x)[k]? = some x := by simp [h]

theorem set_field {α : Type} {enc : α → List Value} {s f s' : Nat} (he : ∀ x, (enc x).length = s) {x x' : α} {vs : List Value} (hv : enc x' = (enc x).take f ++ vs ++ (enc x).drop (f + s')) (hf : f + s' ≤ s) : ∀ (xs : List α) (k : Nat), xs[k]? = some x →
    (xs.flatMap enc).take (k * s + f) ++ vs ++ (xs.flatMap enc).drop (k * s + f + s') = (xs.set k x').flatMap enc
  | [], k, h => by simp at h
  | y :: ys, 0, h => by
    simp only [List.getElem?_cons_zero, Option.some.injEq] at h
    subst h
    simp only [Nat.zero_mul, Nat.zero_add, List.flatMap_cons, List.set_cons_zero, hv]
    rw [List.take_append_of_le_length (by rw [he]; omega), List.drop_append_of_le_length (by rw [he]; omega)]
    simp
  | y :: ys, k + 1, h => by
    have ih := set_field he hv hf ys k (by simpa using h)
    have e1 : (k + 1) * s + f = s + (k * s + f) := by rw [Nat.add_mul, Nat.one_mul]; omega
    simp only [List.flatMap_cons, List.set_cons_succ, e1, ← ih]
    rw [List.take_append, List.take_of_length_le (by rw [he]; omega), List.drop_append, List.drop_of_length_le (by rw [he]; omega), he,
      show s + (k * s + f) - s = k * s + f by omega, show s + (k * s + f) + s' - s = k * s + f + s' by omega]
    simp
section
variable {P : Program} {e : List (Nat × Value)} {w : World} {K : Value → World → Prop} {ty t el : TypeId} {x y : Operand} {s b : Nat} {a : Bool} {z : List Value}
theorem ow_storeRF {lo n c j f s' : Nat} {A : Option Addr} {cs vs : List Value} {v : Value} (hown : Own w lo el s A n c cs) (ht : tiO P t = some (a, s', b, z)) (hx : evO e x = some (.pointer (some (((base A).add j).add f)))) (hv : evO e y = some v) (hc : v.cells = vs.toArray) (hl : vs.length = s') (hj : j + f + s' ≤ n * s) (h0 : 0 < n * s)
    (h1 : vs.all (·.oneCell') = true) (h : ∀ w', Own w' lo el s A n c (cs.take (j + f) ++ vs ++ cs.drop (j + f + s')) → w.grownBy w' ((Value.slice A n c).ownBlock) → w'.heap.size = w.heap.size → K undef w') : OpWp P e (.store t x y) ty w K :=
  ow_storeR hown ht (by rw [hx, add_add']) hv hc hl hj h0 h1 h
theorem ow_storeRFF {lo n c j f g s' : Nat} {A : Option Addr} {cs vs : List Value} {v : Value} (hown : Own w lo el s A n c cs) (ht : tiO P t = some (a, s', b, z)) (hx : evO e x = some (.pointer (some ((((base A).add j).add f).add g)))) (hv : evO e y = some v) (hc : v.cells = vs.toArray) (hl : vs.length = s') (hj : j + (f + g) + s' ≤ n * s) (h0 : 0 < n * s)
    (h1 : vs.all (·.oneCell') = true) (h : ∀ w', Own w' lo el s A n c (cs.take (j + (f + g)) ++ vs ++ cs.drop (j + (f + g) + s')) → w.grownBy w' ((Value.slice A n c).ownBlock) → w'.heap.size = w.heap.size → K undef w') : OpWp P e (.store t x y) ty w K :=
  ow_storeR hown ht (by rw [hx, add_add', add_add']) hv hc hl hj h0 h1 h
end
section
variable {P : Program} {e : List (Nat × Value)} {w : World} {K : Value → World → Prop} {ty t t' : TypeId} {x y : Operand} {b c : Bool}
theorem ow_eqlBd (ht : P.underlying t = some .bool) (hx : evO e x = some (.bool b)) (hy : evO e y = some (.bool c)) (h : K (.bool (decide (b = c))) w) : OpWp P e (.binOp .eql t x y t') ty w K :=
  ow_eqlB ht hx hy (by have e1 : (b == c) = decide (b = c) := by cases b <;> cases c <;> rfl
                       rw [e1]; exact h)
theorem ow_neqBd (ht : P.underlying t = some .bool) (hx : evO e x = some (.bool b)) (hy : evO e y = some (.bool c)) (h : K (.bool (decide (b ≠ c))) w) : OpWp P e (.binOp .neq t x y t') ty w K :=
  ow_neqB ht hx hy (by have e1 : (!(b == c)) = decide (b ≠ c) := by cases b <;> cases c <;> rfl
                       rw [e1]; exact h)
theorem ow_eqlBd2 (ht : P.underlying t = some .bool) (hx : evO e x = some (.bool b)) (hy : evO e y = some (.bool c)) (h1 : b = c → K (.bool true) w) (h2 : ¬ (b = c) → K (.bool false) w) : OpWp P e (.binOp .eql t x y t') ty w K :=
  ow_eqlBd ht hx hy (bsp (R := fun b => K (.bool b) w) h1 h2)
theorem ow_neqBd2 (ht : P.underlying t = some .bool) (hx : evO e x = some (.bool b)) (hy : evO e y = some (.bool c)) (h1 : b ≠ c → K (.bool true) w) (h2 : ¬ (b ≠ c) → K (.bool false) w) : OpWp P e (.binOp .neq t x y t') ty w K :=
  ow_neqBd ht hx hy (bsp (R := fun b => K (.bool b) w) h1 h2)
end
section
variable {P : Program} {e : List (Nat × Value)} {w : World} {K : Value → World → Prop} {ty : TypeId} {m : Bool}
theorem ow_callVL {f : FuncId} {x : Operand} {cs : List Value} {args : Array Operand} {ts : Array TypeId} {vs : List Value} (hf : Enters P f) (hv : evO e x = some (.func (.func f) #[] cs.toArray)) (hx : argsO e args.toList = some vs)
    (hc : Calls P f (vs ++ cs).toArray w (Ret K)) : OpWp P e (.call ⟨.value x, args, ts⟩) ty w K :=
  ow_callV hf hv hx (by
    have e1 : (#[] ++ vs.toArray ++ cs.toArray : Array Value) = (vs ++ cs).toArray := by simp
    rw [e1]; exact hc)
theorem ow_callVLB {f : FuncId} {x : Operand} {cs : List Value} {args : Array Operand} {ts : Array TypeId} {vs : List Value} (hf : Enters P f) (hv : evO e x = some (.func (.func f) #[] cs.toArray)) (hx : argsO e args.toList = some vs)
    (hc : Calls P f (vs ++ cs).toArray w (Ret fun v w' => v = .bool m ∧ Ext w w')) (h1 : ∀ w', m = true → Ext w w' → K (.bool true) w') (h2 : ∀ w', m = false → Ext w w' → K (.bool false) w') : OpWp P e (.call ⟨.value x, args, ts⟩) ty w K :=
  ow_callVL hf hv hx (ret_mono hc fun v w' h => by
    obtain ⟨rfl, hx⟩ := h
    cases hm : m
    · exact h2 w' hm hx
    · exact h1 w' hm hx)
end
theorem gb_refl (w : World) (row : Option Nat) : w.grownBy w row := ⟨rfl, rfl, rfl, Nat.le_refl _, fun _ _ _ => rfl⟩
theorem gb_trans {w a b : World} {row : Option Nat} (h : w.grownBy a row) (k : a.grownBy b row) : w.grownBy b row :=
  ⟨k.os.trans h.os, k.tape.trans h.tape, k.output.trans h.output, Nat.le_trans h.size k.size, fun i hi hr => (k.block i (Nat.lt_of_lt_of_le hi h.size) hr).trans (h.block i hi hr)⟩
section
variable {w w' : World} {lo lo' n c s n' c' s' g : Nat} {t t' : TypeId} {A A' : Option Addr} {cs cs' ds : List Value}
theorem Own.grown {row : Option Nat} (h : Own w lo t s A n c cs) (hg : w.grownBy w' row) (hr : ∀ g, row = some g → (Value.slice A n c).ownBlock ≠ some g) : Own w' lo t s A n c cs := by
  refine ⟨h.1, ?_⟩
  rcases h.2 with h2 | ⟨g, cap, cur, hv, hlo, hh, r⟩
  · exact .inl h2
  · exact .inr ⟨g, cap, cur, hv, hlo, (hg.block g (Array.getElem?_eq_some_iff.1 hh).1 (fun e => hr g e.symm (by rw [hv]; rfl))).trans hh, r⟩
theorem Own.grownBlk (h : Own w lo t s A n c cs) (hg : w.grownBy w' (some g)) (hr : (Value.slice A n c).ownBlock ≠ some g) : Own w' lo t s A n c cs :=
  h.grown hg fun g' e => by injection e with e; rw [← e]; exact hr
theorem Own.at_ (h : Own w lo t s A n c cs) (hg : (Value.slice A n c).ownBlock = some g) : ∃ cur, w.heap[g]? = some (.cells cur t (0, 0)) := by
  rcases h.2 with ⟨h1, h2⟩ | ⟨g', cap, cur, hv, hlo, hh, r⟩
  · rw [h1] at hg; simp [Value.ownBlock] at hg
  · rw [hv] at hg
    have e : g' = g := by simpa [Value.ownBlock] using hg
    subst e; exact ⟨cur, hh⟩
/-- rows and blocks of different types are different blocks -/
theorem Own.neT (h : Own w lo t s A n c cs) (hb : Blk w g t' ds) (ht : t ≠ t') : (Value.slice A n c).ownBlock ≠ some g := fun e => by
  obtain ⟨cur, h1⟩ := h.at_ e
  unfold Blk at hb
  rw [h1] at hb
  injection hb with hb; injection hb with _ h2; exact ht h2
theorem Own.neO (h : Own w lo t s A n c cs) (k : Own w lo' t' s' A' n' c' ds) (ht : t ≠ t') : ∀ g, (Value.slice A' n' c').ownBlock = some g → (Value.slice A n c).ownBlock ≠ some g := fun g hg e => by
  obtain ⟨cur, h1⟩ := h.at_ e
  obtain ⟨cur', h2⟩ := k.at_ hg
  rw [h1] at h2
  injection h2 with h2; injection h2 with _ h3; exact ht h3
end
end Go.Proofs.YtdoibplhbdkapaaGreatDoor
namespace Go.Proofs.YtdoibplhbdkapaaGreatDoor
open Go.RowKit
set_option linter.unusedVariables false
set_option linter.unusedSimpArgs false

def inB (a b c : Int) : Bool := decide (b ≤ a) && decide (a ≤ c)
theorem inB_iff {a b c : Int} : inB a b c = true ↔ b ≤ a ∧ a ≤ c := by simp [inB]

def isB (xs : List Int) : Bool := decide ((xs.length : Int) ≤ 1024) && xs.all fun x => inB x 0 255
theorem isB_at {xs : List Int} {k : Nat} {x : Int} (h : isB xs = true) (hx : xs[k]? = some x) : 0 ≤ x ∧ x ≤ 255 := by
  have h1 := List.all_eq_true.1 (by simp only [isB, Bool.and_eq_true] at h; exact h.2) x (List.mem_of_getElem? hx)
  simpa [inB] using h1
theorem isB_len {xs : List Int} (h : isB xs = true) : xs.length ≤ 1024 := by
  simp only [isB, Bool.and_eq_true, decide_eq_true_eq] at h; omega

def dataOk (k z : Int) : Bool := if k = 0 then inB z 0 32 else if k = 2 then inB z 1 32 else decide (z = 0)
def bodyS (k z : Int) : Int := 1 + (if k = 0 then 0 else 8) + (if k = 0 ∨ k = 2 then 1 + z else 0)
def cellsS (k z : Int) : Int := 11 + 10 * (bodyS k z + 3)
def descOk (d : Desc) : Bool := inB d.node 0 31 && inB d.kind 0 3 && dataOk d.kind d.size && !(d.change && decide (d.kind = 3)) && inB d.duration (cellsS d.kind d.size + 20) 1000
def slotOk (x : SlotI) : Bool := inB x.mode 0 15 && inB x.round 0 7 && inB x.slot 0 15 && descOk x.desc
def okFrom : Option SlotI → List SlotI → Bool
  | _, [] => true
  | none, x :: r => slotOk x && okFrom (some x) r
  | some y, x :: r => slotOk x && decide (cmpS y x < 0) && okFrom (some x) r
def isST (xs : List SlotI) : Bool := okFrom none xs && decide (xs.length ≤ 120)
def prevO (xs : List SlotI) (k : Nat) : Option SlotI := if k = 0 then none else xs[k - 1]?
theorem prevO_succ {xs : List SlotI} {k : Nat} {x : SlotI} (h : xs[k]? = some x) : prevO xs (k + 1) = some x := by simp [prevO, h]
theorem prevO_pos {xs : List SlotI} {k : Nat} {y : SlotI} (hk : 0 < k) (h : xs[k - 1]? = some y) : prevO xs k = some y := by rw [prevO, if_neg (by omega)]; exact h
theorem prevO_zero {xs : List SlotI} {k : Nat} (hk : ¬ 0 < (k : Int)) : prevO xs k = none := by rw [prevO, if_pos (by omega)]
theorem okFrom_all : ∀ (xs : List SlotI) (p : Option SlotI), okFrom p xs = true → ∀ x ∈ xs, slotOk x = true
  | [], _, _, x, hx => by simp at hx
  | y :: r, p, h, x, hx => by
    have h1 : slotOk y = true ∧ okFrom (some y) r = true := by
      cases p <;> simp [okFrom] at h
      · exact h
      · exact ⟨h.1.1, h.2⟩
    rcases List.mem_cons.1 hx with rfl | hx
    · exact h1.1
    · exact okFrom_all r _ h1.2 x hx
theorem isST_len {xs : List SlotI} (h : isST xs = true) : xs.length ≤ 120 := by
  simp only [isST, Bool.and_eq_true, decide_eq_true_eq] at h; exact h.2
def hitS (m r s : Int) (x : SlotI) : Bool := decide (x.mode = m) && decide (x.round = r) && decide (x.slot = s)
/-- the place of the first one that fits, counted from k on; -1 if none -/
def findS (f : SlotI → Bool) (k : Int) : List SlotI → Int
  | [] => -1
  | x :: r => if f x = true then k else findS f (k + 1) r
theorem findS_lt {f : SlotI → Bool} : ∀ (xs : List SlotI) (k : Nat), findS f k xs = -1 ∨ ∃ j x, findS f k xs = ((k + j : Nat) : Int) ∧ xs[j]? = some x ∧ f x = true
  | [], k => .inl rfl
  | x :: r, k => by
    rw [findS]
    split
    · exact .inr ⟨0, x, rfl, rfl, by assumption⟩
    · rcases findS_lt r (k + 1) with h | ⟨j, y, h, h1, h2⟩
      · exact .inl h
      · refine .inr ⟨j + 1, y, ?_, by simpa using h1, h2⟩
        rw [show ((k : Int) + 1) = ((k + 1 : Nat) : Int) by omega, h]; congr 1; omega
end Go.Proofs.YtdoibplhbdkapaaGreatDoor
