/- Parts. No condition. -/
import Derived.Test.YtdoibplhbdkapaaGreatDoorDNP2
import Derived.Test.YtdoibplhbdkapaaGreatDoorRows
import Derived.Laws.ResultCell
import Derived.Laws.BytesArg
namespace Go.Proofs.YtdoibplhbdkapaaGreatDoor
open Go.RowKit
theorem cY : nI Tryz.prog 2 = some (false, 1, 8, [.int .i64 0]) := by kernel_rfl
theorem ti3 : nI Tryz.prog 3 = some (false, 1, 8, [.int .i64 0]) := by kernel_rfl
theorem uX : nI Tryz.prog 4 = some (false, 1, 1, [.bool false]) := by kernel_rfl
theorem ti5 : nI Tryz.prog 5 = some (false, 1, 1, [.int .u8 0]) := by kernel_rfl
theorem yA : nI Tryz.prog 9 = some (false, 1, 16, [.string ByteArray.empty]) := by kernel_rfl
theorem aII : nI Tryz.prog 22 = some (false, 1, 24, [.slice none 0 0]) := by kernel_rfl
theorem aE8 : xM Tryz.prog 22 = some (5, 1) := by kernel_rfl
theorem vV : nI Tryz.prog 24 = some (false, 1, 24, [.slice none 0 0]) := by kernel_rfl
theorem jT : xM Tryz.prog 24 = some (59, 4) := by kernel_rfl
theorem mK : nI Tryz.prog 25 = some (false, 1, 24, [.slice none 0 0]) := by kernel_rfl
theorem iA : xM Tryz.prog 25 = some (92, 3) := by kernel_rfl
theorem iF : nI Tryz.prog 26 = some (false, 1, 24, [.slice none 0 0]) := by kernel_rfl
theorem eW : xM Tryz.prog 26 = some (89, 8) := by kernel_rfl
theorem dP : nI Tryz.prog 28 = some (true, 4, 80, [.int .i64 0, .slice none 0 0, .slice none 0 0, .slice none 0 0]) := by kernel_rfl
theorem qA : plO Tryz.prog 28 = some [(0, 1), (1, 1), (2, 1), (3, 1)] := by kernel_rfl
theorem mA : lH Tryz.prog 28 0 = some 0 := by kernel_rfl
theorem kP : lH Tryz.prog 28 1 = some 1 := by kernel_rfl
theorem fO : lH Tryz.prog 28 2 = some 2 := by kernel_rfl
theorem dU : lH Tryz.prog 28 3 = some 3 := by kernel_rfl
theorem kQ : nI Tryz.prog 30 = some (false, 1, 24, [.slice none 0 0]) := by kernel_rfl
theorem dA : xM Tryz.prog 30 = some (2, 1) := by kernel_rfl
theorem jF : nI Tryz.prog 59 = some (true, 4, 40, [.int .i64 0, .string ByteArray.empty, .int .i64 0, .bool false]) := by kernel_rfl
theorem aDI : plO Tryz.prog 59 = some [(0, 1), (1, 1), (2, 1), (3, 1)] := by kernel_rfl
theorem lD : lH Tryz.prog 59 0 = some 0 := by kernel_rfl
theorem gV : lH Tryz.prog 59 1 = some 1 := by kernel_rfl
theorem mP : lH Tryz.prog 59 2 = some 2 := by kernel_rfl
theorem sY : lH Tryz.prog 59 3 = some 3 := by kernel_rfl
theorem eV : nI Tryz.prog 67 = some (true, 5, 40, [.int .i64 0, .int .i64 0, .int .i64 0, .int .i64 0, .bool false]) := by kernel_rfl
theorem zP : plO Tryz.prog 67 = some [(0, 1), (1, 1), (2, 1), (3, 1), (4, 1)] := by kernel_rfl
theorem jN : lH Tryz.prog 67 0 = some 0 := by kernel_rfl
theorem fA : lH Tryz.prog 67 1 = some 1 := by kernel_rfl
theorem iR : lH Tryz.prog 67 2 = some 2 := by kernel_rfl
theorem eK : lH Tryz.prog 67 3 = some 3 := by kernel_rfl
theorem nK : lH Tryz.prog 67 4 = some 4 := by kernel_rfl
theorem dZ : nI Tryz.prog 89 = some (true, 8, 64, [.int .i64 0, .int .i64 0, .int .i64 0, .int .i64 0, .int .i64 0, .int .i64 0, .int .i64 0, .bool false]) := by kernel_rfl
theorem oF : plO Tryz.prog 89 = some [(0, 1), (1, 1), (2, 1), (3, 5)] := by kernel_rfl
theorem gF : lH Tryz.prog 89 0 = some 0 := by kernel_rfl
theorem jY : lH Tryz.prog 89 1 = some 1 := by kernel_rfl
theorem jO : lH Tryz.prog 89 2 = some 2 := by kernel_rfl
theorem fP : lH Tryz.prog 89 3 = some 3 := by kernel_rfl
theorem hH : nI Tryz.prog 92 = some (true, 3, 40, [.int .i64 0, .int .i64 0, .slice none 0 0]) := by kernel_rfl
theorem aBC : plO Tryz.prog 92 = some [(0, 1), (1, 1), (2, 1)] := by kernel_rfl
theorem iS : lH Tryz.prog 92 0 = some 0 := by kernel_rfl
theorem fU : lH Tryz.prog 92 1 = some 1 := by kernel_rfl
theorem jD : lH Tryz.prog 92 2 = some 2 := by kernel_rfl
theorem aGn : nI Tryz.prog 107 = some (false, 1, 24, [.slice none 0 0]) := by kernel_rfl
theorem rJ : xM Tryz.prog 107 = some (30, 1) := by kernel_rfl
theorem aKd : nI Tryz.prog 148 = some (true, 3, 40, [.slice none 0 0, .int .i64 0, .int .i64 0]) := by kernel_rfl
theorem aKe : plO Tryz.prog 148 = some [(0, 1), (1, 1), (2, 1)] := by kernel_rfl
theorem zQ : lH Tryz.prog 148 0 = some 0 := by kernel_rfl
theorem qB : lH Tryz.prog 148 1 = some 1 := by kernel_rfl
theorem sF : lH Tryz.prog 148 2 = some 2 := by kernel_rfl
theorem aGo : nI Tryz.prog 166 = some (true, 3, 40, [.slice none 0 0, .int .i64 0, .bool false]) := by kernel_rfl
theorem aGp : plO Tryz.prog 166 = some [(0, 1), (1, 1), (2, 1)] := by kernel_rfl
theorem zR : lH Tryz.prog 166 0 = some 0 := by kernel_rfl
theorem jU : lH Tryz.prog 166 1 = some 1 := by kernel_rfl
theorem iT : lH Tryz.prog 166 2 = some 2 := by kernel_rfl
theorem aH0 : xM Tryz.prog 211 = some (9, 1) := by kernel_rfl
theorem wV : nI Tryz.prog 218 = some (true, 2, 16, [.int .i64 0, .int .i64 0]) := by kernel_rfl
theorem aH1 : plO Tryz.prog 218 = some [(0, 1), (1, 1)] := by kernel_rfl
theorem zS : lH Tryz.prog 218 0 = some 0 := by kernel_rfl
theorem aCG : lH Tryz.prog 218 1 = some 1 := by kernel_rfl
theorem aKf : bS Tryz.prog 11 := aY Tryz.func11 (by kernel_rfl) (by kernel_rfl)
theorem aKg : bS Tryz.prog 12 := aY Tryz.func12 (by kernel_rfl) (by kernel_rfl)
theorem aKh : bS Tryz.prog 13 := aY Tryz.func13 (by kernel_rfl) (by kernel_rfl)
theorem aKi : bS Tryz.prog 14 := aY Tryz.func14 (by kernel_rfl) (by kernel_rfl)
theorem aKj : bS Tryz.prog 15 := aY Tryz.func15 (by kernel_rfl) (by kernel_rfl)
theorem aKk : bS Tryz.prog 16 := aY Tryz.func16 (by kernel_rfl) (by kernel_rfl)
theorem aGq : bS Tryz.prog 17 := aY Tryz.func17 (by kernel_rfl) (by kernel_rfl)
theorem aH2 : bS Tryz.prog 18 := aY Tryz.func18 (by kernel_rfl) (by kernel_rfl)
theorem aGr : bS Tryz.prog 19 := aY Tryz.func19 (by kernel_rfl) (by kernel_rfl)
theorem aH3 : bS Tryz.prog 20 := aY Tryz.func20 (by kernel_rfl) (by kernel_rfl)
theorem aH4 : bS Tryz.prog 21 := aY Tryz.func21 (by kernel_rfl) (by kernel_rfl)
theorem aEp : bS Tryz.prog 33 := aY Tryz.func33 (by kernel_rfl) (by kernel_rfl)
theorem aKl : bS Tryz.prog 41 := aY Tryz.func41 (by kernel_rfl) (by kernel_rfl)
theorem aKm : bS Tryz.prog 64 := aY Tryz.func64 (by kernel_rfl) (by kernel_rfl)
theorem fC : bS Tryz.prog 65 := aY Tryz.func65 (by kernel_rfl) (by kernel_rfl)
theorem aGs : bS Tryz.prog 66 := aY Tryz.func66 (by kernel_rfl) (by kernel_rfl)
theorem aKn : bS Tryz.prog 67 := aY Tryz.func67 (by kernel_rfl) (by kernel_rfl)
theorem aH5 : bS Tryz.prog 68 := aY Tryz.func68 (by kernel_rfl) (by kernel_rfl)
theorem aH6 : bS Tryz.prog 69 := aY Tryz.func69 (by kernel_rfl) (by kernel_rfl)
theorem aH7 : bS Tryz.prog 70 := aY Tryz.func70 (by kernel_rfl) (by kernel_rfl)
theorem aH8 : bS Tryz.prog 71 := aY Tryz.func71 (by kernel_rfl) (by kernel_rfl)
theorem aKo : bS Tryz.prog 72 := aY Tryz.func72 (by kernel_rfl) (by kernel_rfl)
theorem aKp : bS Tryz.prog 73 := aY Tryz.func73 (by kernel_rfl) (by kernel_rfl)
theorem aGt : bS Tryz.prog 74 := aY Tryz.func74 (by kernel_rfl) (by kernel_rfl)
theorem aEq : bS Tryz.prog 75 := aY Tryz.func75 (by kernel_rfl) (by kernel_rfl)
theorem aH9 : bS Tryz.prog 76 := aY Tryz.func76 (by kernel_rfl) (by kernel_rfl)
theorem aIa : bS Tryz.prog 77 := aY Tryz.func77 (by kernel_rfl) (by kernel_rfl)
theorem aIb : bS Tryz.prog 78 := aY Tryz.func78 (by kernel_rfl) (by kernel_rfl)
theorem aKq : bS Tryz.prog 79 := aY Tryz.func79 (by kernel_rfl) (by kernel_rfl)
theorem aKr : bS Tryz.prog 80 := aY Tryz.func80 (by kernel_rfl) (by kernel_rfl)
theorem aKs : bS Tryz.prog 81 := aY Tryz.func81 (by kernel_rfl) (by kernel_rfl)
theorem aKt : bS Tryz.prog 82 := aY Tryz.func82 (by kernel_rfl) (by kernel_rfl)
theorem aIc : bS Tryz.prog 83 := aY Tryz.func83 (by kernel_rfl) (by kernel_rfl)
theorem aId : bS Tryz.prog 84 := aY Tryz.func84 (by kernel_rfl) (by kernel_rfl)
theorem aGu : bS Tryz.prog 85 := aY Tryz.func85 (by kernel_rfl) (by kernel_rfl)
theorem aKu : bS Tryz.prog 99 := aY Tryz.func99 (by kernel_rfl) (by kernel_rfl)
theorem aIJ : bS Tryz.prog 102 := aY Tryz.func102 (by kernel_rfl) (by kernel_rfl)
theorem aIK : bS Tryz.prog 105 := aY Tryz.func105 (by kernel_rfl) (by kernel_rfl)
theorem aIL : bS Tryz.prog 106 := aY Tryz.func106 (by kernel_rfl) (by kernel_rfl)
theorem aIM : bS Tryz.prog 107 := aY Tryz.func107 (by kernel_rfl) (by kernel_rfl)
theorem mL : bS Tryz.prog 109 := aY Tryz.func109 (by kernel_rfl) (by kernel_rfl)
theorem jW : bS Tryz.prog 111 := aY Tryz.func111 (by kernel_rfl) (by kernel_rfl)
theorem aDJ : bS Tryz.prog 113 := aY Tryz.func113 (by kernel_rfl) (by kernel_rfl)
theorem aGv : bS Tryz.prog 114 := aY Tryz.func114 (by kernel_rfl) (by kernel_rfl)
theorem aGw : bS Tryz.prog 116 := aY Tryz.func116 (by kernel_rfl) (by kernel_rfl)
theorem aIN : bS Tryz.prog 117 := aY Tryz.func117 (by kernel_rfl) (by kernel_rfl)
theorem aIO : bS Tryz.prog 120 := aY Tryz.func120 (by kernel_rfl) (by kernel_rfl)
theorem aIP : bS Tryz.prog 143 := aY Tryz.func143 (by kernel_rfl) (by kernel_rfl)
theorem aIQ : bS Tryz.prog 144 := aY Tryz.func144 (by kernel_rfl) (by kernel_rfl)
theorem aIR : bS Tryz.prog 145 := aY Tryz.func145 (by kernel_rfl) (by kernel_rfl)
theorem aIS : bS Tryz.prog 146 := aY Tryz.func146 (by kernel_rfl) (by kernel_rfl)
theorem aGx : bS Tryz.prog 147 := aY Tryz.func147 (by kernel_rfl) (by kernel_rfl)
theorem aDK : bS Tryz.prog 148 := aY Tryz.func148 (by kernel_rfl) (by kernel_rfl)
theorem aIT : bS Tryz.prog 149 := aY Tryz.func149 (by kernel_rfl) (by kernel_rfl)
theorem aIU : bS Tryz.prog 150 := aY Tryz.func150 (by kernel_rfl) (by kernel_rfl)
theorem aGy : bS Tryz.prog 151 := aY Tryz.func151 (by kernel_rfl) (by kernel_rfl)
theorem aGz : bS Tryz.prog 152 := aY Tryz.func152 (by kernel_rfl) (by kernel_rfl)
theorem zU : bS Tryz.prog 153 := aY Tryz.func153 (by kernel_rfl) (by kernel_rfl)
theorem aIV : bS Tryz.prog 154 := aY Tryz.func154 (by kernel_rfl) (by kernel_rfl)
theorem aIW : bS Tryz.prog 155 := aY Tryz.func155 (by kernel_rfl) (by kernel_rfl)
theorem aIX : bS Tryz.prog 156 := aY Tryz.func156 (by kernel_rfl) (by kernel_rfl)
theorem aIY : bS Tryz.prog 157 := aY Tryz.func157 (by kernel_rfl) (by kernel_rfl)
theorem aBD : bS Tryz.prog 158 := aY Tryz.func158 (by kernel_rfl) (by kernel_rfl)
theorem aIZ : bS Tryz.prog 159 := aY Tryz.func159 (by kernel_rfl) (by kernel_rfl)
theorem mB : bS Tryz.prog 160 := aY Tryz.func160 (by kernel_rfl) (by kernel_rfl)
theorem aDL : bS Tryz.prog 161 := aY Tryz.func161 (by kernel_rfl) (by kernel_rfl)
theorem aGA : bS Tryz.prog 162 := aY Tryz.func162 (by kernel_rfl) (by kernel_rfl)
theorem aDM : bS Tryz.prog 163 := aY Tryz.func163 (by kernel_rfl) (by kernel_rfl)
theorem aI0 : bS Tryz.prog 164 := aY Tryz.func164 (by kernel_rfl) (by kernel_rfl)
theorem aBE : bS Tryz.prog 165 := aY Tryz.func165 (by kernel_rfl) (by kernel_rfl)
theorem aI1 : bS Tryz.prog 166 := aY Tryz.func166 (by kernel_rfl) (by kernel_rfl)
theorem aI2 : bS Tryz.prog 167 := aY Tryz.func167 (by kernel_rfl) (by kernel_rfl)
theorem aDN : bS Tryz.prog 168 := aY Tryz.func168 (by kernel_rfl) (by kernel_rfl)
theorem aGB : bS Tryz.prog 179 := aY Tryz.func179 (by kernel_rfl) (by kernel_rfl)
theorem aGC : bS Tryz.prog 180 := aY Tryz.func180 (by kernel_rfl) (by kernel_rfl)
theorem aBF : bS Tryz.prog 181 := aY Tryz.func181 (by kernel_rfl) (by kernel_rfl)
theorem zV : bS Tryz.prog 182 := aY Tryz.func182 (by kernel_rfl) (by kernel_rfl)
theorem aI3 : bS Tryz.prog 183 := aY Tryz.func183 (by kernel_rfl) (by kernel_rfl)
theorem aI4 : bS Tryz.prog 184 := aY Tryz.func184 (by kernel_rfl) (by kernel_rfl)
theorem aI5 : bS Tryz.prog 185 := aY Tryz.func185 (by kernel_rfl) (by kernel_rfl)
theorem aGD : bS Tryz.prog 186 := aY Tryz.func186 (by kernel_rfl) (by kernel_rfl)
theorem aI6 : bS Tryz.prog 187 := aY Tryz.func187 (by kernel_rfl) (by kernel_rfl)
theorem aI7 : bS Tryz.prog 188 := aY Tryz.func188 (by kernel_rfl) (by kernel_rfl)
theorem aI8 : bS Tryz.prog 189 := aY Tryz.func189 (by kernel_rfl) (by kernel_rfl)
theorem aGE : bS Tryz.prog 190 := aY Tryz.func190 (by kernel_rfl) (by kernel_rfl)
theorem aI9 : bS Tryz.prog 191 := aY Tryz.func191 (by kernel_rfl) (by kernel_rfl)
theorem aJa : bS Tryz.prog 197 := aY Tryz.func197 (by kernel_rfl) (by kernel_rfl)
theorem aGF : bS Tryz.prog 198 := aY Tryz.func198 (by kernel_rfl) (by kernel_rfl)
theorem aJb : bS Tryz.prog 199 := aY Tryz.func199 (by kernel_rfl) (by kernel_rfl)
theorem aJc : bS Tryz.prog 205 := aY Tryz.func205 (by kernel_rfl) (by kernel_rfl)
theorem aJd : bS Tryz.prog 214 := aY Tryz.func214 (by kernel_rfl) (by kernel_rfl)
theorem uM : bS Tryz.prog 215 := aY Tryz.func215 (by kernel_rfl) (by kernel_rfl)
theorem aJe : bS Tryz.prog 216 := aY Tryz.func216 (by kernel_rfl) (by kernel_rfl)
theorem aGG : bS Tryz.prog 217 := aY Tryz.func217 (by kernel_rfl) (by kernel_rfl)
theorem aJf : bS Tryz.prog 218 := aY Tryz.func218 (by kernel_rfl) (by kernel_rfl)
theorem aJg : bS Tryz.prog 219 := aY Tryz.func219 (by kernel_rfl) (by kernel_rfl)
theorem aJh : bS Tryz.prog 220 := aY Tryz.func220 (by kernel_rfl) (by kernel_rfl)
theorem aJi : bS Tryz.prog 221 := aY Tryz.func221 (by kernel_rfl) (by kernel_rfl)
theorem aJj : bS Tryz.prog 222 := aY Tryz.func222 (by kernel_rfl) (by kernel_rfl)
theorem aJk : bS Tryz.prog 223 := aY Tryz.func223 (by kernel_rfl) (by kernel_rfl)
theorem aJl : bS Tryz.prog 224 := aY Tryz.func224 (by kernel_rfl) (by kernel_rfl)
theorem aJm : bS Tryz.prog 225 := aY Tryz.func225 (by kernel_rfl) (by kernel_rfl)
theorem aJn : bS Tryz.prog 226 := aY Tryz.func226 (by kernel_rfl) (by kernel_rfl)
theorem aJo : bS Tryz.prog 227 := aY Tryz.func227 (by kernel_rfl) (by kernel_rfl)
theorem aJp : bS Tryz.prog 228 := aY Tryz.func228 (by kernel_rfl) (by kernel_rfl)
theorem aJq : bS Tryz.prog 229 := aY Tryz.func229 (by kernel_rfl) (by kernel_rfl)
theorem aJr : bS Tryz.prog 230 := aY Tryz.func230 (by kernel_rfl) (by kernel_rfl)
theorem aJs : bS Tryz.prog 231 := aY Tryz.func231 (by kernel_rfl) (by kernel_rfl)
theorem aJt : bS Tryz.prog 232 := aY Tryz.func232 (by kernel_rfl) (by kernel_rfl)
theorem aJu : bS Tryz.prog 233 := aY Tryz.func233 (by kernel_rfl) (by kernel_rfl)
theorem aJv : bS Tryz.prog 234 := aY Tryz.func234 (by kernel_rfl) (by kernel_rfl)
theorem aJw : bS Tryz.prog 235 := aY Tryz.func235 (by kernel_rfl) (by kernel_rfl)
theorem aJx : bS Tryz.prog 236 := aY Tryz.func236 (by kernel_rfl) (by kernel_rfl)
theorem aGH : bS Tryz.prog 237 := aY Tryz.func237 (by kernel_rfl) (by kernel_rfl)
theorem aJy : bS Tryz.prog 238 := aY Tryz.func238 (by kernel_rfl) (by kernel_rfl)
theorem aGI : bS Tryz.prog 239 := aY Tryz.func239 (by kernel_rfl) (by kernel_rfl)
theorem aJz : bS Tryz.prog 244 := aY Tryz.func244 (by kernel_rfl) (by kernel_rfl)
theorem aDO : bS Tryz.prog 245 := aY Tryz.func245 (by kernel_rfl) (by kernel_rfl)
theorem aGJ : bS Tryz.prog 246 := aY Tryz.func246 (by kernel_rfl) (by kernel_rfl)
theorem aDP : bS Tryz.prog 247 := aY Tryz.func247 (by kernel_rfl) (by kernel_rfl)
theorem aJA : bS Tryz.prog 248 := aY Tryz.func248 (by kernel_rfl) (by kernel_rfl)
theorem aJB : bS Tryz.prog 249 := aY Tryz.func249 (by kernel_rfl) (by kernel_rfl)
theorem aJC : bS Tryz.prog 256 := aY Tryz.func256 (by kernel_rfl) (by kernel_rfl)
theorem aJD : bS Tryz.prog 257 := aY Tryz.func257 (by kernel_rfl) (by kernel_rfl)
theorem aJE : bS Tryz.prog 258 := aY Tryz.func258 (by kernel_rfl) (by kernel_rfl)
theorem aJF : bS Tryz.prog 259 := aY Tryz.func259 (by kernel_rfl) (by kernel_rfl)
theorem aJG : bS Tryz.prog 260 := aY Tryz.func260 (by kernel_rfl) (by kernel_rfl)
theorem aJH : bS Tryz.prog 261 := aY Tryz.func261 (by kernel_rfl) (by kernel_rfl)
theorem aJI : bS Tryz.prog 262 := aY Tryz.func262 (by kernel_rfl) (by kernel_rfl)
theorem aJJ : bS Tryz.prog 263 := aY Tryz.func263 (by kernel_rfl) (by kernel_rfl)
theorem aGK : bS Tryz.prog 264 := aY Tryz.func264 (by kernel_rfl) (by kernel_rfl)
theorem aDQ : bS Tryz.prog 265 := aY Tryz.func265 (by kernel_rfl) (by kernel_rfl)
theorem aJK : bS Tryz.prog 266 := aY Tryz.func266 (by kernel_rfl) (by kernel_rfl)
theorem aJL : bS Tryz.prog 274 := aY Tryz.func274 (by kernel_rfl) (by kernel_rfl)
theorem aGL : bS Tryz.prog 275 := aY Tryz.func275 (by kernel_rfl) (by kernel_rfl)
theorem aJM : bS Tryz.prog 276 := aY Tryz.func276 (by kernel_rfl) (by kernel_rfl)
theorem aJN : bS Tryz.prog 277 := aY Tryz.func277 (by kernel_rfl) (by kernel_rfl)
theorem aJO : bS Tryz.prog 278 := aY Tryz.func278 (by kernel_rfl) (by kernel_rfl)
theorem aJP : bS Tryz.prog 279 := aY Tryz.func279 (by kernel_rfl) (by kernel_rfl)
theorem aJQ : bS Tryz.prog 284 := aY Tryz.func284 (by kernel_rfl) (by kernel_rfl)
theorem aGM : bS Tryz.prog 285 := aY Tryz.func285 (by kernel_rfl) (by kernel_rfl)
theorem mixed : Tryz.prog.follows .mixedOrders = true := by kernel_rfl
set_option linter.unusedVariables false
set_option linter.unusedSimpArgs false
section
variable {P : Program} {n : Nat} {fn : Func} {e : List (Nat × Value)} {w : World} {R : Value → World → Prop} {s b : Nat} {z cs vs : List Value} {g i : Nat} {T T' : TypeId} {t u : Tmp} {v : Value}
theorem eC (hr : fn.results = #[.cell t T]) (hv : lk e t = some (.pointer (some ⟨g, i, none⟩))) (hb : Blk w g T' cs) (ht : nI P T = some (true, s, b, z)) (hs : aBq cs i s = some vs) (h : R (.agg vs.toArray) w) : fin P n fn R .ret e w := fun a ha => by
 have h1 := ha.2.2 t _ hv
 have h2 : (loadVar T ⟨g, i, none⟩).run P w = .ok (.agg vs.toArray) w := qV ht (lO hs).1 (fun j v hj => by rw [uU, hb.cell]; exact (lO hs).2 j v hj)
 simp only [Array.getD_eq_getD_getElem?] at h1
 refine ⟨_, ?_, h⟩
 simp only [results, hr]
 simp [asAddr, h1, h2]
theorem fV (hr : fn.results = #[.cell t T, .tmp u]) (hv : lk e t = some (.pointer (some ⟨g, i, none⟩))) (hb : Blk w g T' cs) (ht : nI P T = some (true, s, b, z)) (hs : aBq cs i s = some vs) (hu : lk e u = some v) (h : R (.tuple #[.agg vs.toArray, v]) w) : fin P n fn R .ret e w := fun a ha => by
 have h1 := ha.2.2 t _ hv
 have h3 := ha.2.2 u _ hu
 have h2 : (loadVar T ⟨g, i, none⟩).run P w = .ok (.agg vs.toArray) w := qV ht (lO hs).1 (fun j v hj => by rw [uU, hb.cell]; exact (lO hs).2 j v hj)
 refine ⟨_, ?_, h⟩
 rw [results_cell_tmp hr, h1, h3]
 simp [asAddr, h2]
end
structure Desc where
 node : Int
 kind : Int
 size : Int
 duration : Int
 change : Bool
def Desc.cells (d : Desc) : List Value := [.int .i64 d.node, .int .i64 d.kind, .int .i64 d.size, .int .i64 d.duration, .bool d.change]
theorem Desc.len (d : Desc) : d.cells.length = 5 := rfl
structure SlotI where
 mode : Int
 round : Int
 slot : Int
 desc : Desc
def SlotI.cells (s : SlotI) : List Value := [.int .i64 s.mode, .int .i64 s.round, .int .i64 s.slot, .int .i64 s.desc.node, .int .i64 s.desc.kind, .int .i64 s.desc.size, .int .i64 s.desc.duration, .bool s.desc.change]
theorem SlotI.len (s : SlotI) : s.cells.length = 8 := rfl
structure Dem where
 node : Int
 every : Int
 size : Int
def Dem.cells (d : Dem) : List Value := [.int .i64 d.node, .int .i64 d.every, .int .i64 d.size]
theorem Dem.len (d : Dem) : d.cells.length = 3 := rfl
def tP (a b : Int) : Int := if a < b then -1 else if b < a then 1 else 0
def qC (a b : SlotI) : Int := if a.mode ≠ b.mode then tP a.mode b.mode else if a.round ≠ b.round then tP a.round b.round else tP a.slot b.slot
theorem sZ {a b : SlotI} {k : Nat} (h : ∀ i : Nat, i < k → [a.mode, a.round, a.slot][i]? = [b.mode, b.round, b.slot][i]?) (hk : 3 ≤ k) : 0 = qC a b := by
 have h0 := h 0 (by omega); have h1 := h 1 (by omega); have h2 := h 2 (by omega)
 simp at h0 h1 h2
 simp [qC, h0, h1, h2, tP]
theorem tA {a b : SlotI} {k : Nat} {x y : Int} (h : ∀ i : Nat, i < k → [a.mode, a.round, a.slot][i]? = [b.mode, b.round, b.slot][i]?) (hx : [a.mode, a.round, a.slot][k]? = some x) (hy : [b.mode, b.round, b.slot][k]? = some y) (hlt : x < y) : -1 = qC a b := by
 match k, h, hx, hy with
 | 0, h, hx, hy => simp at hx hy; subst hx; subst hy; simp [qC, tP, hlt, Int.ne_of_lt hlt]
 | 1, h, hx, hy =>
   have h0 := h 0 (by omega)
   simp at hx hy h0; subst hx; subst hy; simp [qC, tP, hlt, Int.ne_of_lt hlt, h0]
 | 2, h, hx, hy =>
   have h0 := h 0 (by omega); have h1 := h 1 (by omega)
   simp at hx hy h0 h1; subst hx; subst hy; simp [qC, tP, hlt, h0, h1]
 | k + 3, h, hx, hy => simp at hx
theorem tB {a b : SlotI} {k : Nat} {x y : Int} (h : ∀ i : Nat, i < k → [a.mode, a.round, a.slot][i]? = [b.mode, b.round, b.slot][i]?) (hx : [a.mode, a.round, a.slot][k]? = some x) (hy : [b.mode, b.round, b.slot][k]? = some y) (hlt : y < x) : 1 = qC a b := by
 have hn : ¬ x < y := by omega
 match k, h, hx, hy with
 | 0, h, hx, hy => simp at hx hy; subst hx; subst hy; simp [qC, tP, hlt, hn, (Int.ne_of_lt hlt).symm]
 | 1, h, hx, hy =>
   have h0 := h 0 (by omega)
   simp at hx hy h0; subst hx; subst hy; simp [qC, tP, hlt, hn, (Int.ne_of_lt hlt).symm, h0]
 | 2, h, hx, hy =>
   have h0 := h 0 (by omega); have h1 := h 1 (by omega)
   simp at hx hy h0 h1; subst hx; subst hy; simp [qC, tP, hlt, hn, h0, h1]
 | k + 3, h, hx, hy => simp at hx
section
variable {P : Program} {e : List (Nat × Value)} {w : World} {K : Value → World → Prop} {ty : TypeId} {m : Bool}
theorem cW {f : FuncId} {args : Array Operand} {ts : Array TypeId} {vs : List Value} (hf : bS P f) (hx : rY e args.toList = some vs)
   (hc : Calls P f vs.toArray w (fD fun v w' => v = .bool m ∧ Ext w w')) (h1 : ∀ w', m = true → Ext w w' → K (.bool true) w') (h2 : ∀ w', m = false → Ext w w' → K (.bool false) w') : OpWp P e (.call ⟨.value (.func f), args, ts⟩) ty w K :=
 aS hf hx (aO hc fun v w' h => by
   obtain ⟨rfl, hx⟩ := h
   cases hm : m
   · exact h2 w' hm hx
   · exact h1 w' hm hx)
end
section
variable {P : Program} {n : Nat} {ops : Array Oper} {K : List (Nat × Value) → World → Prop} {l : List Oper} {fl : List Bool} {e : List (Nat × Value)} {S : World → Prop} {dst : Option Tmp} {op : Op} {ty : TypeId} {pos : String} {af : Array Edge} {m : Bool}
theorem aGN (hd : hU n dst = true) (hy : ∀ w, S w → OpWp P e op ty w fun u w' => u = .bool m ∧ Ext w w')
   (h1 : m = true → lU P n ops K l fl (jE e dst (.bool true)) S) (h2 : m = false → lU P n ops K l fl (jE e dst (.bool false)) S) : lU P n ops K (⟨dst, op, ty, pos, af, none⟩ :: l) (false :: fl) e S := by
 refine cE hd hy ?_
 cases hm : m
 · exact h2 hm
 · exact h1 hm
end
theorem jZ {α : Type} {xs : List α} {k : Nat} (h : k < xs.length) : ∃ x, xs[k]? = some x ∧ xs.drop k = x :: xs.drop (k + 1) :=
 ⟨xs[k], List.getElem?_eq_getElem h, List.drop_eq_getElem_cons h⟩
theorem bJ {α : Type} {xs : List α} {k : Nat} (h : ¬ (k : Int) < (xs.length : Int)) : xs.drop k = [] :=
 List.drop_eq_nil_of_le (by omega)
theorem dM {α : Type} {xs : List α} {k : Nat} (h : (k : Int) < (xs.length : Int)) : ∃ x, xs[k]? = some x ∧ xs.drop k = x :: xs.drop (k + 1) := jZ (by omega)
theorem Own.to {w : World} {lo : Nat} {t : TypeId} {s n c : Nat} {A : Option Addr} {cs cs' : List Value} (h : Own w lo t s A n c cs) (e : cs = cs') : Own w lo t s A n c cs' := e ▸ h
theorem kG {α : Type} (enc : α → List Value) (xs : List α) (x : α) : (xs ++ [x]).flatMap enc = xs.flatMap enc ++ enc x := by simp
def rK (bs : List UInt8) : ByteArray := ⟨bs.toArray⟩
theorem aHI (bs : List UInt8) : bs.flatMap eB = (bs.map (fun b => (b.toNat : Int))).map (Value.int .u8) := by
 induction bs with
 | nil => rfl
 | cons b bs ih => simp [List.flatMap_cons, ih, eB]
section
variable {P : Program} {e : List (Nat × Value)} {w : World} {K : Value → World → Prop} {ty : TypeId} {x : Operand}
theorem vW {src dst el : TypeId} {A : Option Addr} {B n c : Nat} {bs : List UInt8} (hs : P.underlying src = some (.slice el)) (he : P.underlying el = some (.int .u8)) (hd : P.underlying dst = some .string)
   (hr : Sl B w A (bs.flatMap eB)) (hx : fF e x = some (.slice A n c)) (hn : n = bs.length) (h : K (.string (rK bs)) w) : OpWp P e (.convert src dst x) ty w K := fun ρ d p a g hρ => by
 have h1 := hρ _ _ hx
 have hrun : (convert src dst (.slice A n c)).run P w = .ok (.string (rK bs)) w := by
   match A with
   | none =>
     have hb : bs = [] := by
       cases bs with
       | nil => rfl
       | cons b bs =>
         have := (hr.2 0 _ (by rw [List.flatMap_cons]; rfl)).1
         simp at this
     subst hb
     exact run_convert_bytes_nil w src el hs he _ _ dst hd
   | some ad =>
     have hl : (loadCells ad n).run P w = .ok ((bs.map (fun b => (b.toNat : Int))).map (Value.int .u8)).toArray w := by
       have := run_loadCells_list (P := P) w ad (bs.flatMap eB) (fun j v hj => hr.at_ hj)
       rw [fB sA, Nat.mul_one, ← hn] at this
       rw [this, aHI]
     rw [run_convert_bytes_string w src dst el _ n c hs he hd, run_bytesToString w _ n c _ hl, foldl_push_bytes]
     have e1 : (bs.map (fun b => (b.toNat : Int))).map (fun n => UInt8.ofNat n.toNat) = bs := by
       rw [List.map_map]
       conv => rhs; rw [← List.map_id bs]
       apply List.map_congr_left
       intro b _
       simp
     rw [e1]
     simp [rK, ByteArray.empty, ByteArray.emptyWithCapacity]
     rfl
 simp only [execOp, h1, hrun, upto, Sem.run_bind, Result.andThen_ok, Sem.run_pure]
 exact h
end
theorem gH {α : Type} {enc : α → List Value} {s f s' : Nat} (he : ∀ x, (enc x).length = s) {x x' : α} {vs : List Value} (hv : enc x' = (enc x).take f ++ vs ++ (enc x).drop (f + s')) (hf : f + s' ≤ s) : ∀ (xs : List α) (k : Nat), xs[k]? = some x →
   (xs.flatMap enc).take (k * s + f) ++ vs ++ (xs.flatMap enc).drop (k * s + f + s') = (xs.set k x').flatMap enc
 | [], k, h => by simp at h
 | y :: ys, 0, h => by
   simp only [List.getElem?_cons_zero, Option.some.injEq] at h
   subst h
   simp only [Nat.zero_mul, Nat.zero_add, List.flatMap_cons, List.set_cons_zero, hv]
   rw [List.take_append_of_le_length (by rw [he]; omega), List.drop_append_of_le_length (by rw [he]; omega)]
   simp
 | y :: ys, k + 1, h => by
   have ih := gH he hv hf ys k (by simpa using h)
   have e1 : (k + 1) * s + f = s + (k * s + f) := by rw [Nat.add_mul, Nat.one_mul]; omega
   simp only [List.flatMap_cons, List.set_cons_succ, e1, ← ih]
   rw [List.take_append, List.take_of_length_le (by rw [he]; omega), List.drop_append, List.drop_of_length_le (by rw [he]; omega), he,
     show s + (k * s + f) - s = k * s + f by omega, show s + (k * s + f) + s' - s = k * s + f + s' by omega]
   simp
section
variable {P : Program} {e : List (Nat × Value)} {w : World} {K : Value → World → Prop} {ty t el : TypeId} {x y : Operand} {s b : Nat} {a : Bool} {z : List Value}
theorem jP {lo n c j f s' : Nat} {A : Option Addr} {cs vs : List Value} {v : Value} (hown : Own w lo el s A n c cs) (ht : nI P t = some (a, s', b, z)) (hx : fF e x = some (.pointer (some (((nA A).add j).add f)))) (hv : fF e y = some v) (hc : v.cells = vs.toArray) (hl : vs.length = s') (hj : j + f + s' ≤ n * s) (h0 : 0 < n * s)
   (h1 : vs.all (·.oneCell') = true) (h : ∀ w', Own w' lo el s A n c (cs.take (j + f) ++ vs ++ cs.drop (j + f + s')) → w.grownBy w' ((Value.slice A n c).ownBlock) → w'.heap.size = w.heap.size → K undef w') : OpWp P e (.store t x y) ty w K :=
 aAP hown ht (by rw [hx, kE]) hv hc hl hj h0 h1 h
theorem lP {lo n c j f g s' : Nat} {A : Option Addr} {cs vs : List Value} {v : Value} (hown : Own w lo el s A n c cs) (ht : nI P t = some (a, s', b, z)) (hx : fF e x = some (.pointer (some ((((nA A).add j).add f).add g)))) (hv : fF e y = some v) (hc : v.cells = vs.toArray) (hl : vs.length = s') (hj : j + (f + g) + s' ≤ n * s) (h0 : 0 < n * s)
   (h1 : vs.all (·.oneCell') = true) (h : ∀ w', Own w' lo el s A n c (cs.take (j + (f + g)) ++ vs ++ cs.drop (j + (f + g) + s')) → w.grownBy w' ((Value.slice A n c).ownBlock) → w'.heap.size = w.heap.size → K undef w') : OpWp P e (.store t x y) ty w K :=
 aAP hown ht (by rw [hx, kE, kE]) hv hc hl hj h0 h1 h
end
section
variable {P : Program} {e : List (Nat × Value)} {w : World} {K : Value → World → Prop} {ty t t' : TypeId} {x y : Operand} {b c : Bool}
theorem aGO (ht :      P.underlying t = some .bool) (hx : fF e x = some (.bool b)) (hy : fF e y = some (.bool c)) (h : K (.bool (decide (b = c))) w) : OpWp P e (.binOp .eql t x y t') ty w K :=
 aHA ht hx hy (by     have e1 : (b == c) = decide (b = c) := by cases b <;> cases c <;> rfl
                      rw [e1]; exact h)
theorem aE9 (ht : P.underlying t = some .bool) (hx : fF e x = some (.bool b)) (hy : fF e y = some (.bool c)) (h1 : b = c → K (.bool true) w) (h2 : ¬ (b = c) → K (.bool false) w) : OpWp P e (.binOp .eql t x y t') ty w K :=
 aGO ht hx hy (bsp (R := fun b => K (.bool b) w) h1 h2)
end
section
variable {P : Program} {e : List (Nat × Value)} {w : World} {K : Value → World → Prop} {ty : TypeId} {m : Bool}
theorem aFa {f : FuncId} {x : Operand} {cs : List Value} {args : Array Operand} {ts : Array TypeId} {vs : List Value} (hf : bS P f) (hv : fF e x = some (.func (.func f) #[] cs.toArray)) (hx : rY e args.toList = some vs)
   (hc : Calls P f (vs ++ cs).toArray w (fD K)) : OpWp P e (.call ⟨.value x, args, ts⟩) ty w K :=
 aF0 hf hv hx (by
   have e1 : (#[] ++ vs.toArray ++ cs.toArray : Array Value) = (vs ++ cs).toArray := by simp
   rw [e1]; exact hc)
theorem uN {f : FuncId} {x : Operand} {cs : List Value} {args : Array Operand} {ts : Array TypeId} {vs : List Value} (hf : bS P f) (hv : fF e x = some (.func (.func f) #[] cs.toArray)) (hx : rY e args.toList = some vs)
   (hc : Calls P f (vs ++ cs).toArray w (fD fun v w' => v = .bool m ∧ Ext w w')) (h1 : ∀ w', m = true → Ext w w' → K (.bool true) w') (h2 : ∀ w', m = false → Ext w w' → K (.bool false) w') : OpWp P e (.call ⟨.value x, args, ts⟩) ty w K :=
 aFa hf hv hx (aO hc fun v w' h => by
   obtain ⟨rfl, hx⟩ := h
   cases hm : m
   · exact h2 w' hm hx
   · exact h1 w' hm hx)
end
theorem mC (w : World) (row : Option Nat) : w.grownBy w row := ⟨rfl, rfl, rfl, Nat.le_refl _, fun _ _ _ => rfl⟩
theorem cU {w a b : World} {row : Option Nat} (h : w.grownBy a row) (k : a.grownBy b row) : w.grownBy b row :=
 ⟨k.os.trans h.os, k.tape.trans h.tape, k.output.trans h.output, Q7l h.size k.size, fun i hi hr => (k.block i (Nat.lt_of_lt_of_le hi h.size) hr).trans (h.block i hi hr)⟩
section
variable {w w' : World} {lo lo' n c s n' c' s' g : Nat} {t t' : TypeId} {A A' : Option Addr} {cs cs' ds : List Value}
theorem Own.grown {row : Option Nat} (h : Own w lo t s A n c cs) (hg : w.grownBy w' row) (hr : ∀ g, row = some g → (Value.slice A n c).ownBlock ≠ some g) : Own w' lo t s A n c cs := by
 refine ⟨h.1, ?_⟩
 rcases h.2 with h2 | ⟨g, cap, cur, hv, hlo, hh, r⟩
 · exact .inl h2
 · exact .inr ⟨g, cap, cur, hv, hlo, (hg.block g (Array.getElem?_eq_some_iff.1 hh).1 (fun e => hr g e.symm (by rw [hv]; rfl))).trans hh, r⟩
theorem Own.grownBlk (h : Own w lo t s A n c cs) (hg : w.grownBy w' (some g)) (hr : (Value.slice A n c).ownBlock ≠ some g) : Own w' lo t s A n c cs :=
 h.grown hg fun g' e => by injection e with e; rw [← e]; exact hr
theorem Own.at_ (h : Own w lo t s A n c cs) (hg : (Value.slice A n c).ownBlock = some g) : ∃ cur, w.heap[g]? = some (.cells cur t (0, 0)) := by
 rcases h.2 with ⟨h1, h2⟩ | ⟨g', cap, cur, hv, hlo, hh, r⟩
 · rw [h1] at hg; simp [Value.ownBlock] at hg
 · rw [hv] at hg
   have e : g' = g := by simpa [Value.ownBlock] using hg
   subst e; exact ⟨cur, hh⟩
theorem Own.neT (h : Own w lo t s A n c cs) (hb : Blk w g t' ds) (ht : t ≠ t') : (Value.slice A n c).ownBlock ≠ some g := fun e => by
 obtain ⟨cur, h1⟩ := h.at_ e
 unfold Blk at hb
 rw [h1] at hb
 injection hb with hb; injection hb with _ h2; exact ht h2
theorem Own.neO (h : Own w lo t s A n c cs) (k : Own w lo' t' s' A' n' c' ds) (ht : t ≠ t') : ∀ g, (Value.slice A' n' c').ownBlock = some g → (Value.slice A n c).ownBlock ≠ some g := fun g hg e => by
 obtain ⟨cur, h1⟩ := h.at_ e
 obtain ⟨cur', h2⟩ := k.at_ hg
 rw [h1] at h2
 injection h2 with h2; injection h2 with _ h3; exact ht h3
end
def hZ (a b c : Int) : Bool := decide (b ≤ a) && decide (a ≤ c)
theorem eD {a b c : Int} : hZ a b c = true ↔ b ≤ a ∧ a ≤ c := by simp [hZ]
def rL (xs : List Int) : Bool := decide ((xs.length : Int) ≤ 1024) && xs.all fun x => hZ x 0 255
theorem uO {xs : List Int} {k : Nat} {x : Int} (h : rL xs = true) (hx : xs[k]? = some x) : 0 ≤ x ∧ x ≤ 255 := by
 have h1 := List.all_eq_true.1 (by simp only [rL, Bool.and_eq_true] at h; exact h.2) x (List.mem_of_getElem? hx)
 simpa [hZ] using h1
theorem yB {xs : List Int} (h : rL xs = true) : xs.length ≤ 1024 := by
 simp only [rL, Bool.and_eq_true, decide_eq_true_eq] at h; omega
def kU (k z : Int) : Bool := if k = 0 then hZ z 0 32 else if k = 2 then hZ z 1 32 else decide (z = 0)
def nG (k z : Int) : Int := 1 + (if k = 0 then 0 else 8) + (if k = 0 ∨ k = 2 then 1 + z else 0)
def qW (k z : Int) : Int := 11 + 10 * (nG k z + 3)
def fI (d : Desc) : Bool := hZ d.node 0 31 && hZ d.kind 0 3 && kU d.kind d.size && !(d.change && decide (d.kind = 3)) && hZ d.duration (qW d.kind d.size + 20) 1000
def fT (x : SlotI) : Bool := hZ x.mode 0 15 && hZ x.round 0 7 && hZ x.slot 0 15 && fI x.desc
def eQ : Option SlotI → List SlotI → Bool
 | _, [] => true
 | none, x :: r => fT x && eQ (some x) r
 | some y, x :: r => fT x && decide (qC y x < 0) && eQ (some x) r
def gR (xs : List SlotI) : Bool := eQ none xs && decide (xs.length ≤ 120)
def oH (xs : List SlotI) (k : Nat) : Option SlotI := if k = 0 then none else xs[k - 1]?
theorem qX {xs : List SlotI} {k : Nat} {x : SlotI} (h : xs[k]? = some x) : oH xs (k + 1) = some x := by simp [oH, h]
theorem jG {xs : List SlotI} {k : Nat} {y : SlotI} (hk : 0 < k) (h : xs[k - 1]? = some y) : oH xs k = some y := by rw [oH, if_neg (by omega)]; exact h
theorem qY {xs : List SlotI} {k : Nat} (hk : ¬ 0 < (k : Int)) : oH xs k = none := by rw [oH, if_pos (by omega)]
theorem qZ : ∀ (xs : List SlotI) (p : Option SlotI), eQ p xs = true → ∀ x ∈ xs, fT x = true
 | [], _, _, x, hx => by simp at hx
 | y :: r, p, h, x, hx => by
   have h1 : fT y = true ∧ eQ (some y) r = true := by
     cases p <;> simp [eQ] at h
     · exact h
     · exact ⟨h.1.1, h.2⟩
   rcases List.mem_cons.1 hx with rfl | hx
   · exact h1.1
   · exact qZ r _ h1.2 x hx
theorem aBG {xs : List SlotI} {k : Nat} {x : SlotI} (h : gR xs = true) (hx : xs[k]? = some x) : fT x = true := by
 simp only [gR, Bool.and_eq_true] at h
 exact qZ _ _ h.1 x (List.mem_of_getElem? hx)
theorem mT {xs : List SlotI} (h : gR xs = true) : xs.length ≤ 120 := by
 simp only [gR, Bool.and_eq_true, decide_eq_true_eq] at h; exact h.2
def mH (m r s : Int) (x : SlotI) : Bool := decide (x.mode = m) && decide (x.round = r) && decide (x.slot = s)
def gJ (f : SlotI → Bool) (k : Int) : List SlotI → Int
 | [] => -1
 | x :: r => if f x = true then k else gJ f (k + 1) r
theorem aCH {f : SlotI → Bool} : ∀ (xs : List SlotI) (k : Nat), gJ f k xs = -1 ∨ ∃ j x, gJ f k xs = ((k + j : Nat) : Int) ∧ xs[j]? = some x ∧ f x = true
 | [], k => .inl rfl
 | x :: r, k => by
   rw [gJ]
   split
   · exact .inr ⟨0, x, rfl, rfl, by assumption⟩
   · rcases aCH r (k + 1) with h | ⟨j, y, h, h1, h2⟩
     · exact .inl h
     · refine .inr ⟨j + 1, y, ?_, by simpa using h1, h2⟩
       rw [show ((k : Int) + 1) = ((k + 1 : Nat) : Int) by omega, h]; congr 1; omega
def WI (P : Program) (ops : Array Oper) (I : World → Prop) (K : Act → World → Prop) : Nat → Array Bool → Act → World → Prop
 | 0, listed, a, w => listed = lS ops ops.size ∧ I w ∧ K a w
 | fuel + 1, listed, a, w => I w ∧ rdy ops ops.size listed ≠ [] ∧ ∀ i ∈ rdy ops ops.size listed, ∀ o, ops[i]? = some o →
     OpX P ops o a w fun u w' => WI P ops I K fuel (listed.setIfInBounds i true) (a.put o.dst u) w'
section
variable {P : Program} {ops : Array Oper} {I : World → Prop} {K : Act → World → Prop}
theorem WI.inv : ∀ {fuel : Nat} {listed : Array Bool} {a : Act} {w : World}, WI P ops I K fuel listed a w → I w
 | 0, _, _, _, h => h.2.1
 | _ + 1, _, _, _, h => h.1
theorem zW {i : Nat} {oi : Oper} {v : Value} (hi : ops[i]? = some oi) (hsel : ∀ (j : Nat) (o : Oper) cs b, ops[j]? = some o → o.op ≠ .select cs b) :
   ∀ (fuel : Nat) (listed : Array Bool) (a : Act) (w : World),
     (∀ j oj, ops[j]? = some oj → j ≠ i → listed.getD j true = false → (∀ e ∈ oj.after, Region.binds .any e = true → e.on ≠ i) → oi.apart ops oj = true) →
     i ∈ rdy ops ops.size listed → (∀ w, I w → OpX P ops oi a w fun u w' => u = v ∧ w' = w) →
     WI P ops I K fuel (listed.setIfInBounds i true) (a.put oi.dst v) w → WI P ops I K (fuel + 1) listed a w := by
 have here : ∀ (fuel : Nat) (listed : Array Bool) (a : Act) (w : World), (∀ w, I w → OpX P ops oi a w fun u w' => u = v ∧ w' = w) →
     WI P ops I K fuel (listed.setIfInBounds i true) (a.put oi.dst v) w →
     OpX P ops oi a w fun u w' => WI P ops I K fuel (listed.setIfInBounds i true) (a.put oi.dst u) w' := by
   intro fuel listed a w hy H
   refine OpX.mono (hy w H.inv) fun u w' ⟨h1, h2⟩ => ?_
   subst h1; subst h2; exact H
 intro fuel
 induction fuel with
 | zero =>
   intro listed a w _ hr hy H
   refine ⟨H.inv, fun h => (by rw [h] at hr; cases hr), fun j hj o ho => ?_⟩
   by_cases hji : j = i
   · subst hji
     obtain rfl : o = oi := by rw [hi] at ho; injection ho with ho; exact ho.symm
     exact here 0 listed a w hy H
   · exfalso
     obtain ⟨hj1, hj2⟩ := hM.1 hj
     have h1 := (mem_ready.1 (ready_mono hj1 hji)).1
     rw [H.1, nT j hj2] at h1
     cases h1
 | succ fuel ih =>
   intro listed a w hfree hr hy H
   refine ⟨H.inv, fun h => (by rw [h] at hr; cases hr), fun j hj oj hoj => ?_⟩
   by_cases hji : j = i
   · subst hji
     obtain rfl : oj = oi := by rw [hi] at hoj; injection hoj with ho; exact ho.symm
     exact here _ listed a w hy H
   · obtain ⟨hj1, hj2⟩ := hM.1 hj
     obtain ⟨hi1, hi2⟩ := hM.1 hr
     have hex := H.2.2 j (hM.2 ⟨ready_mono hj1 hji, hj2⟩) oj hoj
     obtain ⟨hjun, oj', hoj', hall⟩ := mem_ready.1 hj1
     obtain rfl : oj' = oj := by rw [hoj] at hoj'; injection hoj' with ho; exact ho.symm
     have hnot : ∀ e ∈ oj'.after, Region.binds .any e = true → e.on ≠ i := fun e he hb heq => by
       have h1 := hall e he hb
       have h0 := (mem_ready.1 hi1).1
       rw [heq] at h1
       rcases Nat.lt_or_ge i listed.size with h' | h'
       · simp [h'] at h0 h1; rw [h0] at h1; cases h1
       · simp [Array.getElem?_eq_none h'] at h1
     have hap := hfree j oj' hoj hji hjun hnot
     obtain ⟨ha1, ha2, ha3⟩ := Oper.apart_spec hap
     refine OpX.mono ((OpX.put (fun cs b => hsel j oj' cs b hoj) ha1).1 hex) fun u w' hu => ?_
     refine ih _ _ _ ?_ (hM.2 ⟨ready_mono hi1 (Ne.symm hji), hi2⟩) (fun w hw => (OpX.put (fun cs b => hsel i oi cs b hi) ha3).2 (hy w hw)) ?_
     · intro k ok hk hki hun hno
       refine hfree k ok hk hki ?_ hno
       by_cases hjk : j = k
       · subst hjk; exact hjun
       · rw [getD_set_ne true hjk] at hun; exact hun
     · rw [Array.setIfInBounds_comm _ _ hji, ← Act.put_comm a v u ha2]
       exact hu
theorem aGP {Q : Exit → Act → World → Prop} (hK : ∀ a w, K a w → wpAny P .any ops Q 0 (lS ops ops.size) a w) :
   ∀ (fuel : Nat) (listed : Array Bool) (a : Act) (w : World), WI P ops I K fuel listed a w → wpAny P .any ops Q fuel listed a w := by
 intro fuel
 induction fuel with
 | zero => intro listed a w h; obtain ⟨rfl, _, h2⟩ := h; exact hK _ _ h2
 | succ fuel ih =>
   intro listed a w h
   obtain ⟨_, hne, hall⟩ := h
   obtain ⟨k, hk⟩ := List.exists_mem_of_ne_nil _ hne
   refine ⟨fun h0 => (by have := (hM.1 hk).1; rw [h0] at this; cases this), fun i hi => ?_⟩
   obtain ⟨hiun, oi, hoi, hedge⟩ := mem_ready.1 hi
   have him : i < ops.size := (Array.getElem?_eq_some_iff.1 hoi).1
   exact OpX.wpOp hoi (hall i (hM.2 ⟨hi, him⟩) oi hoi) fun v w' hv => ih _ _ _ hv
end
theorem vX (ops : Array Oper) : Region.ready .any ops (lS ops ops.size) = [] := by
 apply List.eq_nil_iff_forall_not_mem.2
 intro i hi
 obtain ⟨h1, o, ho, _⟩ := mem_ready.1 hi
 have hlt : i < ops.size := (Array.getElem?_eq_some_iff.1 ho).1
 rw [nT i hlt] at h1
 cases h1
def WE (P : Program) (n : Nat) (ops : Array Oper) (I : World → Prop) (K : Act → World → Prop) (fuel : Nat) (listed : Array Bool) (e : List (Nat × Value)) (w : World) : Prop :=
 ∀ a, Fits n e a → WI P ops I K fuel listed a w
section
variable {P : Program} {n : Nat} {ops : Array Oper} {I : World → Prop} {K : Act → World → Prop} {fuel : Nat} {listed listed' : Array Bool} {e : List (Nat × Value)} {w : World}
theorem dI (i : Nat) {dst : Option Tmp} {op : Op} {ty : TypeId} {pos : String} {af : Array Edge} {v : Value} (hi : ops[i]? = some ⟨dst, op, ty, pos, af, none⟩) (hs : Region.noSelect ops = true) (hd : hU n dst = true)
   (ht : rF ops ops.size listed i = true) (hl : listed.setIfInBounds i true = listed') (hy : ∀ w, I w → OpWp P e op ty w fun u w' => u = v ∧ w' = w)
   (h : WE P n ops I K fuel listed' (jE e dst v) w) : WE P n ops I K (fuel + 1) listed e w := fun a ha => by
 simp only [rF, Bool.and_eq_true] at ht
 refine zW hi (Region.noSelect_spec hs) fuel listed a w (Region.free_spec hi ht.1) (by simpa using ht.2) (fun w hw => (hy w hw).opX ha) ?_
 rw [hl]
 exact h _ (ha.put dst v hd)
theorem fM (i : Nat) {dst : Option Tmp} {op : Op} {ty : TypeId} {pos : String} {af : Array Edge} (hi : ops[i]? = some ⟨dst, op, ty, pos, af, none⟩) (hd : hU n dst = true)
   (hr : rdy ops ops.size listed = [i]) (hl : listed.setIfInBounds i true = listed') (hI : I w) (hy : OpWp P e op ty w fun u w' => WE P n ops I K fuel listed' (jE e dst u) w') : WE P n ops I K (fuel + 1) listed e w := fun a ha => by
 refine ⟨hI, by rw [hr]; simp, fun j hj o ho => ?_⟩
 rw [hr] at hj
 obtain rfl : j = i := by simpa using hj
 obtain rfl : ⟨dst, op, ty, pos, af, none⟩ = o := by rw [hi] at ho; injection ho
 refine OpX.mono (OpWp.opX ha hy) fun u w' hu => ?_
 rw [hl]
 exact hu _ (ha.put dst u hd)
theorem aGQ (i k : Nat) {listed'' : Array Bool} {dst : Option Tmp} {op : Op} {ty : TypeId} {pos : String} {af : Array Edge} {dst2 : Option Tmp} {op2 : Op} {ty2 : TypeId} {pos2 : String} {af2 : Array Edge} (hi : ops[i]? = some ⟨dst, op, ty, pos, af, none⟩) (hk : ops[k]? = some ⟨dst2, op2, ty2, pos2, af2, none⟩) (hd : hU n dst = true) (hd2 : hU n dst2 = true)
   (hr : rdy ops ops.size listed = [i, k]) (hl : listed.setIfInBounds i true = listed') (hl2 : listed.setIfInBounds k true = listed'') (hI : I w) (hy : OpWp P e op ty w fun u w' => WE P n ops I K fuel listed' (jE e dst u) w')
   (hy2 : OpWp P e op2 ty2 w fun u w' => WE P n ops I K fuel listed'' (jE e dst2 u) w') : WE P n ops I K (fuel + 1) listed e w := fun a ha => by
 refine ⟨hI, by rw [hr]; simp, fun j hj o ho => ?_⟩
 rw [hr] at hj
 simp only [List.mem_cons, List.not_mem_nil, or_false] at hj
 rcases hj with rfl | rfl
 · obtain rfl : ⟨dst, op, ty, pos, af, none⟩ = o := by rw [hi] at ho; injection ho
   refine OpX.mono (OpWp.opX ha hy) fun u w' hu => ?_
   rw [hl]
   exact hu _ (ha.put dst u hd)
 · obtain rfl : ⟨dst2, op2, ty2, pos2, af2, none⟩ = o := by rw [hk] at ho; injection ho
   refine OpX.mono (OpWp.opX ha hy2) fun u w' hu => ?_
   rw [hl2]
   exact hu _ (ha.put dst2 u hd2)
theorem kA (hl : listed = lS ops ops.size) (hI : I w) (h : ∀ a, Fits n e a → K a w) : WE P n ops I K 0 listed e w := fun a ha => ⟨hl, hI, h a ha⟩
end
theorem vY {P : Program} {n : Nat} {id : Nat} {l : List Oper} {e : List (Nat × Value)} {w : World} {Q : Exit → List (Nat × Value) → World → Prop} {y : Code} (I : World → Prop)
   (hx : P.follows .mixedOrders = true)
   (h : WE P n l.toArray I (fun a w => ∃ e', Fits n e' a ∧ qI P n y e' w Q) l.toArray.size (Array.replicate l.toArray.size false) e w.drew) : qI P n (.seq (.region id l.toArray true) y) e w Q := aQ fun a ha => by
 refine wp_region_any hx ?_
 exact aGP (K := fun a w => ∃ e', Fits n e' a ∧ qI P n y e' w Q) (Q := fun x a' w' => ∃ e', Fits n e' a' ∧ wM (fun e' w' => qI P n y e' w' Q) Q x e' w') (fun a w ⟨e', hf, hk⟩ => ⟨vX _, e', hf, hk⟩) _ _ _ _ (h a ha)
theorem aBH {P : Program} {n : Nat} {id : Nat} {l : List Oper} {e : List (Nat × Value)} {w : World} {Q : Exit → List (Nat × Value) → World → Prop} (I : World → Prop)
   (hx : P.follows .mixedOrders = true)
   (h : WE P n l.toArray I (fun a w => ∃ e', Fits n e' a ∧ Q .normal e' w) l.toArray.size (Array.replicate l.toArray.size false) e w.drew) : qI P n (.region id l.toArray true) e w Q := fun a ha => by
 refine wp_region_any hx ?_
 exact aGP (K := fun a w => ∃ e', Fits n e' a ∧ Q .normal e' w) (Q := fun x a' w' => ∃ e', Fits n e' a' ∧ Q x e' w') (fun a w ⟨e', hf, hk⟩ => ⟨vX _, e', hf, hk⟩) _ _ _ _ (h a ha)
theorem dE {w a b : World} {row : Option Nat} (h : w.grownBy a row) (k : Ext a b) : w.grownBy b row :=
 ⟨k.os.trans h.os, k.tape.trans h.tape, k.output.trans h.output, Q7l h.size k.size, fun i hi hr => (k.block i (Nat.lt_of_lt_of_le hi h.size)).trans (h.block i hi hr)⟩
theorem cV {w a b : World} {row row' : Option Nat} (h : w.grownBy a row) (k : a.grownBy b row') (hr : ∀ g, row' = some g → w.heap.size ≤ g) : w.grownBy b row :=
 ⟨k.os.trans h.os, k.tape.trans h.tape, k.output.trans h.output, Q7l h.size k.size, fun i hi hn => (k.block i (Nat.lt_of_lt_of_le hi h.size) (fun e => by have := hr i e.symm; omega)).trans (h.block i hi hn)⟩
structure Mode where
 rounds : Int
 slots : Int
 next : List Int
structure ModeI where
 m : Mode
 A : Option Addr
 c : Nat
def ModeI.cells (x : ModeI) : List Value := [.int .i64 x.m.rounds, .int .i64 x.m.slots, .slice x.A x.m.next.length x.c]
theorem ModeI.len (x : ModeI) : x.cells.length = 3 := rfl
def Nexts (B : Nat) (w : World) (xs : List ModeI) : Prop := B ≤ w.heap.size ∧ ∀ x ∈ xs, Sl B w x.A (x.m.next.flatMap eI) ∧ x.m.next.length ≤ 9223372036854775807
section
variable {B B' : Nat} {w w' : World} {xs ys : List ModeI}
theorem Nexts.at_ {k : Nat} {x : ModeI} (h : Nexts B w xs) (hx : xs[k]? = some x) : Sl B w x.A (x.m.next.flatMap eI) := (h.2 x (List.mem_of_getElem? hx)).1
theorem Nexts.len {k : Nat} {x : ModeI} (h : Nexts B w xs) (hx : xs[k]? = some x) : x.m.next.length ≤ 9223372036854775807 := (h.2 x (List.mem_of_getElem? hx)).2
theorem Nexts.below (h : Nexts B w xs) (hb : Below B w w') : Nexts B w' xs := ⟨Q7l h.1 hb.size, fun x hx => ⟨(h.2 x hx).1.below hb, (h.2 x hx).2⟩⟩
theorem Nexts.ext (h : Nexts B w xs) (hb : Ext w w') : Nexts B w' xs := h.below (Below.mono hb h.1)
theorem Nexts.grown {row : Option Nat} (h : Nexts B w xs) (hg : w.grownBy w' row) (hr : ∀ g, row = some g → B ≤ g) : Nexts B w' xs := ⟨Q7l h.1 hg.size, fun x hx => ⟨(h.2 x hx).1.grown hg hr, (h.2 x hx).2⟩⟩
theorem Nexts.more (h : Nexts B w xs) (hB : B ≤ B') (hw : B' ≤ w.heap.size) : Nexts B' w xs := ⟨hw, fun x hx => ⟨(h.2 x hx).1.more hB hw, (h.2 x hx).2⟩⟩
theorem Nexts.nil_ (hB : B ≤ w.heap.size) : Nexts B w [] := ⟨hB, fun x hx => by simp at hx⟩
theorem Nexts.snoc {x : ModeI} (h : Nexts B w xs) (hx : Sl B w x.A (x.m.next.flatMap eI)) (hl : x.m.next.length ≤ 9223372036854775807) : Nexts B w (xs ++ [x]) := ⟨h.1, fun y hy => by
 rcases List.mem_append.1 hy with h1 | h1
 · exact h.2 y h1
 · obtain rfl : y = x := by simpa using h1
   exact ⟨hx, hl⟩⟩
end
def NOwn (w : World) (lo : Nat) (t : TypeId) (xs : List ModeI) : Prop := ∀ x ∈ xs, Own w lo t 1 x.A x.m.next.length x.c (x.m.next.flatMap eI) ∧ x.m.next.length ≤ 9223372036854775807
section
variable {w w' : World} {lo lo' n c s g : Nat} {t t' : TypeId} {A : Option Addr} {cs : List Value} {xs : List ModeI}
theorem NOwn.nil_ : NOwn w lo t [] := fun x hx => by simp at hx
theorem NOwn.ext (h : NOwn w lo t xs) (hb : Ext w w') : NOwn w' lo t xs := fun x hx => ⟨(h x hx).1.ext hb, (h x hx).2⟩
theorem NOwn.low (h : NOwn w lo t xs) (hl : lo' ≤ lo) : NOwn w lo' t xs := fun x hx => ⟨(h x hx).1.low hl, (h x hx).2⟩
theorem NOwn.grownO (h : NOwn w lo t xs) (k : Own w lo' t' s A n c cs) (hg : w.grownBy w' (Value.slice A n c).ownBlock) (ht : t ≠ t') : NOwn w' lo t xs := fun x hx => ⟨(h x hx).1.grown hg (Own.neO (h x hx).1 k ht), (h x hx).2⟩
theorem NOwn.grownB (h : NOwn w lo t xs) (k : Blk w g t' cs) (hg : w.grownBy w' (some g)) (ht : t ≠ t') : NOwn w' lo t xs := fun x hx => ⟨(h x hx).1.grownBlk hg (Own.neT (h x hx).1 k ht), (h x hx).2⟩
theorem NOwn.nexts (h : NOwn w lo t xs) : Nexts w.heap.size w xs := ⟨Nat.le_refl _, fun x hx => ⟨(h x hx).1.sl, (h x hx).2⟩⟩
theorem NOwn.snoc {x : ModeI} (h : NOwn w lo t xs) (hx : Own w lo t 1 x.A x.m.next.length x.c (x.m.next.flatMap eI)) (hl : x.m.next.length ≤ 9223372036854775807) : NOwn w lo t (xs ++ [x]) := fun y hy => by
 rcases List.mem_append.1 hy with h1 | h1
 · exact h y h1
 · obtain rfl : y = x := by simpa using h1
   exact ⟨hx, hl⟩
end
def pK {α : Type} (xs : List α) (k : Nat) : Option α := if k = 0 then none else xs[k - 1]?
theorem kH {α : Type} {xs : List α} {k : Nat} {x : α} (h : xs[k]? = some x) : pK xs (k + 1) = some x := by simp [pK, h]
theorem eH {α : Type} {xs : List α} {k : Nat} {y : α} (hk : 0 < (k : Int)) (h : xs[k - 1]? = some y) : pK xs k = some y := by rw [pK, if_neg (by omega)]; exact h
theorem kI {α : Type} {xs : List α} {k : Nat} (hk : ¬ 0 < (k : Int)) : pK xs k = none := by rw [pK, if_pos (by omega)]
theorem aBI {α β : Type} {f : α → β} {xs : List α} {k : Nat} {x : α} (h : xs[k]? = some x) : (xs.map f)[k]? = some (f x) := by simp [h]
def eT (n : Int) : Option Int → List Int → Bool
 | _, [] => true
 | none, x :: r => hZ x 0 (n - 1) && eT n (some x) r
 | some y, x :: r => hZ x 0 (n - 1) && decide (y < x) && eT n (some x) r
theorem tC {n x : Int} {r : List Int} (h : hZ x 0 (n - 1) = true) : eT n none (x :: r) = eT n (some x) r := by simp [eT, h]
theorem tD {n x y : Int} {r : List Int} (h : hZ x 0 (n - 1) = true) (h2 : y < x) : eT n (some y) (x :: r) = eT n (some x) r := by simp [eT, h, h2]
theorem gG {n x : Int} {p : Option Int} {r : List Int} (h : hZ x 0 (n - 1) = false) : eT n p (x :: r) = false := by cases p <;> simp [eT, h]
theorem lI {n x y : Int} {r : List Int} (h2 : ¬ y < x) : eT n (some y) (x :: r) = false := by simp [eT, h2]
theorem mM {n : Int} {p : Option Int} : eT n p [] = true := by cases p <;> rfl
def fQ (xs : List Int) (n : Int) : Bool := eT n none xs
def tQ (xs : List Int) (v : Int) : Bool := xs.any fun x => decide (x = v)
def aAx (v : Int) (k : Int) : List Int → Int
 | [] => -1
 | x :: r => if x = v then k else aAx v (k + 1) r
theorem aCI (v : Int) : ∀ (xs : List Int) (k : Int), 0 ≤ k → decide (0 ≤ aAx v k xs) = tQ xs v
 | [], k, h => by simp [aAx, tQ]
 | x :: r, k, h => by
   rw [aAx]
   by_cases e : x = v
   · rw [if_pos e]; simp [tQ, e, h]
   · rw [if_neg e, aCI v r (k + 1) (by omega)]; simp [tQ, e]
def jQ (n i : Int) (x : Mode) : Bool := hZ x.rounds 1 8 && hZ x.slots 1 16 && fQ x.next n && !(tQ x.next i)
def dL (n : Int) (i : Int) : List Mode → Bool
 | [] => true
 | x :: r => jQ n i x && dL n (i + 1) r
theorem uY : ∀ (ms : List Mode) (n i : Int) (k : Nat) (x : Mode), dL n i ms = true → ms[k]? = some x → jQ n (i + k) x = true
 | [], n, i, k, x, h, hx => by simp at hx
 | y :: r, n, i, 0, x, h, hx => by
   simp only [dL, Bool.and_eq_true] at h
   simp at hx; subst hx; simpa using h.1
 | y :: r, n, i, k + 1, x, h, hx => by
   simp only [dL, Bool.and_eq_true] at h
   have := uY r n (i + 1) k x h.2 (by simpa using hx)
   rwa [show i + 1 + (k : Int) = i + ((k + 1 : Nat) : Int) by omega] at this
def jH (ms : List Mode) : Bool := hZ ms.length 1 16 && dL ms.length 0 ms
theorem yC {ms : List Mode} {k : Nat} {x : Mode} (h : jH ms = true) (hx : ms[k]? = some x) : jQ ms.length k x = true := by
 simp only [jH, Bool.and_eq_true] at h
 have := uY ms _ _ k x h.2 hx
 simpa using this
theorem qD {ms : List Mode} (h : jH ms = true) : 1 ≤ ms.length ∧ ms.length ≤ 16 := by
 simp only [jH, Bool.and_eq_true] at h
 have := eD.1 h.1; omega
theorem tE {n i : Int} {x : Mode} (h : jQ n i x = true) : (1 ≤ x.rounds ∧ x.rounds ≤ 8) ∧ (1 ≤ x.slots ∧ x.slots ≤ 16) ∧ fQ x.next n = true := by
 simp only [jQ, Bool.and_eq_true] at h
 exact ⟨eD.1 h.1.1.1, eD.1 h.1.1.2, h.1.2⟩
def aEr (n : Nat) (left : Int) : Int := if left - n < 0 then -1 else left - n
def aKv : List ModeI → Int → Int
 | [], left => left
 | x :: r, left => if aEr x.m.next.length left < 0 then -1 else aKv r (aEr x.m.next.length left)
def szM (xs : List ModeI) (left : Int) : Int := if left - xs.length < 0 then -1 else aKv xs (left - xs.length)
def iU (A : Option Addr) (c : Nat) (bs : List UInt8) (a : Nat) (sd : Int) : List Value := [.slice A bs.length c, .int .i64 (a : Nat), .int .i64 sd]
theorem aIe (b : UInt8) : (0 : Int) ≤ (b.toNat : Int) ∧ (b.toNat : Int) ≤ 255 := by have := b.toNat_lt; omega
theorem Own.cap {w : World} {lo n c s : Nat} {t : TypeId} {A : Option Addr} {cs : List Value} (h : Own w lo t s A n c cs) : n ≤ c := by
 rcases Nat.eq_zero_or_pos n with e | e
 · omega
 · obtain ⟨_, _, _, _, _, hn, _⟩ := h.form e; exact hn
theorem tF {α : Type} {enc : α → List Value} {s : Nat} (he : ∀ x, (enc x).length = s) : ∀ (xs : List α) (k : Nat), (xs.flatMap enc).drop (k * s) = (xs.drop k).flatMap enc
 | xs, 0 => by simp
 | [], k + 1 => by simp
 | x :: r, k + 1 => by
   rw [List.flatMap_cons, Nat.add_mul, Nat.one_mul, Nat.add_comm, List.drop_append, List.drop_of_length_le (by rw [he]; omega), he, List.nil_append, show s + k * s - s = k * s by omega, tF he r k]; rfl
theorem tG {α : Type} {enc : α → List Value} {s : Nat} (he : ∀ x, (enc x).length = s) : ∀ (xs : List α) (k : Nat), (xs.flatMap enc).take (k * s) = (xs.take k).flatMap enc
 | xs, 0 => by simp
 | [], k + 1 => by simp
 | x :: r, k + 1 => by
   rw [List.flatMap_cons, Nat.add_mul, Nat.one_mul, Nat.add_comm, List.take_append, List.take_of_length_le (by rw [he]; omega), he, show s + k * s - s = k * s by omega, tG he r k]; rfl
theorem zZ (A : Option Addr) : A.map (·.add 0) = A := by cases A <;> rfl
theorem Sl.part {α : Type} {enc : α → List Value} {s : Nat} {w : World} {B : Nat} {A : Option Addr} {xs : List α} (h : Sl B w A (xs.flatMap enc)) (he : ∀ x, (enc x).length = s) (l m c : Nat) (hm : c = l → m = 0) :
   Sl B w (if c = l then A else A.map (·.add (l * s))) (((xs.drop l).take m).flatMap enc) := by
 by_cases hc : c = l
 · rw [hm hc]; simp only [List.take_zero, List.flatMap_nil]; exact Sl.nil_ h.1 _
 · rw [if_neg hc]
   have h1 := h.cut (l * s) (m * s)
   rw [tF he, tG he] at h1
   by_cases h0 : l * s = 0
   · rw [if_pos h0] at h1; rw [h0, zZ]; exact h1
   · rw [if_neg h0] at h1; exact h1
section
variable {P : Program} {e : List (Nat × Value)} {w : World} {K : Value → World → Prop} {ty t el : TypeId} {x lo hi : Operand} {s : Nat} {α : Type} {enc : α → List Value} {B n c l h : Nat} {A : Option Addr} {xs : List α} {k1 k2 : IntKind} {m1 m2 : Int}
theorem rA (ht : xM P t = some (el, s)) : P.underlying t = some (.slice (P.elem t)) ∧ ∀ w, (sizeOf (P.elem t)).run P w = .ok s w := by
 obtain ⟨ti, hu, hti, hts⟩ := nX ht
 have he : P.elem t = el := by simp [Program.elem, hu]
 rw [he]
 exact ⟨hu, fun w => by simp only [kD hti, hts]⟩
theorem rB (ht : xM P t = some (el, s)) (hs : Sl B w A (xs.flatMap enc)) (he : ∀ x, (enc x).length = s) (hx : fF e x = some (.slice A n c)) (h1 : fF e lo = some (.int k1 m1)) (h2 : fF e hi = some (.int k2 m2)) (e1 : m1 = (l : Int)) (e2 : m2 = (h : Int))
   (hlh : l ≤ h) (hc : h ≤ c) (hK : ∀ A', Sl B w A' (((xs.drop l).take (h - l)).flatMap enc) → K (.slice A' (h - l) (c - l)) w) : OpWp P e (.slice t x (some lo) (some hi) none) ty w K := fun ρ d p a g hρ => by
 have g0 := hρ _ _ hx; have g1 := hρ _ _ h1; have g2 := hρ _ _ h2
 obtain ⟨hu, hsz⟩ := rA ht
 subst e1; subst e2
 have hr := run_slice_lh (P := P) (w := w) t A n c hu k1 k2 (l : Int) (h : Int) (by omega) (by omega) (by omega)
 simp only [execOp, g0, Option.map_some, Option.map_none, g1, g2, Sem.run_bind, run_sliceAt_slice w t _ _ _ _ hu, hr, hsz, Result.andThen_ok, Sem.run_pure, upto, sliced, Int.toNat_natCast]
 exact hK _ (hs.part he l (h - l) c (fun e => by omega))
theorem tH (ht : xM P t = some (el, s)) (hs : Sl B w A (xs.flatMap enc)) (he : ∀ x, (enc x).length = s) (hx : fF e x = some (.slice A n c)) (h1 : fF e lo = some (.int k1 m1)) (e1 : m1 = (l : Int)) (hn : n = xs.length)
   (hlh : l ≤ n) (hc : n ≤ c) (hK : ∀ A', Sl B w A' ((xs.drop l).flatMap enc) → K (.slice A' (n - l) (c - l)) w) : OpWp P e (.slice t x (some lo) none none) ty w K := fun ρ d p a g hρ => by
 have g0 := hρ _ _ hx; have g1 := hρ _ _ h1
 obtain ⟨hu, hsz⟩ := rA ht
 subst e1
 have hr := run_slice_l (P := P) (w := w) t A n c hu k1 (l : Int) (by omega) (by omega)
 simp only [execOp, g0, Option.map_some, Option.map_none, g1, Sem.run_bind, run_sliceAt_slice w t _ _ _ _ hu, hr, hsz, Result.andThen_ok, Sem.run_pure, upto, sliced, Int.toNat_natCast]
 have h3 := hs.part he l (n - l) c (fun e => by omega)
 rw [List.take_of_length_le (by simp; omega)] at h3
 exact hK _ h3
theorem aAX (ht : xM P t = some (el, s)) (hs : Sl B w A (xs.flatMap enc)) (he : ∀ x, (enc x).length = s) (hx : fF e x = some (.slice A n c)) (h2 : fF e hi = some (.int k2 m2)) (e2 : m2 = (h : Int))
   (hc : h ≤ c) (hK : ∀ A', Sl B w A' ((xs.take h).flatMap enc) → K (.slice A' h c) w) : OpWp P e (.slice t x none (some hi) none) ty w K := fun ρ d p a g hρ => by
 have g0 := hρ _ _ hx; have g2 := hρ _ _ h2
 obtain ⟨hu, hsz⟩ := rA ht
 subst e2
 have hr := run_slice_h (P := P) (w := w) t A n c hu k2 (h : Int) (by omega) (by omega)
 simp only [execOp, g0, Option.map_some, Option.map_none, g2, Sem.run_bind, run_sliceAt_slice w t _ _ _ _ hu, hr, hsz, Result.andThen_ok, Sem.run_pure, upto, sliced, Int.toNat_natCast]
 have h3 := hs.part he 0 h c (fun e => by omega)
 rw [List.drop_zero] at h3
 exact hK _ h3
end
end Go.Proofs.YtdoibplhbdkapaaGreatDoor
