/- Parts. No condition. -/
import Derived.Test.YtdoibplhbdkapaaGreatDoorDOP2
import Derived.Test.YtdoibplhbdkapaaGreatDoorRows
import Derived.Test.YtdoibplhbdkapaaGreatDoorDOP3
namespace Go.Proofs.YtdoibplhbdkapaaGreatDoor
open Go.RowKit
theorem dB : pN Tryz.prog 2 = some (false, 1, 8, [.int .i64 0]) := by kernel_rfl
theorem ti3 : pN Tryz.prog 3 = some (false, 1, 8, [.int .i64 0]) := by kernel_rfl
theorem xO : pN Tryz.prog 4 = some (false, 1, 1, [.bool false]) := by kernel_rfl
theorem ti5 : pN Tryz.prog 5 = some (false, 1, 1, [.int .u8 0]) := by kernel_rfl
theorem yA : pN Tryz.prog 9 = some (false, 1, 16, [.string ByteArray.empty]) := by kernel_rfl
theorem aJI : pN Tryz.prog 22 = some (false, 1, 24, [.slice none 0 0]) := by kernel_rfl
theorem aCs : elO Tryz.prog 22 = some (5, 1) := by kernel_rfl
theorem zS : pN Tryz.prog 24 = some (false, 1, 24, [.slice none 0 0]) := by kernel_rfl
theorem lO : elO Tryz.prog 24 = some (59, 4) := by kernel_rfl
theorem tZ : pN Tryz.prog 25 = some (false, 1, 24, [.slice none 0 0]) := by kernel_rfl
theorem kX : elO Tryz.prog 25 = some (92, 3) := by kernel_rfl
theorem kY : pN Tryz.prog 26 = some (false, 1, 24, [.slice none 0 0]) := by kernel_rfl
theorem gF : elO Tryz.prog 26 = some (89, 8) := by kernel_rfl
theorem dW : pN Tryz.prog 28 = some (true, 4, 80, [.int .i64 0, .slice none 0 0, .slice none 0 0, .slice none 0 0]) := by kernel_rfl
theorem nJ : plO Tryz.prog 28 = some [(0, 1), (1, 1), (2, 1), (3, 1)] := by kernel_rfl
theorem pL : lZ Tryz.prog 28 0 = some 0 := by kernel_rfl
theorem lY : lZ Tryz.prog 28 1 = some 1 := by kernel_rfl
theorem jF : lZ Tryz.prog 28 2 = some 2 := by kernel_rfl
theorem fI : lZ Tryz.prog 28 3 = some 3 := by kernel_rfl
theorem mD : pN Tryz.prog 30 = some (false, 1, 24, [.slice none 0 0]) := by kernel_rfl
theorem cQ : elO Tryz.prog 30 = some (2, 1) := by kernel_rfl
theorem kE : pN Tryz.prog 59 = some (true, 4, 40, [.int .i64 0, .string ByteArray.empty, .int .i64 0, .bool false]) := by kernel_rfl
theorem aHe : plO Tryz.prog 59 = some [(0, 1), (1, 1), (2, 1), (3, 1)] := by kernel_rfl
theorem lC : lZ Tryz.prog 59 0 = some 0 := by kernel_rfl
theorem gG : lZ Tryz.prog 59 1 = some 1 := by kernel_rfl
theorem lD : lZ Tryz.prog 59 2 = some 2 := by kernel_rfl
theorem sO : lZ Tryz.prog 59 3 = some 3 := by kernel_rfl
theorem fU : pN Tryz.prog 67 = some (true, 5, 40, [.int .i64 0, .int .i64 0, .int .i64 0, .int .i64 0, .bool false]) := by kernel_rfl
theorem aCt : plO Tryz.prog 67 = some [(0, 1), (1, 1), (2, 1), (3, 1), (4, 1)] := by kernel_rfl
theorem kA : lZ Tryz.prog 67 0 = some 0 := by kernel_rfl
theorem fM : lZ Tryz.prog 67 1 = some 1 := by kernel_rfl
theorem jP : lZ Tryz.prog 67 2 = some 2 := by kernel_rfl
theorem fC : lZ Tryz.prog 67 3 = some 3 := by kernel_rfl
theorem sQ : lZ Tryz.prog 67 4 = some 4 := by kernel_rfl
theorem eQ : pN Tryz.prog 89 = some (true, 8, 64, [.int .i64 0, .int .i64 0, .int .i64 0, .int .i64 0, .int .i64 0, .int .i64 0, .int .i64 0, .bool false]) := by kernel_rfl
theorem qY : plO Tryz.prog 89 = some [(0, 1), (1, 1), (2, 1), (3, 5)] := by kernel_rfl
theorem iA : lZ Tryz.prog 89 0 = some 0 := by kernel_rfl
theorem kP : lZ Tryz.prog 89 1 = some 1 := by kernel_rfl
theorem kB : lZ Tryz.prog 89 2 = some 2 := by kernel_rfl
theorem iN : lZ Tryz.prog 89 3 = some 3 := by kernel_rfl
theorem iO : pN Tryz.prog 92 = some (true, 3, 40, [.int .i64 0, .int .i64 0, .slice none 0 0]) := by kernel_rfl
theorem aF3 : plO Tryz.prog 92 = some [(0, 1), (1, 1), (2, 1)] := by kernel_rfl
theorem kQ : lZ Tryz.prog 92 0 = some 0 := by kernel_rfl
theorem iP : lZ Tryz.prog 92 1 = some 1 := by kernel_rfl
theorem lE : lZ Tryz.prog 92 2 = some 2 := by kernel_rfl
theorem aHf : pN Tryz.prog 107 = some (false, 1, 24, [.slice none 0 0]) := by kernel_rfl
theorem sX : elO Tryz.prog 107 = some (30, 1) := by kernel_rfl
theorem aLa : pN Tryz.prog 148 = some (true, 3, 40, [.slice none 0 0, .int .i64 0, .int .i64 0]) := by kernel_rfl
theorem aLb : plO Tryz.prog 148 = some [(0, 1), (1, 1), (2, 1)] := by kernel_rfl
theorem aAY : lZ Tryz.prog 148 0 = some 0 := by kernel_rfl
theorem rJ : lZ Tryz.prog 148 1 = some 1 := by kernel_rfl
theorem uA : lZ Tryz.prog 148 2 = some 2 := by kernel_rfl
theorem aHg : pN Tryz.prog 166 = some (true, 3, 40, [.slice none 0 0, .int .i64 0, .bool false]) := by kernel_rfl
theorem aHh : plO Tryz.prog 166 = some [(0, 1), (1, 1), (2, 1)] := by kernel_rfl
theorem aAZ : lZ Tryz.prog 166 0 = some 0 := by kernel_rfl
theorem kF : lZ Tryz.prog 166 1 = some 1 := by kernel_rfl
theorem jG : lZ Tryz.prog 166 2 = some 2 := by kernel_rfl
theorem zF : pN Tryz.prog 218 = some (true, 2, 16, [.int .i64 0, .int .i64 0]) := by kernel_rfl
theorem aIZ : plO Tryz.prog 218 = some [(0, 1), (1, 1)] := by kernel_rfl
theorem aA0 : lZ Tryz.prog 218 0 = some 0 := by kernel_rfl
theorem aDv : lZ Tryz.prog 218 1 = some 1 := by kernel_rfl
theorem aLc : bQ Tryz.prog 11 := aZ Tryz.func11 (by kernel_rfl) (by kernel_rfl)
theorem aLd : bQ Tryz.prog 13 := aZ Tryz.func13 (by kernel_rfl) (by kernel_rfl)
theorem aI0 : bQ Tryz.prog 17 := aZ Tryz.func17 (by kernel_rfl) (by kernel_rfl)
theorem aI1 : bQ Tryz.prog 18 := aZ Tryz.func18 (by kernel_rfl) (by kernel_rfl)
theorem aI2 : bQ Tryz.prog 19 := aZ Tryz.func19 (by kernel_rfl) (by kernel_rfl)
theorem aLe : bQ Tryz.prog 20 := aZ Tryz.func20 (by kernel_rfl) (by kernel_rfl)
theorem aLf : bQ Tryz.prog 21 := aZ Tryz.func21 (by kernel_rfl) (by kernel_rfl)
theorem aLg : bQ Tryz.prog 22 := aZ Tryz.func22 (by kernel_rfl) (by kernel_rfl)
theorem aLh : bQ Tryz.prog 29 := aZ Tryz.func29 (by kernel_rfl) (by kernel_rfl)
theorem aLi : bQ Tryz.prog 30 := aZ Tryz.func30 (by kernel_rfl) (by kernel_rfl)
theorem aLj : bQ Tryz.prog 31 := aZ Tryz.func31 (by kernel_rfl) (by kernel_rfl)
theorem aLk : bQ Tryz.prog 32 := aZ Tryz.func32 (by kernel_rfl) (by kernel_rfl)
theorem aFc : bQ Tryz.prog 33 := aZ Tryz.func33 (by kernel_rfl) (by kernel_rfl)
theorem aLl : bQ Tryz.prog 41 := aZ Tryz.func41 (by kernel_rfl) (by kernel_rfl)
theorem aI3 : bQ Tryz.prog 64 := aZ Tryz.func64 (by kernel_rfl) (by kernel_rfl)
theorem fS : bQ Tryz.prog 65 := aZ Tryz.func65 (by kernel_rfl) (by kernel_rfl)
theorem aI4 : bQ Tryz.prog 66 := aZ Tryz.func66 (by kernel_rfl) (by kernel_rfl)
theorem aLm : bQ Tryz.prog 68 := aZ Tryz.func68 (by kernel_rfl) (by kernel_rfl)
theorem aI5 : bQ Tryz.prog 69 := aZ Tryz.func69 (by kernel_rfl) (by kernel_rfl)
theorem aLn : bQ Tryz.prog 70 := aZ Tryz.func70 (by kernel_rfl) (by kernel_rfl)
theorem aHi : bQ Tryz.prog 71 := aZ Tryz.func71 (by kernel_rfl) (by kernel_rfl)
theorem aI6 : bQ Tryz.prog 72 := aZ Tryz.func72 (by kernel_rfl) (by kernel_rfl)
theorem aFd : bQ Tryz.prog 73 := aZ Tryz.func73 (by kernel_rfl) (by kernel_rfl)
theorem aHj : bQ Tryz.prog 74 := aZ Tryz.func74 (by kernel_rfl) (by kernel_rfl)
theorem aFe : bQ Tryz.prog 75 := aZ Tryz.func75 (by kernel_rfl) (by kernel_rfl)
theorem aI7 : bQ Tryz.prog 76 := aZ Tryz.func76 (by kernel_rfl) (by kernel_rfl)
theorem aI8 : bQ Tryz.prog 77 := aZ Tryz.func77 (by kernel_rfl) (by kernel_rfl)
theorem aI9 : bQ Tryz.prog 78 := aZ Tryz.func78 (by kernel_rfl) (by kernel_rfl)
theorem aLo : bQ Tryz.prog 79 := aZ Tryz.func79 (by kernel_rfl) (by kernel_rfl)
theorem aLp : bQ Tryz.prog 80 := aZ Tryz.func80 (by kernel_rfl) (by kernel_rfl)
theorem aLq : bQ Tryz.prog 81 := aZ Tryz.func81 (by kernel_rfl) (by kernel_rfl)
theorem aLr : bQ Tryz.prog 82 := aZ Tryz.func82 (by kernel_rfl) (by kernel_rfl)
theorem aJa : bQ Tryz.prog 83 := aZ Tryz.func83 (by kernel_rfl) (by kernel_rfl)
theorem aJb : bQ Tryz.prog 84 := aZ Tryz.func84 (by kernel_rfl) (by kernel_rfl)
theorem aHk : bQ Tryz.prog 85 := aZ Tryz.func85 (by kernel_rfl) (by kernel_rfl)
theorem aLs : bQ Tryz.prog 86 := aZ Tryz.func86 (by kernel_rfl) (by kernel_rfl)
theorem aJc : bQ Tryz.prog 87 := aZ Tryz.func87 (by kernel_rfl) (by kernel_rfl)
theorem aLt : bQ Tryz.prog 97 := aZ Tryz.func97 (by kernel_rfl) (by kernel_rfl)
theorem aFf : bQ Tryz.prog 98 := aZ Tryz.func98 (by kernel_rfl) (by kernel_rfl)
theorem aJd : bQ Tryz.prog 99 := aZ Tryz.func99 (by kernel_rfl) (by kernel_rfl)
theorem aHl : bQ Tryz.prog 100 := aZ Tryz.func100 (by kernel_rfl) (by kernel_rfl)
theorem aCu : bQ Tryz.prog 101 := aZ Tryz.func101 (by kernel_rfl) (by kernel_rfl)
theorem aEn : bQ Tryz.prog 102 := aZ Tryz.func102 (by kernel_rfl) (by kernel_rfl)
theorem aJJ : bQ Tryz.prog 103 := aZ Tryz.func103 (by kernel_rfl) (by kernel_rfl)
theorem aEo : bQ Tryz.prog 104 := aZ Tryz.func104 (by kernel_rfl) (by kernel_rfl)
theorem aJK : bQ Tryz.prog 105 := aZ Tryz.func105 (by kernel_rfl) (by kernel_rfl)
theorem aJL : bQ Tryz.prog 106 := aZ Tryz.func106 (by kernel_rfl) (by kernel_rfl)
theorem aJM : bQ Tryz.prog 107 := aZ Tryz.func107 (by kernel_rfl) (by kernel_rfl)
theorem nK : bQ Tryz.prog 109 := aZ Tryz.func109 (by kernel_rfl) (by kernel_rfl)
theorem kC : bQ Tryz.prog 111 := aZ Tryz.func111 (by kernel_rfl) (by kernel_rfl)
theorem aEp : bQ Tryz.prog 113 := aZ Tryz.func113 (by kernel_rfl) (by kernel_rfl)
theorem aHm : bQ Tryz.prog 114 := aZ Tryz.func114 (by kernel_rfl) (by kernel_rfl)
theorem aHn : bQ Tryz.prog 116 := aZ Tryz.func116 (by kernel_rfl) (by kernel_rfl)
theorem aJN : bQ Tryz.prog 117 := aZ Tryz.func117 (by kernel_rfl) (by kernel_rfl)
theorem aJO : bQ Tryz.prog 120 := aZ Tryz.func120 (by kernel_rfl) (by kernel_rfl)
theorem aJP : bQ Tryz.prog 146 := aZ Tryz.func146 (by kernel_rfl) (by kernel_rfl)
theorem aHo : bQ Tryz.prog 147 := aZ Tryz.func147 (by kernel_rfl) (by kernel_rfl)
theorem aEq : bQ Tryz.prog 148 := aZ Tryz.func148 (by kernel_rfl) (by kernel_rfl)
theorem aJQ : bQ Tryz.prog 149 := aZ Tryz.func149 (by kernel_rfl) (by kernel_rfl)
theorem aJR : bQ Tryz.prog 150 := aZ Tryz.func150 (by kernel_rfl) (by kernel_rfl)
theorem aHp : bQ Tryz.prog 151 := aZ Tryz.func151 (by kernel_rfl) (by kernel_rfl)
theorem aHq : bQ Tryz.prog 152 := aZ Tryz.func152 (by kernel_rfl) (by kernel_rfl)
theorem aA1 : bQ Tryz.prog 153 := aZ Tryz.func153 (by kernel_rfl) (by kernel_rfl)
theorem aJS : bQ Tryz.prog 154 := aZ Tryz.func154 (by kernel_rfl) (by kernel_rfl)
theorem aHr : bQ Tryz.prog 155 := aZ Tryz.func155 (by kernel_rfl) (by kernel_rfl)
theorem aJT : bQ Tryz.prog 156 := aZ Tryz.func156 (by kernel_rfl) (by kernel_rfl)
theorem aJU : bQ Tryz.prog 157 := aZ Tryz.func157 (by kernel_rfl) (by kernel_rfl)
theorem uB : bQ Tryz.prog 158 := aZ Tryz.func158 (by kernel_rfl) (by kernel_rfl)
theorem aJV : bQ Tryz.prog 159 := aZ Tryz.func159 (by kernel_rfl) (by kernel_rfl)
theorem mW : bQ Tryz.prog 160 := aZ Tryz.func160 (by kernel_rfl) (by kernel_rfl)
theorem aEr : bQ Tryz.prog 161 := aZ Tryz.func161 (by kernel_rfl) (by kernel_rfl)
theorem aHs : bQ Tryz.prog 162 := aZ Tryz.func162 (by kernel_rfl) (by kernel_rfl)
theorem aEs : bQ Tryz.prog 163 := aZ Tryz.func163 (by kernel_rfl) (by kernel_rfl)
theorem aJW : bQ Tryz.prog 164 := aZ Tryz.func164 (by kernel_rfl) (by kernel_rfl)
theorem aCv : bQ Tryz.prog 165 := aZ Tryz.func165 (by kernel_rfl) (by kernel_rfl)
theorem aJX : bQ Tryz.prog 166 := aZ Tryz.func166 (by kernel_rfl) (by kernel_rfl)
theorem aJY : bQ Tryz.prog 167 := aZ Tryz.func167 (by kernel_rfl) (by kernel_rfl)
theorem aEt : bQ Tryz.prog 168 := aZ Tryz.func168 (by kernel_rfl) (by kernel_rfl)
theorem aJZ : bQ Tryz.prog 169 := aZ Tryz.func169 (by kernel_rfl) (by kernel_rfl)
theorem aJ0 : bQ Tryz.prog 170 := aZ Tryz.func170 (by kernel_rfl) (by kernel_rfl)
theorem aJ1 : bQ Tryz.prog 171 := aZ Tryz.func171 (by kernel_rfl) (by kernel_rfl)
theorem aJ2 : bQ Tryz.prog 172 := aZ Tryz.func172 (by kernel_rfl) (by kernel_rfl)
theorem aHt : bQ Tryz.prog 177 := aZ Tryz.func177 (by kernel_rfl) (by kernel_rfl)
theorem aJ3 : bQ Tryz.prog 178 := aZ Tryz.func178 (by kernel_rfl) (by kernel_rfl)
theorem aJ4 : bQ Tryz.prog 179 := aZ Tryz.func179 (by kernel_rfl) (by kernel_rfl)
theorem aHu : bQ Tryz.prog 180 := aZ Tryz.func180 (by kernel_rfl) (by kernel_rfl)
theorem aCw : bQ Tryz.prog 181 := aZ Tryz.func181 (by kernel_rfl) (by kernel_rfl)
theorem aCx : bQ Tryz.prog 182 := aZ Tryz.func182 (by kernel_rfl) (by kernel_rfl)
theorem aJ5 : bQ Tryz.prog 183 := aZ Tryz.func183 (by kernel_rfl) (by kernel_rfl)
theorem aJ6 : bQ Tryz.prog 184 := aZ Tryz.func184 (by kernel_rfl) (by kernel_rfl)
theorem aJ7 : bQ Tryz.prog 185 := aZ Tryz.func185 (by kernel_rfl) (by kernel_rfl)
theorem aHv : bQ Tryz.prog 186 := aZ Tryz.func186 (by kernel_rfl) (by kernel_rfl)
theorem aJ8 : bQ Tryz.prog 187 := aZ Tryz.func187 (by kernel_rfl) (by kernel_rfl)
theorem aJ9 : bQ Tryz.prog 188 := aZ Tryz.func188 (by kernel_rfl) (by kernel_rfl)
theorem aKa : bQ Tryz.prog 189 := aZ Tryz.func189 (by kernel_rfl) (by kernel_rfl)
theorem aHw : bQ Tryz.prog 190 := aZ Tryz.func190 (by kernel_rfl) (by kernel_rfl)
theorem aKb : bQ Tryz.prog 191 := aZ Tryz.func191 (by kernel_rfl) (by kernel_rfl)
theorem aKc : bQ Tryz.prog 196 := aZ Tryz.func196 (by kernel_rfl) (by kernel_rfl)
theorem aKd : bQ Tryz.prog 197 := aZ Tryz.func197 (by kernel_rfl) (by kernel_rfl)
theorem aHx : bQ Tryz.prog 198 := aZ Tryz.func198 (by kernel_rfl) (by kernel_rfl)
theorem aKe : bQ Tryz.prog 199 := aZ Tryz.func199 (by kernel_rfl) (by kernel_rfl)
theorem aKf : bQ Tryz.prog 205 := aZ Tryz.func205 (by kernel_rfl) (by kernel_rfl)
theorem yB : bQ Tryz.prog 215 := aZ Tryz.func215 (by kernel_rfl) (by kernel_rfl)
theorem aKg : bQ Tryz.prog 216 := aZ Tryz.func216 (by kernel_rfl) (by kernel_rfl)
theorem aHy : bQ Tryz.prog 217 := aZ Tryz.func217 (by kernel_rfl) (by kernel_rfl)
theorem aKh : bQ Tryz.prog 218 := aZ Tryz.func218 (by kernel_rfl) (by kernel_rfl)
theorem aKi : bQ Tryz.prog 219 := aZ Tryz.func219 (by kernel_rfl) (by kernel_rfl)
theorem aKj : bQ Tryz.prog 220 := aZ Tryz.func220 (by kernel_rfl) (by kernel_rfl)
theorem aKk : bQ Tryz.prog 221 := aZ Tryz.func221 (by kernel_rfl) (by kernel_rfl)
theorem aKl : bQ Tryz.prog 222 := aZ Tryz.func222 (by kernel_rfl) (by kernel_rfl)
theorem aKm : bQ Tryz.prog 223 := aZ Tryz.func223 (by kernel_rfl) (by kernel_rfl)
theorem aHz : bQ Tryz.prog 224 := aZ Tryz.func224 (by kernel_rfl) (by kernel_rfl)
theorem aHA : bQ Tryz.prog 225 := aZ Tryz.func225 (by kernel_rfl) (by kernel_rfl)
theorem aHB : bQ Tryz.prog 226 := aZ Tryz.func226 (by kernel_rfl) (by kernel_rfl)
theorem aKn : bQ Tryz.prog 227 := aZ Tryz.func227 (by kernel_rfl) (by kernel_rfl)
theorem aKo : bQ Tryz.prog 228 := aZ Tryz.func228 (by kernel_rfl) (by kernel_rfl)
theorem aKp : bQ Tryz.prog 229 := aZ Tryz.func229 (by kernel_rfl) (by kernel_rfl)
theorem aKq : bQ Tryz.prog 230 := aZ Tryz.func230 (by kernel_rfl) (by kernel_rfl)
theorem aKr : bQ Tryz.prog 231 := aZ Tryz.func231 (by kernel_rfl) (by kernel_rfl)
theorem aHC : bQ Tryz.prog 232 := aZ Tryz.func232 (by kernel_rfl) (by kernel_rfl)
theorem aKs : bQ Tryz.prog 233 := aZ Tryz.func233 (by kernel_rfl) (by kernel_rfl)
theorem aKt : bQ Tryz.prog 234 := aZ Tryz.func234 (by kernel_rfl) (by kernel_rfl)
theorem aKu : bQ Tryz.prog 235 := aZ Tryz.func235 (by kernel_rfl) (by kernel_rfl)
theorem aKv : bQ Tryz.prog 236 := aZ Tryz.func236 (by kernel_rfl) (by kernel_rfl)
theorem aHD : bQ Tryz.prog 237 := aZ Tryz.func237 (by kernel_rfl) (by kernel_rfl)
theorem aKw : bQ Tryz.prog 238 := aZ Tryz.func238 (by kernel_rfl) (by kernel_rfl)
theorem aHE : bQ Tryz.prog 239 := aZ Tryz.func239 (by kernel_rfl) (by kernel_rfl)
theorem aEu : bQ Tryz.prog 240 := aZ Tryz.func240 (by kernel_rfl) (by kernel_rfl)
theorem aKx : bQ Tryz.prog 241 := aZ Tryz.func241 (by kernel_rfl) (by kernel_rfl)
theorem aKy : bQ Tryz.prog 243 := aZ Tryz.func243 (by kernel_rfl) (by kernel_rfl)
theorem aKz : bQ Tryz.prog 244 := aZ Tryz.func244 (by kernel_rfl) (by kernel_rfl)
theorem aEv : bQ Tryz.prog 245 := aZ Tryz.func245 (by kernel_rfl) (by kernel_rfl)
theorem aHF : bQ Tryz.prog 246 := aZ Tryz.func246 (by kernel_rfl) (by kernel_rfl)
theorem aEw : bQ Tryz.prog 247 := aZ Tryz.func247 (by kernel_rfl) (by kernel_rfl)
theorem aKA : bQ Tryz.prog 248 := aZ Tryz.func248 (by kernel_rfl) (by kernel_rfl)
theorem aKB : bQ Tryz.prog 249 := aZ Tryz.func249 (by kernel_rfl) (by kernel_rfl)
theorem aKC : bQ Tryz.prog 256 := aZ Tryz.func256 (by kernel_rfl) (by kernel_rfl)
theorem aKD : bQ Tryz.prog 257 := aZ Tryz.func257 (by kernel_rfl) (by kernel_rfl)
theorem aKE : bQ Tryz.prog 258 := aZ Tryz.func258 (by kernel_rfl) (by kernel_rfl)
theorem aKF : bQ Tryz.prog 259 := aZ Tryz.func259 (by kernel_rfl) (by kernel_rfl)
theorem aKG : bQ Tryz.prog 260 := aZ Tryz.func260 (by kernel_rfl) (by kernel_rfl)
theorem aKH : bQ Tryz.prog 261 := aZ Tryz.func261 (by kernel_rfl) (by kernel_rfl)
theorem aKI : bQ Tryz.prog 262 := aZ Tryz.func262 (by kernel_rfl) (by kernel_rfl)
theorem aKJ : bQ Tryz.prog 263 := aZ Tryz.func263 (by kernel_rfl) (by kernel_rfl)
theorem aHG : bQ Tryz.prog 264 := aZ Tryz.func264 (by kernel_rfl) (by kernel_rfl)
theorem aEx : bQ Tryz.prog 265 := aZ Tryz.func265 (by kernel_rfl) (by kernel_rfl)
theorem aHH : bQ Tryz.prog 266 := aZ Tryz.func266 (by kernel_rfl) (by kernel_rfl)
theorem aKK : bQ Tryz.prog 274 := aZ Tryz.func274 (by kernel_rfl) (by kernel_rfl)
theorem aHI : bQ Tryz.prog 275 := aZ Tryz.func275 (by kernel_rfl) (by kernel_rfl)
theorem aKL : bQ Tryz.prog 276 := aZ Tryz.func276 (by kernel_rfl) (by kernel_rfl)
theorem aKM : bQ Tryz.prog 277 := aZ Tryz.func277 (by kernel_rfl) (by kernel_rfl)
theorem aKN : bQ Tryz.prog 278 := aZ Tryz.func278 (by kernel_rfl) (by kernel_rfl)
theorem aKO : bQ Tryz.prog 279 := aZ Tryz.func279 (by kernel_rfl) (by kernel_rfl)
theorem aKP : bQ Tryz.prog 284 := aZ Tryz.func284 (by kernel_rfl) (by kernel_rfl)
theorem aHJ : bQ Tryz.prog 285 := aZ Tryz.func285 (by kernel_rfl) (by kernel_rfl)
theorem mixed : Tryz.prog.follows .mixedOrders = true := by kernel_rfl
set_option linter.unusedVariables false
theorem Own.cap {w : World} {lo n c s : Nat} {t : TypeId} {A : Option Addr} {cs : List Value} (h : Own w lo t s A n c cs) : n ≤ c := by
 rcases Nat.eq_zero_or_pos n with e | e
 · omega
 · obtain ⟨_, _, _, _, _, hn, _⟩ := h.form e; exact hn
theorem yC {α : Type} {enc : α → List Value} {s : Nat} (he : ∀ x, (enc x).length = s) : ∀ (xs : List α) (k : Nat), (xs.flatMap enc).drop (k * s) = (xs.drop k).flatMap enc
 | xs, 0 => by simp
 | [], k + 1 => by simp
 | x :: r, k + 1 => by
   rw [List.flatMap_cons, Nat.add_mul, Nat.one_mul, Nat.add_comm, List.drop_append, List.drop_of_length_le (by rw [he]; omega), he, List.nil_append, show s + k * s - s = k * s by omega, yC he r k]; rfl
theorem mK {α : Type} {enc : α → List Value} {s : Nat} (he : ∀ x, (enc x).length = s) : ∀ (xs : List α) (k : Nat), (xs.flatMap enc).take (k * s) = (xs.take k).flatMap enc
 | xs, 0 => by simp
 | [], k + 1 => by simp
 | x :: r, k + 1 => by
   rw [List.flatMap_cons, Nat.add_mul, Nat.one_mul, Nat.add_comm, List.take_append, List.take_of_length_le (by rw [he]; omega), he, show s + k * s - s = k * s by omega, mK he r k]; rfl
theorem aA2 (A : Option Addr) : A.map (·.add 0) = A := by cases A <;> rfl
theorem Sl.part {α : Type} {enc : α → List Value} {s : Nat} {w : World} {B : Nat} {A : Option Addr} {xs : List α} (h : Sl B w A (xs.flatMap enc)) (he : ∀ x, (enc x).length = s) (l m c : Nat) (hm : c = l → m = 0) :
   Sl B w (if c = l then A else A.map (·.add (l * s))) (((xs.drop l).take m).flatMap enc) := by
 by_cases hc : c = l
 · rw [hm hc]; simp only [List.take_zero, List.flatMap_nil]; exact Sl.nil_ h.1 _
 · rw [if_neg hc]
   have h1 := h.cut (l * s) (m * s)
   rw [yC he, mK he] at h1
   by_cases h0 : l * s = 0
   · rw [if_pos h0] at h1; rw [h0, aA2]; exact h1
   · rw [if_neg h0] at h1; exact h1
section
variable {P : Program} {e : List (Nat × Value)} {w : World} {K : Value → World → Prop} {ty t el : TypeId} {x lo hi : Operand} {s : Nat} {α : Type} {enc : α → List Value} {B n c l h : Nat} {A : Option Addr} {xs : List α} {k1 k2 : IntKind} {m1 m2 : Int}
theorem uX (ht : elO P t = some (el, s)) : P.underlying t = some (.slice (P.elem t)) ∧ ∀ w, (sizeOf (P.elem t)).run P w = .ok s w := by
 obtain ⟨ti, hu, hti, hts⟩ := pW ht
 have he : P.elem t = el := by simp [Program.elem, hu]
 rw [he]
 exact ⟨hu, fun w => by simp only [kT hti, hts]⟩
theorem kZ (ht : elO P t = some (el, s)) (hs : Sl B w A (xs.flatMap enc)) (he : ∀ x, (enc x).length = s) (hx : fV e x = some (.slice A n c)) (h1 : fV e lo = some (.int k1 m1)) (h2 : fV e hi = some (.int k2 m2)) (e1 : m1 = (l : Int)) (e2 : m2 = (h : Int))
   (hlh : l ≤ h) (hc : h ≤ c) (hK : ∀ A', Sl B w A' (((xs.drop l).take (h - l)).flatMap enc) → K (.slice A' (h - l) (c - l)) w) : OpWp P e (.slice t x (some lo) (some hi) none) ty w K := fun ρ d p a g hρ => by
 have g0 := hρ _ _ hx; have g1 := hρ _ _ h1; have g2 := hρ _ _ h2
 obtain ⟨hu, hsz⟩ := uX ht
 subst e1; subst e2
 have hr := run_slice_lh (P := P) (w := w) t A n c hu k1 k2 (l : Int) (h : Int) (by omega) (by omega) (by omega)
 simp only [execOp, g0, Option.map_some, Option.map_none, g1, g2, Sem.run_bind, run_sliceAt_slice w t _ _ _ _ hu, hr, hsz, Result.andThen_ok, Sem.run_pure, upto, sliced, Int.toNat_natCast]
 exact hK _ (hs.part he l (h - l) c (fun e => by omega))
theorem kI (ht : elO P t = some (el, s)) (hs : Sl B w A (xs.flatMap enc)) (he : ∀ x, (enc x).length = s) (hx : fV e x = some (.slice A n c)) (h1 : fV e lo = some (.int k1 m1)) (e1 : m1 = (l : Int)) (hn : n = xs.length)
   (hlh : l ≤ n) (hc : n ≤ c) (hK : ∀ A', Sl B w A' ((xs.drop l).flatMap enc) → K (.slice A' (n - l) (c - l)) w) : OpWp P e (.slice t x (some lo) none none) ty w K := fun ρ d p a g hρ => by
 have g0 := hρ _ _ hx; have g1 := hρ _ _ h1
 obtain ⟨hu, hsz⟩ := uX ht
 subst e1
 have hr := run_slice_l (P := P) (w := w) t A n c hu k1 (l : Int) (by omega) (by omega)
 simp only [execOp, g0, Option.map_some, Option.map_none, g1, Sem.run_bind, run_sliceAt_slice w t _ _ _ _ hu, hr, hsz, Result.andThen_ok, Sem.run_pure, upto, sliced, Int.toNat_natCast]
 have h3 := hs.part he l (n - l) c (fun e => by omega)
 rw [List.take_of_length_le (by simp; omega)] at h3
 exact hK _ h3
theorem yE (ht : elO P t = some (el, s)) (hs : Sl B w A (xs.flatMap enc)) (he : ∀ x, (enc x).length = s) (hx : fV e x = some (.slice A n c)) (h2 : fV e hi = some (.int k2 m2)) (e2 : m2 = (h : Int))
   (hc : h ≤ c) (hK : ∀ A', Sl B w A' ((xs.take h).flatMap enc) → K (.slice A' h c) w) : OpWp P e (.slice t x none (some hi) none) ty w K := fun ρ d p a g hρ => by
 have g0 := hρ _ _ hx; have g2 := hρ _ _ h2
 obtain ⟨hu, hsz⟩ := uX ht
 subst e2
 have hr := run_slice_h (P := P) (w := w) t A n c hu k2 (h : Int) (by omega) (by omega)
 simp only [execOp, g0, Option.map_some, Option.map_none, g2, Sem.run_bind, run_sliceAt_slice w t _ _ _ _ hu, hr, hsz, Result.andThen_ok, Sem.run_pure, upto, sliced, Int.toNat_natCast]
 have h3 := hs.part he 0 h c (fun e => by omega)
 rw [List.drop_zero] at h3
 exact hK _ h3
end
set_option linter.unusedSimpArgs false
theorem dY : ∀ (xs : List Int), ∀ u ∈ xs.flatMap eI, u.oneCell' = true := fun xs u hu => by
 obtain ⟨x, _, h⟩ := List.mem_flatMap.1 hu
 have : u = .int .i64 x := by simpa [eI] using h
 subst this; rfl
section
variable {P : Program} {e : List (Nat × Value)} {ty : TypeId} {w : World} {K : Value → World → Prop} {x y : Operand} {t el : TypeId} {s b : Nat} {z : List Value} {a : Bool}
theorem sR {ts : Array TypeId} {lo B n c n' c' : Nat} {A A' : Option Addr} {cs ds : List Value} (hown : Own w lo el s A n c cs) (hlo : lo ≤ w.heap.size) (hsrc : Sl B w A' ds) (hdl : ds.length = n' * s) (hd1 : ∀ u ∈ ds, u.oneCell' = true)
   (ht : elO P t = some (el, s)) (hi : pN P el = some (a, s, b, z)) (hzl : Nat.beq z.length s = true) (h0 : Nat.blt 0 s = true) (hx : fV e x = some (.slice A n c)) (hy : fV e y = some (.slice A' n' c'))
   (hb : (n + n') * b ≤ 140737488355328) (hm : n + n' ≤ 9223372036854775807)
   (h : ∀ A1 c1 w', Own w' lo el s A1 (n + n') c1 (cs ++ ds) → w.grownBy w' ((Value.slice A n c).ownBlock) → ((Value.slice A1 (n + n') c1).ownBlock = (Value.slice A n c).ownBlock ∨ (Value.slice A1 (n + n') c1).ownBlock = some w.heap.size) → K (.slice A1 (n + n') c1) w') : OpWp P e (.call ⟨.builtin .append, #[x, y], #[t, t]⟩) ty w K := fun ρ d p af g hρ => by
 have g1 := hρ _ _ hx; have g2 := hρ _ _ hy
 obtain ⟨ti, hu, hti, hts⟩ := pW ht
 obtain ⟨d', i', zv, hd, hi', hz, ha, hs, hb', hzv⟩ := kS hi
 obtain rfl : ti = i' := by rw [hti] at hi'; injection hi'
 have hzl' : z.length = s := Nat.eq_of_beq_eq_true hzl
 have h0' : 0 < s := by simpa using h0
 have hzc : zv.cells.size = s := by rw [← hzl', ← hzv]; simp
 have hfin : ∃ v' w', (Builtin.append_ #[t, t] ty #[.slice A n c, .slice A' n' c']).run P w = .ok v' w' ∧ w'.ownsRow lo el s v' (n + n') (cs ++ ds) ∧ w.grownBy w' ((Value.slice A n c).ownBlock) ∧ (v'.ownBlock = (Value.slice A n c).ownBlock ∨ v'.ownBlock = some w.heap.size) := by
   cases A' with
   | none =>
     have hds : ds = [] := by
       cases ds with
       | nil => rfl
       | cons u r => have := (hsrc.2 0 u rfl).1; simp at this
     subst hds
     have hn' : n' = 0 := by
       simp only [List.length_nil] at hdl
       rcases Nat.eq_zero_or_pos n' with h | h
       · exact h
       · have := Nat.mul_pos h h0'; omega
     subst hn'
     refine ⟨.slice A n c, w, ?_, by simpa using hown, ⟨rfl, rfl, rfl, Nat.le_refl _, fun _ _ _ => rfl⟩, .inl rfl⟩
     rcases hown.2 with ⟨h1, h2⟩ | ⟨g, cap, cur, h1, _, hg, hnc, _⟩
     · simp only [Value.slice.injEq] at h1
       obtain ⟨rfl, rfl, rfl⟩ := h1
       simp [Builtin.append_, run_underlying hu, sizeOf, typeInfo, hti, Builtin.lenOf, Builtin.firstCells]
     · simp only [Value.slice.injEq] at h1
       obtain ⟨rfl, _, rfl⟩ := h1
       simp [Builtin.append_, run_underlying hu, sizeOf, typeInfo, hti, Builtin.lenOf, Builtin.firstCells, hnc, storeCells]
   | some ad =>
     obtain ⟨v', w', hr, h2, h3, _, h9⟩ := run_append_own_at (P := P) w lo t ty el ti zv s b hu hti hz hts hb' hzc h0' (.slice A n c) n cs hown ad n' c' ds hdl (fun j u hj => (hsrc.2 j u hj).2.2) hd1 (by unfold maxLen; omega) hb hlo
     exact ⟨v', w', hr, h2, h3, h9⟩
 obtain ⟨v', w', hr, h2, h3, h9⟩ := hfin
 simp only [execOp, resolve, invoke, builtin, Sem.run_bind, Sem.run_pure, Result.andThen_ok, List.map_toArray, List.map_cons, List.map_nil, g1, g2, hr, upto]
 have hform : ∃ A1 c1, v' = .slice A1 (n + n') c1 := by
   rcases h2.2 with ⟨h4, h5⟩ | ⟨g, cap, cur, h4, _⟩
   · exact ⟨none, 0, by rw [h4, h5]⟩
   · exact ⟨_, _, h4⟩
 obtain ⟨A1, c1, rfl⟩ := hform
 exact h A1 c1 w' h2 h3 h9
theorem qT {b1 b1' b2 : Option Nat} {n : Nat} (h : ∀ g, b1 = some g → b2 ≠ some g) (hW : b1' = b1 ∨ b1' = some n) (hn : ∀ g, b2 = some g → g < n) : ∀ g, b1' = some g → b2 ≠ some g := fun g h1 h2 => by
 rcases hW with e | e
 · rw [e] at h1; exact h g h1 h2
 · rw [e] at h1; injection h1 with h1
   have := hn g h2; omega
end
section
variable {P : Program} {n : Nat} {ops : Array Oper} {I : World → Prop} {K : Act → World → Prop} {fuel : Nat} {listed listed' : Array Bool} {e : List (Nat × Value)} {w : World}
theorem gW (i : Nat) {dst : Option Tmp} {op : Op} {ty : TypeId} {pos : String} {af : Array Edge} {v : Value} {j d : Nat} {b : Bool} (hi : ops[i]? = some ⟨dst, op, ty, pos, af, some (j, b)⟩) (hs : Region.noSelect ops = true) (hd : iT n dst = true)
   (ht : vJ ops ops.size listed i = true) (hl : listed.setIfInBounds i true = listed') (hj : (ops[j]?).bind (·.dst) = some d) (hb : lk e d = some (.bool b)) (hy : ∀ w, I w → OpWp P e op ty w fun u w' => u = v ∧ w' = w)
   (h : WE P n ops I K fuel listed' (kK e dst v) w) : WE P n ops I K (fuel + 1) listed e w := fun a ha => by
 simp only [vJ, Bool.and_eq_true] at ht
 refine aAT hi (Region.noSelect_spec hs) fuel listed a w (Region.free_spec hi ht.1) (by simpa using ht.2) (fun w hw => OpG.opX ha (by simp only [OpG, hj, hb]; rw [if_pos (by cases b <;> rfl)]; exact hy w hw)) ?_
 rw [hl]
 exact h _ (ha.put dst v hd)
theorem fQ (i : Nat) {dst : Option Tmp} {op : Op} {ty : TypeId} {pos : String} {af : Array Edge} {j d : Nat} {b : Bool} {u0 : Value} (hi : ops[i]? = some ⟨dst, op, ty, pos, af, some (j, b)⟩) (hs : Region.noSelect ops = true) (hd : iT n dst = true)
   (ht : vJ ops ops.size listed i = true) (hl : listed.setIfInBounds i true = listed') (hj : (ops[j]?).bind (·.dst) = some d) (hb : lk e d = some u0) (hu : aAr u0 b = false)
   (h : WE P n ops I K fuel listed' (kK e dst undef) w) : WE P n ops I K (fuel + 1) listed e w := fun a ha => by
 simp only [vJ, Bool.and_eq_true] at ht
 refine aAT (v := undef) hi (Region.noSelect_spec hs) fuel listed a w (Region.free_spec hi ht.1) (by simpa using ht.2) (fun w hw => OpG.opX ha (by simp only [OpG, hj, hb]; rw [if_neg (by rw [hu]; simp)]; first | trivial | exact ⟨rfl, rfl⟩ | simp)) ?_
 rw [hl]
 exact h _ (ha.put dst undef hd)
theorem uY (i : Nat) {dst : Option Tmp} {op : Op} {ty : TypeId} {pos : String} {af : Array Edge} {j d : Nat} {b : Bool} (hi : ops[i]? = some ⟨dst, op, ty, pos, af, some (j, b)⟩) (hd : iT n dst = true)
   (hr : rdy ops ops.size listed = [i]) (hl : listed.setIfInBounds i true = listed') (hj : (ops[j]?).bind (·.dst) = some d) (hb : lk e d = some (.bool b)) (hI : I w) (hy : OpWp P e op ty w fun u w' => WE P n ops I K fuel listed' (kK e dst u) w') : WE P n ops I K (fuel + 1) listed e w := fun a ha => by
 refine ⟨hI, by rw [hr]; simp, fun k hk o ho => ?_⟩
 rw [hr] at hk
 obtain rfl : k = i := by simpa using hk
 obtain rfl : ⟨dst, op, ty, pos, af, some (j, b)⟩ = o := by rw [hi] at ho; injection ho
 refine OpX.mono (OpG.opX (R := fun u w' => WE P n ops I K fuel listed' (kK e dst u) w') ha (by simp only [OpG, hj, hb]; rw [if_pos (by cases b <;> rfl)]; exact hy)) fun u w' hu => ?_
 rw [hl]
 exact hu _ (ha.put dst u hd)
end
end Go.Proofs.YtdoibplhbdkapaaGreatDoor
