/- strings.Trim at the cutset of the letters and the digits. The string is not longer than 2^63 - 1. -/
import Derived.Test.YthdeoagoehkcfaaGreatDoorFlowT
import Derived.Test.YthdeoagoehkcfaaGreatDoorMod4
import Derived.Shelf.Strings.SlTrimAscii
namespace Go.Proofs.YthdeoagoehkcfaaGreatDoor
open Go.RowKit Go.Shelf Go.Lib
set_option linter.unusedVariables false
def lays160_ren : Go.Shelf.Ren := ⟨fun x => match x with | 160 => 202 | 232 => 216 | 231 => 215 | 227 => 217 | 234 => 219 | 233 => 218 | 236 => 221 | 235 => 220 | 228 => 224 | 271 => 227 | 151 => 226 | 197 => 225 | 120 => 234 | 152 => 233 | 260 => 232 | 137 => 235 | 119 => 236 | 224 => 237 | 225 => 238 | 217 => 239 | 266 => 240 | n => n, fun x => match x with | 9 => 9 | 4 => 4 | 3 => 3 | 5 => 5 | 117 => 197 | 116 => 196 | 0 => 0 | 124 => 200 | 21 => 21 | 105 => 202 | 46 => 143 | 119 => 206 | 139 => 209 | 138 => 208 | n => n, fun x => match x with | 3 => 0 | 4 => 1 | n => n⟩
set_option maxRecDepth 100000
theorem lays160 : Lays.n160 Tryz.prog lays160_ren where
  mixed := by kernel_rfl
  f119 := Tryz.func236.trans (congrArg some (by kernel_rfl))
  f120 := Tryz.func234.trans (congrArg some (by kernel_rfl))
  f137 := Tryz.func235.trans (congrArg some (by kernel_rfl))
  f151 := Tryz.func226.trans (congrArg some (by kernel_rfl))
  f152 := Tryz.func233.trans (congrArg some (by kernel_rfl))
  f160 := Tryz.func202.trans (congrArg some (by kernel_rfl))
  f197 := Tryz.func225.trans (congrArg some (by kernel_rfl))
  f217 := Tryz.func239.trans (congrArg some (by kernel_rfl))
  f224 := Tryz.func237.trans (congrArg some (by kernel_rfl))
  f225 := Tryz.func238.trans (congrArg some (by kernel_rfl))
  f227 := Tryz.func217.trans (congrArg some (by kernel_rfl))
  f228 := Tryz.func224.trans (congrArg some (by kernel_rfl))
  f231 := Tryz.func215.trans (congrArg some (by kernel_rfl))
  f232 := Tryz.func216.trans (congrArg some (by kernel_rfl))
  f233 := Tryz.func218.trans (congrArg some (by kernel_rfl))
  f234 := Tryz.func219.trans (congrArg some (by kernel_rfl))
  f235 := Tryz.func220.trans (congrArg some (by kernel_rfl))
  f236 := Tryz.func221.trans (congrArg some (by kernel_rfl))
  f260 := Tryz.func232.trans (congrArg some (by kernel_rfl))
  f266 := Tryz.func240.trans (congrArg some (by kernel_rfl))
  f271 := Tryz.func227.trans (congrArg some (by kernel_rfl))
  t0 := Tryz.underlying0
  a0 := Tryz.isAgg0
  z0 := Tryz.sizeOf0
  v0 := Tryz.zeroValue0
  t3 := Tryz.underlying3
  a3 := Tryz.isAgg3
  z3 := Tryz.sizeOf3
  v3 := Tryz.zeroValue3
  t4 := Tryz.underlying4
  a4 := Tryz.isAgg4
  z4 := Tryz.sizeOf4
  v4 := Tryz.zeroValue4
  t5 := Tryz.underlying5
  a5 := Tryz.isAgg5
  z5 := Tryz.sizeOf5
  v5 := Tryz.zeroValue5
  t9 := Tryz.underlying9
  a9 := Tryz.isAgg9
  z9 := Tryz.sizeOf9
  v9 := Tryz.zeroValue9
  t21 := Tryz.underlying21
  a21 := Tryz.isAgg21
  z21 := Tryz.sizeOf21
  v21 := Tryz.zeroValue21
  t46 := Tryz.underlying143
  a46 := Tryz.isAgg143
  z46 := Tryz.sizeOf143
  v46 := Tryz.zeroValue143
  t105 := Tryz.underlying202
  a105 := Tryz.isAgg202
  z105 := Tryz.sizeOf202
  v105 := Tryz.zeroValue202
  t116 := Tryz.underlying196
  a116 := Tryz.isAgg196
  z116 := Tryz.sizeOf196
  t117 := Tryz.underlying197
  a117 := Tryz.isAgg197
  z117 := Tryz.sizeOf197
  v117 := Tryz.zeroValue197
  t119 := Tryz.underlying206
  a119 := Tryz.isAgg206
  z119 := Tryz.sizeOf206
  t124 := Tryz.underlying200
  a124 := Tryz.isAgg200
  z124 := Tryz.sizeOf200
  v124 := Tryz.zeroValue200
  t138 := Tryz.underlying208
  a138 := Tryz.isAgg208
  z138 := Tryz.sizeOf208
  v138 := Tryz.zeroValue208
  t139 := Tryz.underlying209
  a139 := Tryz.isAgg209
  z139 := Tryz.sizeOf209
  v139 := Tryz.zeroValue209
  g3 := by kernel_rfl
  g4 := by kernel_rfl
theorem trim_c (s : ByteArray) (w : World) (hs : s.size ≤ 9223372036854775807) :
    Calls Tryz.prog 202 #[.string s, .string ⟨#[97, 98, 99, 100, 101, 102, 103, 104, 105, 106, 107, 108, 109, 110, 111, 112, 113, 114, 115, 116, 117, 118, 119, 120, 121, 122, 48, 49, 50, 51, 52, 53, 54, 55, 56, 57]⟩] w (Ret fun v w' => v = .string (trimV s) ∧ Ext w w') := by
  have hcon := Any.strings_Trim_laid lays160 (by kernel_rfl) s ⟨#[97, 98, 99, 100, 101, 102, 103, 104, 105, 106, 107, 108, 109, 110, 111, 112, 113, 114, 115, 116, 117, 118, 119, 120, 121, 122, 48, 49, 50, 51, 52, 53, 54, 55, 56, 57]⟩ w hs (by decide) (ascii_of_all (by decide))
  refine Calls.mono hcon fun e w' h => ?_
  obtain ⟨rfl, hb⟩ := h
  exact ⟨rfl, hb⟩
end Go.Proofs.YthdeoagoehkcfaaGreatDoor
