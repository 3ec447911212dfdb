/- strings.Trim at the cutset of the letters and the digits. The string is not longer than 2^63 - 1. -/
import Derived.Test.YtfmihehpdfmgfaaGreatDoorFlowT
import Derived.Test.YtfmihehpdfmgfaaGreatDoorMod4
import Derived.Shelf.Strings.SlTrimAscii
namespace Go.Proofs.YtfmihehpdfmgfaaGreatDoor
open Go.RowKit Go.Shelf Go.Lib
set_option linter.unusedVariables false
def lays160_ren : Go.Shelf.Ren := ⟨fun x => match x with | 160 => 128 | 232 => 141 | 231 => 140 | 227 => 142 | 234 => 144 | 233 => 143 | 236 => 146 | 235 => 145 | 228 => 151 | 271 => 154 | 151 => 153 | 197 => 152 | 120 => 160 | 152 => 159 | 260 => 158 | 137 => 163 | 119 => 164 | 224 => 165 | 225 => 166 | 217 => 167 | 266 => 168 | n => n, fun x => match x with | 9 => 9 | 4 => 4 | 3 => 3 | 5 => 5 | 117 => 137 | 116 => 136 | 0 => 0 | 124 => 140 | 21 => 21 | 105 => 142 | 46 => 125 | 119 => 146 | 139 => 149 | 138 => 148 | n => n, fun x => match x with | 3 => 0 | 4 => 1 | n => n⟩
set_option maxRecDepth 100000
theorem lays160 : Lays.n160 Tryz.prog lays160_ren where
  mixed := by kernel_rfl
  f119 := Tryz.func164.trans (congrArg some (by kernel_rfl))
  f120 := Tryz.func160.trans (congrArg some (by kernel_rfl))
  f137 := Tryz.func163.trans (congrArg some (by kernel_rfl))
  f151 := Tryz.func153.trans (congrArg some (by kernel_rfl))
  f152 := Tryz.func159.trans (congrArg some (by kernel_rfl))
  f160 := Tryz.func128.trans (congrArg some (by kernel_rfl))
  f197 := Tryz.func152.trans (congrArg some (by kernel_rfl))
  f217 := Tryz.func167.trans (congrArg some (by kernel_rfl))
  f224 := Tryz.func165.trans (congrArg some (by kernel_rfl))
  f225 := Tryz.func166.trans (congrArg some (by kernel_rfl))
  f227 := Tryz.func142.trans (congrArg some (by kernel_rfl))
  f228 := Tryz.func151.trans (congrArg some (by kernel_rfl))
  f231 := Tryz.func140.trans (congrArg some (by kernel_rfl))
  f232 := Tryz.func141.trans (congrArg some (by kernel_rfl))
  f233 := Tryz.func143.trans (congrArg some (by kernel_rfl))
  f234 := Tryz.func144.trans (congrArg some (by kernel_rfl))
  f235 := Tryz.func145.trans (congrArg some (by kernel_rfl))
  f236 := Tryz.func146.trans (congrArg some (by kernel_rfl))
  f260 := Tryz.func158.trans (congrArg some (by kernel_rfl))
  f266 := Tryz.func168.trans (congrArg some (by kernel_rfl))
  f271 := Tryz.func154.trans (congrArg some (by kernel_rfl))
  t0 := Tryz.underlying0
  a0 := Tryz.isAgg0
  z0 := Tryz.sizeOf0
  v0 := Tryz.zeroValue0
  t3 := Tryz.underlying3
  a3 := Tryz.isAgg3
  z3 := Tryz.sizeOf3
  v3 := Tryz.zeroValue3
  t4 := Tryz.underlying4
  a4 := Tryz.isAgg4
  z4 := Tryz.sizeOf4
  v4 := Tryz.zeroValue4
  t5 := Tryz.underlying5
  a5 := Tryz.isAgg5
  z5 := Tryz.sizeOf5
  v5 := Tryz.zeroValue5
  t9 := Tryz.underlying9
  a9 := Tryz.isAgg9
  z9 := Tryz.sizeOf9
  v9 := Tryz.zeroValue9
  t21 := Tryz.underlying21
  a21 := Tryz.isAgg21
  z21 := Tryz.sizeOf21
  v21 := Tryz.zeroValue21
  t46 := Tryz.underlying125
  a46 := Tryz.isAgg125
  z46 := Tryz.sizeOf125
  v46 := Tryz.zeroValue125
  t105 := Tryz.underlying142
  a105 := Tryz.isAgg142
  z105 := Tryz.sizeOf142
  v105 := Tryz.zeroValue142
  t116 := Tryz.underlying136
  a116 := Tryz.isAgg136
  z116 := Tryz.sizeOf136
  t117 := Tryz.underlying137
  a117 := Tryz.isAgg137
  z117 := Tryz.sizeOf137
  v117 := Tryz.zeroValue137
  t119 := Tryz.underlying146
  a119 := Tryz.isAgg146
  z119 := Tryz.sizeOf146
  t124 := Tryz.underlying140
  a124 := Tryz.isAgg140
  z124 := Tryz.sizeOf140
  v124 := Tryz.zeroValue140
  t138 := Tryz.underlying148
  a138 := Tryz.isAgg148
  z138 := Tryz.sizeOf148
  v138 := Tryz.zeroValue148
  t139 := Tryz.underlying149
  a139 := Tryz.isAgg149
  z139 := Tryz.sizeOf149
  v139 := Tryz.zeroValue149
  g3 := by kernel_rfl
  g4 := by kernel_rfl
theorem trim_c (s : ByteArray) (w : World) (hs : s.size ≤ 9223372036854775807) :
    Calls Tryz.prog 128 #[.string s, .string ⟨#[97, 98, 99, 100, 101, 102, 103, 104, 105, 106, 107, 108, 109, 110, 111, 112, 113, 114, 115, 116, 117, 118, 119, 120, 121, 122, 48, 49, 50, 51, 52, 53, 54, 55, 56, 57]⟩] w (Ret fun v w' => v = .string (trimV s) ∧ Ext w w') := by
  have hcon := Any.strings_Trim_laid lays160 (by kernel_rfl) s ⟨#[97, 98, 99, 100, 101, 102, 103, 104, 105, 106, 107, 108, 109, 110, 111, 112, 113, 114, 115, 116, 117, 118, 119, 120, 121, 122, 48, 49, 50, 51, 52, 53, 54, 55, 56, 57]⟩ w hs (by decide) (ascii_of_all (by decide))
  refine Calls.mono hcon fun e w' h => ?_
  obtain ⟨rfl, hb⟩ := h
  exact ⟨rfl, hb⟩
end Go.Proofs.YtfmihehpdfmgfaaGreatDoor
