/- strings.Trim at the cutset of the letters and the digits. The string is not longer than 2^63 - 1. -/
import Derived.Test.YtojgfbbdjobdnaaGreatDoorFlowT
import Derived.Test.YtojgfbbdjobdnaaGreatDoorMod4
import Derived.Shelf.Strings.SlTrimAscii
namespace Go.Proofs.YtojgfbbdjobdnaaGreatDoor
open Go.RowKit Go.Shelf Go.Lib
set_option linter.unusedVariables false
def lays160_ren : Go.Shelf.Ren := ⟨fun x => match x with | 160 => 233 | 232 => 248 | 231 => 247 | 227 => 249 | 234 => 251 | 233 => 250 | 236 => 253 | 235 => 252 | 228 => 258 | 271 => 261 | 151 => 260 | 197 => 259 | 120 => 266 | 152 => 265 | 260 => 264 | 137 => 267 | 119 => 268 | 224 => 269 | 225 => 270 | 217 => 271 | 266 => 272 | n => n, fun x => match x with | 9 => 9 | 4 => 4 | 3 => 3 | 5 => 5 | 117 => 208 | 116 => 207 | 0 => 0 | 124 => 211 | 21 => 21 | 105 => 213 | 46 => 141 | 119 => 217 | 139 => 220 | 138 => 219 | n => n, fun x => match x with | 3 => 0 | 4 => 1 | n => n⟩
set_option maxRecDepth 100000
theorem lays160 : Lays.n160 Tryz.prog lays160_ren where
  mixed := by kernel_rfl
  f119 := Tryz.func268.trans (congrArg some (by kernel_rfl))
  f120 := Tryz.func266.trans (congrArg some (by kernel_rfl))
  f137 := Tryz.func267.trans (congrArg some (by kernel_rfl))
  f151 := Tryz.func260.trans (congrArg some (by kernel_rfl))
  f152 := Tryz.func265.trans (congrArg some (by kernel_rfl))
  f160 := Tryz.func233.trans (congrArg some (by kernel_rfl))
  f197 := Tryz.func259.trans (congrArg some (by kernel_rfl))
  f217 := Tryz.func271.trans (congrArg some (by kernel_rfl))
  f224 := Tryz.func269.trans (congrArg some (by kernel_rfl))
  f225 := Tryz.func270.trans (congrArg some (by kernel_rfl))
  f227 := Tryz.func249.trans (congrArg some (by kernel_rfl))
  f228 := Tryz.func258.trans (congrArg some (by kernel_rfl))
  f231 := Tryz.func247.trans (congrArg some (by kernel_rfl))
  f232 := Tryz.func248.trans (congrArg some (by kernel_rfl))
  f233 := Tryz.func250.trans (congrArg some (by kernel_rfl))
  f234 := Tryz.func251.trans (congrArg some (by kernel_rfl))
  f235 := Tryz.func252.trans (congrArg some (by kernel_rfl))
  f236 := Tryz.func253.trans (congrArg some (by kernel_rfl))
  f260 := Tryz.func264.trans (congrArg some (by kernel_rfl))
  f266 := Tryz.func272.trans (congrArg some (by kernel_rfl))
  f271 := Tryz.func261.trans (congrArg some (by kernel_rfl))
  t0 := Tryz.underlying0
  a0 := Tryz.isAgg0
  z0 := Tryz.sizeOf0
  v0 := Tryz.zeroValue0
  t3 := Tryz.underlying3
  a3 := Tryz.isAgg3
  z3 := Tryz.sizeOf3
  v3 := Tryz.zeroValue3
  t4 := Tryz.underlying4
  a4 := Tryz.isAgg4
  z4 := Tryz.sizeOf4
  v4 := Tryz.zeroValue4
  t5 := Tryz.underlying5
  a5 := Tryz.isAgg5
  z5 := Tryz.sizeOf5
  v5 := Tryz.zeroValue5
  t9 := Tryz.underlying9
  a9 := Tryz.isAgg9
  z9 := Tryz.sizeOf9
  v9 := Tryz.zeroValue9
  t21 := Tryz.underlying21
  a21 := Tryz.isAgg21
  z21 := Tryz.sizeOf21
  v21 := Tryz.zeroValue21
  t46 := Tryz.underlying141
  a46 := Tryz.isAgg141
  z46 := Tryz.sizeOf141
  v46 := Tryz.zeroValue141
  t105 := Tryz.underlying213
  a105 := Tryz.isAgg213
  z105 := Tryz.sizeOf213
  v105 := Tryz.zeroValue213
  t116 := Tryz.underlying207
  a116 := Tryz.isAgg207
  z116 := Tryz.sizeOf207
  t117 := Tryz.underlying208
  a117 := Tryz.isAgg208
  z117 := Tryz.sizeOf208
  v117 := Tryz.zeroValue208
  t119 := Tryz.underlying217
  a119 := Tryz.isAgg217
  z119 := Tryz.sizeOf217
  t124 := Tryz.underlying211
  a124 := Tryz.isAgg211
  z124 := Tryz.sizeOf211
  v124 := Tryz.zeroValue211
  t138 := Tryz.underlying219
  a138 := Tryz.isAgg219
  z138 := Tryz.sizeOf219
  v138 := Tryz.zeroValue219
  t139 := Tryz.underlying220
  a139 := Tryz.isAgg220
  z139 := Tryz.sizeOf220
  v139 := Tryz.zeroValue220
  g3 := by kernel_rfl
  g4 := by kernel_rfl
theorem trim_c (s : ByteArray) (w : World) (hs : s.size ≤ 9223372036854775807) :
    Calls Tryz.prog 233 #[.string s, .string ⟨#[97, 98, 99, 100, 101, 102, 103, 104, 105, 106, 107, 108, 109, 110, 111, 112, 113, 114, 115, 116, 117, 118, 119, 120, 121, 122, 48, 49, 50, 51, 52, 53, 54, 55, 56, 57]⟩] w (Ret fun v w' => v = .string (trimV s) ∧ Ext w w') := by
  have hcon := Any.strings_Trim_laid lays160 (by kernel_rfl) s ⟨#[97, 98, 99, 100, 101, 102, 103, 104, 105, 106, 107, 108, 109, 110, 111, 112, 113, 114, 115, 116, 117, 118, 119, 120, 121, 122, 48, 49, 50, 51, 52, 53, 54, 55, 56, 57]⟩ w hs (by decide) (ascii_of_all (by decide))
  refine Calls.mono hcon fun e w' h => ?_
  obtain ⟨rfl, hb⟩ := h
  exact ⟨rfl, hb⟩
end Go.Proofs.YtojgfbbdjobdnaaGreatDoor
