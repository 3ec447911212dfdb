/- Texts of the seat that a law needs, put together. No condition. -/
import Derived.Test.YtdoibplhbdkapaaGreatDoorCFP2
import Derived.Test.YtdoibplhbdkapaaGreatDoorRows
import Derived.Laws.ResultCell
import Derived.Laws.BytesArg
import Derived.Laws.StructEq
namespace Go.Proofs.YtdoibplhbdkapaaGreatDoor
theorem ti2 : tiO Tryz.prog 2 = some (false, 1, 8, [.int .i64 0]) := by kernel_rfl
theorem ti3 : tiO Tryz.prog 3 = some (false, 1, 8, [.int .i64 0]) := by kernel_rfl
theorem ti4 : tiO Tryz.prog 4 = some (false, 1, 1, [.bool false]) := by kernel_rfl
theorem ti5 : tiO Tryz.prog 5 = some (false, 1, 1, [.int .u8 0]) := by kernel_rfl
theorem ti9 : tiO Tryz.prog 9 = some (false, 1, 16, [.string ByteArray.empty]) := by kernel_rfl
theorem ti22 : tiO Tryz.prog 22 = some (false, 1, 24, [.slice none 0 0]) := by kernel_rfl
theorem el22 : elO Tryz.prog 22 = some (5, 1) := by kernel_rfl
theorem ti24 : tiO Tryz.prog 24 = some (false, 1, 24, [.slice none 0 0]) := by kernel_rfl
theorem el24 : elO Tryz.prog 24 = some (59, 4) := by kernel_rfl
theorem ti25 : tiO Tryz.prog 25 = some (false, 1, 24, [.slice none 0 0]) := by kernel_rfl
theorem el25 : elO Tryz.prog 25 = some (92, 3) := by kernel_rfl
theorem ti26 : tiO Tryz.prog 26 = some (false, 1, 24, [.slice none 0 0]) := by kernel_rfl
theorem el26 : elO Tryz.prog 26 = some (89, 8) := by kernel_rfl
theorem ti28 : tiO Tryz.prog 28 = some (true, 4, 80, [.int .i64 0, .slice none 0 0, .slice none 0 0, .slice none 0 0]) := by kernel_rfl
theorem pl28 : plO Tryz.prog 28 = some [(0, 1), (1, 1), (2, 1), (3, 1)] := by kernel_rfl
theorem off28_0 : offO Tryz.prog 28 0 = some 0 := by kernel_rfl
theorem off28_1 : offO Tryz.prog 28 1 = some 1 := by kernel_rfl
theorem off28_2 : offO Tryz.prog 28 2 = some 2 := by kernel_rfl
theorem off28_3 : offO Tryz.prog 28 3 = some 3 := by kernel_rfl
theorem ti30 : tiO Tryz.prog 30 = some (false, 1, 24, [.slice none 0 0]) := by kernel_rfl
theorem el30 : elO Tryz.prog 30 = some (2, 1) := by kernel_rfl
theorem ti59 : tiO Tryz.prog 59 = some (true, 4, 40, [.int .i64 0, .string ByteArray.empty, .int .i64 0, .bool false]) := by kernel_rfl
theorem pl59 : plO Tryz.prog 59 = some [(0, 1), (1, 1), (2, 1), (3, 1)] := by kernel_rfl
theorem off59_0 : offO Tryz.prog 59 0 = some 0 := by kernel_rfl
theorem off59_1 : offO Tryz.prog 59 1 = some 1 := by kernel_rfl
theorem off59_2 : offO Tryz.prog 59 2 = some 2 := by kernel_rfl
theorem off59_3 : offO Tryz.prog 59 3 = some 3 := by kernel_rfl
theorem ti67 : tiO Tryz.prog 67 = some (true, 5, 40, [.int .i64 0, .int .i64 0, .int .i64 0, .int .i64 0, .bool false]) := by kernel_rfl
theorem pl67 : plO Tryz.prog 67 = some [(0, 1), (1, 1), (2, 1), (3, 1), (4, 1)] := by kernel_rfl
theorem off67_0 : offO Tryz.prog 67 0 = some 0 := by kernel_rfl
theorem off67_1 : offO Tryz.prog 67 1 = some 1 := by kernel_rfl
theorem off67_2 : offO Tryz.prog 67 2 = some 2 := by kernel_rfl
theorem off67_3 : offO Tryz.prog 67 3 = some 3 := by kernel_rfl
theorem off67_4 : offO Tryz.prog 67 4 = some 4 := by kernel_rfl
theorem ti89 : tiO Tryz.prog 89 = some (true, 8, 64, [.int .i64 0, .int .i64 0, .int .i64 0, .int .i64 0, .int .i64 0, .int .i64 0, .int .i64 0, .bool false]) := by kernel_rfl
theorem pl89 : plO Tryz.prog 89 = some [(0, 1), (1, 1), (2, 1), (3, 5)] := by kernel_rfl
theorem off89_0 : offO Tryz.prog 89 0 = some 0 := by kernel_rfl
theorem off89_1 : offO Tryz.prog 89 1 = some 1 := by kernel_rfl
theorem off89_2 : offO Tryz.prog 89 2 = some 2 := by kernel_rfl
theorem off89_3 : offO Tryz.prog 89 3 = some 3 := by kernel_rfl
theorem ti92 : tiO Tryz.prog 92 = some (true, 3, 40, [.int .i64 0, .int .i64 0, .slice none 0 0]) := by kernel_rfl
theorem pl92 : plO Tryz.prog 92 = some [(0, 1), (1, 1), (2, 1)] := by kernel_rfl
theorem off92_0 : offO Tryz.prog 92 0 = some 0 := by kernel_rfl
theorem off92_1 : offO Tryz.prog 92 1 = some 1 := by kernel_rfl
theorem off92_2 : offO Tryz.prog 92 2 = some 2 := by kernel_rfl
theorem ti148 : tiO Tryz.prog 148 = some (true, 3, 40, [.slice none 0 0, .int .i64 0, .int .i64 0]) := by kernel_rfl
theorem pl148 : plO Tryz.prog 148 = some [(0, 1), (1, 1), (2, 1)] := by kernel_rfl
theorem off148_0 : offO Tryz.prog 148 0 = some 0 := by kernel_rfl
theorem off148_1 : offO Tryz.prog 148 1 = some 1 := by kernel_rfl
theorem off148_2 : offO Tryz.prog 148 2 = some 2 := by kernel_rfl
theorem el211 : elO Tryz.prog 211 = some (9, 1) := by kernel_rfl
theorem ent11 : Enters Tryz.prog 11 := enters_of Tryz.func11 (by kernel_rfl) (by kernel_rfl)
theorem ent17 : Enters Tryz.prog 17 := enters_of Tryz.func17 (by kernel_rfl) (by kernel_rfl)
theorem ent19 : Enters Tryz.prog 19 := enters_of Tryz.func19 (by kernel_rfl) (by kernel_rfl)
theorem ent33 : Enters Tryz.prog 33 := enters_of Tryz.func33 (by kernel_rfl) (by kernel_rfl)
theorem ent34 : Enters Tryz.prog 34 := enters_of Tryz.func34 (by kernel_rfl) (by kernel_rfl)
theorem ent35 : Enters Tryz.prog 35 := enters_of Tryz.func35 (by kernel_rfl) (by kernel_rfl)
theorem ent36 : Enters Tryz.prog 36 := enters_of Tryz.func36 (by kernel_rfl) (by kernel_rfl)
theorem ent37 : Enters Tryz.prog 37 := enters_of Tryz.func37 (by kernel_rfl) (by kernel_rfl)
theorem ent38 : Enters Tryz.prog 38 := enters_of Tryz.func38 (by kernel_rfl) (by kernel_rfl)
theorem ent39 : Enters Tryz.prog 39 := enters_of Tryz.func39 (by kernel_rfl) (by kernel_rfl)
theorem ent40 : Enters Tryz.prog 40 := enters_of Tryz.func40 (by kernel_rfl) (by kernel_rfl)
theorem ent41 : Enters Tryz.prog 41 := enters_of Tryz.func41 (by kernel_rfl) (by kernel_rfl)
theorem ent42 : Enters Tryz.prog 42 := enters_of Tryz.func42 (by kernel_rfl) (by kernel_rfl)
theorem ent43 : Enters Tryz.prog 43 := enters_of Tryz.func43 (by kernel_rfl) (by kernel_rfl)
theorem ent64 : Enters Tryz.prog 64 := enters_of Tryz.func64 (by kernel_rfl) (by kernel_rfl)
theorem ent65 : Enters Tryz.prog 65 := enters_of Tryz.func65 (by kernel_rfl) (by kernel_rfl)
theorem ent66 : Enters Tryz.prog 66 := enters_of Tryz.func66 (by kernel_rfl) (by kernel_rfl)
theorem ent67 : Enters Tryz.prog 67 := enters_of Tryz.func67 (by kernel_rfl) (by kernel_rfl)
theorem ent70 : Enters Tryz.prog 70 := enters_of Tryz.func70 (by kernel_rfl) (by kernel_rfl)
theorem ent79 : Enters Tryz.prog 79 := enters_of Tryz.func79 (by kernel_rfl) (by kernel_rfl)
theorem ent80 : Enters Tryz.prog 80 := enters_of Tryz.func80 (by kernel_rfl) (by kernel_rfl)
theorem ent81 : Enters Tryz.prog 81 := enters_of Tryz.func81 (by kernel_rfl) (by kernel_rfl)
theorem ent83 : Enters Tryz.prog 83 := enters_of Tryz.func83 (by kernel_rfl) (by kernel_rfl)
theorem ent99 : Enters Tryz.prog 99 := enters_of Tryz.func99 (by kernel_rfl) (by kernel_rfl)
theorem ent102 : Enters Tryz.prog 102 := enters_of Tryz.func102 (by kernel_rfl) (by kernel_rfl)
theorem ent105 : Enters Tryz.prog 105 := enters_of Tryz.func105 (by kernel_rfl) (by kernel_rfl)
theorem ent106 : Enters Tryz.prog 106 := enters_of Tryz.func106 (by kernel_rfl) (by kernel_rfl)
theorem ent107 : Enters Tryz.prog 107 := enters_of Tryz.func107 (by kernel_rfl) (by kernel_rfl)
theorem ent108 : Enters Tryz.prog 108 := enters_of Tryz.func108 (by kernel_rfl) (by kernel_rfl)
theorem ent109 : Enters Tryz.prog 109 := enters_of Tryz.func109 (by kernel_rfl) (by kernel_rfl)
theorem ent110 : Enters Tryz.prog 110 := enters_of Tryz.func110 (by kernel_rfl) (by kernel_rfl)
theorem ent111 : Enters Tryz.prog 111 := enters_of Tryz.func111 (by kernel_rfl) (by kernel_rfl)
theorem ent112 : Enters Tryz.prog 112 := enters_of Tryz.func112 (by kernel_rfl) (by kernel_rfl)
theorem ent113 : Enters Tryz.prog 113 := enters_of Tryz.func113 (by kernel_rfl) (by kernel_rfl)
theorem ent114 : Enters Tryz.prog 114 := enters_of Tryz.func114 (by kernel_rfl) (by kernel_rfl)
theorem ent115 : Enters Tryz.prog 115 := enters_of Tryz.func115 (by kernel_rfl) (by kernel_rfl)
theorem ent116 : Enters Tryz.prog 116 := enters_of Tryz.func116 (by kernel_rfl) (by kernel_rfl)
theorem ent117 : Enters Tryz.prog 117 := enters_of Tryz.func117 (by kernel_rfl) (by kernel_rfl)
theorem ent120 : Enters Tryz.prog 120 := enters_of Tryz.func120 (by kernel_rfl) (by kernel_rfl)
theorem ent143 : Enters Tryz.prog 143 := enters_of Tryz.func143 (by kernel_rfl) (by kernel_rfl)
theorem ent144 : Enters Tryz.prog 144 := enters_of Tryz.func144 (by kernel_rfl) (by kernel_rfl)
theorem ent145 : Enters Tryz.prog 145 := enters_of Tryz.func145 (by kernel_rfl) (by kernel_rfl)
theorem ent154 : Enters Tryz.prog 154 := enters_of Tryz.func154 (by kernel_rfl) (by kernel_rfl)
theorem ent163 : Enters Tryz.prog 163 := enters_of Tryz.func163 (by kernel_rfl) (by kernel_rfl)
theorem ent165 : Enters Tryz.prog 165 := enters_of Tryz.func165 (by kernel_rfl) (by kernel_rfl)
theorem ent167 : Enters Tryz.prog 167 := enters_of Tryz.func167 (by kernel_rfl) (by kernel_rfl)
theorem ent179 : Enters Tryz.prog 179 := enters_of Tryz.func179 (by kernel_rfl) (by kernel_rfl)
theorem ent180 : Enters Tryz.prog 180 := enters_of Tryz.func180 (by kernel_rfl) (by kernel_rfl)
theorem ent181 : Enters Tryz.prog 181 := enters_of Tryz.func181 (by kernel_rfl) (by kernel_rfl)
theorem ent182 : Enters Tryz.prog 182 := enters_of Tryz.func182 (by kernel_rfl) (by kernel_rfl)
theorem ent183 : Enters Tryz.prog 183 := enters_of Tryz.func183 (by kernel_rfl) (by kernel_rfl)
theorem ent184 : Enters Tryz.prog 184 := enters_of Tryz.func184 (by kernel_rfl) (by kernel_rfl)
theorem ent185 : Enters Tryz.prog 185 := enters_of Tryz.func185 (by kernel_rfl) (by kernel_rfl)
theorem ent186 : Enters Tryz.prog 186 := enters_of Tryz.func186 (by kernel_rfl) (by kernel_rfl)
theorem ent187 : Enters Tryz.prog 187 := enters_of Tryz.func187 (by kernel_rfl) (by kernel_rfl)
theorem ent188 : Enters Tryz.prog 188 := enters_of Tryz.func188 (by kernel_rfl) (by kernel_rfl)
theorem ent189 : Enters Tryz.prog 189 := enters_of Tryz.func189 (by kernel_rfl) (by kernel_rfl)
theorem ent190 : Enters Tryz.prog 190 := enters_of Tryz.func190 (by kernel_rfl) (by kernel_rfl)
theorem ent191 : Enters Tryz.prog 191 := enters_of Tryz.func191 (by kernel_rfl) (by kernel_rfl)
theorem ent192 : Enters Tryz.prog 192 := enters_of Tryz.func192 (by kernel_rfl) (by kernel_rfl)
theorem ent193 : Enters Tryz.prog 193 := enters_of Tryz.func193 (by kernel_rfl) (by kernel_rfl)
theorem ent194 : Enters Tryz.prog 194 := enters_of Tryz.func194 (by kernel_rfl) (by kernel_rfl)
theorem ent195 : Enters Tryz.prog 195 := enters_of Tryz.func195 (by kernel_rfl) (by kernel_rfl)
theorem ent196 : Enters Tryz.prog 196 := enters_of Tryz.func196 (by kernel_rfl) (by kernel_rfl)
theorem ent197 : Enters Tryz.prog 197 := enters_of Tryz.func197 (by kernel_rfl) (by kernel_rfl)
theorem ent198 : Enters Tryz.prog 198 := enters_of Tryz.func198 (by kernel_rfl) (by kernel_rfl)
theorem ent199 : Enters Tryz.prog 199 := enters_of Tryz.func199 (by kernel_rfl) (by kernel_rfl)
theorem ent205 : Enters Tryz.prog 205 := enters_of Tryz.func205 (by kernel_rfl) (by kernel_rfl)
theorem ent214 : Enters Tryz.prog 214 := enters_of Tryz.func214 (by kernel_rfl) (by kernel_rfl)
theorem ent215 : Enters Tryz.prog 215 := enters_of Tryz.func215 (by kernel_rfl) (by kernel_rfl)
theorem ent224 : Enters Tryz.prog 224 := enters_of Tryz.func224 (by kernel_rfl) (by kernel_rfl)
theorem ent225 : Enters Tryz.prog 225 := enters_of Tryz.func225 (by kernel_rfl) (by kernel_rfl)
theorem ent226 : Enters Tryz.prog 226 := enters_of Tryz.func226 (by kernel_rfl) (by kernel_rfl)
theorem ent227 : Enters Tryz.prog 227 := enters_of Tryz.func227 (by kernel_rfl) (by kernel_rfl)
theorem ent228 : Enters Tryz.prog 228 := enters_of Tryz.func228 (by kernel_rfl) (by kernel_rfl)
theorem ent229 : Enters Tryz.prog 229 := enters_of Tryz.func229 (by kernel_rfl) (by kernel_rfl)
theorem ent230 : Enters Tryz.prog 230 := enters_of Tryz.func230 (by kernel_rfl) (by kernel_rfl)
theorem ent231 : Enters Tryz.prog 231 := enters_of Tryz.func231 (by kernel_rfl) (by kernel_rfl)
theorem ent236 : Enters Tryz.prog 236 := enters_of Tryz.func236 (by kernel_rfl) (by kernel_rfl)
theorem ent237 : Enters Tryz.prog 237 := enters_of Tryz.func237 (by kernel_rfl) (by kernel_rfl)
theorem ent238 : Enters Tryz.prog 238 := enters_of Tryz.func238 (by kernel_rfl) (by kernel_rfl)
theorem ent239 : Enters Tryz.prog 239 := enters_of Tryz.func239 (by kernel_rfl) (by kernel_rfl)
theorem ent244 : Enters Tryz.prog 244 := enters_of Tryz.func244 (by kernel_rfl) (by kernel_rfl)
theorem ent245 : Enters Tryz.prog 245 := enters_of Tryz.func245 (by kernel_rfl) (by kernel_rfl)
theorem ent246 : Enters Tryz.prog 246 := enters_of Tryz.func246 (by kernel_rfl) (by kernel_rfl)
theorem ent247 : Enters Tryz.prog 247 := enters_of Tryz.func247 (by kernel_rfl) (by kernel_rfl)
theorem ent248 : Enters Tryz.prog 248 := enters_of Tryz.func248 (by kernel_rfl) (by kernel_rfl)
theorem ent249 : Enters Tryz.prog 249 := enters_of Tryz.func249 (by kernel_rfl) (by kernel_rfl)
theorem ent256 : Enters Tryz.prog 256 := enters_of Tryz.func256 (by kernel_rfl) (by kernel_rfl)
theorem ent258 : Enters Tryz.prog 258 := enters_of Tryz.func258 (by kernel_rfl) (by kernel_rfl)
theorem ent259 : Enters Tryz.prog 259 := enters_of Tryz.func259 (by kernel_rfl) (by kernel_rfl)
theorem ent260 : Enters Tryz.prog 260 := enters_of Tryz.func260 (by kernel_rfl) (by kernel_rfl)
theorem ent261 : Enters Tryz.prog 261 := enters_of Tryz.func261 (by kernel_rfl) (by kernel_rfl)
theorem ent262 : Enters Tryz.prog 262 := enters_of Tryz.func262 (by kernel_rfl) (by kernel_rfl)
theorem ent263 : Enters Tryz.prog 263 := enters_of Tryz.func263 (by kernel_rfl) (by kernel_rfl)
theorem ent264 : Enters Tryz.prog 264 := enters_of Tryz.func264 (by kernel_rfl) (by kernel_rfl)
theorem ent265 : Enters Tryz.prog 265 := enters_of Tryz.func265 (by kernel_rfl) (by kernel_rfl)
theorem ent266 : Enters Tryz.prog 266 := enters_of Tryz.func266 (by kernel_rfl) (by kernel_rfl)
theorem ent274 : Enters Tryz.prog 274 := enters_of Tryz.func274 (by kernel_rfl) (by kernel_rfl)
theorem ent275 : Enters Tryz.prog 275 := enters_of Tryz.func275 (by kernel_rfl) (by kernel_rfl)
theorem ent276 : Enters Tryz.prog 276 := enters_of Tryz.func276 (by kernel_rfl) (by kernel_rfl)
theorem ent277 : Enters Tryz.prog 277 := enters_of Tryz.func277 (by kernel_rfl) (by kernel_rfl)
theorem ent278 : Enters Tryz.prog 278 := enters_of Tryz.func278 (by kernel_rfl) (by kernel_rfl)
theorem ent279 : Enters Tryz.prog 279 := enters_of Tryz.func279 (by kernel_rfl) (by kernel_rfl)
theorem ent284 : Enters Tryz.prog 284 := enters_of Tryz.func284 (by kernel_rfl) (by kernel_rfl)
theorem ent285 : Enters Tryz.prog 285 := enters_of Tryz.func285 (by kernel_rfl) (by kernel_rfl)
theorem mixed : Tryz.prog.follows .mixedOrders = true := by kernel_rfl
end Go.Proofs.YtdoibplhbdkapaaGreatDoor
namespace Go.Proofs.YtdoibplhbdkapaaGreatDoor
open Go.RowKit
set_option linter.unusedVariables false
set_option linter.unusedSimpArgs false

section
variable {P : Program} {n : Nat} {fn : Func} {e : List (Nat × Value)} {w : World} {R : Value → World → Prop} {s b : Nat} {z cs vs : List Value} {g i : Nat} {T T' : TypeId} {t u : Tmp} {v : Value}
theorem fin_cell1 (hr : fn.results = #[.cell t T]) (hv : lk e t = some (.pointer (some ⟨g, i, none⟩))) (hb : Blk w g T' cs) (ht : tiO P T = some (true, s, b, z)) (hs : subL cs i s = some vs) (h : R (.agg vs.toArray) w) : fin P n fn R .ret e w := fun a ha => by
  have h1 := ha.2.2 t _ hv
  have h2 : (loadVar T ⟨g, i, none⟩).run P w = .ok (.agg vs.toArray) w := run_loadVarA ht (subL_spec hs).1 (fun j v hj => by rw [add_blk, hb.cell]; exact (subL_spec hs).2 j v hj)
  simp only [Array.getD_eq_getD_getElem?] at h1
  refine ⟨_, ?_, h⟩
  simp only [results, hr]
  simp [asAddr, h1, h2]
theorem fin_cell2 (hr : fn.results = #[.cell t T, .tmp u]) (hv : lk e t = some (.pointer (some ⟨g, i, none⟩))) (hb : Blk w g T' cs) (ht : tiO P T = some (true, s, b, z)) (hs : subL cs i s = some vs) (hu : lk e u = some v) (h : R (.tuple #[.agg vs.toArray, v]) w) : fin P n fn R .ret e w := fun a ha => by
  have h1 := ha.2.2 t _ hv
  have h3 := ha.2.2 u _ hu
  have h2 : (loadVar T ⟨g, i, none⟩).run P w = .ok (.agg vs.toArray) w := run_loadVarA ht (subL_spec hs).1 (fun j v hj => by rw [add_blk, hb.cell]; exact (subL_spec hs).2 j v hj)
  refine ⟨_, ?_, h⟩
  rw [results_cell_tmp hr, h1, h3]
  simp [asAddr, h2]
end

structure Desc where
  node : Int
  kind : Int
  size : Int
  duration : Int
  change : Bool
def Desc.cells (d : Desc) : List Value := [.int .i64 d.node, .int .i64 d.kind, .int .i64 d.size, .int .i64 d.duration, .bool d.change]
theorem Desc.len (d : Desc) : d.cells.length = 5 := rfl
structure SlotI where
  mode : Int
  round : Int
  slot : Int
  desc : Desc
def SlotI.cells (s : SlotI) : List Value := [.int .i64 s.mode, .int .i64 s.round, .int .i64 s.slot, .int .i64 s.desc.node, .int .i64 s.desc.kind, .int .i64 s.desc.size, .int .i64 s.desc.duration, .bool s.desc.change]
theorem SlotI.len (s : SlotI) : s.cells.length = 8 := rfl
structure Dem where
  node : Int
  every : Int
  size : Int
def Dem.cells (d : Dem) : List Value := [.int .i64 d.node, .int .i64 d.every, .int .i64 d.size]
theorem Dem.len (d : Dem) : d.cells.length = 3 := rfl

def cmpI (a b : Int) : Int := if a < b then -1 else if b < a then 1 else 0
def cmpS (a b : SlotI) : Int := if a.mode ≠ b.mode then cmpI a.mode b.mode else if a.round ≠ b.round then cmpI a.round b.round else cmpI a.slot b.slot

theorem cmp3_eq {a b : SlotI} {k : Nat} (h : ∀ i : Nat, i < k → [a.mode, a.round, a.slot][i]? = [b.mode, b.round, b.slot][i]?) (hk : 3 ≤ k) : 0 = cmpS a b := by
  have h0 := h 0 (by omega); have h1 := h 1 (by omega); have h2 := h 2 (by omega)
  simp at h0 h1 h2
  simp [cmpS, h0, h1, h2, cmpI]
theorem cmp3_lt {a b : SlotI} {k : Nat} {x y : Int} (h : ∀ i : Nat, i < k → [a.mode, a.round, a.slot][i]? = [b.mode, b.round, b.slot][i]?) (hx : [a.mode, a.round, a.slot][k]? = some x) (hy : [b.mode, b.round, b.slot][k]? = some y) (hlt : x < y) : -1 = cmpS a b := by
  match k, h, hx, hy with
  | 0, h, hx, hy => simp at hx hy; subst hx; subst hy; simp [cmpS, cmpI, hlt, Int.ne_of_lt hlt]
  | 1, h, hx, hy =>
    have h0 := h 0 (by omega)
    simp at hx hy h0; subst hx; subst hy; simp [cmpS, cmpI, hlt, Int.ne_of_lt hlt, h0]
  | 2, h, hx, hy =>
    have h0 := h 0 (by omega); have h1 := h 1 (by omega)
    simp at hx hy h0 h1; subst hx; subst hy; simp [cmpS, cmpI, hlt, h0, h1]
  | k + 3, h, hx, hy => simp at hx
theorem cmp3_gt {a b : SlotI} {k : Nat} {x y : Int} (h : ∀ i : Nat, i < k → [a.mode, a.round, a.slot][i]? = [b.mode, b.round, b.slot][i]?) (hx : [a.mode, a.round, a.slot][k]? = some x) (hy : [b.mode, b.round, b.slot][k]? = some y) (hlt : y < x) : 1 = cmpS a b := by
  have hn : ¬ x < y := by omega
  match k, h, hx, hy with
  | 0, h, hx, hy => simp at hx hy; subst hx; subst hy; simp [cmpS, cmpI, hlt, hn, (Int.ne_of_lt hlt).symm]
  | 1, h, hx, hy =>
    have h0 := h 0 (by omega)
    simp at hx hy h0; subst hx; subst hy; simp [cmpS, cmpI, hlt, hn, (Int.ne_of_lt hlt).symm, h0]
  | 2, h, hx, hy =>
    have h0 := h 0 (by omega); have h1 := h 1 (by omega)
    simp at hx hy h0 h1; subst hx; subst hy; simp [cmpS, cmpI, hlt, hn, h0, h1]
  | k + 3, h, hx, hy => simp at hx

end Go.Proofs.YtdoibplhbdkapaaGreatDoor
namespace Go.Proofs.YtdoibplhbdkapaaGreatDoor
open Go.RowKit
set_option linter.unusedVariables false

section
variable {P : Program} {e : List (Nat × Value)} {w : World} {K : Value → World → Prop} {ty : TypeId} {m : Bool}
theorem ow_callB {f : FuncId} {args : Array Operand} {ts : Array TypeId} {vs : List Value} (hf : Enters P f) (hx : argsO e args.toList = some vs)
    (hc : Calls P f vs.toArray w (Ret fun v w' => v = .bool m ∧ Ext w w')) (h1 : ∀ w', m = true → Ext w w' → K (.bool true) w') (h2 : ∀ w', m = false → Ext w w' → K (.bool false) w') : OpWp P e (.call ⟨.value (.func f), args, ts⟩) ty w K :=
  ow_call hf hx (ret_mono hc fun v w' h => by
    obtain ⟨rfl, hx⟩ := h
    cases hm : m
    · exact h2 w' hm hx
    · exact h1 w' hm hx)
end

section
variable {P : Program} {n : Nat} {ops : Array Oper} {K : List (Nat × Value) → World → Prop} {l : List Oper} {fl : List Bool} {e : List (Nat × Value)} {S : World → Prop} {dst : Option Tmp} {op : Op} {ty : TypeId} {pos : String} {af : Array Edge} {m : Bool}
theorem f_qB (hd : dstOk n dst = true) (hy : ∀ w, S w → OpWp P e op ty w fun u w' => u = .bool m ∧ Ext w w')
    (h1 : m = true → FOps P n ops K l fl (updO e dst (.bool true)) S) (h2 : m = false → FOps P n ops K l fl (updO e dst (.bool false)) S) : FOps P n ops K (⟨dst, op, ty, pos, af, none⟩ :: l) (false :: fl) e S := by
  refine f_q hd hy ?_
  cases hm : m
  · exact h2 hm
  · exact h1 hm
end

theorem drop_at {α : Type} {xs : List α} {k : Nat} (h : k < xs.length) : ∃ x, xs[k]? = some x ∧ xs.drop k = x :: xs.drop (k + 1) :=
  ⟨xs[k], List.getElem?_eq_getElem h, List.drop_eq_getElem_cons h⟩
theorem drop_end {α : Type} {xs : List α} {k : Nat} (h : ¬ (k : Int) < (xs.length : Int)) : xs.drop k = [] :=
  List.drop_eq_nil_of_le (by omega)
theorem drop_at' {α : Type} {xs : List α} {k : Nat} (h : (k : Int) < (xs.length : Int)) : ∃ x, xs[k]? = some x ∧ xs.drop k = x :: xs.drop (k + 1) := drop_at (by omega)

theorem Own.to {w : World} {lo : Nat} {t : TypeId} {s n c : Nat} {A : Option Addr} {cs cs' : List Value} (h : Own w lo t s A n c cs) (e : cs = cs') : Own w lo t s A n c cs' := e ▸ h
end Go.Proofs.YtdoibplhbdkapaaGreatDoor
namespace Go.Proofs.YtdoibplhbdkapaaGreatDoor
open Go.RowKit
set_option linter.unusedVariables false

theorem snoc {α : Type} (enc : α → List Value) (xs : List α) (x : α) : (xs ++ [x]).flatMap enc = xs.flatMap enc ++ enc x := by simp
def strOf (bs : List UInt8) : ByteArray := ⟨bs.toArray⟩
theorem flat_eB (bs : List UInt8) : bs.flatMap eB = (bs.map (fun b => (b.toNat : Int))).map (Value.int .u8) := by
  induction bs with
  | nil => rfl
  | cons b bs ih => simp [List.flatMap_cons, ih, eB]

section
variable {P : Program} {e : List (Nat × Value)} {w : World} {K : Value → World → Prop} {ty : TypeId} {x : Operand}
theorem ow_convBS {src dst el : TypeId} {A : Option Addr} {B n c : Nat} {bs : List UInt8} (hs : P.underlying src = some (.slice el)) (he : P.underlying el = some (.int .u8)) (hd : P.underlying dst = some .string)
    (hr : Sl B w A (bs.flatMap eB)) (hx : evO e x = some (.slice A n c)) (hn : n = bs.length) (h : K (.string (strOf bs)) w) : OpWp P e (.convert src dst x) ty w K := fun ρ d p a g hρ => by
  have h1 := hρ _ _ hx
  have hrun : (convert src dst (.slice A n c)).run P w = .ok (.string (strOf bs)) w := by
    match A with
    | none =>
      have hb : bs = [] := by
        cases bs with
        | nil => rfl
        | cons b bs =>
          have := (hr.2 0 _ (by rw [List.flatMap_cons]; rfl)).1
          simp at this
      subst hb
      exact run_convert_bytes_nil w src el hs he _ _ dst hd
    | some ad =>
      have hl : (loadCells ad n).run P w = .ok ((bs.map (fun b => (b.toNat : Int))).map (Value.int .u8)).toArray w := by
        have := run_loadCells_list (P := P) w ad (bs.flatMap eB) (fun j v hj => hr.at_ hj)
        rw [flat_len eB_len, Nat.mul_one, ← hn] at this
        rw [this, flat_eB]
      rw [run_convert_bytes_string w src dst el _ n c hs he hd, run_bytesToString w _ n c _ hl, foldl_push_bytes]
      have e1 : (bs.map (fun b => (b.toNat : Int))).map (fun n => UInt8.ofNat n.toNat) = bs := by
        rw [List.map_map]
        conv => rhs; rw [← List.map_id bs]
        apply List.map_congr_left
        intro b _
        simp
      rw [e1]
      simp [strOf, ByteArray.empty, ByteArray.emptyWithCapacity]
      rfl
  simp only [execOp, h1, hrun, upto, Sem.run_bind, Result.andThen_ok, Sem.run_pure]
  exact h
end

theorem set_field {α : Type} {enc : α → List Value} {s f s' : Nat} (he : ∀ x, (enc x).length = s) {x x' : α} {vs : List Value} (hv : enc x' = (enc x).take f ++ vs ++ (enc x).drop (f + s')) (hf : f + s' ≤ s) : ∀ (xs : List α) (k : Nat), xs[k]? = some x →
    (xs.flatMap enc).take (k * s + f) ++ vs ++ (xs.flatMap enc).drop (k * s + f + s') = (xs.set k x').flatMap enc
  | [], k, h => by simp at h
  | y :: ys, 0, h => by
    simp only [List.getElem?_cons_zero, Option.some.injEq] at h
    subst h
    simp only [Nat.zero_mul, Nat.zero_add, List.flatMap_cons, List.set_cons_zero, hv]
    rw [List.take_append_of_le_length (by rw [he]; omega), List.drop_append_of_le_length (by rw [he]; omega)]
    simp
  | y :: ys, k + 1, h => by
    have ih := set_field he hv hf ys k (by simpa using h)
    have e1 : (k + 1) * s + f = s + (k * s + f) := by rw [Nat.add_mul, Nat.one_mul]; omega
    simp only [List.flatMap_cons, List.set_cons_succ, e1, ← ih]
    rw [List.take_append, List.take_of_length_le (by rw [he]; omega), List.drop_append, List.drop_of_length_le (by rw [he]; omega), he,
      show s + (k * s + f) - s = k * s + f by omega, show s + (k * s + f) + s' - s = k * s + f + s' by omega]
    simp
section
variable {P : Program} {e : List (Nat × Value)} {w : World} {K : Value → World → Prop} {ty t el : TypeId} {x y : Operand} {s b : Nat} {a : Bool} {z : List Value}
theorem ow_storeRF {lo n c j f s' : Nat} {A : Option Addr} {cs vs : List Value} {v : Value} (hown : Own w lo el s A n c cs) (ht : tiO P t = some (a, s', b, z)) (hx : evO e x = some (.pointer (some (((base A).add j).add f)))) (hv : evO e y = some v) (hc : v.cells = vs.toArray) (hl : vs.length = s') (hj : j + f + s' ≤ n * s) (h0 : 0 < n * s)
    (h1 : vs.all (·.oneCell') = true) (h : ∀ w', Own w' lo el s A n c (cs.take (j + f) ++ vs ++ cs.drop (j + f + s')) → w.grownBy w' ((Value.slice A n c).ownBlock) → w'.heap.size = w.heap.size → K undef w') : OpWp P e (.store t x y) ty w K :=
  ow_storeR hown ht (by rw [hx, add_add']) hv hc hl hj h0 h1 h
theorem ow_storeRFF {lo n c j f g s' : Nat} {A : Option Addr} {cs vs : List Value} {v : Value} (hown : Own w lo el s A n c cs) (ht : tiO P t = some (a, s', b, z)) (hx : evO e x = some (.pointer (some ((((base A).add j).add f).add g)))) (hv : evO e y = some v) (hc : v.cells = vs.toArray) (hl : vs.length = s') (hj : j + (f + g) + s' ≤ n * s) (h0 : 0 < n * s)
    (h1 : vs.all (·.oneCell') = true) (h : ∀ w', Own w' lo el s A n c (cs.take (j + (f + g)) ++ vs ++ cs.drop (j + (f + g) + s')) → w.grownBy w' ((Value.slice A n c).ownBlock) → w'.heap.size = w.heap.size → K undef w') : OpWp P e (.store t x y) ty w K :=
  ow_storeR hown ht (by rw [hx, add_add', add_add']) hv hc hl hj h0 h1 h
end
section
variable {P : Program} {e : List (Nat × Value)} {w : World} {K : Value → World → Prop} {ty t t' : TypeId} {x y : Operand} {b c : Bool}
theorem ow_eqlBd (ht : P.underlying t = some .bool) (hx : evO e x = some (.bool b)) (hy : evO e y = some (.bool c)) (h : K (.bool (decide (b = c))) w) : OpWp P e (.binOp .eql t x y t') ty w K :=
  ow_eqlB ht hx hy (by have e1 : (b == c) = decide (b = c) := by cases b <;> cases c <;> rfl
                       rw [e1]; exact h)
theorem ow_eqlBd2 (ht : P.underlying t = some .bool) (hx : evO e x = some (.bool b)) (hy : evO e y = some (.bool c)) (h1 : b = c → K (.bool true) w) (h2 : ¬ (b = c) → K (.bool false) w) : OpWp P e (.binOp .eql t x y t') ty w K :=
  ow_eqlBd ht hx hy (bsp (R := fun b => K (.bool b) w) h1 h2)
end
section
variable {P : Program} {e : List (Nat × Value)} {w : World} {K : Value → World → Prop} {ty : TypeId} {m : Bool}
theorem ow_callVL {f : FuncId} {x : Operand} {cs : List Value} {args : Array Operand} {ts : Array TypeId} {vs : List Value} (hf : Enters P f) (hv : evO e x = some (.func (.func f) #[] cs.toArray)) (hx : argsO e args.toList = some vs)
    (hc : Calls P f (vs ++ cs).toArray w (Ret K)) : OpWp P e (.call ⟨.value x, args, ts⟩) ty w K :=
  ow_callV hf hv hx (by
    have e1 : (#[] ++ vs.toArray ++ cs.toArray : Array Value) = (vs ++ cs).toArray := by simp
    rw [e1]; exact hc)
theorem ow_callVLB {f : FuncId} {x : Operand} {cs : List Value} {args : Array Operand} {ts : Array TypeId} {vs : List Value} (hf : Enters P f) (hv : evO e x = some (.func (.func f) #[] cs.toArray)) (hx : argsO e args.toList = some vs)
    (hc : Calls P f (vs ++ cs).toArray w (Ret fun v w' => v = .bool m ∧ Ext w w')) (h1 : ∀ w', m = true → Ext w w' → K (.bool true) w') (h2 : ∀ w', m = false → Ext w w' → K (.bool false) w') : OpWp P e (.call ⟨.value x, args, ts⟩) ty w K :=
  ow_callVL hf hv hx (ret_mono hc fun v w' h => by
    obtain ⟨rfl, hx⟩ := h
    cases hm : m
    · exact h2 w' hm hx
    · exact h1 w' hm hx)
end
theorem gb_refl (w : World) (row : Option Nat) : w.grownBy w row := ⟨rfl, rfl, rfl, Nat.le_refl _, fun _ _ _ => rfl⟩
theorem gb_trans {w a b : World} {row : Option Nat} (h : w.grownBy a row) (k : a.grownBy b row) : w.grownBy b row :=
  ⟨k.os.trans h.os, k.tape.trans h.tape, k.output.trans h.output, Nat.le_trans h.size k.size, fun i hi hr => (k.block i (Nat.lt_of_lt_of_le hi h.size) hr).trans (h.block i hi hr)⟩
section
variable {w w' : World} {lo lo' n c s n' c' s' g : Nat} {t t' : TypeId} {A A' : Option Addr} {cs cs' ds : List Value}
theorem Own.grown {row : Option Nat} (h : Own w lo t s A n c cs) (hg : w.grownBy w' row) (hr : ∀ g, row = some g → (Value.slice A n c).ownBlock ≠ some g) : Own w' lo t s A n c cs := by
  refine ⟨h.1, ?_⟩
  rcases h.2 with h2 | ⟨g, cap, cur, hv, hlo, hh, r⟩
  · exact .inl h2
  · exact .inr ⟨g, cap, cur, hv, hlo, (hg.block g (Array.getElem?_eq_some_iff.1 hh).1 (fun e => hr g e.symm (by rw [hv]; rfl))).trans hh, r⟩
theorem Own.grownBlk (h : Own w lo t s A n c cs) (hg : w.grownBy w' (some g)) (hr : (Value.slice A n c).ownBlock ≠ some g) : Own w' lo t s A n c cs :=
  h.grown hg fun g' e => by injection e with e; rw [← e]; exact hr
theorem Own.at_ (h : Own w lo t s A n c cs) (hg : (Value.slice A n c).ownBlock = some g) : ∃ cur, w.heap[g]? = some (.cells cur t (0, 0)) := by
  rcases h.2 with ⟨h1, h2⟩ | ⟨g', cap, cur, hv, hlo, hh, r⟩
  · rw [h1] at hg; simp [Value.ownBlock] at hg
  · rw [hv] at hg
    have e : g' = g := by simpa [Value.ownBlock] using hg
    subst e; exact ⟨cur, hh⟩
/-- rows and blocks of different types are different blocks -/
theorem Own.neT (h : Own w lo t s A n c cs) (hb : Blk w g t' ds) (ht : t ≠ t') : (Value.slice A n c).ownBlock ≠ some g := fun e => by
  obtain ⟨cur, h1⟩ := h.at_ e
  unfold Blk at hb
  rw [h1] at hb
  injection hb with hb; injection hb with _ h2; exact ht h2
theorem Own.neO (h : Own w lo t s A n c cs) (k : Own w lo' t' s' A' n' c' ds) (ht : t ≠ t') : ∀ g, (Value.slice A' n' c').ownBlock = some g → (Value.slice A n c).ownBlock ≠ some g := fun g hg e => by
  obtain ⟨cur, h1⟩ := h.at_ e
  obtain ⟨cur', h2⟩ := k.at_ hg
  rw [h1] at h2
  injection h2 with h2; injection h2 with _ h3; exact ht h3
end
end Go.Proofs.YtdoibplhbdkapaaGreatDoor
namespace Go.Proofs.YtdoibplhbdkapaaGreatDoor
open Go.RowKit
set_option linter.unusedVariables false
set_option linter.unusedSimpArgs false

def inB (a b c : Int) : Bool := decide (b ≤ a) && decide (a ≤ c)
theorem inB_iff {a b c : Int} : inB a b c = true ↔ b ≤ a ∧ a ≤ c := by simp [inB]

def dataOk (k z : Int) : Bool := if k = 0 then inB z 0 32 else if k = 2 then inB z 1 32 else decide (z = 0)
def bodyS (k z : Int) : Int := 1 + (if k = 0 then 0 else 8) + (if k = 0 ∨ k = 2 then 1 + z else 0)
def cellsS (k z : Int) : Int := 11 + 10 * (bodyS k z + 3)
def descOk (d : Desc) : Bool := inB d.node 0 31 && inB d.kind 0 3 && dataOk d.kind d.size && !(d.change && decide (d.kind = 3)) && inB d.duration (cellsS d.kind d.size + 20) 1000
def slotOk (x : SlotI) : Bool := inB x.mode 0 15 && inB x.round 0 7 && inB x.slot 0 15 && descOk x.desc
def okFrom : Option SlotI → List SlotI → Bool
  | _, [] => true
  | none, x :: r => slotOk x && okFrom (some x) r
  | some y, x :: r => slotOk x && decide (cmpS y x < 0) && okFrom (some x) r
def isST (xs : List SlotI) : Bool := okFrom none xs && decide (xs.length ≤ 120)
def prevO (xs : List SlotI) (k : Nat) : Option SlotI := if k = 0 then none else xs[k - 1]?
theorem prevO_succ {xs : List SlotI} {k : Nat} {x : SlotI} (h : xs[k]? = some x) : prevO xs (k + 1) = some x := by simp [prevO, h]
theorem prevO_pos {xs : List SlotI} {k : Nat} {y : SlotI} (hk : 0 < k) (h : xs[k - 1]? = some y) : prevO xs k = some y := by rw [prevO, if_neg (by omega)]; exact h
theorem prevO_zero {xs : List SlotI} {k : Nat} (hk : ¬ 0 < (k : Int)) : prevO xs k = none := by rw [prevO, if_pos (by omega)]
theorem okFrom_all : ∀ (xs : List SlotI) (p : Option SlotI), okFrom p xs = true → ∀ x ∈ xs, slotOk x = true
  | [], _, _, x, hx => by simp at hx
  | y :: r, p, h, x, hx => by
    have h1 : slotOk y = true ∧ okFrom (some y) r = true := by
      cases p <;> simp [okFrom] at h
      · exact h
      · exact ⟨h.1.1, h.2⟩
    rcases List.mem_cons.1 hx with rfl | hx
    · exact h1.1
    · exact okFrom_all r _ h1.2 x hx
def hitS (m r s : Int) (x : SlotI) : Bool := decide (x.mode = m) && decide (x.round = r) && decide (x.slot = s)
/-- the place of the first one that fits, counted from k on; -1 if none -/
def findS (f : SlotI → Bool) (k : Int) : List SlotI → Int
  | [] => -1
  | x :: r => if f x = true then k else findS f (k + 1) r
theorem findS_lt {f : SlotI → Bool} : ∀ (xs : List SlotI) (k : Nat), findS f k xs = -1 ∨ ∃ j x, findS f k xs = ((k + j : Nat) : Int) ∧ xs[j]? = some x ∧ f x = true
  | [], k => .inl rfl
  | x :: r, k => by
    rw [findS]
    split
    · exact .inr ⟨0, x, rfl, rfl, by assumption⟩
    · rcases findS_lt r (k + 1) with h | ⟨j, y, h, h1, h2⟩
      · exact .inl h
      · refine .inr ⟨j + 1, y, ?_, by simpa using h1, h2⟩
        rw [show ((k : Int) + 1) = ((k + 1 : Nat) : Int) by omega, h]; congr 1; omega
end Go.Proofs.YtdoibplhbdkapaaGreatDoor
namespace Go.Proofs.YtdoibplhbdkapaaGreatDoor
open Go.RowKit
set_option linter.unusedVariables false
set_option linter.unusedSimpArgs false

def WI (P : Program) (ops : Array Oper) (I : World → Prop) (K : Act → World → Prop) : Nat → Array Bool → Act → World → Prop
  | 0, listed, a, w => listed = finOf ops ops.size ∧ I w ∧ K a w
  | fuel + 1, listed, a, w => I w ∧ rdy ops ops.size listed ≠ [] ∧ ∀ i ∈ rdy ops ops.size listed, ∀ o, ops[i]? = some o →
      OpX P ops o a w fun u w' => WI P ops I K fuel (listed.setIfInBounds i true) (a.put o.dst u) w'

section
variable {P : Program} {ops : Array Oper} {I : World → Prop} {K : Act → World → Prop}
theorem WI.inv : ∀ {fuel : Nat} {listed : Array Bool} {a : Act} {w : World}, WI P ops I K fuel listed a w → I w
  | 0, _, _, _, h => h.2.1
  | _ + 1, _, _, _, h => h.1

theorem WI_first {i : Nat} {oi : Oper} {v : Value} (hi : ops[i]? = some oi) (hsel : ∀ (j : Nat) (o : Oper) cs b, ops[j]? = some o → o.op ≠ .select cs b) :
    ∀ (fuel : Nat) (listed : Array Bool) (a : Act) (w : World),
      (∀ j oj, ops[j]? = some oj → j ≠ i → listed.getD j true = false → (∀ e ∈ oj.after, Region.binds .any e = true → e.on ≠ i) → oi.apart ops oj = true) →
      i ∈ rdy ops ops.size listed → (∀ w, I w → OpX P ops oi a w fun u w' => u = v ∧ w' = w) →
      WI P ops I K fuel (listed.setIfInBounds i true) (a.put oi.dst v) w → WI P ops I K (fuel + 1) listed a w := by
  have here : ∀ (fuel : Nat) (listed : Array Bool) (a : Act) (w : World), (∀ w, I w → OpX P ops oi a w fun u w' => u = v ∧ w' = w) →
      WI P ops I K fuel (listed.setIfInBounds i true) (a.put oi.dst v) w →
      OpX P ops oi a w fun u w' => WI P ops I K fuel (listed.setIfInBounds i true) (a.put oi.dst u) w' := by
    intro fuel listed a w hy H
    refine OpX.mono (hy w H.inv) fun u w' ⟨h1, h2⟩ => ?_
    subst h1; subst h2; exact H
  intro fuel
  induction fuel with
  | zero =>
    intro listed a w _ hr hy H
    refine ⟨H.inv, fun h => (by rw [h] at hr; cases hr), fun j hj o ho => ?_⟩
    by_cases hji : j = i
    · subst hji
      obtain rfl : o = oi := by rw [hi] at ho; injection ho with ho; exact ho.symm
      exact here 0 listed a w hy H
    · exfalso
      obtain ⟨hj1, hj2⟩ := mem_rdy.1 hj
      have h1 := (mem_ready.1 (ready_mono hj1 hji)).1
      rw [H.1, finOf_spec j hj2] at h1
      cases h1
  | succ fuel ih =>
    intro listed a w hfree hr hy H
    refine ⟨H.inv, fun h => (by rw [h] at hr; cases hr), fun j hj oj hoj => ?_⟩
    by_cases hji : j = i
    · subst hji
      obtain rfl : oj = oi := by rw [hi] at hoj; injection hoj with ho; exact ho.symm
      exact here _ listed a w hy H
    · obtain ⟨hj1, hj2⟩ := mem_rdy.1 hj
      obtain ⟨hi1, hi2⟩ := mem_rdy.1 hr
      have hex := H.2.2 j (mem_rdy.2 ⟨ready_mono hj1 hji, hj2⟩) oj hoj
      obtain ⟨hjun, oj', hoj', hall⟩ := mem_ready.1 hj1
      obtain rfl : oj' = oj := by rw [hoj] at hoj'; injection hoj' with ho; exact ho.symm
      have hnot : ∀ e ∈ oj'.after, Region.binds .any e = true → e.on ≠ i := fun e he hb heq => by
        have h1 := hall e he hb
        have h0 := (mem_ready.1 hi1).1
        rw [heq] at h1
        rcases Nat.lt_or_ge i listed.size with h' | h'
        · simp [h'] at h0 h1; rw [h0] at h1; cases h1
        · simp [Array.getElem?_eq_none h'] at h1
      have hap := hfree j oj' hoj hji hjun hnot
      obtain ⟨ha1, ha2, ha3⟩ := Oper.apart_spec hap
      refine OpX.mono ((OpX.put (fun cs b => hsel j oj' cs b hoj) ha1).1 hex) fun u w' hu => ?_
      refine ih _ _ _ ?_ (mem_rdy.2 ⟨ready_mono hi1 (Ne.symm hji), hi2⟩) (fun w hw => (OpX.put (fun cs b => hsel i oi cs b hi) ha3).2 (hy w hw)) ?_
      · intro k ok hk hki hun hno
        refine hfree k ok hk hki ?_ hno
        by_cases hjk : j = k
        · subst hjk; exact hjun
        · rw [getD_set_ne true hjk] at hun; exact hun
      · rw [Array.setIfInBounds_comm _ _ hji, ← Act.put_comm a v u ha2]
        exact hu

theorem WI_any {Q : Exit → Act → World → Prop} (hK : ∀ a w, K a w → wpAny P .any ops Q 0 (finOf ops ops.size) a w) :
    ∀ (fuel : Nat) (listed : Array Bool) (a : Act) (w : World), WI P ops I K fuel listed a w → wpAny P .any ops Q fuel listed a w := by
  intro fuel
  induction fuel with
  | zero => intro listed a w h; obtain ⟨rfl, _, h2⟩ := h; exact hK _ _ h2
  | succ fuel ih =>
    intro listed a w h
    obtain ⟨_, hne, hall⟩ := h
    obtain ⟨k, hk⟩ := List.exists_mem_of_ne_nil _ hne
    refine ⟨fun h0 => (by have := (mem_rdy.1 hk).1; rw [h0] at this; cases this), fun i hi => ?_⟩
    obtain ⟨hiun, oi, hoi, hedge⟩ := mem_ready.1 hi
    have him : i < ops.size := (Array.getElem?_eq_some_iff.1 hoi).1
    exact OpX.wpOp hoi (hall i (mem_rdy.2 ⟨hi, him⟩) oi hoi) fun v w' hv => ih _ _ _ hv
end

theorem ready_fin (ops : Array Oper) : Region.ready .any ops (finOf ops ops.size) = [] := by
  apply List.eq_nil_iff_forall_not_mem.2
  intro i hi
  obtain ⟨h1, o, ho, _⟩ := mem_ready.1 hi
  have hlt : i < ops.size := (Array.getElem?_eq_some_iff.1 ho).1
  rw [finOf_spec i hlt] at h1
  cases h1
def WE (P : Program) (n : Nat) (ops : Array Oper) (I : World → Prop) (K : Act → World → Prop) (fuel : Nat) (listed : Array Bool) (e : List (Nat × Value)) (w : World) : Prop :=
  ∀ a, Fits n e a → WI P ops I K fuel listed a w

section
variable {P : Program} {n : Nat} {ops : Array Oper} {I : World → Prop} {K : Act → World → Prop} {fuel : Nat} {listed listed' : Array Bool} {e : List (Nat × Value)} {w : World}
/-- a quiet one is taken first -/
theorem wi_take (i : Nat) {dst : Option Tmp} {op : Op} {ty : TypeId} {pos : String} {af : Array Edge} {v : Value} (hi : ops[i]? = some ⟨dst, op, ty, pos, af, none⟩) (hs : Region.noSelect ops = true) (hd : dstOk n dst = true)
    (ht : takeB ops ops.size listed i = true) (hl : listed.setIfInBounds i true = listed') (hy : ∀ w, I w → OpWp P e op ty w fun u w' => u = v ∧ w' = w)
    (h : WE P n ops I K fuel listed' (updO e dst v) w) : WE P n ops I K (fuel + 1) listed e w := fun a ha => by
  simp only [takeB, Bool.and_eq_true] at ht
  refine WI_first hi (Region.noSelect_spec hs) fuel listed a w (Region.free_spec hi ht.1) (by simpa using ht.2) (fun w hw => (hy w hw).opX ha) ?_
  rw [hl]
  exact h _ (ha.put dst v hd)
/-- number i alone may come up -/
theorem wi_one (i : Nat) {dst : Option Tmp} {op : Op} {ty : TypeId} {pos : String} {af : Array Edge} (hi : ops[i]? = some ⟨dst, op, ty, pos, af, none⟩) (hd : dstOk n dst = true)
    (hr : rdy ops ops.size listed = [i]) (hl : listed.setIfInBounds i true = listed') (hI : I w) (hy : OpWp P e op ty w fun u w' => WE P n ops I K fuel listed' (updO e dst u) w') : WE P n ops I K (fuel + 1) listed e w := fun a ha => by
  refine ⟨hI, by rw [hr]; simp, fun j hj o ho => ?_⟩
  rw [hr] at hj
  obtain rfl : j = i := by simpa using hj
  obtain rfl : ⟨dst, op, ty, pos, af, none⟩ = o := by rw [hi] at ho; injection ho
  refine OpX.mono (OpWp.opX ha hy) fun u w' hu => ?_
  rw [hl]
  exact hu _ (ha.put dst u hd)
/-- numbers i and k alone may come up -/
theorem wi_two (i k : Nat) {listed'' : Array Bool} {dst : Option Tmp} {op : Op} {ty : TypeId} {pos : String} {af : Array Edge} {dst2 : Option Tmp} {op2 : Op} {ty2 : TypeId} {pos2 : String} {af2 : Array Edge} (hi : ops[i]? = some ⟨dst, op, ty, pos, af, none⟩) (hk : ops[k]? = some ⟨dst2, op2, ty2, pos2, af2, none⟩) (hd : dstOk n dst = true) (hd2 : dstOk n dst2 = true)
    (hr : rdy ops ops.size listed = [i, k]) (hl : listed.setIfInBounds i true = listed') (hl2 : listed.setIfInBounds k true = listed'') (hI : I w) (hy : OpWp P e op ty w fun u w' => WE P n ops I K fuel listed' (updO e dst u) w')
    (hy2 : OpWp P e op2 ty2 w fun u w' => WE P n ops I K fuel listed'' (updO e dst2 u) w') : WE P n ops I K (fuel + 1) listed e w := fun a ha => by
  refine ⟨hI, by rw [hr]; simp, fun j hj o ho => ?_⟩
  rw [hr] at hj
  simp only [List.mem_cons, List.not_mem_nil, or_false] at hj
  rcases hj with rfl | rfl
  · obtain rfl : ⟨dst, op, ty, pos, af, none⟩ = o := by rw [hi] at ho; injection ho
    refine OpX.mono (OpWp.opX ha hy) fun u w' hu => ?_
    rw [hl]
    exact hu _ (ha.put dst u hd)
  · obtain rfl : ⟨dst2, op2, ty2, pos2, af2, none⟩ = o := by rw [hk] at ho; injection ho
    refine OpX.mono (OpWp.opX ha hy2) fun u w' hu => ?_
    rw [hl2]
    exact hu _ (ha.put dst2 u hd2)
/-- all are done -/
theorem wi_done (hl : listed = finOf ops ops.size) (hI : I w) (h : ∀ a, Fits n e a → K a w) : WE P n ops I K 0 listed e w := fun a ha => ⟨hl, hI, h a ha⟩
end

theorem c_seqI {P : Program} {n : Nat} {id : Nat} {l : List Oper} {e : List (Nat × Value)} {w : World} {Q : Exit → List (Nat × Value) → World → Prop} {y : Code} (I : World → Prop)
    (hx : P.follows .mixedOrders = true)
    (h : WE P n l.toArray I (fun a w => ∃ e', Fits n e' a ∧ CWp P n y e' w Q) l.toArray.size (Array.replicate l.toArray.size false) e w.drew) : CWp P n (.seq (.region id l.toArray true) y) e w Q := c_seq fun a ha => by
  refine wp_region_any hx ?_
  exact WI_any (K := fun a w => ∃ e', Fits n e' a ∧ CWp P n y e' w Q) (Q := fun x a' w' => ∃ e', Fits n e' a' ∧ thenQ (fun e' w' => CWp P n y e' w' Q) Q x e' w') (fun a w ⟨e', hf, hk⟩ => ⟨ready_fin _, e', hf, hk⟩) _ _ _ _ (h a ha)
theorem c_regI {P : Program} {n : Nat} {id : Nat} {l : List Oper} {e : List (Nat × Value)} {w : World} {Q : Exit → List (Nat × Value) → World → Prop} (I : World → Prop)
    (hx : P.follows .mixedOrders = true)
    (h : WE P n l.toArray I (fun a w => ∃ e', Fits n e' a ∧ Q .normal e' w) l.toArray.size (Array.replicate l.toArray.size false) e w.drew) : CWp P n (.region id l.toArray true) e w Q := fun a ha => by
  refine wp_region_any hx ?_
  exact WI_any (K := fun a w => ∃ e', Fits n e' a ∧ Q .normal e' w) (Q := fun x a' w' => ∃ e', Fits n e' a' ∧ Q x e' w') (fun a w ⟨e', hf, hk⟩ => ⟨ready_fin _, e', hf, hk⟩) _ _ _ _ (h a ha)

theorem gb_ext {w a b : World} {row : Option Nat} (h : w.grownBy a row) (k : Ext a b) : w.grownBy b row :=
  ⟨k.os.trans h.os, k.tape.trans h.tape, k.output.trans h.output, Nat.le_trans h.size k.size, fun i hi hr => (k.block i (Nat.lt_of_lt_of_le hi h.size)).trans (h.block i hi hr)⟩
theorem gb_new {w a b : World} {row row' : Option Nat} (h : w.grownBy a row) (k : a.grownBy b row') (hr : ∀ g, row' = some g → w.heap.size ≤ g) : w.grownBy b row :=
  ⟨k.os.trans h.os, k.tape.trans h.tape, k.output.trans h.output, Nat.le_trans h.size k.size, fun i hi hn => (k.block i (Nat.lt_of_lt_of_le hi h.size) (fun e => by have := hr i e.symm; omega)).trans (h.block i hi hn)⟩
end Go.Proofs.YtdoibplhbdkapaaGreatDoor
namespace Go.Proofs.YtdoibplhbdkapaaGreatDoor
open Go.RowKit
set_option linter.unusedVariables false
set_option linter.unusedSimpArgs false

structure Mode where
  rounds : Int
  slots : Int
  next : List Int
structure ModeI where
  m : Mode
  A : Option Addr
  c : Nat
def ModeI.cells (x : ModeI) : List Value := [.int .i64 x.m.rounds, .int .i64 x.m.slots, .slice x.A x.m.next.length x.c]
theorem ModeI.len (x : ModeI) : x.cells.length = 3 := rfl

/-- the list of each entry can be read -/
def Nexts (B : Nat) (w : World) (xs : List ModeI) : Prop := B ≤ w.heap.size ∧ ∀ x ∈ xs, Sl B w x.A (x.m.next.flatMap eI) ∧ x.m.next.length ≤ 9223372036854775807
section
variable {B B' : Nat} {w w' : World} {xs ys : List ModeI}
theorem Nexts.at_ {k : Nat} {x : ModeI} (h : Nexts B w xs) (hx : xs[k]? = some x) : Sl B w x.A (x.m.next.flatMap eI) := (h.2 x (List.mem_of_getElem? hx)).1
theorem Nexts.len {k : Nat} {x : ModeI} (h : Nexts B w xs) (hx : xs[k]? = some x) : x.m.next.length ≤ 9223372036854775807 := (h.2 x (List.mem_of_getElem? hx)).2
theorem Nexts.below (h : Nexts B w xs) (hb : Below B w w') : Nexts B w' xs := ⟨Nat.le_trans h.1 hb.size, fun x hx => ⟨(h.2 x hx).1.below hb, (h.2 x hx).2⟩⟩
theorem Nexts.ext (h : Nexts B w xs) (hb : Ext w w') : Nexts B w' xs := h.below (Below.mono hb h.1)
theorem Nexts.grown {row : Option Nat} (h : Nexts B w xs) (hg : w.grownBy w' row) (hr : ∀ g, row = some g → B ≤ g) : Nexts B w' xs := ⟨Nat.le_trans h.1 hg.size, fun x hx => ⟨(h.2 x hx).1.grown hg hr, (h.2 x hx).2⟩⟩
theorem Nexts.more (h : Nexts B w xs) (hB : B ≤ B') (hw : B' ≤ w.heap.size) : Nexts B' w xs := ⟨hw, fun x hx => ⟨(h.2 x hx).1.more hB hw, (h.2 x hx).2⟩⟩
theorem Nexts.nil_ (hB : B ≤ w.heap.size) : Nexts B w [] := ⟨hB, fun x hx => by simp at hx⟩
theorem Nexts.snoc {x : ModeI} (h : Nexts B w xs) (hx : Sl B w x.A (x.m.next.flatMap eI)) (hl : x.m.next.length ≤ 9223372036854775807) : Nexts B w (xs ++ [x]) := ⟨h.1, fun y hy => by
  rcases List.mem_append.1 hy with h1 | h1
  · exact h.2 y h1
  · obtain rfl : y = x := by simpa using h1
    exact ⟨hx, hl⟩⟩
end

/-- the list of each entry is a row of the call's own -/
def NOwn (w : World) (lo : Nat) (t : TypeId) (xs : List ModeI) : Prop := ∀ x ∈ xs, Own w lo t 1 x.A x.m.next.length x.c (x.m.next.flatMap eI) ∧ x.m.next.length ≤ 9223372036854775807
section
variable {w w' : World} {lo lo' n c s g : Nat} {t t' : TypeId} {A : Option Addr} {cs : List Value} {xs : List ModeI}
theorem NOwn.nil_ : NOwn w lo t [] := fun x hx => by simp at hx
theorem NOwn.ext (h : NOwn w lo t xs) (hb : Ext w w') : NOwn w' lo t xs := fun x hx => ⟨(h x hx).1.ext hb, (h x hx).2⟩
theorem NOwn.low (h : NOwn w lo t xs) (hl : lo' ≤ lo) : NOwn w lo' t xs := fun x hx => ⟨(h x hx).1.low hl, (h x hx).2⟩
theorem NOwn.grownO (h : NOwn w lo t xs) (k : Own w lo' t' s A n c cs) (hg : w.grownBy w' (Value.slice A n c).ownBlock) (ht : t ≠ t') : NOwn w' lo t xs := fun x hx => ⟨(h x hx).1.grown hg (Own.neO (h x hx).1 k ht), (h x hx).2⟩
theorem NOwn.grownB (h : NOwn w lo t xs) (k : Blk w g t' cs) (hg : w.grownBy w' (some g)) (ht : t ≠ t') : NOwn w' lo t xs := fun x hx => ⟨(h x hx).1.grownBlk hg (Own.neT (h x hx).1 k ht), (h x hx).2⟩
theorem NOwn.nexts (h : NOwn w lo t xs) : Nexts w.heap.size w xs := ⟨Nat.le_refl _, fun x hx => ⟨(h x hx).1.sl, (h x hx).2⟩⟩
theorem NOwn.snoc {x : ModeI} (h : NOwn w lo t xs) (hx : Own w lo t 1 x.A x.m.next.length x.c (x.m.next.flatMap eI)) (hl : x.m.next.length ≤ 9223372036854775807) : NOwn w lo t (xs ++ [x]) := fun y hy => by
  rcases List.mem_append.1 hy with h1 | h1
  · exact h y h1
  · obtain rfl : y = x := by simpa using h1
    exact ⟨hx, hl⟩
end

def prevG {α : Type} (xs : List α) (k : Nat) : Option α := if k = 0 then none else xs[k - 1]?
theorem prevG_succ {α : Type} {xs : List α} {k : Nat} {x : α} (h : xs[k]? = some x) : prevG xs (k + 1) = some x := by simp [prevG, h]
theorem prevG_pos {α : Type} {xs : List α} {k : Nat} {y : α} (hk : 0 < (k : Int)) (h : xs[k - 1]? = some y) : prevG xs k = some y := by rw [prevG, if_neg (by omega)]; exact h
theorem prevG_zero {α : Type} {xs : List α} {k : Nat} (hk : ¬ 0 < (k : Int)) : prevG xs k = none := by rw [prevG, if_pos (by omega)]
theorem map_at {α β : Type} {f : α → β} {xs : List α} {k : Nat} {x : α} (h : xs[k]? = some x) : (xs.map f)[k]? = some (f x) := by simp [h]

/-- rising, from below up, all in 0 .. n-1 -/
def risesFrom (n : Int) : Option Int → List Int → Bool
  | _, [] => true
  | none, x :: r => inB x 0 (n - 1) && risesFrom n (some x) r
  | some y, x :: r => inB x 0 (n - 1) && decide (y < x) && risesFrom n (some x) r
theorem rises_ok0 {n x : Int} {r : List Int} (h : inB x 0 (n - 1) = true) : risesFrom n none (x :: r) = risesFrom n (some x) r := by simp [risesFrom, h]
theorem rises_ok1 {n x y : Int} {r : List Int} (h : inB x 0 (n - 1) = true) (h2 : y < x) : risesFrom n (some y) (x :: r) = risesFrom n (some x) r := by simp [risesFrom, h, h2]
theorem rises_bad0 {n x : Int} {p : Option Int} {r : List Int} (h : inB x 0 (n - 1) = false) : risesFrom n p (x :: r) = false := by cases p <;> simp [risesFrom, h]
theorem rises_bad1 {n x y : Int} {r : List Int} (h2 : ¬ y < x) : risesFrom n (some y) (x :: r) = false := by simp [risesFrom, h2]
theorem rises_nil {n : Int} {p : Option Int} : risesFrom n p [] = true := by cases p <;> rfl
def risesB (xs : List Int) (n : Int) : Bool := risesFrom n none xs
def hasB (xs : List Int) (v : Int) : Bool := xs.any fun x => decide (x = v)
def idxI (v : Int) (k : Int) : List Int → Int
  | [] => -1
  | x :: r => if x = v then k else idxI v (k + 1) r
theorem idxI_has (v : Int) : ∀ (xs : List Int) (k : Int), 0 ≤ k → decide (0 ≤ idxI v k xs) = hasB xs v
  | [], k, h => by simp [idxI, hasB]
  | x :: r, k, h => by
    rw [idxI]
    by_cases e : x = v
    · rw [if_pos e]; simp [hasB, e, h]
    · rw [if_neg e, idxI_has v r (k + 1) (by omega)]; simp [hasB, e]
def modeOk (n i : Int) (x : Mode) : Bool := inB x.rounds 1 8 && inB x.slots 1 16 && risesB x.next n && !(hasB x.next i)
def modesFrom (n : Int) (i : Int) : List Mode → Bool
  | [] => true
  | x :: r => modeOk n i x && modesFrom n (i + 1) r
theorem modesFrom_at : ∀ (ms : List Mode) (n i : Int) (k : Nat) (x : Mode), modesFrom n i ms = true → ms[k]? = some x → modeOk n (i + k) x = true
  | [], n, i, k, x, h, hx => by simp at hx
  | y :: r, n, i, 0, x, h, hx => by
    simp only [modesFrom, Bool.and_eq_true] at h
    simp at hx; subst hx; simpa using h.1
  | y :: r, n, i, k + 1, x, h, hx => by
    simp only [modesFrom, Bool.and_eq_true] at h
    have := modesFrom_at r n (i + 1) k x h.2 (by simpa using hx)
    rwa [show i + 1 + (k : Int) = i + ((k + 1 : Nat) : Int) by omega] at this
def isMT (ms : List Mode) : Bool := inB ms.length 1 16 && modesFrom ms.length 0 ms
theorem isMT_at {ms : List Mode} {k : Nat} {x : Mode} (h : isMT ms = true) (hx : ms[k]? = some x) : modeOk ms.length k x = true := by
  simp only [isMT, Bool.and_eq_true] at h
  have := modesFrom_at ms _ _ k x h.2 hx
  simpa using this
theorem isMT_len {ms : List Mode} (h : isMT ms = true) : 1 ≤ ms.length ∧ ms.length ≤ 16 := by
  simp only [isMT, Bool.and_eq_true] at h
  have := inB_iff.1 h.1; omega
theorem modeOk_in {n i : Int} {x : Mode} (h : modeOk n i x = true) : (1 ≤ x.rounds ∧ x.rounds ≤ 8) ∧ (1 ≤ x.slots ∧ x.slots ≤ 16) ∧ risesB x.next n = true := by
  simp only [modeOk, Bool.and_eq_true] at h
  exact ⟨inB_iff.1 h.1.1.1, inB_iff.1 h.1.1.2, h.1.2⟩
end Go.Proofs.YtdoibplhbdkapaaGreatDoor
namespace Go.Proofs.YtdoibplhbdkapaaGreatDoor
open Go.RowKit
set_option linter.unusedVariables false
def srcC (A : Option Addr) (c : Nat) (bs : List UInt8) (a : Nat) (sd : Int) : List Value := [.slice A bs.length c, .int .i64 (a : Nat), .int .i64 sd]
theorem u8_in (b : UInt8) : (0 : Int) ≤ (b.toNat : Int) ∧ (b.toNat : Int) ≤ 255 := by have := b.toNat_lt; omega
end Go.Proofs.YtdoibplhbdkapaaGreatDoor
namespace Go.Proofs.YtdoibplhbdkapaaGreatDoor
open Go.RowKit
set_option linter.unusedVariables false

theorem Own.cap {w : World} {lo n c s : Nat} {t : TypeId} {A : Option Addr} {cs : List Value} (h : Own w lo t s A n c cs) : n ≤ c := by
  rcases Nat.eq_zero_or_pos n with e | e
  · omega
  · obtain ⟨_, _, _, _, _, hn, _⟩ := h.form e; exact hn
theorem flat_drop {α : Type} {enc : α → List Value} {s : Nat} (he : ∀ x, (enc x).length = s) : ∀ (xs : List α) (k : Nat), (xs.flatMap enc).drop (k * s) = (xs.drop k).flatMap enc
  | xs, 0 => by simp
  | [], k + 1 => by simp
  | x :: r, k + 1 => by
    rw [List.flatMap_cons, Nat.add_mul, Nat.one_mul, Nat.add_comm, List.drop_append, List.drop_of_length_le (by rw [he]; omega), he, List.nil_append, show s + k * s - s = k * s by omega, flat_drop he r k]; rfl
theorem flat_take {α : Type} {enc : α → List Value} {s : Nat} (he : ∀ x, (enc x).length = s) : ∀ (xs : List α) (k : Nat), (xs.flatMap enc).take (k * s) = (xs.take k).flatMap enc
  | xs, 0 => by simp
  | [], k + 1 => by simp
  | x :: r, k + 1 => by
    rw [List.flatMap_cons, Nat.add_mul, Nat.one_mul, Nat.add_comm, List.take_append, List.take_of_length_le (by rw [he]; omega), he, show s + k * s - s = k * s by omega, flat_take he r k]; rfl
theorem map_add0 (A : Option Addr) : A.map (·.add 0) = A := by cases A <;> rfl
/-- a part of a row that is read -/
theorem Sl.part {α : Type} {enc : α → List Value} {s : Nat} {w : World} {B : Nat} {A : Option Addr} {xs : List α} (h : Sl B w A (xs.flatMap enc)) (he : ∀ x, (enc x).length = s) (l m c : Nat) (hm : c = l → m = 0) :
    Sl B w (if c = l then A else A.map (·.add (l * s))) (((xs.drop l).take m).flatMap enc) := by
  by_cases hc : c = l
  · rw [hm hc]; simp only [List.take_zero, List.flatMap_nil]; exact Sl.nil_ h.1 _
  · rw [if_neg hc]
    have h1 := h.cut (l * s) (m * s)
    rw [flat_drop he, flat_take he] at h1
    by_cases h0 : l * s = 0
    · rw [if_pos h0] at h1; rw [h0, map_add0]; exact h1
    · rw [if_neg h0] at h1; exact h1
section
variable {P : Program} {e : List (Nat × Value)} {w : World} {K : Value → World → Prop} {ty t el : TypeId} {x lo hi : Operand} {s : Nat} {α : Type} {enc : α → List Value} {B n c l h : Nat} {A : Option Addr} {xs : List α} {k1 k2 : IntKind} {m1 m2 : Int}
theorem elem_of (ht : elO P t = some (el, s)) : P.underlying t = some (.slice (P.elem t)) ∧ ∀ w, (sizeOf (P.elem t)).run P w = .ok s w := by
  obtain ⟨ti, hu, hti, hts⟩ := elO_spec ht
  have he : P.elem t = el := by simp [Program.elem, hu]
  rw [he]
  exact ⟨hu, fun w => by simp only [run_sizeOf' hti, hts]⟩
theorem ow_sliceH (ht : elO P t = some (el, s)) (hs : Sl B w A (xs.flatMap enc)) (he : ∀ x, (enc x).length = s) (hx : evO e x = some (.slice A n c)) (h2 : evO e hi = some (.int k2 m2)) (e2 : m2 = (h : Int))
    (hc : h ≤ c) (hK : ∀ A', Sl B w A' ((xs.take h).flatMap enc) → K (.slice A' h c) w) : OpWp P e (.slice t x none (some hi) none) ty w K := fun ρ d p a g hρ => by
  have g0 := hρ _ _ hx; have g2 := hρ _ _ h2
  obtain ⟨hu, hsz⟩ := elem_of ht
  subst e2
  have hr := run_slice_h (P := P) (w := w) t A n c hu k2 (h : Int) (by omega) (by omega)
  simp only [execOp, g0, Option.map_some, Option.map_none, g2, Sem.run_bind, run_sliceAt_slice w t _ _ _ _ hu, hr, hsz, Result.andThen_ok, Sem.run_pure, upto, sliced, Int.toNat_natCast]
  have h3 := hs.part he 0 h c (fun e => by omega)
  rw [List.drop_zero] at h3
  exact hK _ h3
end
end Go.Proofs.YtdoibplhbdkapaaGreatDoor
namespace Go.Proofs.YtdoibplhbdkapaaGreatDoor
open Go.RowKit
set_option linter.unusedVariables false
set_option linter.unusedSimpArgs false
theorem one_ints : ∀ (xs : List Int), ∀ u ∈ xs.flatMap eI, u.oneCell' = true := fun xs u hu => by
  obtain ⟨x, _, h⟩ := List.mem_flatMap.1 hu
  have : u = .int .i64 x := by simpa [eI] using h
  subst this; rfl
section
variable {P : Program} {e : List (Nat × Value)} {ty : TypeId} {w : World} {K : Value → World → Prop} {x y : Operand} {t el : TypeId} {s b : Nat} {z : List Value} {a : Bool}
/-- an append to a row of the call's own, and where the longer row lies -/
theorem ow_appendW {ts : Array TypeId} {lo B n c n' c' : Nat} {A A' : Option Addr} {cs ds : List Value} (hown : Own w lo el s A n c cs) (hlo : lo ≤ w.heap.size) (hsrc : Sl B w A' ds) (hdl : ds.length = n' * s) (hd1 : ∀ u ∈ ds, u.oneCell' = true)
    (ht : elO P t = some (el, s)) (hi : tiO P el = some (a, s, b, z)) (hzl : Nat.beq z.length s = true) (h0 : Nat.blt 0 s = true) (hx : evO e x = some (.slice A n c)) (hy : evO e y = some (.slice A' n' c'))
    (hb : (n + n') * b ≤ 140737488355328) (hm : n + n' ≤ 9223372036854775807)
    (h : ∀ A1 c1 w', Own w' lo el s A1 (n + n') c1 (cs ++ ds) → w.grownBy w' ((Value.slice A n c).ownBlock) → ((Value.slice A1 (n + n') c1).ownBlock = (Value.slice A n c).ownBlock ∨ (Value.slice A1 (n + n') c1).ownBlock = some w.heap.size) → K (.slice A1 (n + n') c1) w') : OpWp P e (.call ⟨.builtin .append, #[x, y], #[t, t]⟩) ty w K := fun ρ d p af g hρ => by
  have g1 := hρ _ _ hx; have g2 := hρ _ _ hy
  obtain ⟨ti, hu, hti, hts⟩ := elO_spec ht
  obtain ⟨d', i', zv, hd, hi', hz, ha, hs, hb', hzv⟩ := tiO_spec hi
  obtain rfl : ti = i' := by rw [hti] at hi'; injection hi'
  have hzl' : z.length = s := Nat.eq_of_beq_eq_true hzl
  have h0' : 0 < s := by simpa using h0
  have hzc : zv.cells.size = s := by rw [← hzl', ← hzv]; simp
  have hfin : ∃ v' w', (Builtin.append_ #[t, t] ty #[.slice A n c, .slice A' n' c']).run P w = .ok v' w' ∧ w'.ownsRow lo el s v' (n + n') (cs ++ ds) ∧ w.grownBy w' ((Value.slice A n c).ownBlock) ∧ (v'.ownBlock = (Value.slice A n c).ownBlock ∨ v'.ownBlock = some w.heap.size) := by
    cases A' with
    | none =>
      have hds : ds = [] := by
        cases ds with
        | nil => rfl
        | cons u r => have := (hsrc.2 0 u rfl).1; simp at this
      subst hds
      have hn' : n' = 0 := by
        simp only [List.length_nil] at hdl
        rcases Nat.eq_zero_or_pos n' with h | h
        · exact h
        · have := Nat.mul_pos h h0'; omega
      subst hn'
      refine ⟨.slice A n c, w, ?_, by simpa using hown, ⟨rfl, rfl, rfl, Nat.le_refl _, fun _ _ _ => rfl⟩, .inl rfl⟩
      rcases hown.2 with ⟨h1, h2⟩ | ⟨g, cap, cur, h1, _, hg, hnc, _⟩
      · simp only [Value.slice.injEq] at h1
        obtain ⟨rfl, rfl, rfl⟩ := h1
        simp [Builtin.append_, run_underlying hu, sizeOf, typeInfo, hti, Builtin.lenOf, Builtin.firstCells]
      · simp only [Value.slice.injEq] at h1
        obtain ⟨rfl, _, rfl⟩ := h1
        simp [Builtin.append_, run_underlying hu, sizeOf, typeInfo, hti, Builtin.lenOf, Builtin.firstCells, hnc, storeCells]
    | some ad =>
      obtain ⟨v', w', hr, h2, h3, _, h9⟩ := run_append_own_at (P := P) w lo t ty el ti zv s b hu hti hz hts hb' hzc h0' (.slice A n c) n cs hown ad n' c' ds hdl (fun j u hj => (hsrc.2 j u hj).2.2) hd1 (by unfold maxLen; omega) hb hlo
      exact ⟨v', w', hr, h2, h3, h9⟩
  obtain ⟨v', w', hr, h2, h3, h9⟩ := hfin
  simp only [execOp, resolve, invoke, builtin, Sem.run_bind, Sem.run_pure, Result.andThen_ok, List.map_toArray, List.map_cons, List.map_nil, g1, g2, hr, upto]
  have hform : ∃ A1 c1, v' = .slice A1 (n + n') c1 := by
    rcases h2.2 with ⟨h4, h5⟩ | ⟨g, cap, cur, h4, _⟩
    · exact ⟨none, 0, by rw [h4, h5]⟩
    · exact ⟨_, _, h4⟩
  obtain ⟨A1, c1, rfl⟩ := hform
  exact h A1 c1 w' h2 h3 h9


theorem apart_l {b1 b1' b2 : Option Nat} {n : Nat} (h : ∀ g, b1 = some g → b2 ≠ some g) (hW : b1' = b1 ∨ b1' = some n) (hn : ∀ g, b2 = some g → g < n) : ∀ g, b1' = some g → b2 ≠ some g := fun g h1 h2 => by
  rcases hW with e | e
  · rw [e] at h1; exact h g h1 h2
  · rw [e] at h1; injection h1 with h1
    have := hn g h2; omega
end
section
variable {P : Program} {n : Nat} {ops : Array Oper} {I : World → Prop} {K : Act → World → Prop} {fuel : Nat} {listed listed' : Array Bool} {e : List (Nat × Value)} {w : World}
end
end Go.Proofs.YtdoibplhbdkapaaGreatDoor
namespace Go.Proofs.YtdoibplhbdkapaaGreatDoor
open Go.RowKit
set_option linter.unusedVariables false
set_option linter.unusedSimpArgs false
theorem run_equalN {P : Program} {t el : TypeId} {w : World} {A : Option Addr} {n c : Nat} (ht : P.underlying t = some (.slice el)) : (Op.equal t (.slice A n c) (.slice none 0 0)).run P w = .ok A.isNone w := by
  unfold Op.equal
  rw [show Op.maxDepth = 9999 + 1 from rfl, Op.equalIn]
  cases A <;> simp [run_underlying ht]
section
variable {P : Program} {e : List (Nat × Value)} {ty t t' el : TypeId} {w : World} {K : Value → World → Prop} {x y : Operand} {A : Option Addr} {n c : Nat}
theorem ow_eqlN2 (ht : P.underlying t = some (.slice el)) (hx : evO e x = some (.slice A n c)) (hy : evO e y = some (.slice none 0 0)) (h1 : A = none → K (.bool true) w) (h2 : A ≠ none → K (.bool false) w) : OpWp P e (.binOp .eql t x y t') ty w K := fun ρ d p a g hρ => by
  have g1 := hρ _ _ hx; have g2 := hρ _ _ hy
  have h3 := run_equalN (P := P) (w := w) (A := A) (n := n) (c := c) ht
  simp only [execOp, g1, g2, eqGuard, binOp]
  cases A with
  | none => simp [h3, upto]; exact h1 rfl
  | some a => simp [h3, upto]; exact h2 (by simp)
end
/-- a row at no address has no elements -/
theorem Sl.none_nil {α : Type} {enc : α → List Value} {s B : Nat} {w : World} {xs : List α} (h : Sl B w none (xs.flatMap enc)) (he : ∀ x, (enc x).length = s) (h0 : 0 < s) : xs = [] := by
  cases xs with
  | nil => rfl
  | cons x r =>
    exfalso
    have h1 := he x
    cases hx : enc x with
    | nil => rw [hx] at h1; simp at h1; omega
    | cons v vs =>
      have h2 := (h.2 0 v (by simp [hx])).1
      simp at h2
theorem Own.pre {w : World} {lo n c s h : Nat} {t : TypeId} {A : Option Addr} {cs : List Value} (o : Own w lo t s A n c cs) (hh : h ≤ n) : Own w lo t s A h c (cs.take (h * s)) := by
  have hl : (cs.take (h * s)).length = h * s := by
    rw [List.length_take, o.1]
    exact Nat.min_eq_left (Nat.mul_le_mul_right s hh)
  refine ⟨hl, ?_⟩
  rcases o.2 with ⟨h1, h2⟩ | ⟨g, cap, cur, hv, hlo, hg, hnc, hm, hs, hc⟩
  · simp only [Value.slice.injEq] at h1
    obtain ⟨rfl, h3, rfl⟩ := h1
    left
    have h4 : h = 0 := by omega
    subst h4
    exact ⟨rfl, rfl⟩
  · simp only [Value.slice.injEq] at hv
    obtain ⟨rfl, _, rfl⟩ := hv
    right
    refine ⟨g, c, cur, rfl, hlo, hg, by omega, hm, hs, ?_⟩
    rw [← hc, List.take_take, Nat.min_eq_left (Nat.mul_le_mul_right s hh)]
section
variable {P : Program} {n : Nat} {fn : Func} {R : Value → World → Prop} {e : List (Nat × Value)} {w : World}
end
section
variable {P : Program} {e : List (Nat × Value)} {ty t t' : TypeId} {w : World} {K : Value → World → Prop} {x y : Operand} {a : Array Value}
theorem ow_neqA (hx : evO e x = some (.agg a)) (hy : evO e y = some (.agg a)) (hm : P.eqGuardType P.depth t = false) (he : ∀ w, (Op.equalIn 10000 t (.agg a) (.agg a)).run P w = .ok true w) (h : K (.bool false) w) : OpWp P e (.binOp .neq t x y t') ty w K := fun ρ d p af g hρ => by
  have g1 := hρ _ _ hx; have g2 := hρ _ _ hy
  have h3 := run_eqGuard_agg (P := P) w .neq t x y a a hm
  have h4 := run_neq_struct (P := P) w t a a
  rw [he] at h4
  simp only [execOp, g1, g2, Sem.run_bind, h3, Result.andThen_ok, h4, Bool.not_true]
  simpa [upto] using h
end
section
variable {P : Program} {e : List (Nat × Value)} {w : World} {K : Value → World → Prop} {ty t el : TypeId} {x hi : Operand} {s n c h : Nat} {A : Option Addr} {k2 : IntKind} {m2 : Int}
theorem ow_sliceHO (ht : elO P t = some (el, s)) (hx : evO e x = some (.slice A n c)) (h2 : evO e hi = some (.int k2 m2)) (e2 : m2 = (h : Int))
    (hc : h ≤ c) (hK : K (.slice A h c) w) : OpWp P e (.slice t x none (some hi) none) ty w K := fun ρ d p a g hρ => by
  have g0 := hρ _ _ hx; have g2 := hρ _ _ h2
  obtain ⟨hu, hsz⟩ := elem_of ht
  subst e2
  have hr := run_slice_h (P := P) (w := w) t A n c hu k2 (h : Int) (by omega) (by omega)
  simp only [execOp, g0, Option.map_some, Option.map_none, g2, Sem.run_bind, run_sliceAt_slice w t _ _ _ _ hu, hr, hsz, Result.andThen_ok, Sem.run_pure, upto, sliced, Int.toNat_natCast]
  have e1 : (if c = 0 then A else A.map (·.add (0 * s))) = A := by split <;> simp [map_add0]
  simpa [map_add0] using hK
end
end Go.Proofs.YtdoibplhbdkapaaGreatDoor
