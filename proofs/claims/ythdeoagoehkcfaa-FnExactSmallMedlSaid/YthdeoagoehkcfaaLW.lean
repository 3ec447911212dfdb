/- What the rows of all laws of this seat need. No condition. -/
import Derived.Test.YthdeoagoehkcfaaFlowR
import Derived.Test.YthdeoagoehkcfaaFlowT
import Derived.Test.YthdeoagoehkcfaaMod6
namespace Go.Proofs.Ythdeoagoehkcfaa
open Go.ChangeShapes Go.WideShapes Go.ChangeAt Go.RowKit
set_option linter.unusedVariables false
set_option linter.unusedSimpArgs false
set_option maxRecDepth 100000
def Desc.ok (d : Desc) : Prop := In64 d.node ∧ In64 d.kind ∧ In64 d.size ∧ In64 d.duration
def SlotI.ok (d : SlotI) : Prop := In64 d.mode ∧ In64 d.round ∧ In64 d.slot ∧ Desc.ok d.desc
theorem law_own : ownKnob Try.prog.godebug = none := by kernel_rfl
theorem law_laid : laidOutB Try.prog = true := by kernel_rfl
theorem open_Desc {H : Type} {enc : TypeId × Value → H} {W : World} {sp : Nat → Bool} {fuel : Nat} {cs : List Value} {x : DataW H × List MemPlace} (h : DataW.trod enc Try.prog W 0 sp true fuel 48 cs = some x) : ∃ d : Desc, cs = d.cells ∧ d.ok := by
  have hl : cs.length = 5 := (len_of Try.underlying48 h).trans (by kernel_rfl)
  match cs, hl with
  | [c0, c1, c2, c3, c4], _ =>
    obtain ⟨n0, y0, h0⟩ := trod_field Try.underlying48 h 0 rfl
    obtain ⟨z0, e0, w0⟩ := open_i64 Try.underlying2 h0
    obtain rfl : c0 = .int .i64 z0 := by have e := show [c0] = [.int .i64 z0] from e0; injection e
    obtain ⟨n1, y1, h1⟩ := trod_field Try.underlying48 h 1 rfl
    obtain ⟨z1, e1, w1⟩ := open_i64 Try.underlying2 h1
    obtain rfl : c1 = .int .i64 z1 := by have e := show [c1] = [.int .i64 z1] from e1; injection e
    obtain ⟨n2, y2, h2⟩ := trod_field Try.underlying48 h 2 rfl
    obtain ⟨z2, e2, w2⟩ := open_i64 Try.underlying2 h2
    obtain rfl : c2 = .int .i64 z2 := by have e := show [c2] = [.int .i64 z2] from e2; injection e
    obtain ⟨n3, y3, h3⟩ := trod_field Try.underlying48 h 3 rfl
    obtain ⟨z3, e3, w3⟩ := open_i64 Try.underlying2 h3
    obtain rfl : c3 = .int .i64 z3 := by have e := show [c3] = [.int .i64 z3] from e3; injection e
    obtain ⟨n4, y4, h4⟩ := trod_field Try.underlying48 h 4 rfl
    obtain ⟨z4, e4⟩ := open_bl Try.underlying4 h4
    obtain rfl : c4 = .bool z4 := by have e := show [c4] = [.bool z4] from e4; injection e
    exact ⟨⟨z0, z1, z2, z3, z4⟩, rfl, ⟨w0, w1, w2, w3⟩⟩
theorem open_SlotI {H : Type} {enc : TypeId × Value → H} {W : World} {sp : Nat → Bool} {fuel : Nat} {cs : List Value} {x : DataW H × List MemPlace} (h : DataW.trod enc Try.prog W 0 sp true fuel 50 cs = some x) : ∃ d : SlotI, cs = d.cells ∧ d.ok := by
  have hl : cs.length = 8 := (len_of Try.underlying50 h).trans (by kernel_rfl)
  match cs, hl with
  | [c0, c1, c2, c3, c4, c5, c6, c7], _ =>
    obtain ⟨n0, y0, h0⟩ := trod_field Try.underlying50 h 0 rfl
    obtain ⟨z0, e0, w0⟩ := open_i64 Try.underlying2 h0
    obtain rfl : c0 = .int .i64 z0 := by have e := show [c0] = [.int .i64 z0] from e0; injection e
    obtain ⟨n1, y1, h1⟩ := trod_field Try.underlying50 h 1 rfl
    obtain ⟨z1, e1, w1⟩ := open_i64 Try.underlying2 h1
    obtain rfl : c1 = .int .i64 z1 := by have e := show [c1] = [.int .i64 z1] from e1; injection e
    obtain ⟨n2, y2, h2⟩ := trod_field Try.underlying50 h 2 rfl
    obtain ⟨z2, e2, w2⟩ := open_i64 Try.underlying2 h2
    obtain rfl : c2 = .int .i64 z2 := by have e := show [c2] = [.int .i64 z2] from e2; injection e
    obtain ⟨n3, y3, h3⟩ := trod_field Try.underlying50 h 3 rfl
    obtain ⟨z3, e3, w3⟩ := open_Desc h3
    have q3 : [c3, c4, c5, c6, c7] = z3.cells := e3
    simp only [Desc.cells, List.cons.injEq, and_true] at q3
    obtain ⟨rfl, rfl, rfl, rfl, rfl⟩ := q3
    exact ⟨⟨z0, z1, z2, z3⟩, rfl, ⟨w0, w1, w2, w3⟩⟩
end Go.Proofs.Ythdeoagoehkcfaa
