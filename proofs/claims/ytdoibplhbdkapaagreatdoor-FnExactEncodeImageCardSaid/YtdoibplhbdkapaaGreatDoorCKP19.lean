/- Texts of the seat that a law needs, put together. No condition. -/
import Derived.Test.YtdoibplhbdkapaaGreatDoorCKP18
import Derived.Test.YtdoibplhbdkapaaGreatDoorCKP4
import Derived.Test.YtdoibplhbdkapaaGreatDoorCKP8
import Derived.Test.YtdoibplhbdkapaaGreatDoorCards
namespace Go.Proofs.YtdoibplhbdkapaaGreatDoor
open Go.ChangeShapes Go.WideShapes Go.ChangeAt Go.RowKit
set_option linter.unusedVariables false
set_option linter.unusedSimpArgs false
set_option maxRecDepth 100000
def Desc.ok (d : Desc) : Prop := In64 d.node ∧ In64 d.kind ∧ In64 d.size ∧ In64 d.duration
def SlotI.ok (d : SlotI) : Prop := In64 d.mode ∧ In64 d.round ∧ In64 d.slot ∧ Desc.ok d.desc
def NodeI.ok (d : NodeI) : Prop := In64 d.id ∧ d.name.size ≤ 9223372036854775807 ∧ In64 d.drift
theorem law_own : ownKnob Tryz.prog.godebug = none := by kernel_rfl
theorem law_laid : laidOutB Tryz.prog = true := by kernel_rfl
theorem law_main : Tryz.pinned.checked.prog.mainIs = some (true, "9d3b8bcd3f057db7ce87d49064bbf274986517e6a2e4614acdb81aa3eaa2e189".toList) := by kernel_rfl
theorem law_looks : false = Tryz.prog.looks [] := by kernel_rfl
theorem open_Desc {H : Type} {enc : TypeId × Value → H} {W : World} {sp : Nat → Bool} {fuel : Nat} {cs : List Value} {x : DataW H × List MemPlace} (h : DataW.trod enc Tryz.prog W 0 sp true fuel 208 cs = some x) : ∃ d : Desc, cs = d.cells ∧ d.ok := by
  have hl : cs.length = 5 := (len_of Tryz.underlying208 h).trans (by kernel_rfl)
  match cs, hl with
  | [c0, c1, c2, c3, c4], _ =>
    obtain ⟨n0, y0, h0⟩ := trod_field Tryz.underlying208 h 0 rfl
    obtain ⟨z0, e0, w0⟩ := open_i64 Tryz.underlying2 h0
    obtain rfl : c0 = .int .i64 z0 := by have e := show [c0] = [.int .i64 z0] from e0; injection e
    obtain ⟨n1, y1, h1⟩ := trod_field Tryz.underlying208 h 1 rfl
    obtain ⟨z1, e1, w1⟩ := open_i64 Tryz.underlying2 h1
    obtain rfl : c1 = .int .i64 z1 := by have e := show [c1] = [.int .i64 z1] from e1; injection e
    obtain ⟨n2, y2, h2⟩ := trod_field Tryz.underlying208 h 2 rfl
    obtain ⟨z2, e2, w2⟩ := open_i64 Tryz.underlying2 h2
    obtain rfl : c2 = .int .i64 z2 := by have e := show [c2] = [.int .i64 z2] from e2; injection e
    obtain ⟨n3, y3, h3⟩ := trod_field Tryz.underlying208 h 3 rfl
    obtain ⟨z3, e3, w3⟩ := open_i64 Tryz.underlying2 h3
    obtain rfl : c3 = .int .i64 z3 := by have e := show [c3] = [.int .i64 z3] from e3; injection e
    obtain ⟨n4, y4, h4⟩ := trod_field Tryz.underlying208 h 4 rfl
    obtain ⟨z4, e4⟩ := open_bl Tryz.underlying4 h4
    obtain rfl : c4 = .bool z4 := by have e := show [c4] = [.bool z4] from e4; injection e
    exact ⟨⟨z0, z1, z2, z3, z4⟩, rfl, ⟨w0, w1, w2, w3⟩⟩
theorem open_SlotI {H : Type} {enc : TypeId × Value → H} {W : World} {sp : Nat → Bool} {fuel : Nat} {cs : List Value} {x : DataW H × List MemPlace} (h : DataW.trod enc Tryz.prog W 0 sp true fuel 210 cs = some x) : ∃ d : SlotI, cs = d.cells ∧ d.ok := by
  have hl : cs.length = 8 := (len_of Tryz.underlying210 h).trans (by kernel_rfl)
  match cs, hl with
  | [c0, c1, c2, c3, c4, c5, c6, c7], _ =>
    obtain ⟨n0, y0, h0⟩ := trod_field Tryz.underlying210 h 0 rfl
    obtain ⟨z0, e0, w0⟩ := open_i64 Tryz.underlying2 h0
    obtain rfl : c0 = .int .i64 z0 := by have e := show [c0] = [.int .i64 z0] from e0; injection e
    obtain ⟨n1, y1, h1⟩ := trod_field Tryz.underlying210 h 1 rfl
    obtain ⟨z1, e1, w1⟩ := open_i64 Tryz.underlying2 h1
    obtain rfl : c1 = .int .i64 z1 := by have e := show [c1] = [.int .i64 z1] from e1; injection e
    obtain ⟨n2, y2, h2⟩ := trod_field Tryz.underlying210 h 2 rfl
    obtain ⟨z2, e2, w2⟩ := open_i64 Tryz.underlying2 h2
    obtain rfl : c2 = .int .i64 z2 := by have e := show [c2] = [.int .i64 z2] from e2; injection e
    obtain ⟨n3, y3, h3⟩ := trod_field Tryz.underlying210 h 3 rfl
    obtain ⟨z3, e3, w3⟩ := open_Desc h3
    have q3 : [c3, c4, c5, c6, c7] = z3.cells := e3
    simp only [Desc.cells, List.cons.injEq, and_true] at q3
    obtain ⟨rfl, rfl, rfl, rfl, rfl⟩ := q3
    exact ⟨⟨z0, z1, z2, z3⟩, rfl, ⟨w0, w1, w2, w3⟩⟩
theorem open_NodeI {H : Type} {enc : TypeId × Value → H} {W : World} {sp : Nat → Bool} {fuel : Nat} {cs : List Value} {x : DataW H × List MemPlace} (h : DataW.trod enc Tryz.prog W 0 sp true fuel 202 cs = some x) : ∃ d : NodeI, cs = d.cells ∧ d.ok := by
  have hl : cs.length = 4 := (len_of Tryz.underlying202 h).trans (by kernel_rfl)
  match cs, hl with
  | [c0, c1, c2, c3], _ =>
    obtain ⟨n0, y0, h0⟩ := trod_field Tryz.underlying202 h 0 rfl
    obtain ⟨z0, e0, w0⟩ := open_i64 Tryz.underlying2 h0
    obtain rfl : c0 = .int .i64 z0 := by have e := show [c0] = [.int .i64 z0] from e0; injection e
    obtain ⟨n1, y1, h1⟩ := trod_field Tryz.underlying202 h 1 rfl
    obtain ⟨z1, e1, w1⟩ := open_st Tryz.underlying9 h1
    obtain rfl : c1 = .string z1 := by have e := show [c1] = [.string z1] from e1; injection e
    obtain ⟨n2, y2, h2⟩ := trod_field Tryz.underlying202 h 2 rfl
    obtain ⟨z2, e2, w2⟩ := open_i64 Tryz.underlying2 h2
    obtain rfl : c2 = .int .i64 z2 := by have e := show [c2] = [.int .i64 z2] from e2; injection e
    obtain ⟨n3, y3, h3⟩ := trod_field Tryz.underlying202 h 3 rfl
    obtain ⟨z3, e3⟩ := open_bl Tryz.underlying4 h3
    obtain rfl : c3 = .bool z3 := by have e := show [c3] = [.bool z3] from e3; injection e
    exact ⟨⟨z0, z1, z2, z3⟩, rfl, ⟨w0, w1, w2⟩⟩
theorem open_ModeI {H : Type} {enc : TypeId × Value → H} {W : World} {sp : Nat → Bool} {fuel : Nat} {cs : List Value} {x : DataW H × List MemPlace} (h : DataW.trod enc Tryz.prog W 0 sp true fuel 204 cs = some x) : ∃ d : ModeI, cs = d.cells ∧ (Sl W.heap.size W d.A (d.m.next.flatMap eI) ∧ d.m.next.length ≤ 9223372036854775807) := by
  have hl : cs.length = 3 := (len_of Tryz.underlying204 h).trans (by kernel_rfl)
  match cs, hl with
  | [c0, c1, c2], _ =>
    obtain ⟨n0, y0, h0⟩ := trod_field Tryz.underlying204 h 0 rfl
    obtain ⟨z0, e0, w0⟩ := open_i64 Tryz.underlying2 h0
    obtain rfl : c0 = .int .i64 z0 := by have e := show [c0] = [.int .i64 z0] from e0; injection e
    obtain ⟨n1, y1, h1⟩ := trod_field Tryz.underlying204 h 1 rfl
    obtain ⟨z1, e1, w1⟩ := open_i64 Tryz.underlying2 h1
    obtain rfl : c1 = .int .i64 z1 := by have e := show [c1] = [.int .i64 z1] from e1; injection e
    obtain ⟨n2, y2, h2⟩ := trod_field Tryz.underlying204 h 2 rfl
    obtain ⟨A2, xs2, k2, e2, s2, w2, l2⟩ := open_sl (v := c2) (s := 1) Tryz.underlying30 (by kernel_rfl) eI_len (by omega) (fun _ _ _ h => open_i64 Tryz.underlying2 h) h2
    exact ⟨⟨⟨z0, z1, xs2⟩, A2, k2⟩, by rw [e2]; rfl, s2, l2⟩
theorem open_MedlI {H : Type} {enc : TypeId × Value → H} {W : World} {sp : Nat → Bool} {fuel : Nat} {cs : List Value} {x : DataW H × List MemPlace} (h : DataW.trod enc Tryz.prog W 0 sp true fuel 81 cs = some x) : ∃ m : MedlI, cs = m.cells ∧ (Med W.heap.size W m ∧ m.fit) := by
  have hl : cs.length = 4 := (len_of Tryz.underlying81 h).trans (by kernel_rfl)
  match cs, hl with
  | [c0, c1, c2, c3], _ =>
    obtain ⟨n0, y0, h0⟩ := trod_field Tryz.underlying81 h 0 rfl
    obtain ⟨z0, e0, w0⟩ := open_i64 Tryz.underlying2 h0
    obtain rfl : c0 = .int .i64 z0 := by have e := show [c0] = [.int .i64 z0] from e0; injection e
    obtain ⟨n1, y1, h1⟩ := trod_field Tryz.underlying81 h 1 rfl
    obtain ⟨A1, xs1, k1, e1, s1, w1, l1⟩ := open_slc (v := c1) (s := 4) Tryz.underlying77 (by kernel_rfl) NodeI.len (by omega) (fun _ _ _ h => open_NodeI h) h1
    obtain ⟨n2, y2, h2⟩ := trod_field Tryz.underlying81 h 2 rfl
    obtain ⟨A2, xs2, k2, e2, s2, w2, l2⟩ := open_sl (v := c2) (s := 3) Tryz.underlying78 (by kernel_rfl) ModeI.len (by omega) (fun _ _ _ h => open_ModeI h) h2
    obtain ⟨n3, y3, h3⟩ := trod_field Tryz.underlying81 h 3 rfl
    obtain ⟨A3, xs3, k3, e3, s3, w3, l3⟩ := open_sl (v := c3) (s := 8) Tryz.underlying79 (by kernel_rfl) SlotI.len (by omega) (fun _ _ _ h => open_SlotI h) h3
    exact ⟨⟨z0, A1, xs1, k1, A2, xs2, k2, A3, xs3, k3⟩, by rw [e1, e2, e3]; rfl, ⟨Nat.le_refl _, s1, s2, ⟨Nat.le_refl _, w2⟩, s3, l1.2⟩, ⟨l1.1, l2, l3, fun x hx => (w1 x hx).2.1⟩⟩
end Go.Proofs.YtdoibplhbdkapaaGreatDoor
