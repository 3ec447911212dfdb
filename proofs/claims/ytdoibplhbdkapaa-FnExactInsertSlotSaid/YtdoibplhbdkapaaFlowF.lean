/- Flow, part F: results that lie in a cell; the data of this program as Lean structures. -/
import Derived.Test.YtdoibplhbdkapaaFlowE
import Derived.Laws.ResultCell
namespace Go.Proofs.Ytdoibplhbdkapaa
open Go.RowKit
set_option linter.unusedVariables false
set_option linter.unusedSimpArgs false

section
variable {P : Program} {n : Nat} {fn : Func} {e : List (Nat × Value)} {w : World} {R : Value → World → Prop} {s b : Nat} {z cs vs : List Value} {g i : Nat} {T T' : TypeId} {t u : Tmp} {v : Value}
theorem fin_cell1 (hr : fn.results = #[.cell t T]) (hv : lk e t = some (.pointer (some ⟨g, i, none⟩))) (hb : Blk w g T' cs) (ht : tiO P T = some (true, s, b, z)) (hs : subL cs i s = some vs) (h : R (.agg vs.toArray) w) : fin P n fn R .ret e w := fun a ha => by
  have h1 := ha.2.2 t _ hv
  have h2 : (loadVar T ⟨g, i, none⟩).run P w = .ok (.agg vs.toArray) w := run_loadVarA ht (subL_spec hs).1 (fun j v hj => by rw [add_blk, hb.cell]; exact (subL_spec hs).2 j v hj)
  simp only [Array.getD_eq_getD_getElem?] at h1
  refine ⟨_, ?_, h⟩
  simp only [results, hr]
  simp [asAddr, h1, h2]
theorem fin_cell2 (hr : fn.results = #[.cell t T, .tmp u]) (hv : lk e t = some (.pointer (some ⟨g, i, none⟩))) (hb : Blk w g T' cs) (ht : tiO P T = some (true, s, b, z)) (hs : subL cs i s = some vs) (hu : lk e u = some v) (h : R (.tuple #[.agg vs.toArray, v]) w) : fin P n fn R .ret e w := fun a ha => by
  have h1 := ha.2.2 t _ hv
  have h3 := ha.2.2 u _ hu
  have h2 : (loadVar T ⟨g, i, none⟩).run P w = .ok (.agg vs.toArray) w := run_loadVarA ht (subL_spec hs).1 (fun j v hj => by rw [add_blk, hb.cell]; exact (subL_spec hs).2 j v hj)
  refine ⟨_, ?_, h⟩
  rw [results_cell_tmp hr, h1, h3]
  simp [asAddr, h2]
end

/-! ### data -/
structure Desc where
  node : Int
  kind : Int
  size : Int
  duration : Int
  change : Bool
def Desc.cells (d : Desc) : List Value := [.int .i64 d.node, .int .i64 d.kind, .int .i64 d.size, .int .i64 d.duration, .bool d.change]
theorem Desc.len (d : Desc) : d.cells.length = 5 := rfl
structure SlotI where
  mode : Int
  round : Int
  slot : Int
  desc : Desc
def SlotI.cells (s : SlotI) : List Value := [.int .i64 s.mode, .int .i64 s.round, .int .i64 s.slot, .int .i64 s.desc.node, .int .i64 s.desc.kind, .int .i64 s.desc.size, .int .i64 s.desc.duration, .bool s.desc.change]
theorem SlotI.len (s : SlotI) : s.cells.length = 8 := rfl
structure Dem where
  node : Int
  every : Int
  size : Int
def Dem.cells (d : Dem) : List Value := [.int .i64 d.node, .int .i64 d.every, .int .i64 d.size]
theorem Dem.len (d : Dem) : d.cells.length = 3 := rfl

def cmpI (a b : Int) : Int := if a < b then -1 else if b < a then 1 else 0
def cmpS (a b : SlotI) : Int := if a.mode ≠ b.mode then cmpI a.mode b.mode else if a.round ≠ b.round then cmpI a.round b.round else cmpI a.slot b.slot

theorem cmp3_eq {a b : SlotI} {k : Nat} (h : ∀ i : Nat, i < k → [a.mode, a.round, a.slot][i]? = [b.mode, b.round, b.slot][i]?) (hk : 3 ≤ k) : 0 = cmpS a b := by
  have h0 := h 0 (by omega); have h1 := h 1 (by omega); have h2 := h 2 (by omega)
  simp at h0 h1 h2
  simp [cmpS, h0, h1, h2, cmpI]
theorem cmp3_lt {a b : SlotI} {k : Nat} {x y : Int} (h : ∀ i : Nat, i < k → [a.mode, a.round, a.slot][i]? = [b.mode, b.round, b.slot][i]?) (hx : [a.mode, a.round, a.slot][k]? = some x) (hy : [b.mode, b.round, b.slot][k]? = some y) (hlt : x < y) : -1 = cmpS a b := by
  match k, h, hx, hy with
  | 0, h, hx, hy => simp at hx hy; subst hx; subst hy; simp [cmpS, cmpI, hlt, Int.ne_of_lt hlt]
  | 1, h, hx, hy =>
    have h0 := h 0 (by omega)
    simp at hx hy h0; subst hx; subst hy; simp [cmpS, cmpI, hlt, Int.ne_of_lt hlt, h0]
  | 2, h, hx, hy =>
    have h0 := h 0 (by omega); have h1 := h 1 (by omega)
    simp at hx hy h0 h1; subst hx; subst hy; simp [cmpS, cmpI, hlt, h0, h1]
  | k + 3, h, hx, hy => simp at hx
theorem cmp3_gt {a b : SlotI} {k : Nat} {x y : Int} (h : ∀ i : Nat, i < k → [a.mode, a.round, a.slot][i]? = [b.mode, b.round, b.slot][i]?) (hx : [a.mode, a.round, a.slot][k]? = some x) (hy : [b.mode, b.round, b.slot][k]? = some y) (hlt : y < x) : 1 = cmpS a b := by
  have hn : ¬ x < y := by omega
  match k, h, hx, hy with
  | 0, h, hx, hy => simp at hx hy; subst hx; subst hy; simp [cmpS, cmpI, hlt, hn, (Int.ne_of_lt hlt).symm]
  | 1, h, hx, hy =>
    have h0 := h 0 (by omega)
    simp at hx hy h0; subst hx; subst hy; simp [cmpS, cmpI, hlt, hn, (Int.ne_of_lt hlt).symm, h0]
  | 2, h, hx, hy =>
    have h0 := h 0 (by omega); have h1 := h 1 (by omega)
    simp at hx hy h0 h1; subst hx; subst hy; simp [cmpS, cmpI, hlt, hn, h0, h1]
  | k + 3, h, hx, hy => simp at hx

end Go.Proofs.Ytdoibplhbdkapaa
