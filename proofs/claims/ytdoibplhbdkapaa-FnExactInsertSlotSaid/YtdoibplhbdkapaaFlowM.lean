/- Flow, part M: an append of made zeros to nil; capacities. No condition. -/
import Derived.Test.YtdoibplhbdkapaaFlowL
import Derived.Lib.AppendZeros
namespace Go.Proofs.Ytdoibplhbdkapaa
open Go.RowKit
set_option linter.unusedVariables false
set_option linter.unusedSimpArgs false
section
variable {P : Program} {e : List (Nat × Value)} {ty : TypeId} {w : World} {K : Value → World → Prop} {x y : Operand} {t tn el : TypeId} {s b : Nat} {z : List Value} {a : Bool}
theorem ow_cap {A : Option Addr} {l c : Nat} (ht : P.underlying t = some (.slice el)) (hx : evO e x = some (.slice A l c)) (h : K (.int .i64 c) w) : OpWp P e (.call ⟨.builtin .cap, #[x], #[t]⟩) ty w K := fun ρ d p a g hρ => by
  have h1 := hρ _ _ hx
  simp [execOp, resolve, invoke, builtin, h1, Builtin.cap_, run_underlying ht, upto, goInt]; exact h
theorem ow_appendZ {n : Nat} {k kn : IntKind} (ht : elO P t = some (el, s)) (htn : P.underlying tn = some (.int kn)) (hi : tiO P el = some (a, s, b, z)) (hzl : Nat.beq z.length s = true) (h0 : Nat.blt 0 s = true)
    (hx : evO e x = some (.slice none 0 0)) (hy : evO e y = some (.int k (n : Int))) (hn : 0 < n) (hm : n ≤ 9223372036854775807) (hb : n * b ≤ 281474976710656)
    (h : ∀ g c w' cs, g = w.heap.size → Own w' w.heap.size el s (some ⟨g, 0, none⟩) n c cs → Ext w w' → K (.slice (some ⟨g, 0, none⟩) n c) w') : OpWp P e (.call ⟨.builtin .append, #[x, y], #[t, tn]⟩) ty w K := fun ρ d p af g hρ => by
  have g1 := hρ _ _ hx; have g2 := hρ _ _ hy
  obtain ⟨ti, hu, hti, hts⟩ := elO_spec ht
  obtain ⟨d', i', zv, hd, hi', hz, ha, hs, hb', hzv⟩ := tiO_spec hi
  obtain rfl : ti = i' := by rw [hti] at hi'; injection hi'
  have hzl' : z.length = s := Nat.eq_of_beq_eq_true hzl
  have h0' : 0 < s := by simpa using h0
  have hzc : zv.cells.size = s := by rw [← hzl', ← hzv]; simp
  have hr := Go.Lib.run_append_nil_zeros (P := P) w t tn ty el ti zv k kn hu htn hti hz n hn (by rw [hts]; exact h0') (by omega) (by rw [hb']; exact hb)
  simp only [execOp, resolve, invoke, builtin, Sem.run_bind, Sem.run_pure, Result.andThen_ok, List.map_toArray, List.map_cons, List.map_nil, g1, g2, hr, upto]
  have hge := grownCap_ge w n 0 el
  have hcm : grownCap w n 0 el ≤ maxLen := grownCap_le_maxLen w n 0 el (by unfold maxLen; omega)
  refine h w.heap.size _ _ (Builtin.zeroCells zv.cells n).toList rfl ⟨by rw [Array.length_toList, size_zeroCells, hzc], .inr ⟨w.heap.size, _, _, rfl, Nat.le_refl _, heap_alloc_new w.drew _, hge, hcm, ?_, ?_⟩⟩ ?_
  · simp only [Array.size_append, size_zeroCells, hzc, ← Nat.add_mul]
    congr 1; omega
  · simp only [Array.toList_append]
    have e1 : n * s = (Builtin.zeroCells zv.cells n).toList.length := by rw [Array.length_toList, size_zeroCells, hzc]
    rw [e1]; exact List.take_left
  · exact (Ext.drew w).trans (Ext.alloc w.drew _)
end
end Go.Proofs.Ytdoibplhbdkapaa
