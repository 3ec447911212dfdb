/- Flow, part S: appends of fresh zeros without room, copies into a row of elements of any size, a row that is made longer. No condition. -/
import Derived.Test.YtdoibplhbdkapaaFlowO
import Derived.Lib.AppendZeros
namespace Go.Proofs.Ytdoibplhbdkapaa
open Go.RowKit
set_option linter.unusedVariables false
set_option linter.unusedSimpArgs false
section
variable {P : Program} {e : List (Nat × Value)} {ty : TypeId} {w : World} {K : Value → World → Prop} {x y lo hi : Operand} {t el : TypeId} {s b : Nat} {z : List Value} {a : Bool}
/-- append(s, make([]T, k)...) without room: a new row; what was there stays as it was -/
theorem ow_appendZS {lo n c k : Nat} {A : Option Addr} {cs : List Value} {tn : TypeId} {ik kn : IntKind} {m : Int} (hown : Own w lo el s A n c cs) (ht : elO P t = some (el, s)) (htn : P.underlying tn = some (.int kn)) (hi : tiO P el = some (a, s, b, z)) (hzl : Nat.beq z.length s = true) (h0 : Nat.blt 0 s = true)
    (hx : evO e x = some (.slice A n c)) (hy : evO e y = some (.int ik m)) (hm : m = (k : Int)) (hk : 0 < k) (hroom : c < n + k) (hb : (n + k) * b ≤ 140737488355328) (hmx : n + k ≤ 9223372036854775807)
    (h : ∀ g c' w', g = w.heap.size → n + k ≤ c' → Own w' w.heap.size el s (some ⟨g, 0, none⟩) (n + k) c' (cs ++ repL k z) → Ext w w' → K (.slice (some ⟨g, 0, none⟩) (n + k) c') w') : OpWp P e (.call ⟨.builtin .append, #[x, y], #[t, tn]⟩) ty w K := fun ρ d p af gd hρ => by
  have g1 := hρ _ _ hx; have g2 := hρ _ _ hy
  subst hm
  obtain ⟨ti, hu, hti, hts⟩ := elO_spec ht
  obtain ⟨d', i', zv, hd, hi', hz, ha, hs, hb', hzv⟩ := tiO_spec hi
  obtain rfl : ti = i' := by rw [hti] at hi'; injection hi'
  have hzl' : z.length = s := Nat.eq_of_beq_eq_true hzl
  have h0' : 0 < s := by simpa using h0
  have hzc : zv.cells = z.toArray := by rw [← hzv]
  have hkw : IntKind.i64.wrap (k : Int) = k := by rw [IntKind.wrap_i64]; omega
  have hn : ¬ (n + k ≤ c) := by omega
  have h63' : ¬ (9223372036854775807 < ((n : Int) + (k : Int))) := by omega
  have hbk : k * b ≤ 140737488355328 := Nat.le_trans (Nat.mul_le_mul_right _ (by omega)) hb
  have h48i : ¬ (281474976710656 < (k : Int) * (ti.bytes : Int)) := by
    rw [hb', ← Int.natCast_mul]; omega
  have h48' : ¬ (281474976710656 < Builtin.nextslicecap (n + k) c * ti.bytes) := by
    have := growslice_fits (old := c) (need := n + k) (bytes := ti.bytes) (by omega) (by rw [hb']; exact hb)
    omega
  have hneg : ¬ ((k : Int) < 0) := by omega
  have hns : ¬ (k * ti.size = 0) := Nat.mul_ne_zero (by omega) (by omega)
  have hfo : ∀ (w1 : World), w1.heap = w.heap → (Builtin.firstCells ti.size n (.slice A n c)).run P w1 = .ok cs.toArray w1 := fun w1 hw => by
    rcases hown.2 with ⟨h1, h2⟩ | ⟨g, cap, cur, h1, _, hg, hnc, _⟩
    · simp only [Value.slice.injEq] at h1
      obtain ⟨rfl, rfl, rfl⟩ := h1
      have : cs = [] := List.eq_nil_of_length_eq_zero (by have := hown.1; simpa using this)
      subst this
      simp [Builtin.firstCells]
    · simp only [Value.slice.injEq] at h1
      obtain ⟨rfl, _, rfl⟩ := h1
      have holds := World.ownsRow.cells hown (g := g) rfl
      exact run_firstCells_some (P := P) w1 ti.size n _ n c cs (by rw [hts]; exact hown.1) (fun j v hj => by
        have := holds j v hj
        rw [World.cell?, hw]; exact this)
  have hr : (Builtin.append_ #[t, tn] ty #[.slice A n c, .int ik (k : Int)]).run P w = .ok (.slice (some ⟨w.heap.size, 0, none⟩) (n + k) (grownCap w (n + k) c el))
      (w.drew.alloc (.cells (cs.toArray ++ Builtin.zeroCells zv.cells k ++ Builtin.zeroCells zv.cells (grownCap w (n + k) c el - (n + k))) el)) := by
    have hfo' := hfo w.drew rfl
    simp [Builtin.append_, run_underlying hu, run_underlying htn, sizeOf, typeInfo, zeroValue, hti, hz, asInt, asIntOf, hkw, hn, hneg, hns, h63', h48', h48i, Question.forced, hfo', newRow, grownCap]
  have hzk : (Builtin.zeroCells zv.cells k).toList = repL k z := by
    have := range_zero z k (by omega)
    rw [hzc]; exact this
  have hge := grownCap_ge w (n + k) c el
  simp only [execOp, resolve, invoke, builtin, Sem.run_bind, Sem.run_pure, Result.andThen_ok, List.map_toArray, List.map_cons, List.map_nil, g1, g2, hr, upto]
  refine h _ _ _ rfl hge ?_ (Ext.trans (Ext.drew w) (Ext.alloc _ _))
  have hlen : (cs ++ repL k z).length = (n + k) * s := by rw [List.length_append, hown.1, repL_len, hzl', Nat.add_mul]
  refine ⟨hlen, .inr ⟨w.heap.size, _, _, rfl, Nat.le_refl _, heap_alloc_new w.drew _, hge, grownCap_le_maxLen w (n + k) c el (by unfold maxLen; omega), ?_, ?_⟩⟩
  · have e1 : (Builtin.zeroCells zv.cells k).size = k * s := by rw [size_zeroCells, hzc]; simp [hzl']
    have e2 : (Builtin.zeroCells zv.cells (grownCap w (n + k) c el - (n + k))).size = (grownCap w (n + k) c el - (n + k)) * s := by rw [size_zeroCells, hzc]; simp [hzl']
    rw [Array.size_append, Array.size_append, e1, e2, List.size_toArray, hown.1, ← Nat.add_mul, ← Nat.add_mul]
    congr 1; omega
  · rw [Array.toList_append, Array.toList_append, hzk, ← hlen]
    exact List.take_left
theorem run_copy_rowS (w : World) (dT sT ty elem : TypeId) (g o dLen dCap k : Nat) (aS : Addr) (sLen sCap : Nat) (cur : Array Value) (t : TypeId) (cs : List Value) (hu : P.underlying dT = some (.slice elem)) (hs : (P.info? elem).map (·.size) = some s)
    (hg : w.heap[g]? = some (.cells cur t (0, 0))) (hk : k = Nat.min sLen dLen) (hn : cs.length = k * s) (hsrc : ∀ j v, cs[j]? = some v → w.cell? (aS.add j) = some v) (hfit : o + cs.length ≤ cur.size) (h1 : ∀ v ∈ cs, v.oneCell' = true) :
    (Builtin.copy_ #[dT, sT] ty #[.slice (some ⟨g, o, none⟩) dLen dCap, .slice (some aS) sLen sCap]).run P w = .ok (goInt k) (w.setRow g (cur.toList.take o ++ cs ++ cur.toList.drop (o + cs.length)).toArray) := by
  have hl := run_loadCells_list (P := P) w aS cs hsrc
  have hst := run_storeCells_at P g o t cs 0 cur w hg (by simpa using hfit) h1
  cases hq : P.info? elem with
  | none => simp [hq] at hs
  | some i =>
    have hi : i.size = s := by simpa [hq] using hs
    simp [Builtin.copy_, run_underlying hu, Builtin.lenOf, Builtin.firstCells, sizeOf, typeInfo, hq, hi, ← hk, ← hn, hl, hst]
/-- a copy into a row of the call's own; the source may lie in the same row -/
theorem ow_copyS {lo' n c o dl dc k g sl sc : Nat} {aS : Addr} {cs ds : List Value} {dT sT : TypeId} (hown : Own w lo' el s (some ⟨g, 0, none⟩) n c cs) (hsrc : ∀ (j : Nat) (v : Value), ds[j]? = some v → w.cell? (aS.add j) = some v) (ht : P.underlying dT = some (.slice el)) (hi : tiO P el = some (a, s, b, z))
    (hx : evO e x = some (.slice (some ⟨g, o, none⟩) dl dc)) (hy : evO e y = some (.slice (some aS) sl sc)) (hm : k = Nat.min sl dl) (hk : ds.length = k * s) (hn : 0 < n) (hf : o + k * s ≤ n * s) (h1 : ∀ u ∈ ds, u.oneCell' = true)
    (h : ∀ w', Own w' lo' el s (some ⟨g, 0, none⟩) n c (cs.take o ++ ds ++ cs.drop (o + k * s)) → w.grownBy w' ((Value.slice (some ⟨g, 0, none⟩) n c).ownBlock) → K (.int .i64 (k : Nat)) w') : OpWp P e (.call ⟨.builtin .copy, #[x, y], #[dT, sT]⟩) ty w K := fun ρ d p af gd hρ => by
  have g1 := hρ _ _ hx; have g2 := hρ _ _ hy
  obtain ⟨g', cur, hA, hlo, hg, hnc, hsz, htk⟩ := hown.form hn
  injection hA with hA
  injection hA with hA
  subst hA
  obtain ⟨d', ti, zv, hd, hi', hz, ha, hts, hby, hzv⟩ := tiO_spec hi
  have hcn : n * s ≤ c * s := Nat.mul_le_mul_right _ hnc
  have hr := run_copy_rowS (P := P) w dT sT ty el g o dl dc k aS sl sc cur el ds ht (by rw [hi']; simp [hts]) hg hm hk hsrc (by rw [hk, hsz]; omega) h1
  simp only [execOp, resolve, invoke, builtin, Sem.run_bind, Sem.run_pure, Result.andThen_ok, List.map_toArray, List.map_cons, List.map_nil, g1, g2, hr, upto]
  refine h _ ?_ ⟨rfl, rfl, rfl, by simp, fun k' _ hk' => setRow_other w g k' _ (fun e => hk' (by rw [e]; rfl))⟩
  have hlen := hown.len
  refine ⟨by simp [hk, hlen]; omega, .inr ⟨g, c, _, rfl, hlo, setRow_heap w g cur _ el _ hg, hnc, ?_, ?_, ?_⟩⟩
  · rcases hown.2 with ⟨h5, _⟩ | ⟨g', cap', cur', h5, _, _, _, h6, _⟩
    · simp at h5
    · simp only [Value.slice.injEq] at h5
      obtain ⟨_, _, rfl⟩ := h5
      exact h6
  · simp [hk]; omega
  · rw [← htk]
    simp only []
    apply List.ext_getElem?
    intro i
    simp only [List.getElem?_take, List.getElem?_append, List.length_append, List.length_take, List.getElem?_drop, Array.length_toList, hk]
    repeat' split
    all_goals (try omega)
    all_goals (try rfl)
    all_goals (try (congr 1; omega))
    all_goals (symm; first | (apply List.getElem?_eq_none; omega) | skip)
/-- a row made longer, within its room -/
theorem Own.longer {lo n c n' : Nat} {A : Option Addr} {cs : List Value} (hown : Own w lo el s A n c cs) (hn : 0 < n) (h1 : n ≤ n') (h2 : n' ≤ c) : ∃ ex, ex.length = (n' - n) * s ∧ Own w lo el s A n' c (cs ++ ex) := by
  rcases hown.2 with ⟨h3, _⟩ | ⟨g, cap, cur, h3, hlo, hg, hnc, hcm, hcs, htk⟩
  · simp only [Value.slice.injEq] at h3; omega
  · simp only [Value.slice.injEq] at h3
    obtain ⟨rfl, _, rfl⟩ := h3
    have e1 : n * s ≤ n' * s := Nat.mul_le_mul_right _ h1
    have e2 : n' * s ≤ c * s := Nat.mul_le_mul_right _ h2
    refine ⟨(cur.toList.take (n' * s)).drop (n * s), by rw [List.length_drop, List.length_take, Array.length_toList, hcs, Nat.min_eq_left e2, Nat.sub_mul], ?_⟩
    have e3 : cs ++ (cur.toList.take (n' * s)).drop (n * s) = cur.toList.take (n' * s) := by
      rw [← htk]
      have := List.take_append_drop (n * s) (cur.toList.take (n' * s))
      rw [List.take_take, Nat.min_eq_left e1] at this
      exact this
    rw [e3]
    exact ⟨by rw [List.length_take, Array.length_toList, hcs, Nat.min_eq_left e2], .inr ⟨g, c, cur, rfl, hlo, hg, h2, hcm, hcs, rfl⟩⟩
end
end Go.Proofs.Ytdoibplhbdkapaa
