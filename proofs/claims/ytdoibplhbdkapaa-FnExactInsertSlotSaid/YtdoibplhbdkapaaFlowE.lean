/- Flow, part E: rows of typed elements; slices that are built, made, appended to, cut, written. -/
import Derived.Test.YtdoibplhbdkapaaFlowD
namespace Go.Proofs.Ytdoibplhbdkapaa
open Go.RowKit
set_option linter.unusedVariables false
set_option linter.unusedSimpArgs false

/-! ### lists of elements of one size -/
theorem flat_len {α : Type} {enc : α → List Value} {s : Nat} (he : ∀ x, (enc x).length = s) : ∀ (xs : List α), (xs.flatMap enc).length = xs.length * s
  | [] => by simp
  | x :: xs => by simp [flat_len he xs, he x, Nat.add_mul, Nat.add_comm]
theorem flat_get {α : Type} {enc : α → List Value} {s : Nat} (he : ∀ x, (enc x).length = s) : ∀ (xs : List α) (j : Nat) (x : α) (i : Nat), xs[j]? = some x → i < s → (xs.flatMap enc)[j * s + i]? = (enc x)[i]?
  | [], j, x, i, h, _ => by simp at h
  | y :: xs, 0, x, i, h, hi => by
    simp at h; subst h
    simp only [List.flatMap_cons, Nat.zero_mul, Nat.zero_add]
    rw [List.getElem?_append_left (by rw [he]; exact hi)]
  | y :: xs, j + 1, x, i, h, hi => by
    simp only [List.getElem?_cons_succ] at h
    simp only [List.flatMap_cons]
    rw [List.getElem?_append_right (by rw [he, Nat.add_mul]; omega), he, show (j + 1) * s + i - s = j * s + i by rw [Nat.add_mul]; omega]
    exact flat_get he xs j x i h hi
theorem flat_none {α : Type} {enc : α → List Value} {s : Nat} (he : ∀ x, (enc x).length = s) (xs : List α) (m : Nat) (v : Value) (h : (xs.flatMap enc)[m]? = some v) (hs : 0 < s) : ∃ j x i, m = j * s + i ∧ i < s ∧ xs[j]? = some x ∧ (enc x)[i]? = some v := by
  have hm : m < xs.length * s := by rw [← flat_len he xs]; exact (List.getElem?_eq_some_iff.1 h).1
  have hj : m / s < xs.length := by rw [Nat.div_lt_iff_lt_mul hs]; exact hm
  refine ⟨m / s, xs[m / s], m % s, by rw [Nat.mul_comm]; exact (Nat.div_add_mod m s).symm, Nat.mod_lt _ hs, List.getElem?_eq_getElem hj, ?_⟩
  rw [← flat_get he xs (m / s) _ (m % s) (List.getElem?_eq_getElem hj) (Nat.mod_lt _ hs), Nat.mul_comm, Nat.div_add_mod]
  exact h

def eI (z : Int) : List Value := [.int .i64 z]
theorem eI_len (z : Int) : (eI z).length = 1 := rfl
def eB (z : UInt8) : List Value := [.int .u8 z.toNat]
theorem eB_len (z : UInt8) : (eB z).length = 1 := rfl

section
variable {P : Program} {e : List (Nat × Value)} {ty : TypeId} {w : World} {K : Value → World → Prop} {x y : Operand} {t el : TypeId} {s b : Nat} {z : List Value}
variable {α : Type} {enc : α → List Value} {xs : List α} {B : Nat} {A : Option Addr} {j : Nat} {el' : α}

/-- the address of element j of a row that is read -/
theorem ow_indexT {n c : Nat} {k : IntKind} {m : Int} (hs : Sl B w A (xs.flatMap enc)) (he : ∀ x, (enc x).length = s) (h0 : (Nat.blt 0 s) = true) (ht : elO P t = some (el, s)) (hx : evO e x = some (.slice A n c)) (hn : n = xs.length) (hy : evO e y = some (.int k m)) (hz : xs[j]? = some el') (hm : m = (j : Int))
    (h : K (.pointer (some ((base A).add (j * s)))) w) : OpWp P e (.indexAddr t x y) ty w K := by
  have hj : j < xs.length := (List.getElem?_eq_some_iff.1 hz).1
  have h0' : 0 < s := by simpa using h0
  refine ow_indexR hs ht hx hy hm (by omega) ?_ h
  rw [flat_len he]
  exact (Nat.mul_lt_mul_right h0').2 hj
theorem ow_loadT {v : Value} (hs : Sl B w A (xs.flatMap enc)) (he : ∀ x, (enc x).length = s) (hz : xs[j]? = some el') (ht : tiO P t = some (false, s, b, z)) (hx : evO e x = some (.pointer (some ((base A).add (j * s))))) (h0 : (Nat.blt 0 s) = true) (hv : (enc el')[0]? = some v) (h : K v w) : OpWp P e (.load t x) ty w K :=
  ow_loadS hs ht hx (by have := flat_get he xs j el' 0 hz (by simpa using h0); rw [Nat.add_zero] at this; rw [this]; exact hv) h
theorem ow_loadTA (hs : Sl B w A (xs.flatMap enc)) (he : ∀ x, (enc x).length = s) (hz : xs[j]? = some el') (ht : tiO P t = some (true, s, b, z)) (hx : evO e x = some (.pointer (some ((base A).add (j * s))))) (h : K (.agg (enc el').toArray) w) : OpWp P e (.load t x) ty w K :=
  ow_loadAS hs ht hx (he _) (fun i v hi => by
    have hlt : i < s := by rw [← he el']; exact (List.getElem?_eq_some_iff.1 hi).1
    rw [flat_get he xs j el' i hz hlt]; exact hi) h
theorem ow_loadTF {v : Value} {f s' : Nat} (hs : Sl B w A (xs.flatMap enc)) (he : ∀ x, (enc x).length = s) (hz : xs[j]? = some el') (ht : tiO P t = some (false, s', b, z)) (hx : evO e x = some (.pointer (some (((base A).add (j * s)).add f)))) (h0 : (Nat.blt f s) = true) (hv : (enc el')[f]? = some v) (h : K v w) : OpWp P e (.load t x) ty w K :=
  ow_loadSF hs ht hx (by rw [flat_get he xs j el' f hz (by simpa using h0)]; exact hv) h
theorem ow_loadTFF {v : Value} {f f' s' : Nat} (hs : Sl B w A (xs.flatMap enc)) (he : ∀ x, (enc x).length = s) (hz : xs[j]? = some el') (ht : tiO P t = some (false, s', b, z)) (hx : evO e x = some (.pointer (some ((((base A).add (j * s)).add f).add f')))) (h0 : (Nat.blt (f + f') s) = true) (hv : (enc el')[f + f']? = some v) (h : K v w) : OpWp P e (.load t x) ty w K :=
  ow_load ht hx (by rw [add_add', add_add']; exact hs.at_ (by rw [flat_get he xs j el' (f + f') hz (by simpa using h0)]; exact hv)) h
theorem ow_loadTFA {vs : List Value} {f s' : Nat} (hs : Sl B w A (xs.flatMap enc)) (he : ∀ x, (enc x).length = s) (hz : xs[j]? = some el') (ht : tiO P t = some (true, s', b, z)) (hx : evO e x = some (.pointer (some (((base A).add (j * s)).add f)))) (hv : subL (enc el') f s' = some vs) (h : K (.agg vs.toArray) w) : OpWp P e (.load t x) ty w K :=
  ow_loadASF hs ht hx (subL_spec hv).1 (fun i v hi => by
    have h1 := (subL_spec hv).2 i v hi
    have hlt : f + i < s := by rw [← he el']; exact (List.getElem?_eq_some_iff.1 h1).1
    rw [Nat.add_assoc, flat_get he xs j el' (f + i) hz hlt]; exact h1) h
end

/-! ### slices that are built -/
def repL : Nat → List Value → List Value
  | 0, _ => []
  | n + 1, z => z ++ repL n z
def fillO (s : Nat) : List Value → List (Nat × Value) → Option (List Value)
  | cs, [] => some cs
  | cs, (i, v) :: r => bif Nat.beq v.cells.size s then (match spliceO cs (i * s) v.cells.toList with
    | some cs' => fillO s cs' r
    | none => none) else none

theorem foldl_set (off : Nat) : ∀ (vs : List Value) (k : Nat) (cells : Array Value), off + k + vs.length ≤ cells.size →
    ((vs.zipIdx k).foldl (fun cs (p : Value × Nat) => cs.setIfInBounds (off + p.2) p.1) cells).toList = cells.toList.take (off + k) ++ vs ++ cells.toList.drop (off + k + vs.length)
  | [], k, cells, h => by simp
  | v :: vs, k, cells, h => by
    simp only [List.zipIdx_cons, List.foldl_cons]
    have hlt : off + k < cells.size := by simp at h; omega
    rw [foldl_set off vs (k + 1) _ (by simp at h ⊢; omega)]
    simp only [Array.toList_setIfInBounds]
    have := list_seg_step cells.toList (off + k) v vs (by simp at h ⊢; omega)
    simpa [Nat.add_assoc] using this

theorem fill_of {s : Nat} : ∀ (vs : List (Nat × Value)) (cells : Array Value) (cs : List Value), fillO s cells.toList vs = some cs → Instr.fill (fun i => some (i * s, s)) cells vs = some cs.toArray
  | [], cells, cs, h => by simp [fillO] at h; simp [Instr.fill, ← h]
  | (i, v) :: r, cells, cs, h => by
    simp only [fillO] at h
    cases hb : Nat.beq v.cells.size s with
    | false => simp [hb] at h
    | true =>
      simp only [hb, cond_true] at h
      have hs : v.cells.size = s := Nat.eq_of_beq_eq_true hb
      split at h
      · rename_i cs' hcs
        obtain ⟨h1, h2⟩ := spliceO_spec hcs
        simp only [Array.length_toList] at h1 h2
        have h3 : ¬ (v.cells.size ≠ s ∨ i * s + v.cells.size > cells.size) := by omega
        simp only [Instr.fill]
        rw [if_neg (by simpa using h3)]
        have h4 : (v.cells.zipIdx.foldl (fun cs (p : Value × Nat) => cs.setIfInBounds (i * s + p.2) p.1) cells) = cs'.toArray := by
          apply Array.ext'
          have := foldl_set (i * s) v.cells.toList 0 cells (by simpa using h1)
          rw [← Array.foldl_toList, Array.toList_zipIdx]
          rw [this, h2]
          simp
        have h5 := fill_of r cs'.toArray cs (by simpa using h)
        rw [← h4] at h5
        exact h5
      · cases h

theorem repL_len (z : List Value) : ∀ n, (repL n z).length = n * z.length
  | 0 => by simp [repL]
  | n + 1 => by simp [repL, repL_len z n, Nat.add_mul, Nat.add_comm]
theorem repL_get (z : List Value) (hz : 0 < z.length) : ∀ n i, i < n * z.length → (repL n z)[i]? = z[i % z.length]?
  | 0, i, h => by simp at h
  | n + 1, i, h => by
    simp only [repL]
    by_cases hi : i < z.length
    · rw [List.getElem?_append_left hi, Nat.mod_eq_of_lt hi]
    · rw [List.getElem?_append_right (by omega), repL_get z hz n (i - z.length) (by rw [Nat.add_mul] at h; omega)]
      congr 1
      exact (Nat.mod_eq_sub_mod (by omega)).symm
theorem range_zero (z : List Value) (n : Nat) (hz : 0 < z.length) : ((Array.range (n * z.length)).map (z.toArray[· % z.toArray.size]!)).toList = repL n z := by
  apply List.ext_getElem?
  intro i
  by_cases hi : i < n * z.length
  · rw [repL_get z hz n i hi]
    have hm : i % z.length < z.length := Nat.mod_lt _ hz
    simp [hi, hm, List.getElem?_eq_getElem hm]
  · rw [List.getElem?_eq_none (by simpa using hi), List.getElem?_eq_none (by rw [repL_len]; omega)]

section
variable {P : Program} {e : List (Nat × Value)} {ty : TypeId} {w : World} {K : Value → World → Prop} {x y : Operand} {t el : TypeId} {s b : Nat} {z : List Value} {a : Bool}

theorem Own.of_blk {w : World} {lo g : Nat} {t : TypeId} {s n : Nat} {cs : List Value} (h : Blk w g t cs) (hlo : lo ≤ g) (hl : cs.length = n * s) (hn : n ≤ maxLen) : Own w lo t s (some ⟨g, 0, none⟩) n n cs :=
  ⟨hl, .inr ⟨g, n, cs.toArray, rfl, hlo, h, Nat.le_refl _, hn, by simpa using hl, by simp [← hl]⟩⟩

theorem ow_buildSlice {parts : Array (Nat × Operand)} {vs : List (Nat × Value)} {len : Nat} {cs : List Value} (ht : elO P t = some (el, s)) (hi : tiO P el = some (a, s, b, z)) (hzl : Nat.beq z.length s = true) (h0 : Nat.blt 0 s = true) (hlen : Nat.ble (len * s) 16777216 = true)
    (hp : partsO e parts.toList = some vs) (hf : fillO s (repL len z) vs = some cs)
    (h : ∀ g w', g = w.heap.size → Own w' w.heap.size el s (some ⟨g, 0, none⟩) len len cs → Blk w' g el cs → Ext w w' → w'.heap.size = g + 1 → K (.slice (some ⟨g, 0, none⟩) len len) w') : OpWp P e (.buildSlice t len parts) ty w K := fun ρ d p af g hρ => by
  have h1 : parts.map (fun (i, x) => (i, ρ x)) = vs.toArray := by
    apply Array.ext'
    simp only [Array.toList_map]
    exact partsO_spec hρ _ _ hp
  obtain ⟨ti, hu, hti, hts⟩ := elO_spec ht
  obtain ⟨d', i', zv, hd, hi', hz, ha, hs, hb, hzv⟩ := tiO_spec hi
  obtain rfl : ti = i' := by rw [hti] at hi'; injection hi'
  have hzl' : z.length = s := Nat.eq_of_beq_eq_true hzl
  have h0' : 0 < s := by simpa using h0
  have hle : len * s ≤ 16777216 := Nat.le_of_ble_eq_true hlen
  have hzc : zv.cells = z.toArray := by rw [← hzv]
  have hlen' : cs.length = len * s := by
    have : ∀ (vs : List (Nat × Value)) (c0 : List Value), fillO s c0 vs = some cs → cs.length = c0.length := by
      intro vs
      induction vs with
      | nil => intro c0 h; simp [fillO] at h; rw [h]
      | cons q r ih =>
        intro c0 h
        obtain ⟨i, v⟩ := q
        simp only [fillO] at h
        cases hb : Nat.beq v.cells.size s with
        | false => simp [hb] at h
        | true =>
          simp only [hb, cond_true] at h
          split at h
          · rename_i cs' hcs
            obtain ⟨h1, h2⟩ := spliceO_spec hcs
            rw [ih _ h, h2]
            simp at h1 ⊢; omega
          · cases h
    rw [this vs _ hf, repL_len, hzl']
  have hfill : Instr.fill (fun i => some (i * s, s)) ((Array.range (len * s)).map (z.toArray[· % z.toArray.size]!)) vs = some cs.toArray := by
    refine fill_of vs _ cs ?_
    have := range_zero z len (by omega)
    rw [hzl'] at this
    rw [this]; exact hf
  have hrun : (Instr.buildSlice t len vs.toArray).run P w = .ok (.slice (some ⟨w.heap.size, 0, none⟩) len len) (w.alloc (.cells cs.toArray el)) := by
    simp only [Instr.buildSlice, Sem.run_bind, run_underlying hu, Result.andThen_ok, run_sizeOf' hti, hts]
    rw [if_neg (by omega)]
    by_cases hl0 : len * s = 0
    · have e0 : ∀ f : Nat → Value, Array.map f (Array.range 0) = #[] := fun f => by simp
      rw [hl0, e0] at hfill
      rw [if_pos hl0]
      simp only [Sem.run_pure, Result.andThen_ok, hl0, e0, hfill]
      simp [newRow]
    · simp only [hl0, if_false, Sem.run_bind, run_zero' hti hz, Result.andThen_ok, Sem.run_pure, hzc, hfill]
      simp [newRow]
  simp only [execOp, h1, Sem.run_bind, hrun, Result.andThen_ok, Sem.run_pure, upto]
  have hB : Blk (w.alloc (.cells cs.toArray el)) w.heap.size el cs := heap_alloc_new w _
  exact h _ _ rfl (Own.of_blk hB (Nat.le_refl _) hlen' (by unfold maxLen; have : len * 1 ≤ len * s := Nat.mul_le_mul_left _ h0'; omega)) hB (Ext.alloc w _) (by simp)

/-- an append to a row of the call's own -/
theorem ow_append {ts : Array TypeId} {lo B n c n' c' : Nat} {A A' : Option Addr} {cs ds : List Value} (hown : Own w lo el s A n c cs) (hlo : lo ≤ w.heap.size) (hsrc : Sl B w A' ds) (hdl : ds.length = n' * s) (hd1 : ∀ u ∈ ds, u.oneCell' = true)
    (ht : elO P t = some (el, s)) (hi : tiO P el = some (a, s, b, z)) (hzl : Nat.beq z.length s = true) (h0 : Nat.blt 0 s = true) (hx : evO e x = some (.slice A n c)) (hy : evO e y = some (.slice A' n' c'))
    (hb : (n + n') * b ≤ 140737488355328) (hm : n + n' ≤ 9223372036854775807)
    (h : ∀ A1 c1 w', Own w' lo el s A1 (n + n') c1 (cs ++ ds) → w.grownBy w' ((Value.slice A n c).ownBlock) → K (.slice A1 (n + n') c1) w') : OpWp P e (.call ⟨.builtin .append, #[x, y], #[t, t]⟩) ty w K := fun ρ d p af g hρ => by
  have g1 := hρ _ _ hx; have g2 := hρ _ _ hy
  obtain ⟨ti, hu, hti, hts⟩ := elO_spec ht
  obtain ⟨d', i', zv, hd, hi', hz, ha, hs, hb', hzv⟩ := tiO_spec hi
  obtain rfl : ti = i' := by rw [hti] at hi'; injection hi'
  have hzl' : z.length = s := Nat.eq_of_beq_eq_true hzl
  have h0' : 0 < s := by simpa using h0
  have hzc : zv.cells.size = s := by rw [← hzl', ← hzv]; simp
  have hfin : ∃ v' w', (Builtin.append_ #[t, t] ty #[.slice A n c, .slice A' n' c']).run P w = .ok v' w' ∧ w'.ownsRow lo el s v' (n + n') (cs ++ ds) ∧ w.grownBy w' ((Value.slice A n c).ownBlock) := by
    cases A' with
    | none =>
      have hds : ds = [] := by
        cases ds with
        | nil => rfl
        | cons u r => have := (hsrc.2 0 u rfl).1; simp at this
      subst hds
      have hn' : n' = 0 := by
        simp only [List.length_nil] at hdl
        rcases Nat.eq_zero_or_pos n' with h | h
        · exact h
        · have := Nat.mul_pos h h0'; omega
      subst hn'
      refine ⟨.slice A n c, w, ?_, by simpa using hown, ⟨rfl, rfl, rfl, Nat.le_refl _, fun _ _ _ => rfl⟩⟩
      rcases hown.2 with ⟨h1, h2⟩ | ⟨g, cap, cur, h1, _, hg, hnc, _⟩
      · simp only [Value.slice.injEq] at h1
        obtain ⟨rfl, rfl, rfl⟩ := h1
        simp [Builtin.append_, run_underlying hu, sizeOf, typeInfo, hti, Builtin.lenOf, Builtin.firstCells]
      · simp only [Value.slice.injEq] at h1
        obtain ⟨rfl, _, rfl⟩ := h1
        simp [Builtin.append_, run_underlying hu, sizeOf, typeInfo, hti, Builtin.lenOf, Builtin.firstCells, hnc, storeCells]
    | some ad =>
      obtain ⟨v', w', hr, h2, h3, _⟩ := run_append_own_at (P := P) w lo t ty el ti zv s b hu hti hz hts hb' hzc h0' (.slice A n c) n cs hown ad n' c' ds hdl (fun j u hj => (hsrc.2 j u hj).2.2) hd1 (by unfold maxLen; omega) hb hlo
      exact ⟨v', w', hr, h2, h3⟩
  obtain ⟨v', w', hr, h2, h3⟩ := hfin
  simp only [execOp, resolve, invoke, builtin, Sem.run_bind, Sem.run_pure, Result.andThen_ok, List.map_toArray, List.map_cons, List.map_nil, g1, g2, hr, upto]
  have hform : ∃ A1 c1, v' = .slice A1 (n + n') c1 := by
    rcases h2.2 with ⟨h4, h5⟩ | ⟨g, cap, cur, h4, _⟩
    · exact ⟨none, 0, by rw [h4, h5]⟩
    · exact ⟨_, _, h4⟩
  obtain ⟨A1, c1, rfl⟩ := hform
  exact h A1 c1 w' h2 h3

/-- make([]T, n) -/
theorem ow_make {n : Nat} {k1 k2 : IntKind} {m1 m2 : Int} (ht : elO P t = some (el, s)) (hi : tiO P el = some (a, s, b, z)) (hzl : Nat.beq z.length s = true) (h0 : Nat.blt 0 s = true) (hx : evO e x = some (.int k1 m1)) (hy : evO e y = some (.int k2 m2)) (h1 : m1 = (n : Int)) (h2 : m2 = (n : Int))
    (hb : b * n ≤ 281474976710656) (hm : n ≤ 9223372036854775807)
    (h : ∀ g w', g = w.heap.size → Own w' w.heap.size el s (some ⟨g, 0, none⟩) n n (repL n z) → Ext w w' → K (.slice (some ⟨g, 0, none⟩) n n) w') : OpWp P e (.makeSlice t x y) ty w K := fun ρ d p af g hρ => by
  have g1 := hρ _ _ hx; have g2 := hρ _ _ hy
  subst h1; subst h2
  obtain ⟨ti, hu, hti, hts⟩ := elO_spec ht
  obtain ⟨d', i', zv, hd, hi', hz, ha, hs, hb', hzv⟩ := tiO_spec hi
  obtain rfl : ti = i' := by rw [hti] at hi'; injection hi'
  have hzl' : z.length = s := Nat.eq_of_beq_eq_true hzl
  have h0' : 0 < s := by simpa using h0
  obtain ⟨w', hr, h2, h3⟩ := run_make_full (P := P) w w.heap.size t el ti zv s hu hti hz hts k1 k2 n (by rw [hb']; exact hb) (by unfold maxLen; omega) (Nat.le_refl _)
  have hmc : (madeCells zv.cells (n * s)).toList = repL n z := by
    have := range_zero z n (by omega)
    rw [hzl'] at this
    rw [show zv.cells = z.toArray by rw [← hzv]]
    exact this
  rw [hmc] at h2
  simp only [execOp, g1, g2, Sem.run_bind, hr, Result.andThen_ok, Sem.run_pure, upto]
  exact h _ _ rfl h2 (by
    have := (Below.refl w.heap.size w).grown h3 (Nat.le_refl _) (by simp)
    exact this)

/-- a store into element j of a row of the call's own -/
theorem ow_storeR {lo n c j s' : Nat} {A : Option Addr} {cs vs : List Value} {v : Value} (hown : Own w lo el s A n c cs) (ht : tiO P t = some (a, s', b, z)) (hx : evO e x = some (.pointer (some ((base A).add j)))) (hv : evO e y = some v) (hc : v.cells = vs.toArray) (hl : vs.length = s') (hj : j + s' ≤ n * s) (h0 : 0 < n * s)
    (h1 : vs.all (·.oneCell') = true) (h : ∀ w', Own w' lo el s A n c (cs.take j ++ vs ++ cs.drop (j + s')) → w.grownBy w' ((Value.slice A n c).ownBlock) → w'.heap.size = w.heap.size → K undef w') : OpWp P e (.store t x y) ty w K := fun ρ d p af gd hρ => by
  have hn : 0 < n := by
    rcases Nat.eq_zero_or_pos n with h | h
    · subst h; simp at h0
    · exact h
  obtain ⟨g, cur, rfl, hlo, hg, hnc, hsz, htk⟩ := hown.form hn
  obtain ⟨d', ti, zv, hd, hi, hz, ha, hts, hby, hzv⟩ := tiO_spec ht
  have hx' := hρ _ _ hx
  have hv' := hρ _ _ hv
  have hbase : (base (some ⟨g, 0, none⟩)).add j = ⟨g, j, none⟩ := by
    show (⟨g, 0, none⟩ : Addr).add j = _
    rw [add_blk, Nat.zero_add]
  rw [hbase] at hx'
  have hns : n * s ≤ cur.size := by rw [hsz]; exact Nat.mul_le_mul_right _ hnc
  have hst := run_storeCells_at (P := P) g j el vs 0 cur w hg (by omega) (fun u hu => List.all_eq_true.1 h1 u hu)
  simp only [Nat.add_zero] at hst
  have hrun : (storeVar t ⟨g, j, none⟩ v).run P w = .ok () (w.setRow g (cur.toList.take j ++ vs ++ cur.toList.drop (j + vs.length)).toArray) := by
    simp only [storeVar, hc, Sem.run_bind, run_sizeOf' hi, Result.andThen_ok]
    rw [if_neg (by simp [hl, hts])]
    simpa using hst
  simp only [execOp, hx', hv', Instr.storeAt, Instr.sureAddr]
  simp only [Sem.run_bind, Sem.run_pure, Result.andThen_ok, hrun, upto]
  refine h _ ?_ ⟨rfl, rfl, rfl, by simp, fun k _ hk => setRow_other w g k _ (fun e => hk (by rw [e]; rfl))⟩ (by simp)
  have hlen := hown.len
  refine ⟨by simp [hl, hlen]; omega, .inr ⟨g, c, _, rfl, hlo, setRow_heap w g cur _ el _ hg, hnc, ?_, ?_, ?_⟩⟩
  · rcases hown.2 with ⟨h5, _⟩ | ⟨g', cap', cur', h5, _, _, _, h6, _⟩
    · simp at h5
    · simp only [Value.slice.injEq] at h5
      obtain ⟨_, _, rfl⟩ := h5
      exact h6
  · simp [hl]; omega
  · rw [← htk, hl]
    simp only []
    apply List.ext_getElem?
    intro i
    simp only [List.getElem?_take, List.getElem?_append, List.length_append, List.length_take, List.getElem?_drop, Array.length_toList, hl]
    repeat' split
    all_goals (try omega)
    all_goals (try rfl)
    all_goals (try (congr 1; omega))
    all_goals (symm; first | (apply List.getElem?_eq_none; omega) | skip)
end

/-! ### structs that are built, quickly -/
def plO (P : Program) (t : TypeId) : Option (List (Nat × Nat)) :=
  match P.underlying t with
  | some (.struct fields) => fields.toList.mapM (fun f => (P.info? f.type).map fun i => (f.offset, i.size))
  | _ => none
def atL : List (Nat × Nat) → Nat → Option (Nat × Nat)
  | [], _ => none
  | x :: _, 0 => some x
  | _ :: l, i + 1 => atL l i
theorem atL_get : ∀ (l : List (Nat × Nat)) (i : Nat), atL l i = l[i]?
  | [], i => by simp [atL]
  | x :: l, 0 => by simp [atL]
  | x :: l, i + 1 => by simp [atL, atL_get l i]
def fillP (pl : List (Nat × Nat)) : List Value → List (Nat × Value) → Option (List Value)
  | cs, [] => some cs
  | cs, (i, v) :: r => match atL pl i with
    | some (off, s) => bif Nat.beq v.cells.size s then (match spliceO cs off v.cells.toList with
      | some cs' => fillP pl cs' r
      | none => none) else none
    | none => none
theorem fillP_of {pl : List (Nat × Nat)} : ∀ (vs : List (Nat × Value)) (cells : Array Value) (cs : List Value), fillP pl cells.toList vs = some cs → Instr.fill (pl.toArray[·]?) cells vs = some cs.toArray
  | [], cells, cs, h => by simp [fillP] at h; simp [Instr.fill, ← h]
  | (i, v) :: r, cells, cs, h => by
    simp only [fillP] at h
    split at h
    · rename_i off s ha
      rw [atL_get] at ha
      cases hb : Nat.beq v.cells.size s with
      | false => simp [hb] at h
      | true =>
        simp only [hb, cond_true] at h
        have hs : v.cells.size = s := Nat.eq_of_beq_eq_true hb
        split at h
        · rename_i cs' hcs
          obtain ⟨h1, h2⟩ := spliceO_spec hcs
          simp only [Array.length_toList] at h1 h2
          have h3 : ¬ (v.cells.size ≠ s ∨ off + v.cells.size > cells.size) := by omega
          have ha2 : pl.toArray[i]? = some (off, s) := by simpa using ha
          simp only [Instr.fill, ha2]
          rw [if_neg (by simpa using h3)]
          have h4 : (v.cells.zipIdx.foldl (fun cs (p : Value × Nat) => cs.setIfInBounds (off + p.2) p.1) cells) = cs'.toArray := by
            apply Array.ext'
            have := foldl_set off v.cells.toList 0 cells (by simpa using h1)
            rw [← Array.foldl_toList, Array.toList_zipIdx]
            rw [this, h2]
            simp
          have h5 := fillP_of r cs'.toArray cs (by simpa using h)
          rw [← h4] at h5
          exact h5
        · cases h
    · cases h
theorem ow_buildP {P : Program} {e : List (Nat × Value)} {ty : TypeId} {w : World} {K : Value → World → Prop} {t : TypeId} {a : Bool} {s b : Nat} {z : List Value} {pl : List (Nat × Nat)} {parts : Array (Nat × Operand)} {vs : List (Nat × Value)} {cs : List Value}
    (hpl : plO P t = some pl) (ht : tiO P t = some (a, s, b, z)) (hp : partsO e parts.toList = some vs) (hf : fillP pl z vs = some cs) (h : K (.agg cs.toArray) w) : OpWp P e (.build t parts) ty w K := by
  refine ow_build (vs := vs) (cs := cs) hp ?_ h
  obtain ⟨d', i, zv, hd, hi, hz, ha, hs, hb, hzv⟩ := tiO_spec ht
  unfold plO at hpl
  split at hpl
  · rename_i fields hu
    have h1 := fillP_of vs zv.cells cs (by rw [hzv]; exact hf)
    simp only [Program.built, hi, hu, hz, hpl, h1, Option.map_some]
  · cases hpl
end Go.Proofs.Ytdoibplhbdkapaa
