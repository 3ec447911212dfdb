/- Flow, part K: appends that say where the longer row lies; slices held against nil. No condition. -/
import Derived.Test.YtdoibplhbdkapaaFlowJ
namespace Go.Proofs.Ytdoibplhbdkapaa
open Go.RowKit
set_option linter.unusedVariables false
set_option linter.unusedSimpArgs false
theorem one_ints : ∀ (xs : List Int), ∀ u ∈ xs.flatMap eI, u.oneCell' = true := fun xs u hu => by
  obtain ⟨x, _, h⟩ := List.mem_flatMap.1 hu
  have : u = .int .i64 x := by simpa [eI] using h
  subst this; rfl
section
variable {P : Program} {e : List (Nat × Value)} {ty : TypeId} {w : World} {K : Value → World → Prop} {x y : Operand} {t el : TypeId} {s b : Nat} {z : List Value} {a : Bool}
/-- an append to a row of the call's own, and where the longer row lies -/
theorem ow_appendW {ts : Array TypeId} {lo B n c n' c' : Nat} {A A' : Option Addr} {cs ds : List Value} (hown : Own w lo el s A n c cs) (hlo : lo ≤ w.heap.size) (hsrc : Sl B w A' ds) (hdl : ds.length = n' * s) (hd1 : ∀ u ∈ ds, u.oneCell' = true)
    (ht : elO P t = some (el, s)) (hi : tiO P el = some (a, s, b, z)) (hzl : Nat.beq z.length s = true) (h0 : Nat.blt 0 s = true) (hx : evO e x = some (.slice A n c)) (hy : evO e y = some (.slice A' n' c'))
    (hb : (n + n') * b ≤ 140737488355328) (hm : n + n' ≤ 9223372036854775807)
    (h : ∀ A1 c1 w', Own w' lo el s A1 (n + n') c1 (cs ++ ds) → w.grownBy w' ((Value.slice A n c).ownBlock) → ((Value.slice A1 (n + n') c1).ownBlock = (Value.slice A n c).ownBlock ∨ (Value.slice A1 (n + n') c1).ownBlock = some w.heap.size) → K (.slice A1 (n + n') c1) w') : OpWp P e (.call ⟨.builtin .append, #[x, y], #[t, t]⟩) ty w K := fun ρ d p af g hρ => by
  have g1 := hρ _ _ hx; have g2 := hρ _ _ hy
  obtain ⟨ti, hu, hti, hts⟩ := elO_spec ht
  obtain ⟨d', i', zv, hd, hi', hz, ha, hs, hb', hzv⟩ := tiO_spec hi
  obtain rfl : ti = i' := by rw [hti] at hi'; injection hi'
  have hzl' : z.length = s := Nat.eq_of_beq_eq_true hzl
  have h0' : 0 < s := by simpa using h0
  have hzc : zv.cells.size = s := by rw [← hzl', ← hzv]; simp
  have hfin : ∃ v' w', (Builtin.append_ #[t, t] ty #[.slice A n c, .slice A' n' c']).run P w = .ok v' w' ∧ w'.ownsRow lo el s v' (n + n') (cs ++ ds) ∧ w.grownBy w' ((Value.slice A n c).ownBlock) ∧ (v'.ownBlock = (Value.slice A n c).ownBlock ∨ v'.ownBlock = some w.heap.size) := by
    cases A' with
    | none =>
      have hds : ds = [] := by
        cases ds with
        | nil => rfl
        | cons u r => have := (hsrc.2 0 u rfl).1; simp at this
      subst hds
      have hn' : n' = 0 := by
        simp only [List.length_nil] at hdl
        rcases Nat.eq_zero_or_pos n' with h | h
        · exact h
        · have := Nat.mul_pos h h0'; omega
      subst hn'
      refine ⟨.slice A n c, w, ?_, by simpa using hown, ⟨rfl, rfl, rfl, Nat.le_refl _, fun _ _ _ => rfl⟩, .inl rfl⟩
      rcases hown.2 with ⟨h1, h2⟩ | ⟨g, cap, cur, h1, _, hg, hnc, _⟩
      · simp only [Value.slice.injEq] at h1
        obtain ⟨rfl, rfl, rfl⟩ := h1
        simp [Builtin.append_, run_underlying hu, sizeOf, typeInfo, hti, Builtin.lenOf, Builtin.firstCells]
      · simp only [Value.slice.injEq] at h1
        obtain ⟨rfl, _, rfl⟩ := h1
        simp [Builtin.append_, run_underlying hu, sizeOf, typeInfo, hti, Builtin.lenOf, Builtin.firstCells, hnc, storeCells]
    | some ad =>
      obtain ⟨v', w', hr, h2, h3, _, h9⟩ := run_append_own_at (P := P) w lo t ty el ti zv s b hu hti hz hts hb' hzc h0' (.slice A n c) n cs hown ad n' c' ds hdl (fun j u hj => (hsrc.2 j u hj).2.2) hd1 (by unfold maxLen; omega) hb hlo
      exact ⟨v', w', hr, h2, h3, h9⟩
  obtain ⟨v', w', hr, h2, h3, h9⟩ := hfin
  simp only [execOp, resolve, invoke, builtin, Sem.run_bind, Sem.run_pure, Result.andThen_ok, List.map_toArray, List.map_cons, List.map_nil, g1, g2, hr, upto]
  have hform : ∃ A1 c1, v' = .slice A1 (n + n') c1 := by
    rcases h2.2 with ⟨h4, h5⟩ | ⟨g, cap, cur, h4, _⟩
    · exact ⟨none, 0, by rw [h4, h5]⟩
    · exact ⟨_, _, h4⟩
  obtain ⟨A1, c1, rfl⟩ := hform
  exact h A1 c1 w' h2 h3 h9


/-- rows that lie apart -/
def Apart (b1 b2 : Option Nat) : Prop := ∀ g, b1 = some g → b2 ≠ some g
theorem apart_l {b1 b1' b2 : Option Nat} {n : Nat} (h : ∀ g, b1 = some g → b2 ≠ some g) (hW : b1' = b1 ∨ b1' = some n) (hn : ∀ g, b2 = some g → g < n) : ∀ g, b1' = some g → b2 ≠ some g := fun g h1 h2 => by
  rcases hW with e | e
  · rw [e] at h1; exact h g h1 h2
  · rw [e] at h1; injection h1 with h1
    have := hn g h2; omega
theorem apart_r {b1 b1' b2 : Option Nat} {n : Nat} (h : ∀ g, b2 = some g → b1 ≠ some g) (hW : b1' = b1 ∨ b1' = some n) (hn : ∀ g, b2 = some g → g < n) : ∀ g, b2 = some g → b1' ≠ some g := fun g h1 h2 => apart_l (fun g h1 h2 => h g h2 h1) hW hn g h2 h1
end
section
variable {P : Program} {n : Nat} {ops : Array Oper} {I : World → Prop} {K : Act → World → Prop} {fuel : Nat} {listed listed' : Array Bool} {e : List (Nat × Value)} {w : World}
/-- a quiet one that is guarded and wanted is taken first -/
theorem wi_takeW (i : Nat) {dst : Option Tmp} {op : Op} {ty : TypeId} {pos : String} {af : Array Edge} {v : Value} {j d : Nat} {b : Bool} (hi : ops[i]? = some ⟨dst, op, ty, pos, af, some (j, b)⟩) (hs : Region.noSelect ops = true) (hd : dstOk n dst = true)
    (ht : takeB ops ops.size listed i = true) (hl : listed.setIfInBounds i true = listed') (hj : (ops[j]?).bind (·.dst) = some d) (hb : lk e d = some (.bool b)) (hy : ∀ w, I w → OpWp P e op ty w fun u w' => u = v ∧ w' = w)
    (h : WE P n ops I K fuel listed' (updO e dst v) w) : WE P n ops I K (fuel + 1) listed e w := fun a ha => by
  simp only [takeB, Bool.and_eq_true] at ht
  refine WI_first hi (Region.noSelect_spec hs) fuel listed a w (Region.free_spec hi ht.1) (by simpa using ht.2) (fun w hw => OpG.opX ha (by simp only [OpG, hj, hb]; rw [if_pos (by cases b <;> rfl)]; exact hy w hw)) ?_
  rw [hl]
  exact h _ (ha.put dst v hd)
/-- one that is guarded and not wanted is taken first -/
theorem wi_takeS (i : Nat) {dst : Option Tmp} {op : Op} {ty : TypeId} {pos : String} {af : Array Edge} {j d : Nat} {b : Bool} {u0 : Value} (hi : ops[i]? = some ⟨dst, op, ty, pos, af, some (j, b)⟩) (hs : Region.noSelect ops = true) (hd : dstOk n dst = true)
    (ht : takeB ops ops.size listed i = true) (hl : listed.setIfInBounds i true = listed') (hj : (ops[j]?).bind (·.dst) = some d) (hb : lk e d = some u0) (hu : saysB u0 b = false)
    (h : WE P n ops I K fuel listed' (updO e dst undef) w) : WE P n ops I K (fuel + 1) listed e w := fun a ha => by
  simp only [takeB, Bool.and_eq_true] at ht
  refine WI_first (v := undef) hi (Region.noSelect_spec hs) fuel listed a w (Region.free_spec hi ht.1) (by simpa using ht.2) (fun w hw => OpG.opX ha (by simp only [OpG, hj, hb]; rw [if_neg (by rw [hu]; simp)]; first | trivial | exact ⟨rfl, rfl⟩ | simp)) ?_
  rw [hl]
  exact h _ (ha.put dst undef hd)
/-- number i alone may come up; it is guarded and wanted -/
theorem wi_oneW (i : Nat) {dst : Option Tmp} {op : Op} {ty : TypeId} {pos : String} {af : Array Edge} {j d : Nat} {b : Bool} (hi : ops[i]? = some ⟨dst, op, ty, pos, af, some (j, b)⟩) (hd : dstOk n dst = true)
    (hr : rdy ops ops.size listed = [i]) (hl : listed.setIfInBounds i true = listed') (hj : (ops[j]?).bind (·.dst) = some d) (hb : lk e d = some (.bool b)) (hI : I w) (hy : OpWp P e op ty w fun u w' => WE P n ops I K fuel listed' (updO e dst u) w') : WE P n ops I K (fuel + 1) listed e w := fun a ha => by
  refine ⟨hI, by rw [hr]; simp, fun k hk o ho => ?_⟩
  rw [hr] at hk
  obtain rfl : k = i := by simpa using hk
  obtain rfl : ⟨dst, op, ty, pos, af, some (j, b)⟩ = o := by rw [hi] at ho; injection ho
  refine OpX.mono (OpG.opX (R := fun u w' => WE P n ops I K fuel listed' (updO e dst u) w') ha (by simp only [OpG, hj, hb]; rw [if_pos (by cases b <;> rfl)]; exact hy)) fun u w' hu => ?_
  rw [hl]
  exact hu _ (ha.put dst u hd)
end
end Go.Proofs.Ytdoibplhbdkapaa
