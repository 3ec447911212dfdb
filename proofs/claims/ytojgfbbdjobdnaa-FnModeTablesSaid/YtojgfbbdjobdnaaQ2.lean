/- Bytes of mode tables are read again: plain facts. No condition. -/
import Derived.Test.YtojgfbbdjobdnaaB3
import Derived.Test.YtojgfbbdjobdnaaR2
namespace Go.Proofs.Ytojgfbbdjobdnaa
open Go.RowKit
set_option linter.unusedVariables false
set_option linter.unusedSimpArgs false
set_option maxRecDepth 20000
/-! ### bytes of mode tables are read again -/
theorem getD_appM (p l : List Int) (i : Nat) : (p ++ l).getD (p.length + i) 0 = l.getD i 0 := by
  rw [List.getD_eq_getElem?_getD, List.getD_eq_getElem?_getD, List.getElem?_append_right (by omega), show p.length + i - p.length = i by omega]
theorem modeB_len (x : Mode) : (modeB x).length = 3 + x.next.length := by simp [modeB]; omega
theorem prsM_flat : ∀ (ms : List Mode) (p q : List Int), prsM (p ++ (ms.flatMap modeB ++ q)) ms.length p.length = some (ms, p.length + (ms.flatMap modeB).length)
  | [], p, q => by simp [prsM]
  | x :: r, p, q => by
    have h2 := prsM_flat r (p ++ modeB x) q
    have e : p ++ modeB x ++ (r.flatMap modeB ++ q) = p ++ (modeB x ++ (r.flatMap modeB ++ q)) := by simp
    rw [e, List.length_append, modeB_len] at h2
    rw [List.flatMap_cons, List.append_assoc, List.length_cons, List.length_append, modeB_len]
    have e0 := getD_appM p (modeB x ++ (r.flatMap modeB ++ q)) 0
    have e1 := getD_appM p (modeB x ++ (r.flatMap modeB ++ q)) 1
    have e2 := getD_appM p (modeB x ++ (r.flatMap modeB ++ q)) 2
    have hdt : ((p ++ (modeB x ++ (r.flatMap modeB ++ q))).drop (p.length + 3)).take x.next.length = x.next := by
      rw [List.drop_append, List.drop_of_length_le (by omega), List.nil_append, show p.length + 3 - p.length = 3 by omega]
      simp [modeB]
    have hlen : (p ++ (modeB x ++ (r.flatMap modeB ++ q))).length = p.length + (3 + x.next.length + (r.flatMap modeB ++ q).length) := by rw [List.length_append, List.length_append, modeB_len]
    generalize p ++ (modeB x ++ (r.flatMap modeB ++ q)) = L at *
    simp only [modeB, List.cons_append, List.nil_append, List.getD_cons_zero, List.getD_cons_succ, Nat.add_zero] at e0 e1 e2
    rw [prsM, e0, e1, e2, Int.toNat_natCast, if_pos ⟨by omega, by omega⟩, hdt, show p.length + 3 + x.next.length = p.length + (3 + x.next.length) by omega, h2]
    simp only [Option.map_some, Option.some.injEq, Prod.mk.injEq, true_and]
    omega
theorem mtP_eq (ms : List Mode) : mtP ms ms.length = (ms.length : Int) :: ms.flatMap modeB := by unfold mtP; rw [List.take_length]
theorem rdM_back {ms : List Mode} (h : isMT ms = true) (q : List Int) : rdM (mtP ms ms.length ++ q) = some (ms, (mtP ms ms.length).length) := by
  have h1 := prsM_flat ms [(ms.length : Int)] q
  have e : mtP ms ms.length ++ q = [(ms.length : Int)] ++ (ms.flatMap modeB ++ q) := by rw [mtP_eq]; rfl
  have e2 : (mtP ms ms.length).length = 1 + (ms.flatMap modeB).length := by rw [mtP_eq]; simp; omega
  rw [e2]
  refine rdM_some (by rw [e]; simp) ?_ h
  rw [e]
  simpa using h1
theorem rises_in {n : Int} : ∀ (l : List Int) (p : Option Int), risesFrom n p l = true → ∀ z ∈ l, 0 ≤ z ∧ z ≤ n - 1
  | [], _, _, z, hz => by simp at hz
  | y :: r, p, h, z, hz => by
    have h3 : inB y 0 (n - 1) = true ∧ risesFrom n (some y) r = true := by
      cases p <;> simp [risesFrom] at h
      · exact h
      · exact ⟨h.1.1, h.2⟩
    rcases List.mem_cons.1 hz with rfl | hz
    · exact inB_iff.1 h3.1
    · exact rises_in r _ h3.2 z hz
theorem isB_backM {ms : List Mode} (h : isMT ms = true) : isB (mtP ms ms.length ++ [7]) = true := by
  have hl := isMT_len h
  have hx : ∀ x ∈ ms, (modeB x).length ≤ 19 ∧ ∀ z ∈ modeB x, 0 ≤ z ∧ z ≤ 255 := fun x hx => by
    obtain ⟨k, hk⟩ := List.mem_iff_getElem?.1 hx
    obtain ⟨h1, h2, h3⟩ := modeOk_in (isMT_at h hk)
    have h4 := risesB_len h3
    have h5 := rises_in x.next none h3
    refine ⟨by rw [modeB_len]; omega, fun z hz => ?_⟩
    simp only [modeB, List.cons_append, List.nil_append, List.mem_cons] at hz
    rcases hz with rfl | rfl | rfl | hz
    · omega
    · omega
    · omega
    · have := h5 z hz; omega
  have hf := flat_le (f := modeB) (b := 19) ms fun x hx' => (hx x hx').1
  have hf2 : 19 * ms.length ≤ 19 * 16 := Nat.mul_le_mul_left _ hl.2
  simp only [isB, Bool.and_eq_true, decide_eq_true_eq, List.all_eq_true]
  refine ⟨by rw [mtP_eq]; simp only [List.length_append, List.length_cons, List.length_nil]; omega, fun z hz => inB_iff.2 ?_⟩
  rw [mtP_eq] at hz
  simp only [List.cons_append, List.mem_cons, List.mem_append, List.not_mem_nil, or_false] at hz
  rcases hz with rfl | hz | rfl
  · omega
  · obtain ⟨x, hx', hz⟩ := List.mem_flatMap.1 hz
    exact (hx x hx').2 z hz
  · omega
theorem readMF_back {ms : List Mode} (h : isMT ms = true) : readMF (mtP ms ms.length ++ [7]) = (ms, ((mtP ms ms.length).length : Int), 0) := by
  rw [readMF, if_pos (isB_backM h), rdM_back h]
theorem prsM_bytes {xs : List Int} (hB : isB xs = true) : ∀ (n a : Nat) (r : List Mode × Nat), prsM xs n a = some r → a ≤ r.2 ∧ r.1.flatMap modeB = (xs.drop a).take (r.2 - a)
  | 0, a, r, h => by simp [prsM] at h; subst h; simp
  | n + 1, a, r, h => by
    rw [prsM] at h
    split at h
    · rename_i h1
      have g2 : 0 ≤ xs.getD (a + 2) 0 := by
        have := isB_at (k := a + 2) (x := xs.getD (a + 2) 0) hB (by rw [List.getD_eq_getElem?_getD, List.getElem?_eq_getElem (by omega)]; rfl)
        exact this.1
      obtain ⟨m, hm⟩ : ∃ m : Nat, xs.getD (a + 2) 0 = (m : Int) := ⟨_, (Int.toNat_of_nonneg g2).symm⟩
      rw [hm, Int.toNat_natCast] at h h1
      cases h2 : prsM xs n (a + 3 + m) with
      | none => rw [h2] at h; simp at h
      | some q =>
        rw [h2] at h
        simp only [Option.map_some, Option.some.injEq] at h
        obtain ⟨h3, h4⟩ := prsM_bytes hB n _ q h2
        subst h
        refine ⟨by simp only; omega, ?_⟩
        have hnl : ((xs.drop (a + 3)).take m).length = m := by simp; omega
        simp only [List.flatMap_cons, h4, modeB, hnl]
        have gd : ∀ k, k < xs.length → xs.drop k = xs.getD k 0 :: xs.drop (k + 1) := fun k hk => by
          rw [List.drop_eq_getElem_cons hk, List.getD_eq_getElem?_getD, List.getElem?_eq_getElem hk]; rfl
        rw [gd a (by omega), gd (a + 1) (by omega), gd (a + 1 + 1) (by omega), show a + 1 + 1 = a + 2 from rfl, hm, show q.2 - a = (m + (q.2 - (a + 3 + m))) + 1 + 1 + 1 by omega]
        simp only [List.take_succ_cons, List.cons_append, List.nil_append, show a + 2 + 1 = a + 3 from rfl]
        rw [List.take_add, List.drop_drop]
    · cases h
theorem mtP_read {xs : List Int} (hB : isB xs = true) {r : List Mode × Nat} (h : rdM xs = some r) : mtP r.1 r.1.length = xs.take r.2 := by
  have hne : xs.length ≠ 0 := fun e => by rw [rdM_empty e] at h; cases h
  have hp : prsM xs (xs.getD 0 0).toNat 1 = some r := by
    unfold rdM at h
    rw [if_neg hne] at h
    split at h
    · rename_i q hq
      split at h
      · injection h with h; rw [hq, h]
      · cases h
    · cases h
  obtain ⟨h3, h4⟩ := prsM_bytes hB _ _ _ hp
  have h5 := (prsM_at xs _ _ _ hp (by omega)).2
  have g0 : 0 ≤ xs.getD 0 0 := (isB_at (k := 0) (x := xs.getD 0 0) hB (by rw [List.getD_eq_getElem?_getD, List.getElem?_eq_getElem (by omega)]; rfl)).1
  have e : xs = xs.getD 0 0 :: xs.drop 1 := by
    have hk : 0 < xs.length := by omega
    have := List.drop_eq_getElem_cons hk
    rw [List.drop_zero] at this
    rw [List.getD_eq_getElem?_getD, List.getElem?_eq_getElem hk]; exact this
  rw [mtP_eq, h4, h5, Int.toNat_of_nonneg g0]
  have e2 : xs.take r.2 = xs.getD 0 0 :: (xs.drop 1).take (r.2 - 1) := by
    conv => lhs; rw [e]
    rw [show r.2 = (r.2 - 1) + 1 by omega, List.take_succ_cons]
    simp only [Nat.add_sub_cancel]
  rw [e2]
end Go.Proofs.Ytojgfbbdjobdnaa
