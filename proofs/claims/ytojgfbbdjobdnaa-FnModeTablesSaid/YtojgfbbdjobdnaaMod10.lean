/- Reading of bytes by a cursor: plain functions. No condition. -/
import Derived.Test.YtojgfbbdjobdnaaMod4
namespace Go.Proofs.Ytojgfbbdjobdnaa
open Go.RowKit
set_option linter.unusedVariables false
set_option linter.unusedSimpArgs false

/-- the cells of a cursor -/
def curC (A : Option Addr) (c : Nat) (xs : List Int) (a : Nat) (bad : Bool) : List Value := [.slice A xs.length c, .int .i64 (a : Nat), .bool bad]
def nAt (xs : List Int) (a : Nat) : Nat := if a = xs.length then a else a + 1
def nBad (xs : List Int) (a : Nat) (bad : Bool) : Bool := if a = xs.length then true else bad
def nV (xs : List Int) (a : Nat) : Int := if a = xs.length then 0 else xs.getD a 0
theorem nAt_le {xs : List Int} {a : Nat} (h : a ≤ xs.length) : nAt xs a ≤ xs.length := by unfold nAt; split <;> omega
theorem nV_in {xs : List Int} (hb : isB xs = true) (a : Nat) : 0 ≤ nV xs a ∧ nV xs a ≤ 255 := by
  unfold nV
  split
  · omega
  · rw [List.getD_eq_getElem?_getD]
    cases h : xs[a]? with
    | none => simp
    | some x => exact isB_at hb h
/-- so many next bytes -/
def someR (xs : List Int) : Nat → Nat → Bool → List Int × Nat × Bool
  | 0, a, bad => ([], a, bad)
  | _ + 1, a, true => ([], a, true)
  | n + 1, a, false => (nV xs a :: (someR xs n (nAt xs a) (nBad xs a false)).1, (someR xs n (nAt xs a) (nBad xs a false)).2)
theorem someR_len (xs : List Int) : ∀ (n a : Nat) (bad : Bool), (someR xs n a bad).1.length ≤ n
  | 0, a, bad => by simp [someR]
  | n + 1, a, true => by simp [someR]
  | n + 1, a, false => by
    have := someR_len xs n (nAt xs a) (nBad xs a false)
    simp only [someR, List.length_cons]; omega
theorem someR_le (xs : List Int) : ∀ (n a : Nat) (bad : Bool), a ≤ xs.length → (someR xs n a bad).2.1 ≤ xs.length
  | 0, a, bad, h => h
  | n + 1, a, true, h => h
  | n + 1, a, false, h => someR_le xs n _ _ (nAt_le h)
theorem someR_bad (xs : List Int) : ∀ (n a : Nat), (someR xs n a true).2.2 = true
  | 0, _ => rfl
  | _ + 1, _ => rfl
theorem someR_good (xs : List Int) : ∀ (n a : Nat), a + n ≤ xs.length → someR xs n a false = ((xs.drop a).take n, a + n, false)
  | 0, a, h => by simp [someR]
  | n + 1, a, h => by
    have ha : a < xs.length := by omega
    have e1 : nAt xs a = a + 1 := by unfold nAt; rw [if_neg (by omega)]
    have e2 : nBad xs a false = false := by unfold nBad; rw [if_neg (by omega)]
    have e3 : nV xs a = xs[a] := by unfold nV; rw [if_neg (by omega), List.getD_eq_getElem?_getD, List.getElem?_eq_getElem ha]; rfl
    simp only [someR, e1, e2, e3, someR_good xs n (a + 1) (by omega)]
    rw [List.drop_eq_getElem_cons ha, List.take_succ_cons]
    congr 2; omega
theorem someR_short (xs : List Int) : ∀ (n a : Nat), a ≤ xs.length → xs.length < a + n → (someR xs n a false).2.2 = true
  | 0, a, h, h2 => by omega
  | n + 1, a, h, h2 => by
    simp only [someR]
    by_cases e : a = xs.length
    · have e2 : nBad xs a false = true := by unfold nBad; rw [if_pos e]
      rw [e2]; exact someR_bad xs n _
    · have e1 : nAt xs a = a + 1 := by unfold nAt; rw [if_neg e]
      have e2 : nBad xs a false = false := by unfold nBad; rw [if_neg e]
      rw [e1, e2]; exact someR_short xs n (a + 1) (by omega) (by omega)
theorem n_ok {xs : List Int} {a : Nat} (h : a < xs.length) (bad : Bool) : nAt xs a = a + 1 ∧ nBad xs a bad = bad ∧ nV xs a = xs.getD a 0 := by
  unfold nAt nBad nV
  rw [if_neg (by omega), if_neg (by omega), if_neg (by omega)]
  exact ⟨rfl, rfl, rfl⟩
theorem n_end {xs : List Int} (bad : Bool) : nAt xs xs.length = xs.length ∧ nBad xs xs.length bad = true ∧ nV xs xs.length = 0 := by
  unfold nAt nBad nV
  simp
theorem nBad_keep (xs : List Int) (a : Nat) : nBad xs a true = true := by unfold nBad; split <;> rfl

/-! ### mode tables -/
def prsM (xs : List Int) : Nat → Nat → Option (List Mode × Nat)
  | 0, a => some ([], a)
  | n + 1, a => if a + 3 ≤ xs.length ∧ a + 3 + (xs.getD (a + 2) 0).toNat ≤ xs.length then
      (prsM xs n (a + 3 + (xs.getD (a + 2) 0).toNat)).map fun r => (⟨xs.getD a 0, xs.getD (a + 1) 0, (xs.drop (a + 3)).take (xs.getD (a + 2) 0).toNat⟩ :: r.1, r.2)
    else none
/-- one entry read by the cursor: what stands behind it -/
theorem chain_good {xs : List Int} {a : Nat} (h : a + 3 ≤ xs.length ∧ a + 3 + (xs.getD (a + 2) 0).toNat ≤ xs.length) :
    nV xs a = xs.getD a 0 ∧ nV xs (nAt xs a) = xs.getD (a + 1) 0 ∧ nV xs (nAt xs (nAt xs a)) = xs.getD (a + 2) 0 ∧ nAt xs (nAt xs (nAt xs a)) = a + 3 ∧ nBad xs (nAt xs (nAt xs a)) (nBad xs (nAt xs a) (nBad xs a false)) = false := by
  obtain ⟨h1, h2, h3⟩ := n_ok (show a < xs.length by omega) false
  rw [h1]
  obtain ⟨h4, h5, h6⟩ := n_ok (show a + 1 < xs.length by omega) (nBad xs a false)
  rw [h4]
  obtain ⟨h7, h8, h9⟩ := n_ok (show a + 1 + 1 < xs.length by omega) (nBad xs (a + 1) (nBad xs a false))
  exact ⟨h3, h6, h9, h7, by rw [h8, h5, h2]⟩
theorem chain_short {xs : List Int} {a : Nat} (ha : a ≤ xs.length) (h : xs.length < a + 3) : nBad xs (nAt xs (nAt xs a)) (nBad xs (nAt xs a) (nBad xs a false)) = true := by
  by_cases e0 : a = xs.length
  · have e1 : nBad xs a false = true := by unfold nBad; rw [if_pos e0]
    rw [e1, nBad_keep, nBad_keep]
  · obtain ⟨h1, h2, h3⟩ := n_ok (show a < xs.length by omega) false
    rw [h1]
    by_cases e1 : a + 1 = xs.length
    · have e2 : nBad xs (a + 1) (nBad xs a false) = true := by unfold nBad; rw [if_pos e1]
      rw [e2, nBad_keep]
    · obtain ⟨h4, h5, h6⟩ := n_ok (show a + 1 < xs.length by omega) (nBad xs a false)
      rw [h4]
      unfold nBad; rw [if_pos (by omega)]
theorem prsM_at (xs : List Int) : ∀ (n a : Nat) (r : List Mode × Nat), prsM xs n a = some r → a ≤ xs.length → r.2 ≤ xs.length ∧ r.1.length = n
  | 0, a, r, h, ha => by simp [prsM] at h; subst h; exact ⟨ha, rfl⟩
  | n + 1, a, r, h, ha => by
    rw [prsM] at h
    split at h
    · rename_i h1
      cases h2 : prsM xs n (a + 3 + (xs.getD (a + 2) 0).toNat) with
      | none => rw [h2] at h; simp at h
      | some q =>
        rw [h2] at h
        simp only [Option.map_some, Option.some.injEq] at h
        obtain ⟨h3, h4⟩ := prsM_at xs n _ q h2 h1.2
        rw [← h]
        exact ⟨h3, by simp [h4]⟩
    · cases h
theorem someR_stop (xs : List Int) (n a : Nat) {b : Bool} (h : n = 0 ∨ b = true) : someR xs n a b = ([], a, b) := by
  rcases h with h | h
  · subst h; rfl
  · subst h; cases n <;> rfl
theorem someR_step (xs : List Int) {n a : Nat} {b : Bool} (h : 0 < n) (hb : b = false) : someR xs n a b = (nV xs a :: (someR xs (n - 1) (nAt xs a) (nBad xs a b)).1, (someR xs (n - 1) (nAt xs a) (nBad xs a b)).2) := by
  subst hb
  obtain ⟨m, rfl⟩ : ∃ m, n = m + 1 := ⟨n - 1, by omega⟩
  rfl
/-- one entry of a mode table, read by the cursor -/
def entR (xs : List Int) (a : Nat) : List Int × Nat × Bool := someR xs (nV xs (nAt xs (nAt xs a))).toNat (nAt xs (nAt xs (nAt xs a))) (nBad xs (nAt xs (nAt xs a)) (nBad xs (nAt xs a) (nBad xs a false)))
theorem step_modes {xs : List Int} {a rem : Nat} (ha : a ≤ xs.length) :
    ((entR xs a).2.2 = false → prsM xs (rem + 1) a = (prsM xs rem (entR xs a).2.1).map fun r => (⟨nV xs a, nV xs (nAt xs a), (entR xs a).1⟩ :: r.1, r.2)) ∧ ((entR xs a).2.2 = true → prsM xs (rem + 1) a = none) := by
  by_cases hg : a + 3 ≤ xs.length ∧ a + 3 + (xs.getD (a + 2) 0).toNat ≤ xs.length
  · obtain ⟨h1, h2, h3, h4, h5⟩ := chain_good hg
    have e : entR xs a = ((xs.drop (a + 3)).take (xs.getD (a + 2) 0).toNat, a + 3 + (xs.getD (a + 2) 0).toNat, false) := by
      unfold entR; rw [h3, h4, h5, someR_good xs _ _ hg.2]
    rw [e, h1, h2]
    refine ⟨fun _ => ?_, fun h => by cases h⟩
    rw [prsM, if_pos hg]
  · have e : prsM xs (rem + 1) a = none := by rw [prsM, if_neg hg]
    rw [e]
    refine ⟨fun h => ?_, fun _ => rfl⟩
    exfalso
    have hb : (entR xs a).2.2 = true := by
      unfold entR
      by_cases h3 : a + 3 ≤ xs.length
      · obtain ⟨h1, h2, h4⟩ := n_ok (show a < xs.length by omega) false
        obtain ⟨h5, h6, h7⟩ := n_ok (show a + 1 < xs.length by omega) false
        obtain ⟨h8, h9, h10⟩ := n_ok (show a + 1 + 1 < xs.length by omega) false
        simp only [h1, h2, h5, h6, h8, h9, h10]
        exact someR_short xs _ _ (by omega) (by rw [show a + 1 + 1 = a + 2 from rfl]; omega)
      · rw [chain_short ha (by omega)]; exact someR_bad xs _ _
    rw [hb] at h; cases h
theorem entR_in {xs : List Int} (hb : isB xs = true) {a : Nat} (ha : a ≤ xs.length) : (entR xs a).2.1 ≤ xs.length ∧ (entR xs a).1.length ≤ 255 := by
  have h1 := nV_in hb (nAt xs (nAt xs a))
  exact ⟨someR_le xs _ _ _ (nAt_le (nAt_le (nAt_le ha))), Nat.le_trans (someR_len xs _ _ _) (by omega)⟩
/-- what reading a mode table gives: the table, how many bytes, whether there is one -/
def rdM (xs : List Int) : Option (List Mode × Nat) := if xs.length = 0 then none else match prsM xs (xs.getD 0 0).toNat 1 with
  | some r => if isMT r.1 = true then some r else none
  | none => none
/-- the table that was read, in memory -/
def RdM (o : Option (List Mode × Nat)) (ms : List Mode) (sz : Int) (ok : Bool) : Prop := match o with
  | some r => ms = r.1 ∧ sz = (r.2 : Int) ∧ ok = true
  | none => ms = [] ∧ sz = 0 ∧ ok = false
def readMF (xs : List Int) : List Mode × Int × Int := if isB xs = true then (match rdM xs with
  | some r => (r.1, (r.2 : Int), 0)
  | none => ([], 0, 6)) else ([], 0, 2)
theorem rdM_empty {xs : List Int} (h : xs.length = 0) : rdM xs = none := by rw [rdM, if_pos h]
theorem rdM_none {xs : List Int} (h : xs.length ≠ 0) (hp : prsM xs (xs.getD 0 0).toNat 1 = none) : rdM xs = none := by rw [rdM, if_neg h, hp]
theorem rdM_some {xs : List Int} {r : List Mode × Nat} (h : xs.length ≠ 0) (hp : prsM xs (xs.getD 0 0).toNat 1 = some r) (ht : isMT r.1 = true) : rdM xs = some r := by rw [rdM, if_neg h, hp]; simp [ht]
theorem rdM_not {xs : List Int} {r : List Mode × Nat} (h : xs.length ≠ 0) (hp : prsM xs (xs.getD 0 0).toNat 1 = some r) (ht : isMT r.1 = false) : rdM xs = none := by rw [rdM, if_neg h, hp]; simp [ht]
theorem nV0 {xs : List Int} (h : xs.length ≠ 0) : nV xs 0 = xs.getD 0 0 := by unfold nV; rw [if_neg (by omega)]
/-- what is known while the entries are read -/
def HgM (xs : List Int) (rem a : Nat) (b : Bool) (ms : List Mode) : Prop :=
  (b = false → xs.length ≠ 0 ∧ prsM xs (xs.getD 0 0).toNat 1 = (prsM xs rem a).map fun r => (ms ++ r.1, r.2)) ∧ (b = true → rdM xs = none)
theorem HgM.start (xs : List Int) : HgM xs (nV xs 0).toNat (nAt xs 0) (nBad xs 0 false) [] := by
  by_cases h : xs.length = 0
  · have e : nBad xs 0 false = true := by unfold nBad; rw [if_pos h.symm]
    rw [e]
    exact ⟨fun hh => (by cases hh), fun _ => rdM_empty h⟩
  · obtain ⟨h1, h2, h3⟩ := n_ok (xs := xs) (a := 0) (by omega) false
    rw [h1, h2, h3]
    refine ⟨fun _ => ⟨h, ?_⟩, fun hh => (by cases hh)⟩
    cases prsM xs (xs.getD 0 0).toNat (0 + 1) <;> simp
theorem HgM.step {xs : List Int} {rem a : Nat} {ms : List Mode} (h : HgM xs rem a false ms) (hr : 0 < rem) (ha : a ≤ xs.length) :
    HgM xs (rem - 1) (entR xs a).2.1 (entR xs a).2.2 (ms ++ [⟨nV xs a, nV xs (nAt xs a), (entR xs a).1⟩]) := by
  obtain ⟨r, rfl⟩ : ∃ r, rem = r + 1 := ⟨rem - 1, by omega⟩
  obtain ⟨h1, h2⟩ := step_modes (rem := r) ha
  obtain ⟨h3, h4⟩ := h.1 rfl
  refine ⟨fun hb => ⟨h3, ?_⟩, fun hb => ?_⟩
  · rw [h4, h1 hb, show r + 1 - 1 = r by omega]
    cases prsM xs r (entR xs a).2.1 <;> simp
  · rw [h2 hb] at h4
    exact rdM_none h3 h4
theorem HgM.stop {xs : List Int} {a : Nat} {ms : List Mode} (h : HgM xs 0 a false ms) : (isMT ms = true → rdM xs = some (ms, a)) ∧ (isMT ms = false → rdM xs = none) := by
  obtain ⟨h3, h4⟩ := h.1 rfl
  have h5 : prsM xs (xs.getD 0 0).toNat 1 = some (ms, a) := by rw [h4]; simp [prsM]
  exact ⟨fun h => rdM_some h3 h5 h, fun h => rdM_not h3 h5 h⟩
theorem get_D0 {xs : List Int} {a : Nat} {x : Int} (h : xs[a]? = some x) : xs.getD a 0 = x := by rw [List.getD_eq_getElem?_getD, h]; rfl
theorem prsM_step {xs : List Int} {a rem yn : Nat} {x0 x1 : Int} (hr : 0 < rem) (h0 : xs[a]? = some x0) (h1 : xs[a + 1]? = some x1) (h2 : xs[a + 2]? = some (yn : Int)) (h3 : a + 3 + yn ≤ xs.length) :
    prsM xs rem a = (prsM xs (rem - 1) (a + 3 + yn)).map fun r => (⟨x0, x1, (xs.drop (a + 3)).take yn⟩ :: r.1, r.2) := by
  obtain ⟨r, rfl⟩ : ∃ r, rem = r + 1 := ⟨rem - 1, by omega⟩
  rw [prsM, get_D0 h0, get_D0 h1, get_D0 h2, Int.toNat_natCast, if_pos ⟨by omega, h3⟩]; rfl
theorem prsM_short {xs : List Int} {a rem : Nat} (hr : 0 < rem) (h : xs.length < a + 3) : prsM xs rem a = none := by
  obtain ⟨r, rfl⟩ : ∃ r, rem = r + 1 := ⟨rem - 1, by omega⟩
  rw [prsM, if_neg (by omega)]
theorem prsM_short2 {xs : List Int} {a rem yn : Nat} (hr : 0 < rem) (h2 : xs[a + 2]? = some (yn : Int)) (h : xs.length < a + 3 + yn) : prsM xs rem a = none := by
  obtain ⟨r, rfl⟩ : ∃ r, rem = r + 1 := ⟨rem - 1, by omega⟩
  rw [prsM, get_D0 h2, Int.toNat_natCast, if_neg (by omega)]
theorem RdM.f {o : Option (List Mode × Nat)} {ms : List Mode} {sz : Int} (h : RdM o ms sz false) : o = none := by
  cases o with
  | none => rfl
  | some r => exact absurd h.2.2 (by decide)
theorem RdM.t {o : Option (List Mode × Nat)} {ms : List Mode} {sz : Int} (h : RdM o ms sz true) : ∃ r, o = some r ∧ ms = r.1 ∧ sz = (r.2 : Int) := by
  cases o with
  | none => exact absurd h.2.2 (by decide)
  | some r => exact ⟨r, rfl, h.1, h.2.1⟩
theorem prsM_next (xs : List Int) : ∀ (n a : Nat) (r : List Mode × Nat), prsM xs n a = some r → ∀ m ∈ r.1, m.next.length ≤ xs.length
  | 0, a, r, h => by simp [prsM] at h; subst h; simp
  | n + 1, a, r, h => by
    rw [prsM] at h
    split at h
    · cases h2 : prsM xs n (a + 3 + (xs.getD (a + 2) 0).toNat) with
      | none => rw [h2] at h; simp at h
      | some q =>
        rw [h2] at h
        simp only [Option.map_some, Option.some.injEq] at h
        have ih := prsM_next xs n _ q h2
        rw [← h]
        intro m hm
        rcases List.mem_cons.1 hm with rfl | hm
        · simp; omega
        · exact ih m hm
    · cases h
theorem rdM_in {xs : List Int} {r : List Mode × Nat} (h : rdM xs = some r) : r.1.length ≤ 16 ∧ r.2 ≤ xs.length ∧ (∀ m ∈ r.1, m.next.length ≤ xs.length) ∧ isMT r.1 = true := by
  unfold rdM at h
  split at h
  · cases h
  · rename_i h1
    split at h
    · rename_i q hq
      split at h
      · rename_i ht
        injection h with h; subst h
        exact ⟨(isMT_len ht).2, (prsM_at xs _ _ _ hq (by omega)).1, prsM_next xs _ _ _ hq, ht⟩
      · cases h
    · cases h
theorem readMF_small {xs : List Int} (hl : xs.length ≤ 1048576) {ys : List ModeI} (e : ys.map (·.m) = (readMF xs).1) : ys.length ≤ 1048576 ∧ ∀ y ∈ ys, y.m.next.length ≤ 1048576 := by
  have h1 : (readMF xs).1.length ≤ 16 ∧ ∀ m ∈ (readMF xs).1, m.next.length ≤ xs.length := by
    unfold readMF
    split
    · split
      · rename_i r hr
        have := rdM_in hr
        exact ⟨this.1, this.2.2.1⟩
      · simp
    · simp
  rw [← e] at h1
  refine ⟨by have := h1.1; simp at this; omega, fun y hy => ?_⟩
  have := h1.2 y.m (List.mem_map.2 ⟨y, hy, rfl⟩)
  omega
end Go.Proofs.Ytojgfbbdjobdnaa
