/- Reading of slot tables by a cursor: plain functions. No condition. -/
import Derived.Test.YtojgfbbdjobdnaaMod10
namespace Go.Proofs.Ytojgfbbdjobdnaa
open Go.RowKit
set_option linter.unusedVariables false
set_option linter.unusedSimpArgs false

def descR (a b c d e : Int) : Desc := ⟨a, b / 64, b % 64, 256 * c + d, decide (e = 1)⟩
def descV (a b c d e : Int) : Bool := descOk (descR a b c d e) && decide (e ≤ 1)
def dAt (xs : List Int) (a : Nat) : Desc := descR (xs.getD a 0) (xs.getD (a + 1) 0) (xs.getD (a + 2) 0) (xs.getD (a + 3) 0) (xs.getD (a + 4) 0)
def vAt (xs : List Int) (a : Nat) : Bool := descV (xs.getD a 0) (xs.getD (a + 1) 0) (xs.getD (a + 2) 0) (xs.getD (a + 3) 0) (xs.getD (a + 4) 0)
def five (xs : List Int) (a : Nat) : List Int := [xs.getD a 0, xs.getD (a + 1) 0, xs.getD (a + 2) 0, xs.getD (a + 3) 0, xs.getD (a + 4) 0]
def slotE (xs : List Int) (a : Nat) : SlotI := ⟨xs.getD a 0 / 16, xs.getD a 0 % 16, xs.getD (a + 1) 0, dAt xs (a + 2)⟩
def prsS (xs : List Int) : Nat → Nat → Option (List SlotI)
  | 0, _ => some []
  | n + 1, a => if a + 7 ≤ xs.length ∧ vAt xs (a + 2) = true then (prsS xs n (a + 7)).map fun r => slotE xs a :: r else none
def rdS (xs : List Int) : Option (List SlotI) := if xs.length = 0 then none else match prsS xs (xs.getD 0 0).toNat 1 with
  | some l => if isST l = true then some l else none
  | none => none
def RdS (o : Option (List SlotI)) (ys : List SlotI) (n : Int) (ok : Bool) : Prop := match o with
  | some l => ys = l ∧ n = 1 + 7 * l.length ∧ ok = true
  | none => ok = false
def readSF (xs : List Int) : List SlotI × Int × Int := if isB xs = true then (match rdS xs with
  | some l => (l, 1 + 7 * l.length, 0)
  | none => ([], 0, 6)) else ([], 0, 2)
theorem drop_getD {xs : List Int} {a : Nat} (h : a < xs.length) : xs.drop a = xs.getD a 0 :: xs.drop (a + 1) := by
  rw [List.drop_eq_getElem_cons h, List.getD_eq_getElem?_getD, List.getElem?_eq_getElem h]; rfl
theorem five_eq {xs : List Int} {a : Nat} (h : a + 5 ≤ xs.length) : (xs.drop a).take 5 = five xs a := by
  rw [drop_getD (show a < xs.length by omega), drop_getD (show a + 1 < xs.length by omega), drop_getD (show a + 1 + 1 < xs.length by omega), drop_getD (show a + 1 + 1 + 1 < xs.length by omega), drop_getD (show a + 1 + 1 + 1 + 1 < xs.length by omega)]
  rfl
theorem prsS_len (xs : List Int) : ∀ (n a : Nat) (l : List SlotI), prsS xs n a = some l → a ≤ xs.length → a + 7 * n ≤ xs.length ∧ l.length = n
  | 0, a, l, h, ha => by simp [prsS] at h; subst h; exact ⟨ha, rfl⟩
  | n + 1, a, l, h, ha => by
    rw [prsS] at h
    split at h
    · rename_i h1
      cases h2 : prsS xs n (a + 7) with
      | none => rw [h2] at h; simp at h
      | some q =>
        rw [h2] at h
        simp only [Option.map_some, Option.some.injEq] at h
        have h3 := prsS_len xs n _ q h2 h1.1
        rw [← h]
        exact ⟨by omega, by simp [h3.2]⟩
    · cases h
theorem rdS_empty {xs : List Int} (h : xs.length = 0) : rdS xs = none := by rw [rdS, if_pos h]
theorem rdS_none {xs : List Int} (h : xs.length ≠ 0) (hp : prsS xs (xs.getD 0 0).toNat 1 = none) : rdS xs = none := by rw [rdS, if_neg h, hp]
theorem rdS_some {xs : List Int} {l : List SlotI} (h : xs.length ≠ 0) (hp : prsS xs (xs.getD 0 0).toNat 1 = some l) (ht : isST l = true) : rdS xs = some l := by rw [rdS, if_neg h, hp]; simp [ht]
theorem rdS_not {xs : List Int} {l : List SlotI} (h : xs.length ≠ 0) (hp : prsS xs (xs.getD 0 0).toNat 1 = some l) (ht : isST l = false) : rdS xs = none := by rw [rdS, if_neg h, hp]; simp [ht]
theorem rdS_short {xs : List Int} (h : xs.length ≠ 0) (h2 : (xs.length : Int) < 1 + 7 * xs.getD 0 0) : rdS xs = none := by
  cases hp : prsS xs (xs.getD 0 0).toNat 1 with
  | none => exact rdS_none h hp
  | some l => have := prsS_len xs _ _ l hp (by omega); omega
theorem rdS_len {xs : List Int} {l : List SlotI} (h : rdS xs = some l) : l.length = (xs.getD 0 0).toNat ∧ 1 + 7 * l.length ≤ xs.length ∧ isST l = true := by
  unfold rdS at h
  split at h
  · cases h
  · rename_i h1
    split at h
    · rename_i q hq
      split at h
      · rename_i ht
        injection h with h; subst h
        have := prsS_len xs _ _ q hq (by omega)
        exact ⟨this.2, by omega, ht⟩
      · cases h
    · cases h
/-- what is known while the entries are read -/
def HgS (xs : List Int) (rem a : Nat) (b : Bool) (ys : List SlotI) : Prop :=
  (b = false → xs.length ≠ 0 ∧ prsS xs (xs.getD 0 0).toNat 1 = (prsS xs rem a).map fun r => ys ++ r) ∧ (b = true → rdS xs = none)
theorem HgS.start (xs : List Int) : HgS xs (nV xs 0).toNat (nAt xs 0) (nBad xs 0 false) [] := by
  by_cases h : xs.length = 0
  · have e : nBad xs 0 false = true := by unfold nBad; rw [if_pos h.symm]
    rw [e]
    exact ⟨fun hh => (by cases hh), fun _ => rdS_empty h⟩
  · obtain ⟨h1, h2, h3⟩ := n_ok (xs := xs) (a := 0) (by omega) false
    rw [h1, h2, h3]
    refine ⟨fun _ => ⟨h, ?_⟩, fun hh => (by cases hh)⟩
    cases prsS xs (xs.getD 0 0).toNat (0 + 1) <;> simp
/-- one entry read by the cursor -/
def entS (xs : List Int) (a : Nat) : List Int × Nat × Bool := someR xs 5 (nAt xs (nAt xs a)) (nBad xs (nAt xs a) (nBad xs a false))
theorem entS_cases {xs : List Int} {a : Nat} (ha : a ≤ xs.length) :
    ((entS xs a).2.2 = true ∧ xs.length < a + 7) ∨ ((entS xs a).2.2 = false ∧ a + 7 ≤ xs.length ∧ nV xs a = xs.getD a 0 ∧ nV xs (nAt xs a) = xs.getD (a + 1) 0 ∧ (entS xs a).1 = five xs (a + 2) ∧ (entS xs a).2.1 = a + 7) := by
  by_cases h : a + 7 ≤ xs.length
  · obtain ⟨h1, h2, h3⟩ := n_ok (show a < xs.length by omega) false
    obtain ⟨h4, h5, h6⟩ := n_ok (show a + 1 < xs.length by omega) false
    have e : entS xs a = ((xs.drop (a + 2)).take 5, a + 7, false) := by
      unfold entS
      rw [h1, h4, h2, h5]
      exact someR_good xs 5 (a + 2) (by omega)
    rw [e, h1]
    exact .inr ⟨rfl, h, h3, h6, five_eq (by omega), rfl⟩
  · refine .inl ⟨?_, by omega⟩
    unfold entS
    by_cases e0 : a = xs.length
    · have e1 : nBad xs a false = true := by unfold nBad; rw [if_pos e0]
      rw [e1, nBad_keep]; exact someR_bad xs _ _
    · obtain ⟨h1, h2, h3⟩ := n_ok (show a < xs.length by omega) false
      rw [h1, h2]
      by_cases e1 : a + 1 = xs.length
      · have e2 : nBad xs (a + 1) false = true := by unfold nBad; rw [if_pos e1]
        rw [e2]; exact someR_bad xs _ _
      · obtain ⟨h4, h5, h6⟩ := n_ok (show a + 1 < xs.length by omega) false
        rw [h4, h5]
        exact someR_short xs _ _ (by omega) (by omega)
theorem HgS.bad {xs : List Int} {rem a : Nat} {ys : List SlotI} (h : HgS xs rem a false ys) (hr : 0 < rem) (ha : a ≤ xs.length) (hb : (entS xs a).2.2 = true) : rdS xs = none := by
  obtain ⟨r, rfl⟩ : ∃ r, rem = r + 1 := ⟨rem - 1, by omega⟩
  obtain ⟨h3, h4⟩ := h.1 rfl
  rcases entS_cases ha with ⟨_, h5⟩ | ⟨h5, _⟩
  · refine rdS_none h3 ?_
    rw [h4, prsS, if_neg (by omega)]; rfl
  · rw [hb] at h5; cases h5
theorem HgS.inval {xs : List Int} {rem a : Nat} {ys : List SlotI} (h : HgS xs rem a false ys) (hr : 0 < rem) (hv : vAt xs (a + 2) = false) : rdS xs = none := by
  obtain ⟨r, rfl⟩ : ∃ r, rem = r + 1 := ⟨rem - 1, by omega⟩
  obtain ⟨h3, h4⟩ := h.1 rfl
  refine rdS_none h3 ?_
  rw [h4, prsS, if_neg (by simp [hv])]; rfl
theorem HgS.step {xs : List Int} {rem a : Nat} {ys : List SlotI} (h : HgS xs rem a false ys) (hr : 0 < rem) (ha : a + 7 ≤ xs.length) (hv : vAt xs (a + 2) = true) :
    HgS xs (rem - 1) (a + 7) false (ys ++ [slotE xs a]) := by
  obtain ⟨r, rfl⟩ : ∃ r, rem = r + 1 := ⟨rem - 1, by omega⟩
  obtain ⟨h3, h4⟩ := h.1 rfl
  refine ⟨fun _ => ⟨h3, ?_⟩, fun hb => by cases hb⟩
  rw [h4, prsS, if_pos ⟨ha, hv⟩, show r + 1 - 1 = r by omega]
  cases prsS xs r (a + 7) <;> simp
theorem HgS.stop {xs : List Int} {a : Nat} {ys : List SlotI} (h : HgS xs 0 a false ys) : (isST ys = true → rdS xs = some ys) ∧ (isST ys = false → rdS xs = none) := by
  obtain ⟨h3, h4⟩ := h.1 rfl
  have h5 : prsS xs (xs.getD 0 0).toNat 1 = some ys := by rw [h4]; simp [prsS]
  exact ⟨fun h => rdS_some h3 h5 h, fun h => rdS_not h3 h5 h⟩
theorem gB {xs : List Int} (hB : isB xs = true) (i : Nat) : 0 ≤ xs.getD i 0 ∧ xs.getD i 0 ≤ 255 := by
  rw [List.getD_eq_getElem?_getD]
  cases h : xs[i]? with
  | none => simp
  | some x => exact isB_at hB h
theorem prsS_step {xs : List Int} {rem a : Nat} (hr : 0 < rem) (h : a + 7 ≤ xs.length) (hv : vAt xs (a + 2) = true) : prsS xs rem a = (prsS xs (rem - 1) (a + 7)).map fun r => slotE xs a :: r := by
  obtain ⟨r, rfl⟩ : ∃ r, rem = r + 1 := ⟨rem - 1, by omega⟩
  rw [prsS, if_pos ⟨h, hv⟩]; rfl
theorem prsS_inv {xs : List Int} {rem a : Nat} (hr : 0 < rem) (hv : vAt xs (a + 2) = false) : prsS xs rem a = none := by
  obtain ⟨r, rfl⟩ : ∃ r, rem = r + 1 := ⟨rem - 1, by omega⟩
  rw [prsS, if_neg (by simp [hv])]
theorem RdS.f {o : Option (List SlotI)} {ys : List SlotI} {sz : Int} (h : RdS o ys sz false) : o = none := by
  cases o with
  | none => rfl
  | some r => exact absurd h.2.2 (by decide)
theorem RdS.t {o : Option (List SlotI)} {ys : List SlotI} {sz : Int} (h : RdS o ys sz true) : o = some ys ∧ sz = 1 + 7 * ys.length := by
  cases o with
  | none => exact absurd h (by simp [RdS])
  | some r =>
    have h1 := h.1
    subst h1
    exact ⟨rfl, h.2.1⟩
theorem readSF_len (xs : List Int) : (readSF xs).1.length ≤ 1048576 := by
  unfold readSF
  split
  · split
    · rename_i l hl
      have := isST_len (rdS_len hl).2.2
      simp only; omega
    · simp
  · simp
theorem start_at1 {xs : List Int} (h : nBad xs 0 false = false) : nAt xs 0 = 1 := by
  unfold nBad at h
  unfold nAt
  split at h
  · cases h
  · rename_i h1; rw [if_neg h1]
end Go.Proofs.Ytojgfbbdjobdnaa
