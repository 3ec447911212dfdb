/- Texts of the seat that a law needs, put together. No condition. -/
import Derived.Test.YtdoibplhbdkapaaGreatDoorDMP7
namespace Go.Proofs.YtdoibplhbdkapaaGreatDoor
open Go.RowKit
set_option linter.unusedVariables false
set_option linter.unusedSimpArgs false

/-- the cells of a cursor -/
def curC (A : Option Addr) (c : Nat) (xs : List Int) (a : Nat) (bad : Bool) : List Value := [.slice A xs.length c, .int .i64 (a : Nat), .bool bad]
def nAt (xs : List Int) (a : Nat) : Nat := if a = xs.length then a else a + 1
def nBad (xs : List Int) (a : Nat) (bad : Bool) : Bool := if a = xs.length then true else bad
def nV (xs : List Int) (a : Nat) : Int := if a = xs.length then 0 else xs.getD a 0
theorem nAt_le {xs : List Int} {a : Nat} (h : a ≤ xs.length) : nAt xs a ≤ xs.length := by unfold nAt; split <;> omega
theorem nV_in {xs : List Int} (hb : isB xs = true) (a : Nat) : 0 ≤ nV xs a ∧ nV xs a ≤ 255 := by
  unfold nV
  split
  · omega
  · rw [List.getD_eq_getElem?_getD]
    cases h : xs[a]? with
    | none => simp
    | some x => exact isB_at hb h
/-- so many next bytes -/
def someR (xs : List Int) : Nat → Nat → Bool → List Int × Nat × Bool
  | 0, a, bad => ([], a, bad)
  | _ + 1, a, true => ([], a, true)
  | n + 1, a, false => (nV xs a :: (someR xs n (nAt xs a) (nBad xs a false)).1, (someR xs n (nAt xs a) (nBad xs a false)).2)
theorem someR_len (xs : List Int) : ∀ (n a : Nat) (bad : Bool), (someR xs n a bad).1.length ≤ n
  | 0, a, bad => by simp [someR]
  | n + 1, a, true => by simp [someR]
  | n + 1, a, false => by
    have := someR_len xs n (nAt xs a) (nBad xs a false)
    simp only [someR, List.length_cons]; omega
theorem someR_le (xs : List Int) : ∀ (n a : Nat) (bad : Bool), a ≤ xs.length → (someR xs n a bad).2.1 ≤ xs.length
  | 0, a, bad, h => h
  | n + 1, a, true, h => h
  | n + 1, a, false, h => someR_le xs n _ _ (nAt_le h)
theorem someR_bad (xs : List Int) : ∀ (n a : Nat), (someR xs n a true).2.2 = true
  | 0, _ => rfl
  | _ + 1, _ => rfl
theorem someR_good (xs : List Int) : ∀ (n a : Nat), a + n ≤ xs.length → someR xs n a false = ((xs.drop a).take n, a + n, false)
  | 0, a, h => by simp [someR]
  | n + 1, a, h => by
    have ha : a < xs.length := by omega
    have e1 : nAt xs a = a + 1 := by unfold nAt; rw [if_neg (by omega)]
    have e2 : nBad xs a false = false := by unfold nBad; rw [if_neg (by omega)]
    have e3 : nV xs a = xs[a] := by unfold nV; rw [if_neg (by omega), List.getD_eq_getElem?_getD, List.getElem?_eq_getElem ha]; rfl
    simp only [someR, e1, e2, e3, someR_good xs n (a + 1) (by omega)]
    rw [List.drop_eq_getElem_cons ha, List.take_succ_cons]
    congr 2; omega
theorem someR_short (xs : List Int) : ∀ (n a : Nat), a ≤ xs.length → xs.length < a + n → (someR xs n a false).2.2 = true
  | 0, a, h, h2 => by omega
  | n + 1, a, h, h2 => by
    simp only [someR]
    by_cases e : a = xs.length
    · have e2 : nBad xs a false = true := by unfold nBad; rw [if_pos e]
      rw [e2]; exact someR_bad xs n _
    · have e1 : nAt xs a = a + 1 := by unfold nAt; rw [if_neg e]
      have e2 : nBad xs a false = false := by unfold nBad; rw [if_neg e]
      rw [e1, e2]; exact someR_short xs n (a + 1) (by omega) (by omega)
theorem n_ok {xs : List Int} {a : Nat} (h : a < xs.length) (bad : Bool) : nAt xs a = a + 1 ∧ nBad xs a bad = bad ∧ nV xs a = xs.getD a 0 := by
  unfold nAt nBad nV
  rw [if_neg (by omega), if_neg (by omega), if_neg (by omega)]
  exact ⟨rfl, rfl, rfl⟩
theorem nBad_keep (xs : List Int) (a : Nat) : nBad xs a true = true := by unfold nBad; split <;> rfl

def prsM (xs : List Int) : Nat → Nat → Option (List Mode × Nat)
  | 0, a => some ([], a)
  | n + 1, a => if a + 3 ≤ xs.length ∧ a + 3 + (xs.getD (a + 2) 0).toNat ≤ xs.length then
      (prsM xs n (a + 3 + (xs.getD (a + 2) 0).toNat)).map fun r => (⟨xs.getD a 0, xs.getD (a + 1) 0, (xs.drop (a + 3)).take (xs.getD (a + 2) 0).toNat⟩ :: r.1, r.2)
    else none
/-- one entry read by the cursor: what stands behind it -/
theorem chain_good {xs : List Int} {a : Nat} (h : a + 3 ≤ xs.length ∧ a + 3 + (xs.getD (a + 2) 0).toNat ≤ xs.length) :
    nV xs a = xs.getD a 0 ∧ nV xs (nAt xs a) = xs.getD (a + 1) 0 ∧ nV xs (nAt xs (nAt xs a)) = xs.getD (a + 2) 0 ∧ nAt xs (nAt xs (nAt xs a)) = a + 3 ∧ nBad xs (nAt xs (nAt xs a)) (nBad xs (nAt xs a) (nBad xs a false)) = false := by
  obtain ⟨h1, h2, h3⟩ := n_ok (show a < xs.length by omega) false
  rw [h1]
  obtain ⟨h4, h5, h6⟩ := n_ok (show a + 1 < xs.length by omega) (nBad xs a false)
  rw [h4]
  obtain ⟨h7, h8, h9⟩ := n_ok (show a + 1 + 1 < xs.length by omega) (nBad xs (a + 1) (nBad xs a false))
  exact ⟨h3, h6, h9, h7, by rw [h8, h5, h2]⟩
theorem chain_short {xs : List Int} {a : Nat} (ha : a ≤ xs.length) (h : xs.length < a + 3) : nBad xs (nAt xs (nAt xs a)) (nBad xs (nAt xs a) (nBad xs a false)) = true := by
  by_cases e0 : a = xs.length
  · have e1 : nBad xs a false = true := by unfold nBad; rw [if_pos e0]
    rw [e1, nBad_keep, nBad_keep]
  · obtain ⟨h1, h2, h3⟩ := n_ok (show a < xs.length by omega) false
    rw [h1]
    by_cases e1 : a + 1 = xs.length
    · have e2 : nBad xs (a + 1) (nBad xs a false) = true := by unfold nBad; rw [if_pos e1]
      rw [e2, nBad_keep]
    · obtain ⟨h4, h5, h6⟩ := n_ok (show a + 1 < xs.length by omega) (nBad xs a false)
      rw [h4]
      unfold nBad; rw [if_pos (by omega)]
theorem prsM_at (xs : List Int) : ∀ (n a : Nat) (r : List Mode × Nat), prsM xs n a = some r → a ≤ xs.length → r.2 ≤ xs.length ∧ r.1.length = n
  | 0, a, r, h, ha => by simp [prsM] at h; subst h; exact ⟨ha, rfl⟩
  | n + 1, a, r, h, ha => by
    rw [prsM] at h
    split at h
    · rename_i h1
      cases h2 : prsM xs n (a + 3 + (xs.getD (a + 2) 0).toNat) with
      | none => rw [h2] at h; simp at h
      | some q =>
        rw [h2] at h
        simp only [Option.map_some, Option.some.injEq] at h
        obtain ⟨h3, h4⟩ := prsM_at xs n _ q h2 h1.2
        rw [← h]
        exact ⟨h3, by simp [h4]⟩
    · cases h
theorem someR_stop (xs : List Int) (n a : Nat) {b : Bool} (h : n = 0 ∨ b = true) : someR xs n a b = ([], a, b) := by
  rcases h with h | h
  · subst h; rfl
  · subst h; cases n <;> rfl
theorem someR_step (xs : List Int) {n a : Nat} {b : Bool} (h : 0 < n) (hb : b = false) : someR xs n a b = (nV xs a :: (someR xs (n - 1) (nAt xs a) (nBad xs a b)).1, (someR xs (n - 1) (nAt xs a) (nBad xs a b)).2) := by
  subst hb
  obtain ⟨m, rfl⟩ : ∃ m, n = m + 1 := ⟨n - 1, by omega⟩
  rfl
/-- one entry of a mode table, read by the cursor -/
def entR (xs : List Int) (a : Nat) : List Int × Nat × Bool := someR xs (nV xs (nAt xs (nAt xs a))).toNat (nAt xs (nAt xs (nAt xs a))) (nBad xs (nAt xs (nAt xs a)) (nBad xs (nAt xs a) (nBad xs a false)))
theorem step_modes {xs : List Int} {a rem : Nat} (ha : a ≤ xs.length) :
    ((entR xs a).2.2 = false → prsM xs (rem + 1) a = (prsM xs rem (entR xs a).2.1).map fun r => (⟨nV xs a, nV xs (nAt xs a), (entR xs a).1⟩ :: r.1, r.2)) ∧ ((entR xs a).2.2 = true → prsM xs (rem + 1) a = none) := by
  by_cases hg : a + 3 ≤ xs.length ∧ a + 3 + (xs.getD (a + 2) 0).toNat ≤ xs.length
  · obtain ⟨h1, h2, h3, h4, h5⟩ := chain_good hg
    have e : entR xs a = ((xs.drop (a + 3)).take (xs.getD (a + 2) 0).toNat, a + 3 + (xs.getD (a + 2) 0).toNat, false) := by
      unfold entR; rw [h3, h4, h5, someR_good xs _ _ hg.2]
    rw [e, h1, h2]
    refine ⟨fun _ => ?_, fun h => by cases h⟩
    rw [prsM, if_pos hg]
  · have e : prsM xs (rem + 1) a = none := by rw [prsM, if_neg hg]
    rw [e]
    refine ⟨fun h => ?_, fun _ => rfl⟩
    exfalso
    have hb : (entR xs a).2.2 = true := by
      unfold entR
      by_cases h3 : a + 3 ≤ xs.length
      · obtain ⟨h1, h2, h4⟩ := n_ok (show a < xs.length by omega) false
        obtain ⟨h5, h6, h7⟩ := n_ok (show a + 1 < xs.length by omega) false
        obtain ⟨h8, h9, h10⟩ := n_ok (show a + 1 + 1 < xs.length by omega) false
        simp only [h1, h2, h5, h6, h8, h9, h10]
        exact someR_short xs _ _ (by omega) (by rw [show a + 1 + 1 = a + 2 from rfl]; omega)
      · rw [chain_short ha (by omega)]; exact someR_bad xs _ _
    rw [hb] at h; cases h
theorem entR_in {xs : List Int} (hb : isB xs = true) {a : Nat} (ha : a ≤ xs.length) : (entR xs a).2.1 ≤ xs.length ∧ (entR xs a).1.length ≤ 255 := by
  have h1 := nV_in hb (nAt xs (nAt xs a))
  exact ⟨someR_le xs _ _ _ (nAt_le (nAt_le (nAt_le ha))), Nat.le_trans (someR_len xs _ _ _) (by omega)⟩
/-- what reading a mode table gives: the table, how many bytes, whether there is one -/
def rdM (xs : List Int) : Option (List Mode × Nat) := if xs.length = 0 then none else match prsM xs (xs.getD 0 0).toNat 1 with
  | some r => if isMT r.1 = true then some r else none
  | none => none
/-- the table that was read, in memory -/
def RdM (o : Option (List Mode × Nat)) (ms : List Mode) (sz : Int) (ok : Bool) : Prop := match o with
  | some r => ms = r.1 ∧ sz = (r.2 : Int) ∧ ok = true
  | none => ms = [] ∧ sz = 0 ∧ ok = false
theorem rdM_empty {xs : List Int} (h : xs.length = 0) : rdM xs = none := by rw [rdM, if_pos h]
theorem rdM_none {xs : List Int} (h : xs.length ≠ 0) (hp : prsM xs (xs.getD 0 0).toNat 1 = none) : rdM xs = none := by rw [rdM, if_neg h, hp]
theorem rdM_some {xs : List Int} {r : List Mode × Nat} (h : xs.length ≠ 0) (hp : prsM xs (xs.getD 0 0).toNat 1 = some r) (ht : isMT r.1 = true) : rdM xs = some r := by rw [rdM, if_neg h, hp]; simp [ht]
theorem rdM_not {xs : List Int} {r : List Mode × Nat} (h : xs.length ≠ 0) (hp : prsM xs (xs.getD 0 0).toNat 1 = some r) (ht : isMT r.1 = false) : rdM xs = none := by rw [rdM, if_neg h, hp]; simp [ht]
/-- what is known while the entries are read -/
def HgM (xs : List Int) (rem a : Nat) (b : Bool) (ms : List Mode) : Prop :=
  (b = false → xs.length ≠ 0 ∧ prsM xs (xs.getD 0 0).toNat 1 = (prsM xs rem a).map fun r => (ms ++ r.1, r.2)) ∧ (b = true → rdM xs = none)
theorem HgM.start (xs : List Int) : HgM xs (nV xs 0).toNat (nAt xs 0) (nBad xs 0 false) [] := by
  by_cases h : xs.length = 0
  · have e : nBad xs 0 false = true := by unfold nBad; rw [if_pos h.symm]
    rw [e]
    exact ⟨fun hh => (by cases hh), fun _ => rdM_empty h⟩
  · obtain ⟨h1, h2, h3⟩ := n_ok (xs := xs) (a := 0) (by omega) false
    rw [h1, h2, h3]
    refine ⟨fun _ => ⟨h, ?_⟩, fun hh => (by cases hh)⟩
    cases prsM xs (xs.getD 0 0).toNat (0 + 1) <;> simp
theorem HgM.step {xs : List Int} {rem a : Nat} {ms : List Mode} (h : HgM xs rem a false ms) (hr : 0 < rem) (ha : a ≤ xs.length) :
    HgM xs (rem - 1) (entR xs a).2.1 (entR xs a).2.2 (ms ++ [⟨nV xs a, nV xs (nAt xs a), (entR xs a).1⟩]) := by
  obtain ⟨r, rfl⟩ : ∃ r, rem = r + 1 := ⟨rem - 1, by omega⟩
  obtain ⟨h1, h2⟩ := step_modes (rem := r) ha
  obtain ⟨h3, h4⟩ := h.1 rfl
  refine ⟨fun hb => ⟨h3, ?_⟩, fun hb => ?_⟩
  · rw [h4, h1 hb, show r + 1 - 1 = r by omega]
    cases prsM xs r (entR xs a).2.1 <;> simp
  · rw [h2 hb] at h4
    exact rdM_none h3 h4
theorem HgM.stop {xs : List Int} {a : Nat} {ms : List Mode} (h : HgM xs 0 a false ms) : (isMT ms = true → rdM xs = some (ms, a)) ∧ (isMT ms = false → rdM xs = none) := by
  obtain ⟨h3, h4⟩ := h.1 rfl
  have h5 : prsM xs (xs.getD 0 0).toNat 1 = some (ms, a) := by rw [h4]; simp [prsM]
  exact ⟨fun h => rdM_some h3 h5 h, fun h => rdM_not h3 h5 h⟩
theorem get_D0 {xs : List Int} {a : Nat} {x : Int} (h : xs[a]? = some x) : xs.getD a 0 = x := by rw [List.getD_eq_getElem?_getD, h]; rfl
theorem prsM_step {xs : List Int} {a rem yn : Nat} {x0 x1 : Int} (hr : 0 < rem) (h0 : xs[a]? = some x0) (h1 : xs[a + 1]? = some x1) (h2 : xs[a + 2]? = some (yn : Int)) (h3 : a + 3 + yn ≤ xs.length) :
    prsM xs rem a = (prsM xs (rem - 1) (a + 3 + yn)).map fun r => (⟨x0, x1, (xs.drop (a + 3)).take yn⟩ :: r.1, r.2) := by
  obtain ⟨r, rfl⟩ : ∃ r, rem = r + 1 := ⟨rem - 1, by omega⟩
  rw [prsM, get_D0 h0, get_D0 h1, get_D0 h2, Int.toNat_natCast, if_pos ⟨by omega, h3⟩]; rfl
theorem prsM_short {xs : List Int} {a rem : Nat} (hr : 0 < rem) (h : xs.length < a + 3) : prsM xs rem a = none := by
  obtain ⟨r, rfl⟩ : ∃ r, rem = r + 1 := ⟨rem - 1, by omega⟩
  rw [prsM, if_neg (by omega)]
theorem prsM_short2 {xs : List Int} {a rem yn : Nat} (hr : 0 < rem) (h2 : xs[a + 2]? = some (yn : Int)) (h : xs.length < a + 3 + yn) : prsM xs rem a = none := by
  obtain ⟨r, rfl⟩ : ∃ r, rem = r + 1 := ⟨rem - 1, by omega⟩
  rw [prsM, get_D0 h2, Int.toNat_natCast, if_neg (by omega)]
theorem RdM.f {o : Option (List Mode × Nat)} {ms : List Mode} {sz : Int} (h : RdM o ms sz false) : o = none := by
  cases o with
  | none => rfl
  | some r => exact absurd h.2.2 (by decide)
theorem RdM.t {o : Option (List Mode × Nat)} {ms : List Mode} {sz : Int} (h : RdM o ms sz true) : ∃ r, o = some r ∧ ms = r.1 ∧ sz = (r.2 : Int) := by
  cases o with
  | none => exact absurd h.2.2 (by decide)
  | some r => exact ⟨r, rfl, h.1, h.2.1⟩
theorem prsM_next (xs : List Int) : ∀ (n a : Nat) (r : List Mode × Nat), prsM xs n a = some r → ∀ m ∈ r.1, m.next.length ≤ xs.length
  | 0, a, r, h => by simp [prsM] at h; subst h; simp
  | n + 1, a, r, h => by
    rw [prsM] at h
    split at h
    · cases h2 : prsM xs n (a + 3 + (xs.getD (a + 2) 0).toNat) with
      | none => rw [h2] at h; simp at h
      | some q =>
        rw [h2] at h
        simp only [Option.map_some, Option.some.injEq] at h
        have ih := prsM_next xs n _ q h2
        rw [← h]
        intro m hm
        rcases List.mem_cons.1 hm with rfl | hm
        · simp; omega
        · exact ih m hm
    · cases h
theorem rdM_in {xs : List Int} {r : List Mode × Nat} (h : rdM xs = some r) : r.1.length ≤ 16 ∧ r.2 ≤ xs.length ∧ (∀ m ∈ r.1, m.next.length ≤ xs.length) ∧ isMT r.1 = true := by
  unfold rdM at h
  split at h
  · cases h
  · rename_i h1
    split at h
    · rename_i q hq
      split at h
      · rename_i ht
        injection h with h; subst h
        exact ⟨(isMT_len ht).2, (prsM_at xs _ _ _ hq (by omega)).1, prsM_next xs _ _ _ hq, ht⟩
      · cases h
    · cases h
end Go.Proofs.YtdoibplhbdkapaaGreatDoor
namespace Go.Proofs.YtdoibplhbdkapaaGreatDoor
open Go.RowKit
set_option linter.unusedVariables false
set_option linter.unusedSimpArgs false

def descR (a b c d e : Int) : Desc := ⟨a, b / 64, b % 64, 256 * c + d, decide (e = 1)⟩
def descV (a b c d e : Int) : Bool := descOk (descR a b c d e) && decide (e ≤ 1)
def dAt (xs : List Int) (a : Nat) : Desc := descR (xs.getD a 0) (xs.getD (a + 1) 0) (xs.getD (a + 2) 0) (xs.getD (a + 3) 0) (xs.getD (a + 4) 0)
def vAt (xs : List Int) (a : Nat) : Bool := descV (xs.getD a 0) (xs.getD (a + 1) 0) (xs.getD (a + 2) 0) (xs.getD (a + 3) 0) (xs.getD (a + 4) 0)
def five (xs : List Int) (a : Nat) : List Int := [xs.getD a 0, xs.getD (a + 1) 0, xs.getD (a + 2) 0, xs.getD (a + 3) 0, xs.getD (a + 4) 0]
def slotE (xs : List Int) (a : Nat) : SlotI := ⟨xs.getD a 0 / 16, xs.getD a 0 % 16, xs.getD (a + 1) 0, dAt xs (a + 2)⟩
def prsS (xs : List Int) : Nat → Nat → Option (List SlotI)
  | 0, _ => some []
  | n + 1, a => if a + 7 ≤ xs.length ∧ vAt xs (a + 2) = true then (prsS xs n (a + 7)).map fun r => slotE xs a :: r else none
def rdS (xs : List Int) : Option (List SlotI) := if xs.length = 0 then none else match prsS xs (xs.getD 0 0).toNat 1 with
  | some l => if isST l = true then some l else none
  | none => none
def RdS (o : Option (List SlotI)) (ys : List SlotI) (n : Int) (ok : Bool) : Prop := match o with
  | some l => ys = l ∧ n = 1 + 7 * l.length ∧ ok = true
  | none => ok = false
theorem drop_getD {xs : List Int} {a : Nat} (h : a < xs.length) : xs.drop a = xs.getD a 0 :: xs.drop (a + 1) := by
  rw [List.drop_eq_getElem_cons h, List.getD_eq_getElem?_getD, List.getElem?_eq_getElem h]; rfl
theorem five_eq {xs : List Int} {a : Nat} (h : a + 5 ≤ xs.length) : (xs.drop a).take 5 = five xs a := by
  rw [drop_getD (show a < xs.length by omega), drop_getD (show a + 1 < xs.length by omega), drop_getD (show a + 1 + 1 < xs.length by omega), drop_getD (show a + 1 + 1 + 1 < xs.length by omega), drop_getD (show a + 1 + 1 + 1 + 1 < xs.length by omega)]
  rfl
theorem prsS_len (xs : List Int) : ∀ (n a : Nat) (l : List SlotI), prsS xs n a = some l → a ≤ xs.length → a + 7 * n ≤ xs.length ∧ l.length = n
  | 0, a, l, h, ha => by simp [prsS] at h; subst h; exact ⟨ha, rfl⟩
  | n + 1, a, l, h, ha => by
    rw [prsS] at h
    split at h
    · rename_i h1
      cases h2 : prsS xs n (a + 7) with
      | none => rw [h2] at h; simp at h
      | some q =>
        rw [h2] at h
        simp only [Option.map_some, Option.some.injEq] at h
        have h3 := prsS_len xs n _ q h2 h1.1
        rw [← h]
        exact ⟨by omega, by simp [h3.2]⟩
    · cases h
theorem rdS_empty {xs : List Int} (h : xs.length = 0) : rdS xs = none := by rw [rdS, if_pos h]
theorem rdS_none {xs : List Int} (h : xs.length ≠ 0) (hp : prsS xs (xs.getD 0 0).toNat 1 = none) : rdS xs = none := by rw [rdS, if_neg h, hp]
theorem rdS_some {xs : List Int} {l : List SlotI} (h : xs.length ≠ 0) (hp : prsS xs (xs.getD 0 0).toNat 1 = some l) (ht : isST l = true) : rdS xs = some l := by rw [rdS, if_neg h, hp]; simp [ht]
theorem rdS_not {xs : List Int} {l : List SlotI} (h : xs.length ≠ 0) (hp : prsS xs (xs.getD 0 0).toNat 1 = some l) (ht : isST l = false) : rdS xs = none := by rw [rdS, if_neg h, hp]; simp [ht]
theorem rdS_short {xs : List Int} (h : xs.length ≠ 0) (h2 : (xs.length : Int) < 1 + 7 * xs.getD 0 0) : rdS xs = none := by
  cases hp : prsS xs (xs.getD 0 0).toNat 1 with
  | none => exact rdS_none h hp
  | some l => have := prsS_len xs _ _ l hp (by omega); omega
theorem rdS_len {xs : List Int} {l : List SlotI} (h : rdS xs = some l) : l.length = (xs.getD 0 0).toNat ∧ 1 + 7 * l.length ≤ xs.length ∧ isST l = true := by
  unfold rdS at h
  split at h
  · cases h
  · rename_i h1
    split at h
    · rename_i q hq
      split at h
      · rename_i ht
        injection h with h; subst h
        have := prsS_len xs _ _ q hq (by omega)
        exact ⟨this.2, by omega, ht⟩
      · cases h
    · cases h
/-- what is known while the entries are read -/
def HgS (xs : List Int) (rem a : Nat) (b : Bool) (ys : List SlotI) : Prop :=
  (b = false → xs.length ≠ 0 ∧ prsS xs (xs.getD 0 0).toNat 1 = (prsS xs rem a).map fun r => ys ++ r) ∧ (b = true → rdS xs = none)
theorem HgS.start (xs : List Int) : HgS xs (nV xs 0).toNat (nAt xs 0) (nBad xs 0 false) [] := by
  by_cases h : xs.length = 0
  · have e : nBad xs 0 false = true := by unfold nBad; rw [if_pos h.symm]
    rw [e]
    exact ⟨fun hh => (by cases hh), fun _ => rdS_empty h⟩
  · obtain ⟨h1, h2, h3⟩ := n_ok (xs := xs) (a := 0) (by omega) false
    rw [h1, h2, h3]
    refine ⟨fun _ => ⟨h, ?_⟩, fun hh => (by cases hh)⟩
    cases prsS xs (xs.getD 0 0).toNat (0 + 1) <;> simp
/-- one entry read by the cursor -/
def entS (xs : List Int) (a : Nat) : List Int × Nat × Bool := someR xs 5 (nAt xs (nAt xs a)) (nBad xs (nAt xs a) (nBad xs a false))
theorem entS_cases {xs : List Int} {a : Nat} (ha : a ≤ xs.length) :
    ((entS xs a).2.2 = true ∧ xs.length < a + 7) ∨ ((entS xs a).2.2 = false ∧ a + 7 ≤ xs.length ∧ nV xs a = xs.getD a 0 ∧ nV xs (nAt xs a) = xs.getD (a + 1) 0 ∧ (entS xs a).1 = five xs (a + 2) ∧ (entS xs a).2.1 = a + 7) := by
  by_cases h : a + 7 ≤ xs.length
  · obtain ⟨h1, h2, h3⟩ := n_ok (show a < xs.length by omega) false
    obtain ⟨h4, h5, h6⟩ := n_ok (show a + 1 < xs.length by omega) false
    have e : entS xs a = ((xs.drop (a + 2)).take 5, a + 7, false) := by
      unfold entS
      rw [h1, h4, h2, h5]
      exact someR_good xs 5 (a + 2) (by omega)
    rw [e, h1]
    exact .inr ⟨rfl, h, h3, h6, five_eq (by omega), rfl⟩
  · refine .inl ⟨?_, by omega⟩
    unfold entS
    by_cases e0 : a = xs.length
    · have e1 : nBad xs a false = true := by unfold nBad; rw [if_pos e0]
      rw [e1, nBad_keep]; exact someR_bad xs _ _
    · obtain ⟨h1, h2, h3⟩ := n_ok (show a < xs.length by omega) false
      rw [h1, h2]
      by_cases e1 : a + 1 = xs.length
      · have e2 : nBad xs (a + 1) false = true := by unfold nBad; rw [if_pos e1]
        rw [e2]; exact someR_bad xs _ _
      · obtain ⟨h4, h5, h6⟩ := n_ok (show a + 1 < xs.length by omega) false
        rw [h4, h5]
        exact someR_short xs _ _ (by omega) (by omega)
theorem HgS.bad {xs : List Int} {rem a : Nat} {ys : List SlotI} (h : HgS xs rem a false ys) (hr : 0 < rem) (ha : a ≤ xs.length) (hb : (entS xs a).2.2 = true) : rdS xs = none := by
  obtain ⟨r, rfl⟩ : ∃ r, rem = r + 1 := ⟨rem - 1, by omega⟩
  obtain ⟨h3, h4⟩ := h.1 rfl
  rcases entS_cases ha with ⟨_, h5⟩ | ⟨h5, _⟩
  · refine rdS_none h3 ?_
    rw [h4, prsS, if_neg (by omega)]; rfl
  · rw [hb] at h5; cases h5
theorem HgS.inval {xs : List Int} {rem a : Nat} {ys : List SlotI} (h : HgS xs rem a false ys) (hr : 0 < rem) (hv : vAt xs (a + 2) = false) : rdS xs = none := by
  obtain ⟨r, rfl⟩ : ∃ r, rem = r + 1 := ⟨rem - 1, by omega⟩
  obtain ⟨h3, h4⟩ := h.1 rfl
  refine rdS_none h3 ?_
  rw [h4, prsS, if_neg (by simp [hv])]; rfl
theorem HgS.step {xs : List Int} {rem a : Nat} {ys : List SlotI} (h : HgS xs rem a false ys) (hr : 0 < rem) (ha : a + 7 ≤ xs.length) (hv : vAt xs (a + 2) = true) :
    HgS xs (rem - 1) (a + 7) false (ys ++ [slotE xs a]) := by
  obtain ⟨r, rfl⟩ : ∃ r, rem = r + 1 := ⟨rem - 1, by omega⟩
  obtain ⟨h3, h4⟩ := h.1 rfl
  refine ⟨fun _ => ⟨h3, ?_⟩, fun hb => by cases hb⟩
  rw [h4, prsS, if_pos ⟨ha, hv⟩, show r + 1 - 1 = r by omega]
  cases prsS xs r (a + 7) <;> simp
theorem HgS.stop {xs : List Int} {a : Nat} {ys : List SlotI} (h : HgS xs 0 a false ys) : (isST ys = true → rdS xs = some ys) ∧ (isST ys = false → rdS xs = none) := by
  obtain ⟨h3, h4⟩ := h.1 rfl
  have h5 : prsS xs (xs.getD 0 0).toNat 1 = some ys := by rw [h4]; simp [prsS]
  exact ⟨fun h => rdS_some h3 h5 h, fun h => rdS_not h3 h5 h⟩
theorem gB {xs : List Int} (hB : isB xs = true) (i : Nat) : 0 ≤ xs.getD i 0 ∧ xs.getD i 0 ≤ 255 := by
  rw [List.getD_eq_getElem?_getD]
  cases h : xs[i]? with
  | none => simp
  | some x => exact isB_at hB h
theorem prsS_step {xs : List Int} {rem a : Nat} (hr : 0 < rem) (h : a + 7 ≤ xs.length) (hv : vAt xs (a + 2) = true) : prsS xs rem a = (prsS xs (rem - 1) (a + 7)).map fun r => slotE xs a :: r := by
  obtain ⟨r, rfl⟩ : ∃ r, rem = r + 1 := ⟨rem - 1, by omega⟩
  rw [prsS, if_pos ⟨h, hv⟩]; rfl
theorem prsS_inv {xs : List Int} {rem a : Nat} (hr : 0 < rem) (hv : vAt xs (a + 2) = false) : prsS xs rem a = none := by
  obtain ⟨r, rfl⟩ : ∃ r, rem = r + 1 := ⟨rem - 1, by omega⟩
  rw [prsS, if_neg (by simp [hv])]
theorem RdS.f {o : Option (List SlotI)} {ys : List SlotI} {sz : Int} (h : RdS o ys sz false) : o = none := by
  cases o with
  | none => rfl
  | some r => exact absurd h.2.2 (by decide)
theorem RdS.t {o : Option (List SlotI)} {ys : List SlotI} {sz : Int} (h : RdS o ys sz true) : o = some ys ∧ sz = 1 + 7 * ys.length := by
  cases o with
  | none => exact absurd h (by simp [RdS])
  | some r =>
    have h1 := h.1
    subst h1
    exact ⟨rfl, h.2.1⟩
theorem start_at1 {xs : List Int} (h : nBad xs 0 false = false) : nAt xs 0 = 1 := by
  unfold nBad at h
  unfold nAt
  split at h
  · cases h
  · rename_i h1; rw [if_neg h1]
end Go.Proofs.YtdoibplhbdkapaaGreatDoor
namespace Go.Proofs.YtdoibplhbdkapaaGreatDoor
open Go.RowKit
set_option linter.unusedVariables false
set_option linter.unusedSimpArgs false
theorem shrP {z n : Int} (p : Int) (h : 0 ≤ z) (hp : 0 ≤ p) (e : (2 : Int) ^ (min n.toNat IntKind.i64.bits) = p) : z.fdiv (2 ^ (min n.toNat IntKind.i64.bits)) = z / p := by
  rw [e, Int.fdiv_eq_ediv_of_nonneg _ hp]
theorem and1 {z : Int} (h : 0 ≤ z ∧ z ≤ 1099511627776) : bitsV .and .i64 z 1 = z % 2 := by
  obtain ⟨n, rfl⟩ : ∃ n : Nat, z = (n : Int) := ⟨z.toNat, by omega⟩
  have h1 := bits_and (a := n) (b := 1) (by omega) (by omega)
  rw [show ((1 : Nat) : Int) = 1 from rfl] at h1
  rw [h1, show n &&& 1 = n % 2 from Nat.and_one_is_mod n]; omega
theorem and24 {z : Int} (h : 0 ≤ z ∧ z ≤ 1099511627776) : bitsV .and .i64 z 16777215 = z % 16777216 := by
  obtain ⟨n, rfl⟩ : ∃ n : Nat, z = (n : Int) := ⟨z.toNat, by omega⟩
  have h1 := bits_and (a := n) (b := 16777215) (by omega) (by omega)
  rw [show ((16777215 : Nat) : Int) = 16777215 from rfl] at h1
  rw [h1, show n &&& 16777215 = n % 16777216 from Nat.and_two_pow_sub_one_eq_mod n 24]; omega
theorem xor01 {a b : Int} (ha : 0 ≤ a ∧ a ≤ 1) (hb : 0 ≤ b ∧ b ≤ 1) : bitsV .xor .i64 a b = (a + b) % 2 := by
  obtain ⟨n, rfl⟩ : ∃ n : Nat, a = (n : Int) := ⟨a.toNat, by omega⟩
  obtain ⟨k, rfl⟩ : ∃ k : Nat, b = (k : Int) := ⟨b.toNat, by omega⟩
  rw [bits_xor (by omega) (by omega)]
  have h1 : n = 0 ∨ n = 1 := by omega
  have h2 : k = 0 ∨ k = 1 := by omega
  rcases h1 with rfl | rfl <;> rcases h2 with rfl | rfl <;> rfl
def xorC (r : Int) : Int := ((r.toNat ^^^ 6122955 : Nat) : Int)
def crcS (r b : Int) : Int := if (r / 8388608 + b) % 2 = 1 then xorC (r % 8388608 * 2) else r % 8388608 * 2
def crcF (r : Int) (l : List Int) : Int := l.foldl crcS r
theorem xorC_in {r : Int} (h : 0 ≤ r ∧ r < 16777216) : 0 ≤ xorC r ∧ xorC r < 16777216 := by
  unfold xorC
  have := Nat.xor_lt_two_pow (n := 24) (x := r.toNat) (y := 6122955) (by omega) (by decide)
  omega
theorem xorC_eq {r : Int} (h : 0 ≤ r ∧ r < 16777216) : bitsV .xor .i64 r 6122955 = xorC r := by
  obtain ⟨n, rfl⟩ : ∃ n : Nat, r = (n : Int) := ⟨r.toNat, by omega⟩
  rw [show (6122955 : Int) = ((6122955 : Nat) : Int) from rfl, bits_xor (by omega) (by decide)]; rfl
theorem crcS_in {r b : Int} (h : 0 ≤ r ∧ r < 16777216) : 0 ≤ crcS r b ∧ crcS r b < 16777216 := by
  unfold crcS
  split
  · exact xorC_in (by omega)
  · omega
theorem crcF_in : ∀ (l : List Int) {r : Int}, (0 ≤ r ∧ r < 16777216) → 0 ≤ crcF r l ∧ crcF r l < 16777216
  | [], _, h => h
  | _ :: l, _, h => crcF_in l (crcS_in h)
theorem crcF_step {l : List Int} {k : Nat} {x r : Int} (h : l[k]? = some x) : crcF r (l.take (k + 1)) = crcS (crcF r (l.take k)) x := by
  rw [List.take_add_one, h]; simp [crcF, List.foldl_append]
def bitI (x : Int) (j : Nat) : Int := x / 2 ^ j % 2
def bitP (x : Int) (k : Nat) : List Int := (List.range k).map fun i => bitI x (7 - i)
def bitsL (xs : List Int) : List Int := xs.flatMap fun x => bitP x 8
theorem bitP_step (x : Int) (k : Nat) : bitP x (k + 1) = bitP x k ++ [bitI x (7 - k)] := by simp [bitP, List.range_succ]
theorem bitP_len (x : Int) (k : Nat) : (bitP x k).length = k := by simp [bitP]
theorem bitI_in (x : Int) (j : Nat) : 0 ≤ bitI x j ∧ bitI x j ≤ 1 := by unfold bitI; omega
theorem bitsL_len : ∀ (xs : List Int), (bitsL xs).length = 8 * xs.length
  | [] => rfl
  | x :: r => by
    have := bitsL_len r
    unfold bitsL at this ⊢
    rw [List.flatMap_cons, List.length_append, bitP_len, this, List.length_cons]; omega
theorem bitsL_in {xs : List Int} : ∀ b ∈ bitsL xs, 0 ≤ b ∧ b ≤ 1 := fun b hb => by
  obtain ⟨x, _, h2⟩ := List.mem_flatMap.1 hb
  obtain ⟨i, _, rfl⟩ := List.mem_map.1 h2
  exact bitI_in _ _
theorem bitsL_step {xs : List Int} {k : Nat} {x : Int} (h : xs[k]? = some x) : bitsL (xs.take (k + 1)) = bitsL (xs.take k) ++ bitP x 8 := by
  unfold bitsL
  rw [List.take_add_one, h]; simp [List.flatMap_append]
/-- a bit by shifting -/
theorem bit_shr {x : Int} {j : Nat} (h : 0 ≤ x ∧ x ≤ 1099511627776) (hj : j ≤ 63) : bitsV .and .i64 (x / 2 ^ j) 1 = bitI x j := by
  have h1 : 0 ≤ x / 2 ^ j := Int.ediv_nonneg h.1 (Int.pow_nonneg (by omega))
  have h2 : x / 2 ^ j ≤ x := Int.ediv_le_self _ h.1
  rw [and1 (by omega)]; rfl
theorem shr_pow {z : Int} {j : Nat} (h : 0 ≤ z) (hj : j ≤ 63) : z.fdiv (2 ^ (min ((j : Int).toNat) IntKind.i64.bits)) = z / 2 ^ j := by
  rw [Int.toNat_natCast, show min j IntKind.i64.bits = j by show min j 64 = j; omega, Int.fdiv_eq_ediv_of_nonneg _ (Int.pow_nonneg (by omega))]
def id3 (z : Int) : List Int := [z / 65536, z / 256 % 256, z % 256]
def crcK (k : Nat) (b : List Int) : Int := crcF ((k : Int) + 1) (bitsL b)
def chkB (k : Nat) (b : List Int) : List Int := id3 (crcK k b)
theorem crcK_in {k : Nat} (b : List Int) (h : k < 16777215) : 0 ≤ crcK k b ∧ crcK k b < 16777216 := crcF_in _ (by omega)
theorem id3_eq {c x y z : Int} (hc : 0 ≤ c ∧ c < 16777216) (hx : 0 ≤ x ∧ x ≤ 255) (hy : 0 ≤ y ∧ y ≤ 255) (hz : 0 ≤ z ∧ z ≤ 255) : id3 c = [x, y, z] ↔ c = x * 65536 + y * 256 + z := by
  simp only [id3, List.cons.injEq, and_true]
  omega
def part28 (xs : List Int) (k : Nat) : List Int := (xs.drop (28 * k)).take 28
def lastB (xs : List Int) (k : Nat) : Int := if xs.length ≤ 28 * (k + 1) then 128 else 0
def blkH (xs : List Int) (k : Nat) : List Int := (k : Int) :: (((part28 xs k).length : Int) + lastB xs k) :: part28 xs k
def blkE (xs : List Int) (k : Nat) : List Int := blkH xs k ++ chkB k (blkH xs k)
def imgP (xs : List Int) (k : Nat) : List Int := (List.range k).flatMap (blkE xs)
def nB (n : Nat) : Nat := if n = 0 then 1 else (n + 27) / 28
def img (xs : List Int) : List Int := imgP xs (nB xs.length)
theorem imgP_step (xs : List Int) (k : Nat) : imgP xs (k + 1) = imgP xs k ++ blkE xs k := by
  simp [imgP, List.range_succ, List.flatMap_append]
theorem part28_len (xs : List Int) (k : Nat) : (part28 xs k).length = min 28 (xs.length - 28 * k) := by simp [part28]
theorem blkE_len (xs : List Int) (k : Nat) : (blkE xs k).length = min 28 (xs.length - 28 * k) + 5 := by
  rw [blkE, List.length_append, blkH, List.length_cons, List.length_cons, part28_len]; rfl
theorem imgP_len (xs : List Int) : ∀ k : Nat, 28 * k ≤ xs.length → (imgP xs k).length = 33 * k
  | 0, _ => rfl
  | k + 1, h => by
    rw [imgP_step, List.length_append, blkE_len, imgP_len xs k (by omega)]; omega
theorem nB_pos (n : Nat) : 1 ≤ nB n := by unfold nB; split <;> omega
theorem nB_le (n : Nat) : 28 * nB n ≤ n + 28 := by unfold nB; split <;> omega
/-- the loop over blocks goes on while .. -/
theorem nB_on {n k : Nat} : k < nB n ↔ (k = 0 ∨ 28 * k < n) := by unfold nB; split <;> omega
theorem nB_last {n k : Nat} (h : k < nB n) : (n ≤ 28 * (k + 1)) ↔ k + 1 = nB n := by
  unfold nB at h ⊢; split <;> (split at h <;> omega)
theorem img_len (xs : List Int) : (img xs).length = xs.length + 5 * nB xs.length := by
  have h1 : nB xs.length = nB xs.length - 1 + 1 := by have := nB_pos xs.length; omega
  have h2 := nB_le xs.length
  have h3 := (nB_last (n := xs.length) (k := nB xs.length - 1) (by omega)).2 h1.symm
  unfold img
  rw [h1, imgP_step, List.length_append, blkE_len, imgP_len xs _ (by omega)]; omega
def sl33 (xs : List Int) (k : Nat) : List Int := (xs.drop (33 * k)).take 33
def nS (n : Nat) : Nat := if n = 0 then 1 else (n + 32) / 33
def badK (xs : List Int) (k : Nat) : Bool := decide ((sl33 xs k).length < 5) || !decide (chkB k ((sl33 xs k).take ((sl33 xs k).length - 3)) = (sl33 xs k).drop ((sl33 xs k).length - 3))
def dmgP (xs : List Int) (k : Nat) : List Int := ((List.range k).filter (badK xs)).map fun (j : Nat) => (j : Int)
def dmg (xs : List Int) : List Int := dmgP xs (nS xs.length)
def datK (xs : List Int) (k : Nat) : List Int := ((sl33 xs k).take ((sl33 xs k).length - 3)).drop 2
def datP (xs : List Int) (k : Nat) : List Int := (List.range k).flatMap (datK xs)
def datA (xs : List Int) : List Int := datP xs (nS xs.length)
def dataF (xs : List Int) : List Int × Int := if dmg xs ≠ [] then ([], 7) else if (datA xs).length ≤ 868 ∧ img (datA xs) = xs then (datA xs, 0) else ([], 6)
theorem nS_on {n k : Nat} : k < nS n ↔ (k = 0 ∨ 33 * k < n) := by unfold nS; split <;> omega
theorem nS_pos (n : Nat) : 1 ≤ nS n := by unfold nS; split <;> omega
theorem nS_le (n : Nat) : 33 * nS n ≤ n + 33 := by unfold nS; split <;> omega
theorem sl33_len (xs : List Int) (k : Nat) : (sl33 xs k).length = min 33 (xs.length - 33 * k) := by simp [sl33]
theorem dmgP_step (xs : List Int) (k : Nat) : dmgP xs (k + 1) = if badK xs k = true then dmgP xs k ++ [(k : Int)] else dmgP xs k := by
  unfold dmgP
  rw [List.range_succ, List.filter_append, List.map_append]
  cases h : badK xs k <;> simp [h]
theorem datP_step (xs : List Int) (k : Nat) : datP xs (k + 1) = datP xs k ++ datK xs k := by
  simp [datP, List.range_succ, List.flatMap_append]
theorem dmg_nil {xs : List Int} (h : dmg xs = []) {k : Nat} (hk : k < nS xs.length) : badK xs k = false := by
  unfold dmg dmgP at h
  have h1 := List.map_eq_nil_iff.1 h
  have h2 := (List.filter_eq_nil_iff.1 h1) k (List.mem_range.2 hk)
  simpa using h2
theorem badK_false {xs : List Int} {k : Nat} (h : badK xs k = false) : 5 ≤ (sl33 xs k).length ∧ chkB k ((sl33 xs k).take ((sl33 xs k).length - 3)) = (sl33 xs k).drop ((sl33 xs k).length - 3) := by
  simp only [badK, Bool.or_eq_false_iff, decide_eq_false_iff_not, Bool.not_eq_false', decide_eq_true_eq] at h
  exact ⟨by omega, h.2⟩
end Go.Proofs.YtdoibplhbdkapaaGreatDoor
