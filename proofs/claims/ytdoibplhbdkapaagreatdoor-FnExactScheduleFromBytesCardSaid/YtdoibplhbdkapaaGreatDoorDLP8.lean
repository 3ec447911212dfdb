/- Texts of the seat that a law needs, put together. No condition. -/
import Derived.Test.YtdoibplhbdkapaaGreatDoorDLP7
import Derived.Test.YtdoibplhbdkapaaGreatDoorDLP3
import Derived.Test.YtdoibplhbdkapaaGreatDoorDLP6
import Derived.RangeFuncFrom
import Derived.RangeFuncBox
import Derived.RangeFuncLeaves
import Derived.RangeFuncCalls
import Derived.TacticsIn
import Derived.RangeFuncBound
import Derived.Laws.StructEq
namespace Go.Proofs.YtdoibplhbdkapaaGreatDoor
open Go.RowKit
set_option linter.unusedVariables false
set_option linter.unusedSimpArgs false

/-- the cells of a cursor -/
def curC (A : Option Addr) (c : Nat) (xs : List Int) (a : Nat) (bad : Bool) : List Value := [.slice A xs.length c, .int .i64 (a : Nat), .bool bad]
def nAt (xs : List Int) (a : Nat) : Nat := if a = xs.length then a else a + 1
def nBad (xs : List Int) (a : Nat) (bad : Bool) : Bool := if a = xs.length then true else bad
def nV (xs : List Int) (a : Nat) : Int := if a = xs.length then 0 else xs.getD a 0
theorem nAt_le {xs : List Int} {a : Nat} (h : a ≤ xs.length) : nAt xs a ≤ xs.length := by unfold nAt; split <;> omega
theorem nV_in {xs : List Int} (hb : isB xs = true) (a : Nat) : 0 ≤ nV xs a ∧ nV xs a ≤ 255 := by
  unfold nV
  split
  · omega
  · rw [List.getD_eq_getElem?_getD]
    cases h : xs[a]? with
    | none => simp
    | some x => exact isB_at hb h
/-- so many next bytes -/
def someR (xs : List Int) : Nat → Nat → Bool → List Int × Nat × Bool
  | 0, a, bad => ([], a, bad)
  | _ + 1, a, true => ([], a, true)
  | n + 1, a, false => (nV xs a :: (someR xs n (nAt xs a) (nBad xs a false)).1, (someR xs n (nAt xs a) (nBad xs a false)).2)
theorem someR_len (xs : List Int) : ∀ (n a : Nat) (bad : Bool), (someR xs n a bad).1.length ≤ n
  | 0, a, bad => by simp [someR]
  | n + 1, a, true => by simp [someR]
  | n + 1, a, false => by
    have := someR_len xs n (nAt xs a) (nBad xs a false)
    simp only [someR, List.length_cons]; omega
theorem someR_le (xs : List Int) : ∀ (n a : Nat) (bad : Bool), a ≤ xs.length → (someR xs n a bad).2.1 ≤ xs.length
  | 0, a, bad, h => h
  | n + 1, a, true, h => h
  | n + 1, a, false, h => someR_le xs n _ _ (nAt_le h)
theorem someR_bad (xs : List Int) : ∀ (n a : Nat), (someR xs n a true).2.2 = true
  | 0, _ => rfl
  | _ + 1, _ => rfl
theorem someR_good (xs : List Int) : ∀ (n a : Nat), a + n ≤ xs.length → someR xs n a false = ((xs.drop a).take n, a + n, false)
  | 0, a, h => by simp [someR]
  | n + 1, a, h => by
    have ha : a < xs.length := by omega
    have e1 : nAt xs a = a + 1 := by unfold nAt; rw [if_neg (by omega)]
    have e2 : nBad xs a false = false := by unfold nBad; rw [if_neg (by omega)]
    have e3 : nV xs a = xs[a] := by unfold nV; rw [if_neg (by omega), List.getD_eq_getElem?_getD, List.getElem?_eq_getElem ha]; rfl
    simp only [someR, e1, e2, e3, someR_good xs n (a + 1) (by omega)]
    rw [List.drop_eq_getElem_cons ha, List.take_succ_cons]
    congr 2; omega
theorem someR_short (xs : List Int) : ∀ (n a : Nat), a ≤ xs.length → xs.length < a + n → (someR xs n a false).2.2 = true
  | 0, a, h, h2 => by omega
  | n + 1, a, h, h2 => by
    simp only [someR]
    by_cases e : a = xs.length
    · have e2 : nBad xs a false = true := by unfold nBad; rw [if_pos e]
      rw [e2]; exact someR_bad xs n _
    · have e1 : nAt xs a = a + 1 := by unfold nAt; rw [if_neg e]
      have e2 : nBad xs a false = false := by unfold nBad; rw [if_neg e]
      rw [e1, e2]; exact someR_short xs n (a + 1) (by omega) (by omega)
theorem n_ok {xs : List Int} {a : Nat} (h : a < xs.length) (bad : Bool) : nAt xs a = a + 1 ∧ nBad xs a bad = bad ∧ nV xs a = xs.getD a 0 := by
  unfold nAt nBad nV
  rw [if_neg (by omega), if_neg (by omega), if_neg (by omega)]
  exact ⟨rfl, rfl, rfl⟩
theorem nBad_keep (xs : List Int) (a : Nat) : nBad xs a true = true := by unfold nBad; split <;> rfl

def prsM (xs : List Int) : Nat → Nat → Option (List Mode × Nat)
  | 0, a => some ([], a)
  | n + 1, a => if a + 3 ≤ xs.length ∧ a + 3 + (xs.getD (a + 2) 0).toNat ≤ xs.length then
      (prsM xs n (a + 3 + (xs.getD (a + 2) 0).toNat)).map fun r => (⟨xs.getD a 0, xs.getD (a + 1) 0, (xs.drop (a + 3)).take (xs.getD (a + 2) 0).toNat⟩ :: r.1, r.2)
    else none
/-- one entry read by the cursor: what stands behind it -/
theorem chain_good {xs : List Int} {a : Nat} (h : a + 3 ≤ xs.length ∧ a + 3 + (xs.getD (a + 2) 0).toNat ≤ xs.length) :
    nV xs a = xs.getD a 0 ∧ nV xs (nAt xs a) = xs.getD (a + 1) 0 ∧ nV xs (nAt xs (nAt xs a)) = xs.getD (a + 2) 0 ∧ nAt xs (nAt xs (nAt xs a)) = a + 3 ∧ nBad xs (nAt xs (nAt xs a)) (nBad xs (nAt xs a) (nBad xs a false)) = false := by
  obtain ⟨h1, h2, h3⟩ := n_ok (show a < xs.length by omega) false
  rw [h1]
  obtain ⟨h4, h5, h6⟩ := n_ok (show a + 1 < xs.length by omega) (nBad xs a false)
  rw [h4]
  obtain ⟨h7, h8, h9⟩ := n_ok (show a + 1 + 1 < xs.length by omega) (nBad xs (a + 1) (nBad xs a false))
  exact ⟨h3, h6, h9, h7, by rw [h8, h5, h2]⟩
theorem chain_short {xs : List Int} {a : Nat} (ha : a ≤ xs.length) (h : xs.length < a + 3) : nBad xs (nAt xs (nAt xs a)) (nBad xs (nAt xs a) (nBad xs a false)) = true := by
  by_cases e0 : a = xs.length
  · have e1 : nBad xs a false = true := by unfold nBad; rw [if_pos e0]
    rw [e1, nBad_keep, nBad_keep]
  · obtain ⟨h1, h2, h3⟩ := n_ok (show a < xs.length by omega) false
    rw [h1]
    by_cases e1 : a + 1 = xs.length
    · have e2 : nBad xs (a + 1) (nBad xs a false) = true := by unfold nBad; rw [if_pos e1]
      rw [e2, nBad_keep]
    · obtain ⟨h4, h5, h6⟩ := n_ok (show a + 1 < xs.length by omega) (nBad xs a false)
      rw [h4]
      unfold nBad; rw [if_pos (by omega)]
theorem prsM_at (xs : List Int) : ∀ (n a : Nat) (r : List Mode × Nat), prsM xs n a = some r → a ≤ xs.length → r.2 ≤ xs.length ∧ r.1.length = n
  | 0, a, r, h, ha => by simp [prsM] at h; subst h; exact ⟨ha, rfl⟩
  | n + 1, a, r, h, ha => by
    rw [prsM] at h
    split at h
    · rename_i h1
      cases h2 : prsM xs n (a + 3 + (xs.getD (a + 2) 0).toNat) with
      | none => rw [h2] at h; simp at h
      | some q =>
        rw [h2] at h
        simp only [Option.map_some, Option.some.injEq] at h
        obtain ⟨h3, h4⟩ := prsM_at xs n _ q h2 h1.2
        rw [← h]
        exact ⟨h3, by simp [h4]⟩
    · cases h
theorem someR_stop (xs : List Int) (n a : Nat) {b : Bool} (h : n = 0 ∨ b = true) : someR xs n a b = ([], a, b) := by
  rcases h with h | h
  · subst h; rfl
  · subst h; cases n <;> rfl
theorem someR_step (xs : List Int) {n a : Nat} {b : Bool} (h : 0 < n) (hb : b = false) : someR xs n a b = (nV xs a :: (someR xs (n - 1) (nAt xs a) (nBad xs a b)).1, (someR xs (n - 1) (nAt xs a) (nBad xs a b)).2) := by
  subst hb
  obtain ⟨m, rfl⟩ : ∃ m, n = m + 1 := ⟨n - 1, by omega⟩
  rfl
/-- one entry of a mode table, read by the cursor -/
def entR (xs : List Int) (a : Nat) : List Int × Nat × Bool := someR xs (nV xs (nAt xs (nAt xs a))).toNat (nAt xs (nAt xs (nAt xs a))) (nBad xs (nAt xs (nAt xs a)) (nBad xs (nAt xs a) (nBad xs a false)))
theorem step_modes {xs : List Int} {a rem : Nat} (ha : a ≤ xs.length) :
    ((entR xs a).2.2 = false → prsM xs (rem + 1) a = (prsM xs rem (entR xs a).2.1).map fun r => (⟨nV xs a, nV xs (nAt xs a), (entR xs a).1⟩ :: r.1, r.2)) ∧ ((entR xs a).2.2 = true → prsM xs (rem + 1) a = none) := by
  by_cases hg : a + 3 ≤ xs.length ∧ a + 3 + (xs.getD (a + 2) 0).toNat ≤ xs.length
  · obtain ⟨h1, h2, h3, h4, h5⟩ := chain_good hg
    have e : entR xs a = ((xs.drop (a + 3)).take (xs.getD (a + 2) 0).toNat, a + 3 + (xs.getD (a + 2) 0).toNat, false) := by
      unfold entR; rw [h3, h4, h5, someR_good xs _ _ hg.2]
    rw [e, h1, h2]
    refine ⟨fun _ => ?_, fun h => by cases h⟩
    rw [prsM, if_pos hg]
  · have e : prsM xs (rem + 1) a = none := by rw [prsM, if_neg hg]
    rw [e]
    refine ⟨fun h => ?_, fun _ => rfl⟩
    exfalso
    have hb : (entR xs a).2.2 = true := by
      unfold entR
      by_cases h3 : a + 3 ≤ xs.length
      · obtain ⟨h1, h2, h4⟩ := n_ok (show a < xs.length by omega) false
        obtain ⟨h5, h6, h7⟩ := n_ok (show a + 1 < xs.length by omega) false
        obtain ⟨h8, h9, h10⟩ := n_ok (show a + 1 + 1 < xs.length by omega) false
        simp only [h1, h2, h5, h6, h8, h9, h10]
        exact someR_short xs _ _ (by omega) (by rw [show a + 1 + 1 = a + 2 from rfl]; omega)
      · rw [chain_short ha (by omega)]; exact someR_bad xs _ _
    rw [hb] at h; cases h
theorem entR_in {xs : List Int} (hb : isB xs = true) {a : Nat} (ha : a ≤ xs.length) : (entR xs a).2.1 ≤ xs.length ∧ (entR xs a).1.length ≤ 255 := by
  have h1 := nV_in hb (nAt xs (nAt xs a))
  exact ⟨someR_le xs _ _ _ (nAt_le (nAt_le (nAt_le ha))), Nat.le_trans (someR_len xs _ _ _) (by omega)⟩
/-- what reading a mode table gives: the table, how many bytes, whether there is one -/
def rdM (xs : List Int) : Option (List Mode × Nat) := if xs.length = 0 then none else match prsM xs (xs.getD 0 0).toNat 1 with
  | some r => if isMT r.1 = true then some r else none
  | none => none
/-- the table that was read, in memory -/
def RdM (o : Option (List Mode × Nat)) (ms : List Mode) (sz : Int) (ok : Bool) : Prop := match o with
  | some r => ms = r.1 ∧ sz = (r.2 : Int) ∧ ok = true
  | none => ms = [] ∧ sz = 0 ∧ ok = false
theorem rdM_empty {xs : List Int} (h : xs.length = 0) : rdM xs = none := by rw [rdM, if_pos h]
theorem rdM_none {xs : List Int} (h : xs.length ≠ 0) (hp : prsM xs (xs.getD 0 0).toNat 1 = none) : rdM xs = none := by rw [rdM, if_neg h, hp]
theorem rdM_some {xs : List Int} {r : List Mode × Nat} (h : xs.length ≠ 0) (hp : prsM xs (xs.getD 0 0).toNat 1 = some r) (ht : isMT r.1 = true) : rdM xs = some r := by rw [rdM, if_neg h, hp]; simp [ht]
theorem rdM_not {xs : List Int} {r : List Mode × Nat} (h : xs.length ≠ 0) (hp : prsM xs (xs.getD 0 0).toNat 1 = some r) (ht : isMT r.1 = false) : rdM xs = none := by rw [rdM, if_neg h, hp]; simp [ht]
/-- what is known while the entries are read -/
def HgM (xs : List Int) (rem a : Nat) (b : Bool) (ms : List Mode) : Prop :=
  (b = false → xs.length ≠ 0 ∧ prsM xs (xs.getD 0 0).toNat 1 = (prsM xs rem a).map fun r => (ms ++ r.1, r.2)) ∧ (b = true → rdM xs = none)
theorem HgM.start (xs : List Int) : HgM xs (nV xs 0).toNat (nAt xs 0) (nBad xs 0 false) [] := by
  by_cases h : xs.length = 0
  · have e : nBad xs 0 false = true := by unfold nBad; rw [if_pos h.symm]
    rw [e]
    exact ⟨fun hh => (by cases hh), fun _ => rdM_empty h⟩
  · obtain ⟨h1, h2, h3⟩ := n_ok (xs := xs) (a := 0) (by omega) false
    rw [h1, h2, h3]
    refine ⟨fun _ => ⟨h, ?_⟩, fun hh => (by cases hh)⟩
    cases prsM xs (xs.getD 0 0).toNat (0 + 1) <;> simp
theorem HgM.step {xs : List Int} {rem a : Nat} {ms : List Mode} (h : HgM xs rem a false ms) (hr : 0 < rem) (ha : a ≤ xs.length) :
    HgM xs (rem - 1) (entR xs a).2.1 (entR xs a).2.2 (ms ++ [⟨nV xs a, nV xs (nAt xs a), (entR xs a).1⟩]) := by
  obtain ⟨r, rfl⟩ : ∃ r, rem = r + 1 := ⟨rem - 1, by omega⟩
  obtain ⟨h1, h2⟩ := step_modes (rem := r) ha
  obtain ⟨h3, h4⟩ := h.1 rfl
  refine ⟨fun hb => ⟨h3, ?_⟩, fun hb => ?_⟩
  · rw [h4, h1 hb, show r + 1 - 1 = r by omega]
    cases prsM xs r (entR xs a).2.1 <;> simp
  · rw [h2 hb] at h4
    exact rdM_none h3 h4
theorem HgM.stop {xs : List Int} {a : Nat} {ms : List Mode} (h : HgM xs 0 a false ms) : (isMT ms = true → rdM xs = some (ms, a)) ∧ (isMT ms = false → rdM xs = none) := by
  obtain ⟨h3, h4⟩ := h.1 rfl
  have h5 : prsM xs (xs.getD 0 0).toNat 1 = some (ms, a) := by rw [h4]; simp [prsM]
  exact ⟨fun h => rdM_some h3 h5 h, fun h => rdM_not h3 h5 h⟩
theorem get_D0 {xs : List Int} {a : Nat} {x : Int} (h : xs[a]? = some x) : xs.getD a 0 = x := by rw [List.getD_eq_getElem?_getD, h]; rfl
theorem prsM_step {xs : List Int} {a rem yn : Nat} {x0 x1 : Int} (hr : 0 < rem) (h0 : xs[a]? = some x0) (h1 : xs[a + 1]? = some x1) (h2 : xs[a + 2]? = some (yn : Int)) (h3 : a + 3 + yn ≤ xs.length) :
    prsM xs rem a = (prsM xs (rem - 1) (a + 3 + yn)).map fun r => (⟨x0, x1, (xs.drop (a + 3)).take yn⟩ :: r.1, r.2) := by
  obtain ⟨r, rfl⟩ : ∃ r, rem = r + 1 := ⟨rem - 1, by omega⟩
  rw [prsM, get_D0 h0, get_D0 h1, get_D0 h2, Int.toNat_natCast, if_pos ⟨by omega, h3⟩]; rfl
theorem prsM_short {xs : List Int} {a rem : Nat} (hr : 0 < rem) (h : xs.length < a + 3) : prsM xs rem a = none := by
  obtain ⟨r, rfl⟩ : ∃ r, rem = r + 1 := ⟨rem - 1, by omega⟩
  rw [prsM, if_neg (by omega)]
theorem prsM_short2 {xs : List Int} {a rem yn : Nat} (hr : 0 < rem) (h2 : xs[a + 2]? = some (yn : Int)) (h : xs.length < a + 3 + yn) : prsM xs rem a = none := by
  obtain ⟨r, rfl⟩ : ∃ r, rem = r + 1 := ⟨rem - 1, by omega⟩
  rw [prsM, get_D0 h2, Int.toNat_natCast, if_neg (by omega)]
theorem RdM.f {o : Option (List Mode × Nat)} {ms : List Mode} {sz : Int} (h : RdM o ms sz false) : o = none := by
  cases o with
  | none => rfl
  | some r => exact absurd h.2.2 (by decide)
theorem RdM.t {o : Option (List Mode × Nat)} {ms : List Mode} {sz : Int} (h : RdM o ms sz true) : ∃ r, o = some r ∧ ms = r.1 ∧ sz = (r.2 : Int) := by
  cases o with
  | none => exact absurd h.2.2 (by decide)
  | some r => exact ⟨r, rfl, h.1, h.2.1⟩
theorem prsM_next (xs : List Int) : ∀ (n a : Nat) (r : List Mode × Nat), prsM xs n a = some r → ∀ m ∈ r.1, m.next.length ≤ xs.length
  | 0, a, r, h => by simp [prsM] at h; subst h; simp
  | n + 1, a, r, h => by
    rw [prsM] at h
    split at h
    · cases h2 : prsM xs n (a + 3 + (xs.getD (a + 2) 0).toNat) with
      | none => rw [h2] at h; simp at h
      | some q =>
        rw [h2] at h
        simp only [Option.map_some, Option.some.injEq] at h
        have ih := prsM_next xs n _ q h2
        rw [← h]
        intro m hm
        rcases List.mem_cons.1 hm with rfl | hm
        · simp; omega
        · exact ih m hm
    · cases h
theorem rdM_in {xs : List Int} {r : List Mode × Nat} (h : rdM xs = some r) : r.1.length ≤ 16 ∧ r.2 ≤ xs.length ∧ (∀ m ∈ r.1, m.next.length ≤ xs.length) ∧ isMT r.1 = true := by
  unfold rdM at h
  split at h
  · cases h
  · rename_i h1
    split at h
    · rename_i q hq
      split at h
      · rename_i ht
        injection h with h; subst h
        exact ⟨(isMT_len ht).2, (prsM_at xs _ _ _ hq (by omega)).1, prsM_next xs _ _ _ hq, ht⟩
      · cases h
    · cases h
end Go.Proofs.YtdoibplhbdkapaaGreatDoor
namespace Go.Proofs.YtdoibplhbdkapaaGreatDoor
open Go.RowKit
set_option linter.unusedVariables false
set_option linter.unusedSimpArgs false

def descR (a b c d e : Int) : Desc := ⟨a, b / 64, b % 64, 256 * c + d, decide (e = 1)⟩
def descV (a b c d e : Int) : Bool := descOk (descR a b c d e) && decide (e ≤ 1)
def dAt (xs : List Int) (a : Nat) : Desc := descR (xs.getD a 0) (xs.getD (a + 1) 0) (xs.getD (a + 2) 0) (xs.getD (a + 3) 0) (xs.getD (a + 4) 0)
def vAt (xs : List Int) (a : Nat) : Bool := descV (xs.getD a 0) (xs.getD (a + 1) 0) (xs.getD (a + 2) 0) (xs.getD (a + 3) 0) (xs.getD (a + 4) 0)
def five (xs : List Int) (a : Nat) : List Int := [xs.getD a 0, xs.getD (a + 1) 0, xs.getD (a + 2) 0, xs.getD (a + 3) 0, xs.getD (a + 4) 0]
def slotE (xs : List Int) (a : Nat) : SlotI := ⟨xs.getD a 0 / 16, xs.getD a 0 % 16, xs.getD (a + 1) 0, dAt xs (a + 2)⟩
def prsS (xs : List Int) : Nat → Nat → Option (List SlotI)
  | 0, _ => some []
  | n + 1, a => if a + 7 ≤ xs.length ∧ vAt xs (a + 2) = true then (prsS xs n (a + 7)).map fun r => slotE xs a :: r else none
def rdS (xs : List Int) : Option (List SlotI) := if xs.length = 0 then none else match prsS xs (xs.getD 0 0).toNat 1 with
  | some l => if isST l = true then some l else none
  | none => none
def RdS (o : Option (List SlotI)) (ys : List SlotI) (n : Int) (ok : Bool) : Prop := match o with
  | some l => ys = l ∧ n = 1 + 7 * l.length ∧ ok = true
  | none => ok = false
theorem drop_getD {xs : List Int} {a : Nat} (h : a < xs.length) : xs.drop a = xs.getD a 0 :: xs.drop (a + 1) := by
  rw [List.drop_eq_getElem_cons h, List.getD_eq_getElem?_getD, List.getElem?_eq_getElem h]; rfl
theorem five_eq {xs : List Int} {a : Nat} (h : a + 5 ≤ xs.length) : (xs.drop a).take 5 = five xs a := by
  rw [drop_getD (show a < xs.length by omega), drop_getD (show a + 1 < xs.length by omega), drop_getD (show a + 1 + 1 < xs.length by omega), drop_getD (show a + 1 + 1 + 1 < xs.length by omega), drop_getD (show a + 1 + 1 + 1 + 1 < xs.length by omega)]
  rfl
theorem prsS_len (xs : List Int) : ∀ (n a : Nat) (l : List SlotI), prsS xs n a = some l → a ≤ xs.length → a + 7 * n ≤ xs.length ∧ l.length = n
  | 0, a, l, h, ha => by simp [prsS] at h; subst h; exact ⟨ha, rfl⟩
  | n + 1, a, l, h, ha => by
    rw [prsS] at h
    split at h
    · rename_i h1
      cases h2 : prsS xs n (a + 7) with
      | none => rw [h2] at h; simp at h
      | some q =>
        rw [h2] at h
        simp only [Option.map_some, Option.some.injEq] at h
        have h3 := prsS_len xs n _ q h2 h1.1
        rw [← h]
        exact ⟨by omega, by simp [h3.2]⟩
    · cases h
theorem rdS_empty {xs : List Int} (h : xs.length = 0) : rdS xs = none := by rw [rdS, if_pos h]
theorem rdS_none {xs : List Int} (h : xs.length ≠ 0) (hp : prsS xs (xs.getD 0 0).toNat 1 = none) : rdS xs = none := by rw [rdS, if_neg h, hp]
theorem rdS_some {xs : List Int} {l : List SlotI} (h : xs.length ≠ 0) (hp : prsS xs (xs.getD 0 0).toNat 1 = some l) (ht : isST l = true) : rdS xs = some l := by rw [rdS, if_neg h, hp]; simp [ht]
theorem rdS_not {xs : List Int} {l : List SlotI} (h : xs.length ≠ 0) (hp : prsS xs (xs.getD 0 0).toNat 1 = some l) (ht : isST l = false) : rdS xs = none := by rw [rdS, if_neg h, hp]; simp [ht]
theorem rdS_short {xs : List Int} (h : xs.length ≠ 0) (h2 : (xs.length : Int) < 1 + 7 * xs.getD 0 0) : rdS xs = none := by
  cases hp : prsS xs (xs.getD 0 0).toNat 1 with
  | none => exact rdS_none h hp
  | some l => have := prsS_len xs _ _ l hp (by omega); omega
theorem rdS_len {xs : List Int} {l : List SlotI} (h : rdS xs = some l) : l.length = (xs.getD 0 0).toNat ∧ 1 + 7 * l.length ≤ xs.length ∧ isST l = true := by
  unfold rdS at h
  split at h
  · cases h
  · rename_i h1
    split at h
    · rename_i q hq
      split at h
      · rename_i ht
        injection h with h; subst h
        have := prsS_len xs _ _ q hq (by omega)
        exact ⟨this.2, by omega, ht⟩
      · cases h
    · cases h
/-- what is known while the entries are read -/
def HgS (xs : List Int) (rem a : Nat) (b : Bool) (ys : List SlotI) : Prop :=
  (b = false → xs.length ≠ 0 ∧ prsS xs (xs.getD 0 0).toNat 1 = (prsS xs rem a).map fun r => ys ++ r) ∧ (b = true → rdS xs = none)
theorem HgS.start (xs : List Int) : HgS xs (nV xs 0).toNat (nAt xs 0) (nBad xs 0 false) [] := by
  by_cases h : xs.length = 0
  · have e : nBad xs 0 false = true := by unfold nBad; rw [if_pos h.symm]
    rw [e]
    exact ⟨fun hh => (by cases hh), fun _ => rdS_empty h⟩
  · obtain ⟨h1, h2, h3⟩ := n_ok (xs := xs) (a := 0) (by omega) false
    rw [h1, h2, h3]
    refine ⟨fun _ => ⟨h, ?_⟩, fun hh => (by cases hh)⟩
    cases prsS xs (xs.getD 0 0).toNat (0 + 1) <;> simp
/-- one entry read by the cursor -/
def entS (xs : List Int) (a : Nat) : List Int × Nat × Bool := someR xs 5 (nAt xs (nAt xs a)) (nBad xs (nAt xs a) (nBad xs a false))
theorem entS_cases {xs : List Int} {a : Nat} (ha : a ≤ xs.length) :
    ((entS xs a).2.2 = true ∧ xs.length < a + 7) ∨ ((entS xs a).2.2 = false ∧ a + 7 ≤ xs.length ∧ nV xs a = xs.getD a 0 ∧ nV xs (nAt xs a) = xs.getD (a + 1) 0 ∧ (entS xs a).1 = five xs (a + 2) ∧ (entS xs a).2.1 = a + 7) := by
  by_cases h : a + 7 ≤ xs.length
  · obtain ⟨h1, h2, h3⟩ := n_ok (show a < xs.length by omega) false
    obtain ⟨h4, h5, h6⟩ := n_ok (show a + 1 < xs.length by omega) false
    have e : entS xs a = ((xs.drop (a + 2)).take 5, a + 7, false) := by
      unfold entS
      rw [h1, h4, h2, h5]
      exact someR_good xs 5 (a + 2) (by omega)
    rw [e, h1]
    exact .inr ⟨rfl, h, h3, h6, five_eq (by omega), rfl⟩
  · refine .inl ⟨?_, by omega⟩
    unfold entS
    by_cases e0 : a = xs.length
    · have e1 : nBad xs a false = true := by unfold nBad; rw [if_pos e0]
      rw [e1, nBad_keep]; exact someR_bad xs _ _
    · obtain ⟨h1, h2, h3⟩ := n_ok (show a < xs.length by omega) false
      rw [h1, h2]
      by_cases e1 : a + 1 = xs.length
      · have e2 : nBad xs (a + 1) false = true := by unfold nBad; rw [if_pos e1]
        rw [e2]; exact someR_bad xs _ _
      · obtain ⟨h4, h5, h6⟩ := n_ok (show a + 1 < xs.length by omega) false
        rw [h4, h5]
        exact someR_short xs _ _ (by omega) (by omega)
theorem HgS.bad {xs : List Int} {rem a : Nat} {ys : List SlotI} (h : HgS xs rem a false ys) (hr : 0 < rem) (ha : a ≤ xs.length) (hb : (entS xs a).2.2 = true) : rdS xs = none := by
  obtain ⟨r, rfl⟩ : ∃ r, rem = r + 1 := ⟨rem - 1, by omega⟩
  obtain ⟨h3, h4⟩ := h.1 rfl
  rcases entS_cases ha with ⟨_, h5⟩ | ⟨h5, _⟩
  · refine rdS_none h3 ?_
    rw [h4, prsS, if_neg (by omega)]; rfl
  · rw [hb] at h5; cases h5
theorem HgS.inval {xs : List Int} {rem a : Nat} {ys : List SlotI} (h : HgS xs rem a false ys) (hr : 0 < rem) (hv : vAt xs (a + 2) = false) : rdS xs = none := by
  obtain ⟨r, rfl⟩ : ∃ r, rem = r + 1 := ⟨rem - 1, by omega⟩
  obtain ⟨h3, h4⟩ := h.1 rfl
  refine rdS_none h3 ?_
  rw [h4, prsS, if_neg (by simp [hv])]; rfl
theorem HgS.step {xs : List Int} {rem a : Nat} {ys : List SlotI} (h : HgS xs rem a false ys) (hr : 0 < rem) (ha : a + 7 ≤ xs.length) (hv : vAt xs (a + 2) = true) :
    HgS xs (rem - 1) (a + 7) false (ys ++ [slotE xs a]) := by
  obtain ⟨r, rfl⟩ : ∃ r, rem = r + 1 := ⟨rem - 1, by omega⟩
  obtain ⟨h3, h4⟩ := h.1 rfl
  refine ⟨fun _ => ⟨h3, ?_⟩, fun hb => by cases hb⟩
  rw [h4, prsS, if_pos ⟨ha, hv⟩, show r + 1 - 1 = r by omega]
  cases prsS xs r (a + 7) <;> simp
theorem HgS.stop {xs : List Int} {a : Nat} {ys : List SlotI} (h : HgS xs 0 a false ys) : (isST ys = true → rdS xs = some ys) ∧ (isST ys = false → rdS xs = none) := by
  obtain ⟨h3, h4⟩ := h.1 rfl
  have h5 : prsS xs (xs.getD 0 0).toNat 1 = some ys := by rw [h4]; simp [prsS]
  exact ⟨fun h => rdS_some h3 h5 h, fun h => rdS_not h3 h5 h⟩
theorem gB {xs : List Int} (hB : isB xs = true) (i : Nat) : 0 ≤ xs.getD i 0 ∧ xs.getD i 0 ≤ 255 := by
  rw [List.getD_eq_getElem?_getD]
  cases h : xs[i]? with
  | none => simp
  | some x => exact isB_at hB h
theorem prsS_step {xs : List Int} {rem a : Nat} (hr : 0 < rem) (h : a + 7 ≤ xs.length) (hv : vAt xs (a + 2) = true) : prsS xs rem a = (prsS xs (rem - 1) (a + 7)).map fun r => slotE xs a :: r := by
  obtain ⟨r, rfl⟩ : ∃ r, rem = r + 1 := ⟨rem - 1, by omega⟩
  rw [prsS, if_pos ⟨h, hv⟩]; rfl
theorem prsS_inv {xs : List Int} {rem a : Nat} (hr : 0 < rem) (hv : vAt xs (a + 2) = false) : prsS xs rem a = none := by
  obtain ⟨r, rfl⟩ : ∃ r, rem = r + 1 := ⟨rem - 1, by omega⟩
  rw [prsS, if_neg (by simp [hv])]
theorem RdS.f {o : Option (List SlotI)} {ys : List SlotI} {sz : Int} (h : RdS o ys sz false) : o = none := by
  cases o with
  | none => rfl
  | some r => exact absurd h.2.2 (by decide)
theorem RdS.t {o : Option (List SlotI)} {ys : List SlotI} {sz : Int} (h : RdS o ys sz true) : o = some ys ∧ sz = 1 + 7 * ys.length := by
  cases o with
  | none => exact absurd h (by simp [RdS])
  | some r =>
    have h1 := h.1
    subst h1
    exact ⟨rfl, h.2.1⟩
theorem start_at1 {xs : List Int} (h : nBad xs 0 false = false) : nAt xs 0 = 1 := by
  unfold nBad at h
  unfold nAt
  split at h
  · cases h
  · rename_i h1; rw [if_neg h1]
end Go.Proofs.YtdoibplhbdkapaaGreatDoor
namespace Go.Proofs.YtdoibplhbdkapaaGreatDoor
open Go.RowKit
set_option linter.unusedVariables false
set_option linter.unusedSimpArgs false
end Go.Proofs.YtdoibplhbdkapaaGreatDoor
namespace Go.Proofs.YtdoibplhbdkapaaGreatDoor
open Go.RowKit
set_option linter.unusedVariables false
set_option linter.unusedSimpArgs false
set_option maxRecDepth 20000
theorem Sl.takeI {B : Nat} {w : World} {A : Option Addr} {xs : List Int} (h : Sl B w A (xs.flatMap eI)) (k : Nat) : Sl B w A ((xs.take k).flatMap eI) := by
  have e := flat_take (enc := eI) eI_len xs k
  rw [Nat.mul_one] at e
  rw [← e]
  exact ⟨h.1, fun j v hj => by
    rw [List.getElem?_take] at hj
    split at hj
    · exact h.2 j v hj
    · cases hj⟩
theorem add_add_ (a : Addr) (i j : Nat) : (a.add i).add j = a.add (i + j) := by
  unfold Addr.add
  by_cases hi : i = 0 <;> by_cases hj : j = 0 <;> simp [hi, hj, Nat.add_assoc]
theorem Sl.dropI {B : Nat} {w : World} {A : Option Addr} {xs : List Int} (h : Sl B w A (xs.flatMap eI)) (k : Nat) : Sl B w (A.map (·.add k)) ((xs.drop k).flatMap eI) := by
  have e := flat_drop (enc := eI) eI_len xs k
  rw [Nat.mul_one] at e
  rw [← e]
  refine ⟨h.1, fun j v hj => ?_⟩
  rw [List.getElem?_drop] at hj
  obtain ⟨h1, h2, h3⟩ := h.2 _ v hj
  cases A with
  | none => cases h1
  | some a =>
    refine ⟨rfl, ?_, ?_⟩
    · show (a.add k).block < B
      rw [block_of_add]; exact h2
    · show w.cell? ((a.add k).add j) = some v
      rw [add_add_]; exact h3
theorem Sl.dropX {B c : Nat} {w : World} {A : Option Addr} {xs : List Int} (h : Sl B w A (xs.flatMap eI)) (k : Nat) (hc : xs.length ≤ c) : Sl B w (if c = k then A else A.map (·.add (k * 1))) ((xs.drop k).flatMap eI) := by
  split
  · rename_i hk
    rw [List.drop_of_length_le (by omega)]
    exact ⟨h.1, fun j v hj => by simp at hj⟩
  · rw [Nat.mul_one]; exact h.dropI k
theorem equalI_c (A : Option Addr) (B c : Nat) (xs : List Int) (A2 : Option Addr) (B2 c2 : Nat) (ys : List Int) (w : World) (hs : Sl B w A (xs.flatMap eI)) (h2 : Sl B2 w A2 (ys.flatMap eI)) (hl : xs.length ≤ 1048576) :
    Calls Tryz.prog 168 #[.slice A xs.length c, .slice A2 ys.length c2] w (Ret fun v w' => v = .bool (decide (xs = ys)) ∧ Ext w w') := by
  have Bhs := hs.1
  have Bh2 := h2.1
  have X := Ext.refl w
  refine calls_of (args := [.slice A xs.length c, .slice A2 ys.length c2]) Tryz.func168 Tryz.ntmps168 rfl rfl ?_
  refine c_seqR ?_
  refine ops_cons rfl (ow_assign rfl ?_)
  refine ops_nil ?_
  refine c_seq ?_
  refine c_seqR ?_
  refine ops_cons rfl (ow_move rfl ?_)
  refine ops_cons rfl (ow_len Tryz.underlying30 rfl ?_)
  refine ops_cons rfl (ow_move rfl ?_)
  refine ops_cons rfl (ow_len Tryz.underlying30 rfl ?_)
  refine ops_cons rfl (ow_neq2 rfl rfl (fun hlen => ?_) (fun hlen => ?_))
  refine ops_nil ?_
  refine c_true rfl ?_
  refine c_seqR ?_
  refine ops_cons rfl (ow_assign rfl ?_)
  refine ops_nil ?_
  refine c_ret ?_
  refine tq_r ?_
  refine fin_ret1 rfl rfl ?_
  · skip
    refine ⟨congrArg Value.bool ?_, X⟩
    exact (decide_eq_false (fun e => hlen (by rw [e]))).symm
  refine ops_nil ?_
  refine c_false rfl ?_
  refine c_skip ?_
  refine tq_n ?_
  refine c_seq ?_
  refine c_seqR ?_
  refine ops_cons rfl (ow_move rfl ?_)
  refine ops_cons rfl (ow_len Tryz.underlying30 rfl ?_)
  refine ops_cons rfl (ow_move rfl ?_)
  refine ops_nil ?_
  refine c_block ?_
  refine c_loop (G := Nat) (fun k => [(0, .slice A xs.length c), (1, .slice A2 ys.length c2), (12, .int .i64 (xs.length : Nat)), (13, .int .i64 (k : Nat))]) (fun k wr => k ≤ xs.length ∧ xs.take k = ys.take k ∧ Sl B wr A (xs.flatMap eI) ∧ Sl B2 wr A2 (ys.flatMap eI) ∧ Ext w wr) (fun k => xs.length - k) 0 (.cons rfl (.cons rfl (.cons rfl (.cons rfl (.nil _))))) ?_ ?_
  · exact ⟨by omega, rfl, hs, h2, X⟩
  clear hs h2
  clear X
  rintro k wr ⟨hk0, hi, hs, h2, X⟩
  refine c_seqR ?_
  refine ops_cons rfl (ow_lss2 rfl rfl (fun hk => ?_) (fun hk => ?_))
  obtain ⟨x, hx, dx⟩ := drop_at' hk
  obtain ⟨y, hy, dy⟩ := drop_at (xs := ys) (k := k) (by omega)
  refine ops_nil ?_
  refine c_seq ?_
  refine c_true rfl ?_
  refine c_skip ?_
  refine tq_n ?_
  refine c_seq ?_
  refine c_block ?_
  refine c_seqR ?_
  refine ops_cons rfl (ow_move rfl ?_)
  refine ops_cons rfl (ow_assign rfl ?_)
  refine ops_nil ?_
  refine c_seqD [false, false, false, false, false, false, false, false, false] mixed (by kernel_rfl) ?_
  refine f_q rfl (fun wq sq => ow_move rfl ⟨rfl, Ext.refl _⟩) ?_
  refine f_q rfl (fun wq sq => ow_move rfl ⟨rfl, Ext.refl _⟩) ?_
  refine f_q rfl (fun wq sq => ow_indexT (hs.ext sq) eI_len rfl el30 rfl rfl rfl hx rfl ⟨rfl, Ext.refl _⟩) ?_
  refine f_q rfl (fun wq sq => ow_loadT (hs.ext sq) eI_len hx ti2 rfl rfl rfl ⟨rfl, Ext.refl _⟩) ?_
  refine f_q rfl (fun wq sq => ow_move rfl ⟨rfl, Ext.refl _⟩) ?_
  refine f_q rfl (fun wq sq => ow_move rfl ⟨rfl, Ext.refl _⟩) ?_
  refine f_q rfl (fun wq sq => ow_indexT (h2.ext sq) eI_len rfl el30 rfl rfl rfl hy rfl ⟨rfl, Ext.refl _⟩) ?_
  refine f_q rfl (fun wq sq => ow_loadT (h2.ext sq) eI_len hy ti2 rfl rfl rfl ⟨rfl, Ext.refl _⟩) ?_
  refine f_qb rfl (fun wq sq => ow_neq rfl rfl ⟨rfl, Ext.refl _⟩) (fun hxy => ?_) (fun hxy => ?_)
  refine f_nil (fun w1 sq => ?_)
  have xq := sq
  replace hs := hs.ext xq
  replace h2 := h2.ext xq
  replace X := Ext.trans X xq; clear xq sq
  refine ops_nil ?_
  refine c_true rfl ?_
  refine c_seqR ?_
  refine ops_cons rfl (ow_assign rfl ?_)
  refine ops_nil ?_
  refine c_ret ?_
  refine bq_r ?_
  refine tq_r ?_
  refine tq_r ?_
  refine bq_r ?_
  refine tq_r ?_
  refine fin_ret1 rfl rfl ?_
  · skip
    refine ⟨congrArg Value.bool ?_, X⟩
    refine (decide_eq_false (fun e => ?_)).symm
    rw [e, hy] at hx; injection hx with hx; omega
  refine f_nil (fun w2 sq => ?_)
  have xq := sq
  replace hs := hs.ext xq
  replace h2 := h2.ext xq
  replace X := Ext.trans X xq; clear xq sq
  refine ops_nil ?_
  refine c_false rfl ?_
  refine c_skip ?_
  refine bq_n ?_
  refine tq_n ?_
  refine c_region ?_
  refine ops_cons rfl (ow_add rfl rfl (w64 (by omega)) ?_)
  refine ops_cons rfl (ow_move rfl ?_)
  refine ops_nil ?_
  refine tq_n ⟨k + 1, (.cons rfl (.cons rfl (.cons rfl (.cons rfl (.nil _))))), ?_, ?_⟩
  · exact ⟨by omega, (by rw [List.take_add_one, List.take_add_one, hi, hx, hy, show x = y by omega]), hs, h2, X⟩
  · first | omega | (dsimp only; omega)
  refine ops_nil ?_
  refine c_seq ?_
  refine c_false rfl ?_
  refine c_exit ?_
  refine tq_e ?_
  refine tq_e ?_
  refine bq_e ?_
  refine tq_n ?_
  refine c_seqR ?_
  refine ops_cons rfl (ow_assign rfl ?_)
  refine ops_nil ?_
  refine c_ret ?_
  refine fin_ret1 rfl rfl ?_
  · skip
    refine ⟨congrArg Value.bool ?_, X⟩
    refine (decide_eq_true ?_).symm
    have e1 : xs.take xs.length = ys.take xs.length := by have h := hi; rwa [show k = xs.length by omega] at h
    rw [List.take_length, List.take_of_length_le (by omega)] at e1; exact e1

theorem sameI_c (A : Option Addr) (B c : Nat) (xs : List Int) (A2 : Option Addr) (B2 c2 : Nat) (ys : List Int) (w : World) (hs : Sl B w A (xs.flatMap eI)) (h2 : Sl B2 w A2 (ys.flatMap eI)) (hl : xs.length ≤ 1048576) :
    Calls Tryz.prog 240 #[.slice A xs.length c, .slice A2 ys.length c2] w (Ret fun v w' => v = .bool (decide (xs = ys)) ∧ Ext w w') := by
  have Bhs := hs.1
  have Bh2 := h2.1
  have X := Ext.refl w
  refine calls_of (args := [.slice A xs.length c, .slice A2 ys.length c2]) Tryz.func240 Tryz.ntmps240 rfl rfl ?_
  refine c_seqR ?_
  refine ops_cons rfl (ow_assign rfl ?_)
  refine ops_nil ?_
  refine c_seq ?_
  refine c_seqR ?_
  refine ops_cons rfl (ow_move rfl ?_)
  refine ops_cons rfl (ow_len Tryz.underlying30 rfl ?_)
  refine ops_cons rfl (ow_move rfl ?_)
  refine ops_cons rfl (ow_len Tryz.underlying30 rfl ?_)
  refine ops_cons rfl (ow_neq2 rfl rfl (fun hlen => ?_) (fun hlen => ?_))
  refine ops_nil ?_
  refine c_true rfl ?_
  refine c_seqR ?_
  refine ops_cons rfl (ow_assign rfl ?_)
  refine ops_nil ?_
  refine c_ret ?_
  refine tq_r ?_
  refine fin_ret1 rfl rfl ?_
  · skip
    refine ⟨congrArg Value.bool ?_, X⟩
    exact (decide_eq_false (fun e => hlen (by rw [e]))).symm
  refine ops_nil ?_
  refine c_false rfl ?_
  refine c_skip ?_
  refine tq_n ?_
  refine c_seq ?_
  refine c_seqR ?_
  refine ops_cons rfl (ow_assign rfl ?_)
  refine ops_nil ?_
  refine c_block ?_
  refine c_loop (G := Nat) (fun k => [(0, .slice A xs.length c), (1, .slice A2 ys.length c2), (5, .int .i64 (k : Nat))]) (fun k wr => k ≤ xs.length ∧ xs.take k = ys.take k ∧ Sl B wr A (xs.flatMap eI) ∧ Sl B2 wr A2 (ys.flatMap eI) ∧ Ext w wr) (fun k => xs.length - k) 0 (.cons rfl (.cons rfl (.cons rfl (.nil _)))) ?_ ?_
  · exact ⟨by omega, rfl, hs, h2, X⟩
  clear hs h2
  clear X
  rintro k wr ⟨hk0, hi, hs, h2, X⟩
  refine c_seq ?_
  refine c_seqR ?_
  refine ops_cons rfl (ow_move rfl ?_)
  refine ops_cons rfl (ow_move rfl ?_)
  refine ops_cons rfl (ow_len Tryz.underlying30 rfl ?_)
  refine ops_cons rfl (ow_lss2 rfl rfl (fun hk => ?_) (fun hk => ?_))
  obtain ⟨x, hx, dx⟩ := drop_at' hk
  obtain ⟨y, hy, dy⟩ := drop_at (xs := ys) (k := k) (by omega)
  refine ops_nil ?_
  refine c_true rfl ?_
  refine c_skip ?_
  refine tq_n ?_
  refine c_seq ?_
  refine c_block ?_
  refine c_seqD [false, false, false, false, false, false, false, false, false] mixed (by kernel_rfl) ?_
  refine f_q rfl (fun wq sq => ow_move rfl ⟨rfl, Ext.refl _⟩) ?_
  refine f_q rfl (fun wq sq => ow_move rfl ⟨rfl, Ext.refl _⟩) ?_
  refine f_q rfl (fun wq sq => ow_indexT (hs.ext sq) eI_len rfl el30 rfl rfl rfl hx rfl ⟨rfl, Ext.refl _⟩) ?_
  refine f_q rfl (fun wq sq => ow_loadT (hs.ext sq) eI_len hx ti2 rfl rfl rfl ⟨rfl, Ext.refl _⟩) ?_
  refine f_q rfl (fun wq sq => ow_move rfl ⟨rfl, Ext.refl _⟩) ?_
  refine f_q rfl (fun wq sq => ow_move rfl ⟨rfl, Ext.refl _⟩) ?_
  refine f_q rfl (fun wq sq => ow_indexT (h2.ext sq) eI_len rfl el30 rfl rfl rfl hy rfl ⟨rfl, Ext.refl _⟩) ?_
  refine f_q rfl (fun wq sq => ow_loadT (h2.ext sq) eI_len hy ti2 rfl rfl rfl ⟨rfl, Ext.refl _⟩) ?_
  refine f_qb rfl (fun wq sq => ow_neq rfl rfl ⟨rfl, Ext.refl _⟩) (fun hxy => ?_) (fun hxy => ?_)
  refine f_nil (fun w1 sq => ?_)
  have xq := sq
  replace hs := hs.ext xq
  replace h2 := h2.ext xq
  replace X := Ext.trans X xq; clear xq sq
  refine ops_nil ?_
  refine c_true rfl ?_
  refine c_seqR ?_
  refine ops_cons rfl (ow_assign rfl ?_)
  refine ops_nil ?_
  refine c_ret ?_
  refine bq_r ?_
  refine tq_r ?_
  refine tq_r ?_
  refine bq_r ?_
  refine tq_r ?_
  refine fin_ret1 rfl rfl ?_
  · skip
    refine ⟨congrArg Value.bool ?_, X⟩
    refine (decide_eq_false (fun e => ?_)).symm
    rw [e, hy] at hx; injection hx with hx; omega
  refine f_nil (fun w2 sq => ?_)
  have xq := sq
  replace hs := hs.ext xq
  replace h2 := h2.ext xq
  replace X := Ext.trans X xq; clear xq sq
  refine ops_nil ?_
  refine c_false rfl ?_
  refine c_skip ?_
  refine bq_n ?_
  refine tq_n ?_
  refine c_region ?_
  refine ops_cons rfl (ow_move rfl ?_)
  refine ops_cons rfl (ow_add rfl rfl (w64 (by omega)) ?_)
  refine ops_cons rfl (ow_assign rfl ?_)
  refine ops_nil ?_
  refine tq_n ⟨k + 1, (.cons rfl (.cons rfl (.cons rfl (.nil _)))), ?_, ?_⟩
  · exact ⟨by omega, (by rw [List.take_add_one, List.take_add_one, hi, hx, hy, show x = y by omega]), hs, h2, X⟩
  · first | omega | (dsimp only; omega)
  refine ops_nil ?_
  refine c_false rfl ?_
  refine c_exit ?_
  refine tq_e ?_
  refine tq_e ?_
  refine bq_e ?_
  refine tq_n ?_
  refine c_seqR ?_
  refine ops_cons rfl (ow_assign rfl ?_)
  refine ops_nil ?_
  refine c_ret ?_
  refine fin_ret1 rfl rfl ?_
  · skip
    refine ⟨congrArg Value.bool ?_, X⟩
    refine (decide_eq_true ?_).symm
    have e1 : xs.take xs.length = ys.take xs.length := by have h := hi; rwa [show k = xs.length by omega] at h
    rw [List.take_length, List.take_of_length_le (by omega)] at e1; exact e1

end Go.Proofs.YtdoibplhbdkapaaGreatDoor
namespace Go.Proofs.YtdoibplhbdkapaaGreatDoor
open Go.RowKit
set_option linter.unusedVariables false
set_option linter.unusedSimpArgs false
/-- a fence that bars nothing -/
def WideF (F : Fence) : Prop := F = Fence.wide ∨ ∃ l, F = Fence.wide.inRound l
theorem WideF.w : WideF Fence.wide := .inl rfl
theorem WideF.r (l : Nat) : WideF (Fence.wide.inRound l) := .inr ⟨l, rfl⟩
theorem WideF.fn {F : Fence} (hF : WideF F) (f : FuncId) : F.fn f := by
  rcases hF with rfl | ⟨l, rfl⟩ <;> trivial
def FitsD (D : List Deferred) (n : Nat) (e : List (Nat × Value)) (a : Act) : Prop := a.defers = D ∧ a.tmps.size = n ∧ ∀ t v, lk e t = some v → a.tmps.getD t undef = v
theorem FitsD.fits {D : List Deferred} {n : Nat} {e : List (Nat × Value)} {a : Act} (h : FitsD D n e a) : Fits n e { a with defers := [] } := ⟨rfl, h.2.1, h.2.2⟩
theorem FitsD.knows {D : List Deferred} {n : Nat} {e : List (Nat × Value)} {a : Act} (h : FitsD D n e a) : Knows e a.eval := h.fits.knows
theorem FitsD.put {D : List Deferred} {n : Nat} {e : List (Nat × Value)} {a : Act} (h : FitsD D n e a) (d : Option Tmp) (v : Value) (hd : dstOk n d = true) : FitsD D n (updO e d v) (a.put d v) := by
  have h1 := h.fits.put d v hd
  have h2 : ({ a with defers := [] } : Act).put d v = { a.put d v with defers := [] } := by cases d <;> rfl
  have h3 : (a.put d v).defers = a.defers := by cases d <;> rfl
  rw [h2] at h1
  exact ⟨h3.trans h.1, h1.2.1, h1.2.2⟩
section
variable {F : Fence} {m : Nat} {P : Program} {n : Nat} {D : List Deferred} {ops : Array Oper} {rest : List Oper} {e : List (Nat × Value)} {w : World} {K : List (Nat × Value) → World → Prop}
end
section
variable {m : Nat} {P : Program} {n : Nat} {e : List (Nat × Value)} {w : World} {Q : Exit → List (Nat × Value) → World → Prop}
end
theorem gb_of_ext {w w' : World} (h : Ext w w') : w.grownBy w' none := ⟨h.os, h.tape, h.output, h.size, fun k hk _ => h.block k hk⟩
theorem abides_ext {β : Type} {B : Nat} {J : β → World → Prop} (hJ : AbidesFrom B J) {s : β} {w w' : World} (h : J s w) (x : Ext w w') : J s w' := hJ s w w' none h (gb_of_ext x) (fun r e => by cases e)
section
variable {P : Program} {e : List (Nat × Value)} {ty : TypeId} {w : World} {K : Value → World → Prop} {x lo hi mx : Operand} {t el : TypeId} {s n c l h : Nat} {A : Option Addr} {k1 k2 k3 : IntKind} {m1 m2 m3 : Int}
theorem ow_sliceLX (ht : elO P t = some (el, s)) (hx : evO e x = some (.slice A n c)) (h1 : evO e lo = some (.int k1 m1)) (e1 : m1 = (l : Int)) (hl : l ≤ n) (hK : K (.slice (if c = l then A else A.map (·.add (l * s))) (n - l) (c - l)) w) : OpWp P e (.slice t x (some lo) none none) ty w K := fun ρ d p a g hρ => by
  have g0 := hρ _ _ hx; have g1 := hρ _ _ h1
  obtain ⟨hu, hsz⟩ := elem_of ht
  subst e1
  have hr := run_slice_l (P := P) (w := w) t A n c hu k1 (l : Int) (by omega) (by omega)
  simp only [execOp, g0, Option.map_some, Option.map_none, g1, Sem.run_bind, run_sliceAt_slice w t _ _ _ _ hu, hr, hsz, Result.andThen_ok, Sem.run_pure, upto, sliced, Int.toNat_natCast]
  exact hK
end
/-- an invariant of the rounds, carried by the iterator -/
def JK {β : Type} (J : β → World → Prop) (B : Nat) (s : β) (w : World) : Prop := AbidesFrom B J ∧ J s w
theorem JK.ext {β : Type} {J : β → World → Prop} {B : Nat} {s : β} {w w' : World} (h : JK J B s w) (x : Ext w w') : JK J B s w' := ⟨h.1, abides_ext h.1 h.2 x⟩
end Go.Proofs.YtdoibplhbdkapaaGreatDoor
namespace Go.Proofs.YtdoibplhbdkapaaGreatDoor
open Go.RowKit
set_option linter.unusedVariables false
set_option linter.unusedSimpArgs false
set_option maxRecDepth 20000
def cN (d n : Nat) : Nat := (n + d - 1) / d
end Go.Proofs.YtdoibplhbdkapaaGreatDoor
namespace Go.Proofs.YtdoibplhbdkapaaGreatDoor
open Go.RowKit
set_option linter.unusedVariables false
set_option linter.unusedSimpArgs false
set_option maxRecDepth 20000
end Go.Proofs.YtdoibplhbdkapaaGreatDoor
namespace Go.Proofs.YtdoibplhbdkapaaGreatDoor
open Go.RowKit
set_option linter.unusedVariables false
set_option linter.unusedSimpArgs false
set_option maxRecDepth 20000
theorem isB_mem {xs : List Int} (h : isB xs = true) : ∀ x ∈ xs, 0 ≤ x ∧ x ≤ 255 := fun x hx => by
  obtain ⟨k, hk⟩ := List.mem_iff_getElem?.1 hx
  exact isB_at h hk
end Go.Proofs.YtdoibplhbdkapaaGreatDoor
namespace Go.Proofs.YtdoibplhbdkapaaGreatDoor
open Go.RowKit
set_option linter.unusedVariables false
set_option linter.unusedSimpArgs false
section
variable {P : Program} {e : List (Nat × Value)} {ty t t' el : TypeId} {w : World} {K : Value → World → Prop} {x y : Operand} {A : Option Addr} {n c : Nat}
end
theorem Own.pre {w : World} {lo n c s h : Nat} {t : TypeId} {A : Option Addr} {cs : List Value} (o : Own w lo t s A n c cs) (hh : h ≤ n) : Own w lo t s A h c (cs.take (h * s)) := by
  have hl : (cs.take (h * s)).length = h * s := by
    rw [List.length_take, o.1]
    exact Nat.min_eq_left (Nat.mul_le_mul_right s hh)
  refine ⟨hl, ?_⟩
  rcases o.2 with ⟨h1, h2⟩ | ⟨g, cap, cur, hv, hlo, hg, hnc, hm, hs, hc⟩
  · simp only [Value.slice.injEq] at h1
    obtain ⟨rfl, h3, rfl⟩ := h1
    left
    have h4 : h = 0 := by omega
    subst h4
    exact ⟨rfl, rfl⟩
  · simp only [Value.slice.injEq] at hv
    obtain ⟨rfl, _, rfl⟩ := hv
    right
    refine ⟨g, c, cur, rfl, hlo, hg, by omega, hm, hs, ?_⟩
    rw [← hc, List.take_take, Nat.min_eq_left (Nat.mul_le_mul_right s hh)]
section
variable {P : Program} {n : Nat} {fn : Func} {R : Value → World → Prop} {e : List (Nat × Value)} {w : World}
end
section
variable {P : Program} {e : List (Nat × Value)} {ty t t' : TypeId} {w : World} {K : Value → World → Prop} {x y : Operand} {a : Array Value}
end
section
variable {P : Program} {e : List (Nat × Value)} {w : World} {K : Value → World → Prop} {ty t el : TypeId} {x hi : Operand} {s n c h : Nat} {A : Option Addr} {k2 : IntKind} {m2 : Int}
theorem ow_sliceHO (ht : elO P t = some (el, s)) (hx : evO e x = some (.slice A n c)) (h2 : evO e hi = some (.int k2 m2)) (e2 : m2 = (h : Int))
    (hc : h ≤ c) (hK : K (.slice A h c) w) : OpWp P e (.slice t x none (some hi) none) ty w K := fun ρ d p a g hρ => by
  have g0 := hρ _ _ hx; have g2 := hρ _ _ h2
  obtain ⟨hu, hsz⟩ := elem_of ht
  subst e2
  have hr := run_slice_h (P := P) (w := w) t A n c hu k2 (h : Int) (by omega) (by omega)
  simp only [execOp, g0, Option.map_some, Option.map_none, g2, Sem.run_bind, run_sliceAt_slice w t _ _ _ _ hu, hr, hsz, Result.andThen_ok, Sem.run_pure, upto, sliced, Int.toNat_natCast]
  have e1 : (if c = 0 then A else A.map (·.add (0 * s))) = A := by split <;> simp [map_add0]
  simpa [map_add0] using hK
end
end Go.Proofs.YtdoibplhbdkapaaGreatDoor
namespace Go.Proofs.YtdoibplhbdkapaaGreatDoor
open Go.RowKit
set_option linter.unusedVariables false
set_option linter.unusedSimpArgs false
set_option maxRecDepth 20000
theorem equalI_n (A : Option Addr) (B c n : Nat) (xs : List Int) (A2 : Option Addr) (B2 c2 n2 : Nat) (ys : List Int) (w : World) (hs : Sl B w A (xs.flatMap eI)) (h2 : Sl B2 w A2 (ys.flatMap eI)) (hl : xs.length ≤ 1048576) (e1 : xs.length = n) (e2 : ys.length = n2) :
    Calls Tryz.prog 168 #[.slice A n c, .slice A2 n2 c2] w (Ret fun v w' => v = .bool (decide (xs = ys)) ∧ Ext w w') := by
  subst e1; subst e2; exact equalI_c A B c xs A2 B2 c2 ys w hs h2 hl
theorem getD_of {p : List Int} {k : Nat} {x : Int} (h : p[k]? = some x) : p.getD k 0 = x := by rw [List.getD_eq_getElem?_getD, h]; rfl
end Go.Proofs.YtdoibplhbdkapaaGreatDoor
namespace Go.Proofs.YtdoibplhbdkapaaGreatDoor
open Go.RowKit
set_option linter.unusedVariables false
set_option linter.unusedSimpArgs false
set_option maxRecDepth 20000
def strB (l : List Int) : ByteArray := ⟨(l.map fun x => x.toNat.toUInt8).toArray⟩
theorem strB_list (l : List Int) : (strB l).data.toList = l.map fun x => x.toNat.toUInt8 := by simp [strB]
theorem strB_size (l : List Int) : (strB l).size = l.length := by
  rw [ByteArray.size, ← Array.length_toList, strB_list, List.length_map]
def runP (l : List Int) : ByteArray := ⟨(l.flatMap fun x => (Utf8.encode x).data.toList).toArray⟩
theorem runP_list (l : List Int) : (runP l).data.toList = l.flatMap fun x => (Utf8.encode x).data.toList := by simp [runP]
theorem ba_ext {a b : ByteArray} (h : a.data.toList = b.data.toList) : a = b := by
  cases a; cases b
  simp only at h
  congr 1
  exact Array.toList_inj.1 h
theorem runP_step {l : List Int} {k : Nat} {x : Int} (h : l[k]? = some x) : runP (l.take (k + 1)) = runP (l.take k) ++ Utf8.encode x := by
  apply ba_ext
  rw [runP_list, List.take_add_one, h, ByteArray.data_append, Array.toList_append, runP_list]
  simp [List.flatMap_append]
theorem enc_low {x : Int} (h : 0 ≤ x ∧ x ≤ 127) : (Utf8.encode x).data.toList = [x.toNat.toUInt8] := by
  have hv : Utf8.valid x = true := by simp only [Utf8.valid, Bool.or_eq_true, Bool.and_eq_true, decide_eq_true_eq]; omega
  unfold Utf8.encode
  simp only [hv, if_true]
  rw [if_pos (by omega)]
theorem enc_high {x : Int} (h : 128 ≤ x ∧ x ≤ 255) : ∃ b c : UInt8, (Utf8.encode x).data.toList = [b, c] ∧ nameB b = false := by
  have hv : Utf8.valid x = true := by simp only [Utf8.valid, Bool.or_eq_true, Bool.and_eq_true, decide_eq_true_eq]; omega
  unfold Utf8.encode
  simp only [hv, if_true]
  rw [if_neg (by omega), if_pos (by omega)]
  refine ⟨_, _, rfl, ?_⟩
  have e : (UInt8.ofNat (192 + x.toNat / 64)).toNat = 192 + x.toNat / 64 := by
    rw [UInt8.toNat_ofNat']; omega
  show ((decide (97 ≤ (UInt8.ofNat (192 + x.toNat / 64)).toNat) && decide ((UInt8.ofNat (192 + x.toNat / 64)).toNat ≤ 122)) || (decide (48 ≤ (UInt8.ofNat (192 + x.toNat / 64)).toNat) && decide ((UInt8.ofNat (192 + x.toNat / 64)).toNat ≤ 57))) = false
  rw [e, decide_eq_false (p := 192 + x.toNat / 64 ≤ 122) (by omega), decide_eq_false (p := 192 + x.toNat / 64 ≤ 57) (by omega)]
  simp
theorem enc_size (x : Int) : (Utf8.encode x).size ≤ 4 := by
  unfold Utf8.encode
  simp only []
  split
  · split <;> (try split) <;> (try split) <;> simp [ByteArray.size]
  · split <;> (try split) <;> (try split) <;> simp [ByteArray.size]
theorem runP_size : ∀ (l : List Int), (runP l).size ≤ 4 * l.length
  | [] => by simp [runP, ByteArray.size]
  | x :: r => by
    have h1 := runP_size r
    have h2 := enc_size x
    rw [ByteArray.size, ← Array.length_toList, runP_list] at h1 ⊢
    rw [ByteArray.size, ← Array.length_toList] at h2
    rw [List.flatMap_cons, List.length_append, List.length_cons]; omega
theorem low_flat : ∀ (l : List Int), (∀ x ∈ l, 0 ≤ x ∧ x ≤ 127) → l.flatMap (fun x => (Utf8.encode x).data.toList) = l.map fun x => x.toNat.toUInt8
  | [], _ => rfl
  | x :: r, h => by rw [List.flatMap_cons, List.map_cons, enc_low (h x (by simp)), low_flat r fun y hy => h y (by simp [hy])]; rfl
/-- both readings give the same name, or no name at all -/
theorem name_both {l : List Int} (hb : ∀ x ∈ l, 0 ≤ x ∧ x ≤ 255) : runP l = strB l ∨ (nameOk (runP l) = false ∧ nameOk (strB l) = false) := by
  by_cases h : ∀ x ∈ l, x ≤ 127
  · left
    apply ba_ext
    rw [runP_list, strB_list]
    exact low_flat l fun x hx => ⟨(hb x hx).1, h x hx⟩
  · right
    obtain ⟨x, h1⟩ := Classical.not_forall.1 h
    obtain ⟨h1, h2⟩ := Classical.not_imp.1 h1
    have hx := hb x h1
    constructor
    · obtain ⟨b, c, e, hn⟩ := enc_high (x := x) (by omega)
      have hm : b ∈ (runP l).data.toList := by
        rw [runP_list]; exact List.mem_flatMap.2 ⟨x, h1, by rw [e]; simp⟩
      have : (runP l).data.toList.all nameB = false := by
        rw [Bool.eq_false_iff]
        intro hall
        rw [List.all_eq_true.1 hall b hm] at hn; cases hn
      rw [nameOk, this]; rfl
    · have hm : x.toNat.toUInt8 ∈ (strB l).data.toList := by
        rw [strB_list]; exact List.mem_map.2 ⟨x, h1, rfl⟩
      have hn : nameB x.toNat.toUInt8 = false := by
        have e : (x.toNat.toUInt8).toNat = x.toNat := by
          show (UInt8.ofNat x.toNat).toNat = _
          rw [UInt8.toNat_ofNat']; omega
        unfold nameB
        rw [e, decide_eq_false (p := x.toNat ≤ 122) (by omega), decide_eq_false (p := x.toNat ≤ 57) (by omega)]; simp
      have : (strB l).data.toList.all nameB = false := by
        rw [Bool.eq_false_iff]
        intro hall
        rw [List.all_eq_true.1 hall _ hm] at hn; cases hn
      rw [nameOk, this]; rfl
def nodeE (xs : List Int) (a : Nat) : NodeI := ⟨xs.getD a 0, strB ((xs.drop (a + 5)).take (xs.getD (a + 4) 0).toNat), 256 * xs.getD (a + 1) 0 + xs.getD (a + 2) 0, decide (xs.getD (a + 3) 0 = 1)⟩
def nmL (xs : List Int) (a : Nat) : Nat := (xs.getD (a + 4) 0).toNat
def prsN (xs : List Int) : Nat → Nat → Option (List NodeI × Nat)
  | 0, a => some ([], a)
  | n + 1, a => if a + 5 ≤ xs.length ∧ a + 5 + nmL xs a ≤ xs.length then (prsN xs n (a + 5 + nmL xs a)).map fun r => (nodeE xs a :: r.1, r.2) else none
def rdN (xs : List Int) : Option (List NodeI × Nat) := if xs.length = 0 then none else match prsN xs (xs.getD 0 0).toNat 1 with
  | some r => if isNT r.1 = true ∧ ntB r.1 = xs.take r.2 then some r else none
  | none => none
theorem prsN_at (xs : List Int) : ∀ (n a : Nat) (r : List NodeI × Nat), prsN xs n a = some r → a ≤ xs.length → r.2 ≤ xs.length ∧ a ≤ r.2 ∧ r.1.length = n
  | 0, a, r, h, ha => by simp [prsN] at h; subst h; exact ⟨ha, Nat.le_refl _, rfl⟩
  | n + 1, a, r, h, ha => by
    rw [prsN] at h
    split at h
    · rename_i h1
      cases h2 : prsN xs n (a + 5 + nmL xs a) with
      | none => rw [h2] at h; simp at h
      | some q =>
        rw [h2] at h
        simp only [Option.map_some, Option.some.injEq] at h
        obtain ⟨h3, h4, h5⟩ := prsN_at xs n _ q h2 h1.2
        rw [← h]
        exact ⟨h3, by show a ≤ q.2; omega, by simp [h5]⟩
    · cases h
theorem prsN_step {xs : List Int} {rem a : Nat} (hr : 0 < rem) (h : a + 5 + nmL xs a ≤ xs.length) : prsN xs rem a = (prsN xs (rem - 1) (a + 5 + nmL xs a)).map fun r => (nodeE xs a :: r.1, r.2) := by
  obtain ⟨r, rfl⟩ : ∃ r, rem = r + 1 := ⟨rem - 1, by omega⟩
  rw [prsN, if_pos ⟨by omega, h⟩]; rfl
theorem prsN_short {xs : List Int} {rem a : Nat} (hr : 0 < rem) (h : xs.length < a + 5 + nmL xs a) : prsN xs rem a = none := by
  obtain ⟨r, rfl⟩ : ∃ r, rem = r + 1 := ⟨rem - 1, by omega⟩
  rw [prsN, if_neg (by omega)]
theorem rdN_empty {xs : List Int} (h : xs.length = 0) : rdN xs = none := by rw [rdN, if_pos h]
theorem rdN_none {xs : List Int} (h : xs.length ≠ 0) (hp : prsN xs (xs.getD 0 0).toNat 1 = none) : rdN xs = none := by rw [rdN, if_neg h, hp]
theorem rdN_some {xs : List Int} {r : List NodeI × Nat} (h : xs.length ≠ 0) (hp : prsN xs (xs.getD 0 0).toNat 1 = some r) (ht : isNT r.1 = true) (hb : ntB r.1 = xs.take r.2) : rdN xs = some r := by rw [rdN, if_neg h, hp]; simp [ht, hb]
theorem rdN_not {xs : List Int} {r : List NodeI × Nat} (h : xs.length ≠ 0) (hp : prsN xs (xs.getD 0 0).toNat 1 = some r) (ht : isNT r.1 = false) : rdN xs = none := by rw [rdN, if_neg h, hp]; simp [ht]
theorem rdN_not2 {xs : List Int} {r : List NodeI × Nat} (h : xs.length ≠ 0) (hp : prsN xs (xs.getD 0 0).toNat 1 = some r) (hb : ntB r.1 ≠ xs.take r.2) : rdN xs = none := by rw [rdN, if_neg h, hp]; simp [hb]
theorem rdN_in {xs : List Int} {r : List NodeI × Nat} (h : rdN xs = some r) : isNT r.1 = true ∧ ntB r.1 = xs.take r.2 ∧ r.2 ≤ xs.length := by
  unfold rdN at h
  split at h
  · cases h
  · rename_i h0
    split at h
    · rename_i q hq
      split at h
      · rename_i h1
        injection h with h; subst h
        exact ⟨h1.1, h1.2, (prsN_at xs _ 1 _ hq (by omega)).1⟩
      · cases h
    · cases h
def RdN (o : Option (List NodeI × Nat)) (ys : List NodeI) (sz : Int) (ok : Bool) : Prop := match o with
  | none => ys = [] ∧ sz = 0 ∧ ok = false
  | some r => ys = r.1 ∧ sz = (r.2 : Int) ∧ ok = true
theorem RdN.f {o : Option (List NodeI × Nat)} {ys : List NodeI} {sz : Int} (h : RdN o ys sz false) : o = none ∧ ys = [] ∧ sz = 0 := by
  cases o with
  | none => exact ⟨rfl, h.1, h.2.1⟩
  | some r => exact absurd h.2.2 (by decide)
theorem RdN.t {o : Option (List NodeI × Nat)} {ys : List NodeI} {sz : Int} (h : RdN o ys sz true) : ∃ r, o = some r ∧ ys = r.1 ∧ sz = (r.2 : Int) := by
  cases o with
  | none => exact absurd h.2.2 (by decide)
  | some r => exact ⟨r, rfl, h.1, h.2.1⟩
def c4 (xs : List Int) (a : Nat) : Nat := nAt xs (nAt xs (nAt xs (nAt xs a)))
def b4 (xs : List Int) (a : Nat) (b : Bool) : Bool := nBad xs (nAt xs (nAt xs (nAt xs a))) (nBad xs (nAt xs (nAt xs a)) (nBad xs (nAt xs a) (nBad xs a b)))
def entN (xs : List Int) (a : Nat) : List Int × Nat × Bool := someR xs (nV xs (c4 xs a)).toNat (nAt xs (c4 xs a)) (nBad xs (c4 xs a) (b4 xs a false))
def nodeR (xs : List Int) (a : Nat) : NodeI := ⟨nV xs a, runP (entN xs a).1, 256 * nV xs (nAt xs a) + nV xs (nAt xs (nAt xs a)), decide (nV xs (nAt xs (nAt xs (nAt xs a))) = 1)⟩
theorem entN_le {xs : List Int} {a : Nat} (ha : a ≤ xs.length) : (entN xs a).2.1 ≤ xs.length := someR_le xs _ _ _ (nAt_le (nAt_le (nAt_le (nAt_le (nAt_le ha)))))
theorem entN_len {xs : List Int} (hb : isB xs = true) (a : Nat) : (entN xs a).1.length ≤ 255 := by
  have h1 := nV_in hb (c4 xs a)
  exact Nat.le_trans (someR_len xs _ _ _) (by omega)
theorem entN_good {xs : List Int} {a : Nat} (h : a + 5 + nmL xs a ≤ xs.length) :
    entN xs a = ((xs.drop (a + 5)).take (nmL xs a), a + 5 + nmL xs a, false) ∧ nV xs a = xs.getD a 0 ∧ nV xs (nAt xs a) = xs.getD (a + 1) 0 ∧ nV xs (nAt xs (nAt xs a)) = xs.getD (a + 2) 0 ∧ nV xs (nAt xs (nAt xs (nAt xs a))) = xs.getD (a + 3) 0 := by
  obtain ⟨h1, h2, h3⟩ := n_ok (show a < xs.length by omega) false
  obtain ⟨h4, h5, h6⟩ := n_ok (show a + 1 < xs.length by omega) false
  obtain ⟨h7, h8, h9⟩ := n_ok (show a + 1 + 1 < xs.length by omega) false
  obtain ⟨h10, h11, h12⟩ := n_ok (show a + 1 + 1 + 1 < xs.length by omega) false
  obtain ⟨h13, h14, h15⟩ := n_ok (show a + 1 + 1 + 1 + 1 < xs.length by omega) false
  have e4 : c4 xs a = a + 4 := by unfold c4; rw [h1, h4, h7, h10]
  have e5 : b4 xs a false = false := by unfold b4; rw [h1, h4, h7, h2, h5, h8, h11]
  refine ⟨?_, h3, by rw [h1, h6], by rw [h1, h4, h9], by rw [h1, h4, h7, h12]⟩
  unfold entN
  rw [e4, e5, h13, h14, h15]
  exact someR_good xs _ _ h
theorem entN_short {xs : List Int} {a : Nat} (ha : a ≤ xs.length) (h : xs.length < a + 5 + nmL xs a) : (entN xs a).2.2 = true := by
  unfold entN
  by_cases e : nBad xs (c4 xs a) (b4 xs a false) = true
  · rw [e]; exact someR_bad xs _ _
  · have e0 : ¬ a = xs.length := fun h => e (by
      have : nBad xs a false = true := by unfold nBad; rw [if_pos h]
      unfold b4; rw [this, nBad_keep, nBad_keep, nBad_keep, nBad_keep])
    obtain ⟨h1, h2, h3⟩ := n_ok (show a < xs.length by omega) false
    have e1 : ¬ a + 1 = xs.length := fun h => e (by
      have : nBad xs (a + 1) (nBad xs a false) = true := by unfold nBad; rw [if_pos h]
      unfold b4; rw [h1, this, nBad_keep, nBad_keep, nBad_keep])
    obtain ⟨h4, h5, h6⟩ := n_ok (show a + 1 < xs.length by omega) false
    have e2 : ¬ a + 1 + 1 = xs.length := fun h => e (by
      have : nBad xs (a + 1 + 1) (nBad xs (a + 1) (nBad xs a false)) = true := by unfold nBad; rw [if_pos h]
      unfold b4; rw [h1, h4, this, nBad_keep, nBad_keep])
    obtain ⟨h7, h8, h9⟩ := n_ok (show a + 1 + 1 < xs.length by omega) false
    have e3 : ¬ a + 1 + 1 + 1 = xs.length := fun h => e (by
      have : nBad xs (a + 1 + 1 + 1) (nBad xs (a + 1 + 1) (nBad xs (a + 1) (nBad xs a false))) = true := by unfold nBad; rw [if_pos h]
      unfold b4; rw [h1, h4, h7, this, nBad_keep])
    obtain ⟨h10, h11, h12⟩ := n_ok (show a + 1 + 1 + 1 < xs.length by omega) false
    have e4 : c4 xs a = a + 4 := by unfold c4; rw [h1, h4, h7, h10]
    have e5 : ¬ a + 1 + 1 + 1 + 1 = xs.length := fun h => e (by
      rw [e4]; unfold nBad; rw [if_pos h])
    obtain ⟨h13, h14, h15⟩ := n_ok (show a + 1 + 1 + 1 + 1 < xs.length by omega) false
    have e6 : b4 xs a false = false := by unfold b4; rw [h1, h4, h7, h2, h5, h8, h11]
    rw [e4, e6, h13, h14, h15]
    exact someR_short xs _ _ (by omega) (by show xs.length < a + 5 + nmL xs a; exact h)
/-- the table as the cursor reads it, and as it is: alike, or neither is a table -/
def RelN (ys zs : List NodeI) : Prop := ys = zs ∨ ((∃ y ∈ ys, nodeOk y = false) ∧ ∃ z ∈ zs, nodeOk z = false)
theorem RelN.snoc {ys zs : List NodeI} {y z : NodeI} (h : RelN ys zs) (h2 : y = z ∨ (nodeOk y = false ∧ nodeOk z = false)) : RelN (ys ++ [y]) (zs ++ [z]) := by
  rcases h with h | ⟨⟨u, hu, hu2⟩, v, hv, hv2⟩
  · rcases h2 with h2 | ⟨h2, h3⟩
    · left; rw [h, h2]
    · right; exact ⟨⟨y, by simp, h2⟩, z, by simp, h3⟩
  · right; exact ⟨⟨u, by simp [hu], hu2⟩, v, by simp [hv], hv2⟩
theorem not_nt {ys : List NodeI} (h : ∃ y ∈ ys, nodeOk y = false) : isNT ys = false := by
  obtain ⟨y, h1, h2⟩ := h
  rw [Bool.eq_false_iff]
  intro h3
  rw [isNT_all h3 y h1] at h2; cases h2
theorem nodeR_rel {xs : List Int} (hb : isB xs = true) {a : Nat} (h : a + 5 + nmL xs a ≤ xs.length) : nodeR xs a = nodeE xs a ∨ (nodeOk (nodeR xs a) = false ∧ nodeOk (nodeE xs a) = false) := by
  obtain ⟨e, h1, h2, h3, h4⟩ := entN_good h
  have hl : ∀ x ∈ (xs.drop (a + 5)).take (nmL xs a), 0 ≤ x ∧ x ≤ 255 := fun x hx => by
    obtain ⟨k, hk⟩ := List.mem_iff_getElem?.1 (List.mem_of_mem_drop (List.mem_of_mem_take hx))
    exact isB_at hb hk
  have e1 : nodeR xs a = ⟨xs.getD a 0, runP ((xs.drop (a + 5)).take (nmL xs a)), 256 * xs.getD (a + 1) 0 + xs.getD (a + 2) 0, decide (xs.getD (a + 3) 0 = 1)⟩ := by
    unfold nodeR; rw [e, h1, h2, h3, h4]
  rw [e1]
  rcases name_both hl with h5 | ⟨h5, h6⟩
  · left; rw [h5]; rfl
  · right
    unfold nodeE
    change nameOk (strB ((xs.drop (a + 5)).take (nmL xs a))) = false at h6
    constructor
    · simp only [nodeOk, h5, Bool.and_false, Bool.false_and]
    · have h7 : nameOk (strB ((xs.drop (a + 5)).take (xs.getD (a + 4) 0).toNat)) = false := h6
      simp only [nodeOk, h7, Bool.and_false, Bool.false_and]
def HgN (xs : List Int) (rem a : Nat) (b : Bool) (ys : List NodeI) : Prop :=
  (b = false → xs.length ≠ 0 ∧ ∃ zs, RelN ys zs ∧ prsN xs (xs.getD 0 0).toNat 1 = (prsN xs rem a).map fun r => (zs ++ r.1, r.2)) ∧ (b = true → rdN xs = none)
theorem HgN.start (xs : List Int) : HgN xs (nV xs 0).toNat (nAt xs 0) (nBad xs 0 false) [] := by
  by_cases h : xs.length = 0
  · have e : nBad xs 0 false = true := by unfold nBad; rw [if_pos h.symm]
    rw [e]
    exact ⟨fun hh => (by cases hh), fun _ => rdN_empty h⟩
  · obtain ⟨h1, h2, h3⟩ := n_ok (xs := xs) (a := 0) (by omega) false
    rw [h1, h2, h3]
    refine ⟨fun _ => ⟨h, [], .inl rfl, ?_⟩, fun hh => (by cases hh)⟩
    cases prsN xs (xs.getD 0 0).toNat (0 + 1) <;> simp
theorem HgN.step {xs : List Int} {rem a : Nat} {ys : List NodeI} (hB : isB xs = true) (h : HgN xs rem a false ys) (hr : 0 < rem) (ha : a ≤ xs.length) :
    HgN xs (rem - 1) (entN xs a).2.1 (entN xs a).2.2 (ys ++ [nodeR xs a]) := by
  obtain ⟨h3, zs, h4, h5⟩ := h.1 rfl
  by_cases hg : a + 5 + nmL xs a ≤ xs.length
  · obtain ⟨e, _⟩ := entN_good hg
    rw [e]
    refine ⟨fun _ => ⟨h3, zs ++ [nodeE xs a], h4.snoc (nodeR_rel hB hg), ?_⟩, fun hb => by cases hb⟩
    rw [h5, prsN_step hr hg]
    cases prsN xs (rem - 1) (a + 5 + nmL xs a) <;> simp
  · have e := entN_short ha (by omega)
    rw [e]
    refine ⟨fun hb => (by cases hb), fun _ => rdN_none h3 ?_⟩
    rw [h5, prsN_short hr (by omega)]; rfl
theorem HgN.stop {xs : List Int} {a : Nat} {ys : List NodeI} (h : HgN xs 0 a false ys) : (isNT ys = false → rdN xs = none) ∧ (isNT ys = true → ntB ys ≠ xs.take a → rdN xs = none) ∧ (isNT ys = true → ntB ys = xs.take a → rdN xs = some (ys, a)) := by
  obtain ⟨h3, zs, h4, h5⟩ := h.1 rfl
  have h6 : prsN xs (xs.getD 0 0).toNat 1 = some (zs, a) := by rw [h5]; simp [prsN]
  rcases h4 with rfl | ⟨h7, h8⟩
  · exact ⟨fun h => rdN_not h3 h6 h, fun _ h => rdN_not2 h3 h6 h, fun h1 h2 => rdN_some h3 h6 h1 h2⟩
  · have h9 := not_nt h7
    exact ⟨fun _ => rdN_not h3 h6 (not_nt h8), fun h => (by rw [h9] at h; cases h), fun h => (by rw [h9] at h; cases h)⟩
section
variable {P : Program} {n : Nat} {ops : Array Oper} {K : List (Nat × Value) → World → Prop} {l : List Oper} {fl : List Bool} {e : List (Nat × Value)} {S : World → Prop}
end
theorem ow_convIS {P : Program} {e : List (Nat × Value)} {w : World} {K : Value → World → Prop} {ty : TypeId} {x : Operand} {src dst : TypeId} {k k1 : IntKind} {n : Int} (hs : P.underlying src = some (.int k1)) (hd : P.underlying dst = some .string) (hx : evO e x = some (.int k n)) (h : K (.string (Utf8.encode n)) w) : OpWp P e (.convert src dst x) ty w K := fun ρ d p a g hρ => by
  have h1 := hρ _ _ hx
  simp [execOp, h1, convert, run_underlying hs, run_underlying hd, Conv.intToString, upto]; exact h
theorem wi32 {n : Int} (h : 0 ≤ n ∧ n ≤ 255) : IntKind.i32.wrap n = n := by
  have h1 : n % 4294967296 = n := by omega
  simp [IntKind.wrap, IntKind.bits, IntKind.signed, h1]; omega
theorem wu8n {n : Int} (h : 0 ≤ n ∧ n ≤ 255) : IntKind.u8.wrap n = ((n.toNat.toUInt8).toNat : Int) := by
  have h1 : n % 256 = n := by omega
  have e : (n.toNat.toUInt8).toNat = n.toNat := by
    show (UInt8.ofNat n.toNat).toNat = _
    rw [UInt8.toNat_ofNat']; omega
  rw [e]
  simp [IntKind.wrap, IntKind.bits, IntKind.signed, h1]; omega
theorem sameI_n (A : Option Addr) (B c n : Nat) (xs : List Int) (A2 : Option Addr) (B2 c2 n2 : Nat) (ys : List Int) (w : World) (hs : Sl B w A (xs.flatMap eI)) (h2 : Sl B2 w A2 (ys.flatMap eI)) (hl : xs.length ≤ 1048576) (e1 : xs.length = n) (e2 : ys.length = n2) :
    Calls Tryz.prog 240 #[.slice A n c, .slice A2 n2 c2] w (Ret fun v w' => v = .bool (decide (xs = ys)) ∧ Ext w w') := by
  subst e1; subst e2; exact sameI_c A B c xs A2 B2 c2 ys w hs h2 hl
theorem someR_b {xs : List Int} (hb : isB xs = true) : ∀ (n a : Nat) (bad : Bool), ∀ x ∈ (someR xs n a bad).1, 0 ≤ x ∧ x ≤ 255
  | 0, a, bad, x, hx => by simp [someR] at hx
  | n + 1, a, true, x, hx => by simp [someR] at hx
  | n + 1, a, false, x, hx => by
    simp only [someR] at hx
    rcases List.mem_cons.1 hx with rfl | h
    · exact nV_in hb a
    · exact someR_b hb n _ _ x h
theorem entN_b {xs : List Int} {a k : Nat} {z : Int} (hb : isB xs = true) (h : (entN xs a).1[k]? = some z) : 0 ≤ z ∧ z ≤ 255 := someR_b hb _ _ _ z (List.mem_of_getElem? h)
theorem one_bytes (bs : List UInt8) : ∀ u ∈ bs.flatMap eB, u.oneCell' = true := fun u hu => by
  obtain ⟨x, _, h⟩ := List.mem_flatMap.1 hu
  simp only [eB, List.mem_cons, List.not_mem_nil, or_false] at h
  subst h; rfl
theorem byteL_step {xs : List Int} {k a : Nat} {x : Int} (h : xs[a + k]? = some x) : ((xs.drop a).take (k + 1)).map (fun x => x.toNat.toUInt8) = ((xs.drop a).take k).map (fun x => x.toNat.toUInt8) ++ [x.toNat.toUInt8] := by
  rw [List.take_add_one, List.getElem?_drop, h]; simp
end Go.Proofs.YtdoibplhbdkapaaGreatDoor
