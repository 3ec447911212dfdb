/- Plans: tables of rounds, bookings, and what planning gives. Plain functions. No condition. -/
import Derived.Test.YtdoibplhbdkapaaMod2
namespace Go.Proofs.Ytdoibplhbdkapaa
open Go.RowKit
set_option linter.unusedVariables false
set_option linter.unusedSimpArgs false

structure Bk where
  slot : Int
  phase : Int
def Bk.cells (b : Bk) : List Value := [.int .i64 b.slot, .int .i64 b.phase]
theorem Bk.len (b : Bk) : b.cells.length = 2 := rfl

abbrev Tbl := List (List Int)
def rowT (T : Tbl) (r : Nat) : List Int := T.getD r []
def cellT (T : Tbl) (r s : Nat) : Int := (rowT T r).getD s 0
/-- no demand at slot s in the rounds r, r+e, .. -/
def freeL (T : Tbl) (e s : Nat) : Nat → Nat → Bool
  | 0, _ => true
  | n + 1, r => if r < T.length then (if 0 ≤ cellT T r s then false else freeL T e s n (r + e)) else true
def putC (T : Tbl) (r s : Nat) (k : Int) : Tbl := T.set r ((rowT T r).set s k)
def putL (e s : Nat) (k : Int) : Nat → Nat → Tbl → Tbl
  | 0, _, T => T
  | n + 1, r, T => if r < T.length then putL e s k n (r + e) (putC T r s k) else T
/-- R rows of S numbers -/
def Tab (R S : Nat) (T : Tbl) : Prop := T.length = R ∧ ∀ x ∈ T, x.length = S
section
variable {R S : Nat} {T : Tbl} {r s e n : Nat} {k : Int}
theorem Tab.row (h : Tab R S T) (hr : r < R) : T[r]? = some (rowT T r) ∧ (rowT T r).length = S := by
  have hl : r < T.length := by rw [h.1]; exact hr
  have e : rowT T r = T[r] := by simp [rowT, List.getD_eq_getElem?_getD, List.getElem?_eq_getElem hl]
  rw [e]
  exact ⟨List.getElem?_eq_getElem hl, h.2 _ (List.getElem_mem hl)⟩
theorem Tab.cell (h : Tab R S T) (hr : r < R) (hs : s < S) : (rowT T r)[s]? = some (cellT T r s) := by
  have hl : s < (rowT T r).length := by rw [(h.row hr).2]; exact hs
  rw [cellT, List.getD_eq_getElem?_getD, List.getElem?_eq_getElem hl]; rfl
theorem Tab.putC (h : Tab R S T) (r s : Nat) (k : Int) (hr : r < R) : Tab R S (putC T r s k) := by
  refine ⟨by rw [Go.Proofs.Ytdoibplhbdkapaa.putC, List.length_set]; exact h.1, fun x hx => ?_⟩
  rcases List.mem_or_eq_of_mem_set hx with h1 | rfl
  · exact h.2 x h1
  · rw [List.length_set]; exact (h.row hr).2
theorem Tab.putL (e s : Nat) (k : Int) : ∀ (n r : Nat) {T : Tbl}, Tab R S T → Tab R S (putL e s k n r T)
  | 0, _, _, h => h
  | n + 1, r, T, h => by
    rw [Go.Proofs.Ytdoibplhbdkapaa.putL]
    split
    · rename_i h1; exact Tab.putL e s k n (r + e) (h.putC r s k (by rw [← h.1]; exact h1))
    · exact h
theorem freeL_end (h : T.length ≤ r) : freeL T e s n r = true := by
  cases n with
  | zero => rfl
  | succ n => rw [freeL, if_neg (by omega)]
theorem freeL_bad (hn : 0 < n) (h : r < T.length) (hc : 0 ≤ cellT T r s) : freeL T e s n r = false := by
  cases n with
  | zero => omega
  | succ n => rw [freeL, if_pos h, if_pos hc]
theorem freeL_ok (hn : 0 < n) (h : r < T.length) (hc : ¬ 0 ≤ cellT T r s) : freeL T e s n r = freeL T e s (n - 1) (r + e) := by
  cases n with
  | zero => omega
  | succ n => rw [freeL, if_pos h, if_neg hc]; rfl
theorem putL_end (h : T.length ≤ r) : putL e s k n r T = T := by
  cases n with
  | zero => rfl
  | succ n => rw [putL, if_neg (by omega)]
theorem putL_ok (hn : 0 < n) (h : r < T.length) : putL e s k n r T = putL e s k (n - 1) (r + e) (putC T r s k) := by
  cases n with
  | zero => omega
  | succ n => rw [putL, if_pos h]; rfl
theorem putC_len : (putC T r s k).length = T.length := List.length_set ..
end
def slotsOf (T : Tbl) : Nat := (rowT T 0).length
theorem Tab.slots {R S : Nat} {T : Tbl} (h : Tab R S T) (hR : 0 < R) : slotsOf T = S := (h.row hR).2
def fitsB (T : Tbl) (e : Int) (b : Bk) : Bool := decide (e ≤ T.length) && (inB b.slot 0 ((slotsOf T : Int) - 1) && (inB b.phase 0 (e - 1) && freeL T e.toNat b.slot.toNat T.length b.phase.toNat))
def putB (T : Tbl) (e : Int) (b : Bk) (k : Int) : Tbl := putL e.toNat b.slot.toNat k T.length b.phase.toNat T
theorem Tab.putB {R S : Nat} {T : Tbl} (h : Tab R S T) (e : Int) (b : Bk) (k : Int) : Tab R S (putB T e b k) := Tab.putL _ _ _ _ _ h
/-- the first number from i on, of n -/
def firstF (p : Nat → Bool) : Nat → Nat → Option Nat
  | 0, _ => none
  | n + 1, i => if p i = true then some i else firstF p n (i + 1)
theorem firstF_no {p : Nat → Bool} {n i : Nat} (hn : 0 < n) (h : p i = false) : firstF p n i = firstF p (n - 1) (i + 1) := by
  cases n with
  | zero => omega
  | succ n => rw [firstF, if_neg (by rw [h]; simp)]; rfl
theorem firstF_yes {p : Nat → Bool} {n i : Nat} (hn : 0 < n) (h : p i = true) : firstF p n i = some i := by
  cases n with
  | zero => omega
  | succ n => rw [firstF, if_pos h]
theorem firstF_spec {p : Nat → Bool} : ∀ (n i k : Nat), firstF p n i = some k → i ≤ k ∧ k < i + n ∧ p k = true ∧ ∀ j, i ≤ j → j < k → p j = false
  | 0, _, _, h => by cases h
  | n + 1, i, k, h => by
    rw [firstF] at h
    split at h
    · rename_i hp
      injection h with h; subst h
      exact ⟨Nat.le_refl _, by omega, hp, fun j h1 h2 => by omega⟩
    · rename_i hp
      obtain ⟨h1, h2, h3, h4⟩ := firstF_spec n (i + 1) k h
      refine ⟨by omega, by omega, h3, fun j h5 h6 => ?_⟩
      by_cases e : j = i
      · subst e; simpa using hp
      · exact h4 j (by omega) h6
def bkOf (e i : Nat) : Bk := ⟨((i / e : Nat) : Int), ((i % e : Nat) : Int)⟩
def firstB (T : Tbl) (e : Int) (S : Nat) : Option Nat := firstF (fun i => fitsB T e (bkOf e.toNat i)) (S * e.toNat) 0
def planL (S : Nat) : List Dem → Nat → Tbl → Option (List Bk)
  | [], _, _ => some []
  | d :: ds, k, T => match firstB T d.every S with
    | none => none
    | some i => (planL S ds (k + 1) (putB T d.every (bkOf d.every.toNat i) (k : Int))).map (bkOf d.every.toNat i :: ·)
def tabL : List Dem → List Bk → Nat → Tbl → Option Tbl
  | [], [], _, T => some T
  | d :: ds, b :: bs, k, T => if fitsB T d.every b = true then tabL ds bs (k + 1) (putB T d.every b (k : Int)) else none
  | _, _, _, _ => none
def tab0 (R S : Nat) : Tbl := List.replicate R (List.replicate S (-1))
theorem tab0_tab (R S : Nat) : Tab R S (tab0 R S) := ⟨List.length_replicate .., fun x hx => by rw [List.eq_of_mem_replicate hx, List.length_replicate]⟩
def isEv (n : Int) : Bool := decide (n = 1) || (decide (n = 2) || (decide (n = 4) || decide (n = 8)))
theorem planL_none {S k : Nat} {d : Dem} {ds : List Dem} {T : Tbl} (h : firstB T d.every S = none) : planL S (d :: ds) k T = none := by rw [planL, h]
theorem planL_some {S k i : Nat} {d : Dem} {ds : List Dem} {T : Tbl} (h : firstB T d.every S = some i) : planL S (d :: ds) k T = (planL S ds (k + 1) (putB T d.every (bkOf d.every.toNat i) (k : Int))).map (bkOf d.every.toNat i :: ·) := by rw [planL, h]
theorem tabL_no {k : Nat} {d : Dem} {b : Bk} {ds : List Dem} {bs : List Bk} {T : Tbl} (h : fitsB T d.every b = false) : tabL (d :: ds) (b :: bs) k T = none := by rw [tabL, if_neg (by rw [h]; simp)]
theorem tabL_yes {k : Nat} {d : Dem} {b : Bk} {ds : List Dem} {bs : List Bk} {T : Tbl} (h : fitsB T d.every b = true) : tabL (d :: ds) (b :: bs) k T = tabL ds bs (k + 1) (putB T d.every b (k : Int)) := by rw [tabL, if_pos h]
theorem tabL_len : ∀ (ds : List Dem) (bs : List Bk) (k : Nat) (T T' : Tbl), tabL ds bs k T = some T' → ds.length = bs.length
  | [], [], _, _, _, _ => rfl
  | d :: ds, b :: bs, k, T, T', h => by
    rw [tabL] at h
    split at h
    · have := tabL_len ds bs _ _ _ h; simp [this]
    · cases h
  | [], b :: bs, _, _, _, h => by simp [tabL] at h
  | d :: ds, [], _, _, _, h => by simp [tabL] at h
theorem tabL_tab {R S : Nat} : ∀ (ds : List Dem) (bs : List Bk) (k : Nat) (T T' : Tbl), tabL ds bs k T = some T' → Tab R S T → Tab R S T'
  | [], [], _, _, _, h, ht => by simp [tabL] at h; subst h; exact ht
  | d :: ds, b :: bs, k, T, T', h, ht => by
    rw [tabL] at h
    split at h
    · exact tabL_tab ds bs _ _ _ h (ht.putB _ _ _)
    · cases h
  | [], b :: bs, _, _, _, h, _ => by simp [tabL] at h
  | d :: ds, [], _, _, _, h, _ => by simp [tabL] at h
theorem planL_len {S : Nat} : ∀ (ds : List Dem) (k : Nat) (T : Tbl) (bs : List Bk), planL S ds k T = some bs → bs.length = ds.length
  | [], _, _, bs, h => by simp [planL] at h; subst h; rfl
  | d :: ds, k, T, bs, h => by
    rw [planL] at h
    split at h
    · cases h
    · rename_i i hi
      cases h2 : planL S ds (k + 1) (putB T d.every (bkOf d.every.toNat i) (k : Int)) with
      | none => rw [h2] at h; simp at h
      | some q => rw [h2] at h; simp at h; subst h; simp [planL_len ds _ _ q h2]
/-- what the spec's two loops look at is what the program's one loop looks at -/
theorem bkOf_two {e s p : Nat} (h : p < e) : bkOf e (s * e + p) = ⟨(s : Int), (p : Int)⟩ := by
  have h1 : (s * e + p) / e = s := by rw [Nat.mul_comm, Nat.mul_add_div (by omega), Nat.div_eq_of_lt h]; rfl
  have h2 : (s * e + p) % e = p := by rw [Nat.mul_comm, Nat.mul_add_mod, Nat.mod_eq_of_lt h]
  rw [bkOf, h1, h2]
end Go.Proofs.Ytdoibplhbdkapaa
