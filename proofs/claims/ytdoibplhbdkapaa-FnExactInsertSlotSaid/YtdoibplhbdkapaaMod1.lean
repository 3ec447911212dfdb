/- What the program's functions compute, as plain functions on lists; no program in sight. No condition. -/
import Derived.Test.YtdoibplhbdkapaaFlowF
import Derived.Test.YtdoibplhbdkapaaFlowH
namespace Go.Proofs.Ytdoibplhbdkapaa
open Go.RowKit
set_option linter.unusedVariables false
set_option linter.unusedSimpArgs false

def inB (a b c : Int) : Bool := decide (b ≤ a) && decide (a ≤ c)
theorem inB_iff {a b c : Int} : inB a b c = true ↔ b ≤ a ∧ a ≤ c := by simp [inB]

/-! demands -/
def evB (a : Int) : Bool := decide (a = 1) || decide (a = 2) || decide (a = 4) || decide (a = 8)
def demOk (d : Dem) : Bool := inB d.node 0 31 && evB d.every && inB d.size 1 32
def areD (xs : List Dem) : Bool := xs.all demOk && decide (xs.length ≤ 40)

/-! bytes -/
def isB (xs : List Int) : Bool := decide ((xs.length : Int) ≤ 1024) && xs.all fun x => inB x 0 255
theorem isB_at {xs : List Int} {k : Nat} {x : Int} (h : isB xs = true) (hx : xs[k]? = some x) : 0 ≤ x ∧ x ≤ 255 := by
  have h1 := List.all_eq_true.1 (by simp only [isB, Bool.and_eq_true] at h; exact h.2) x (List.mem_of_getElem? hx)
  simpa [inB] using h1
theorem isB_len {xs : List Int} (h : isB xs = true) : xs.length ≤ 1024 := by
  simp only [isB, Bool.and_eq_true, decide_eq_true_eq] at h; omega

/-! descriptors, slots -/
def dataOk (k z : Int) : Bool := if k = 0 then inB z 0 32 else if k = 2 then inB z 1 32 else decide (z = 0)
def bodyS (k z : Int) : Int := 1 + (if k = 0 then 0 else 8) + (if k = 0 ∨ k = 2 then 1 + z else 0)
def cellsS (k z : Int) : Int := 11 + 10 * (bodyS k z + 3)
def descOk (d : Desc) : Bool := inB d.node 0 31 && inB d.kind 0 3 && dataOk d.kind d.size && !(d.change && decide (d.kind = 3)) && inB d.duration (cellsS d.kind d.size + 20) 1000
def slotOk (x : SlotI) : Bool := inB x.mode 0 15 && inB x.round 0 7 && inB x.slot 0 15 && descOk x.desc
def okFrom : Option SlotI → List SlotI → Bool
  | _, [] => true
  | none, x :: r => slotOk x && okFrom (some x) r
  | some y, x :: r => slotOk x && decide (cmpS y x < 0) && okFrom (some x) r
def isST (xs : List SlotI) : Bool := okFrom none xs && decide (xs.length ≤ 120)
def prevO (xs : List SlotI) (k : Nat) : Option SlotI := if k = 0 then none else xs[k - 1]?
theorem prevO_succ {xs : List SlotI} {k : Nat} {x : SlotI} (h : xs[k]? = some x) : prevO xs (k + 1) = some x := by simp [prevO, h]
theorem prevO_pos {xs : List SlotI} {k : Nat} {y : SlotI} (hk : 0 < k) (h : xs[k - 1]? = some y) : prevO xs k = some y := by rw [prevO, if_neg (by omega)]; exact h
theorem prevO_zero {xs : List SlotI} {k : Nat} (hk : ¬ 0 < (k : Int)) : prevO xs k = none := by rw [prevO, if_pos (by omega)]
theorem okFrom_all : ∀ (xs : List SlotI) (p : Option SlotI), okFrom p xs = true → ∀ x ∈ xs, slotOk x = true
  | [], _, _, x, hx => by simp at hx
  | y :: r, p, h, x, hx => by
    have h1 : slotOk y = true ∧ okFrom (some y) r = true := by
      cases p <;> simp [okFrom] at h
      · exact h
      · exact ⟨h.1.1, h.2⟩
    rcases List.mem_cons.1 hx with rfl | hx
    · exact h1.1
    · exact okFrom_all r _ h1.2 x hx
theorem isST_at {xs : List SlotI} {k : Nat} {x : SlotI} (h : isST xs = true) (hx : xs[k]? = some x) : slotOk x = true := by
  simp only [isST, Bool.and_eq_true] at h
  exact okFrom_all _ _ h.1 x (List.mem_of_getElem? hx)
theorem isST_len {xs : List SlotI} (h : isST xs = true) : xs.length ≤ 120 := by
  simp only [isST, Bool.and_eq_true, decide_eq_true_eq] at h; exact h.2
def hitS (m r s : Int) (x : SlotI) : Bool := decide (x.mode = m) && decide (x.round = r) && decide (x.slot = s)
/-- the place of the first one that fits, counted from k on; -1 if none -/
def findS (f : SlotI → Bool) (k : Int) : List SlotI → Int
  | [] => -1
  | x :: r => if f x = true then k else findS f (k + 1) r
theorem findS_lt {f : SlotI → Bool} : ∀ (xs : List SlotI) (k : Nat), findS f k xs = -1 ∨ ∃ j x, findS f k xs = ((k + j : Nat) : Int) ∧ xs[j]? = some x ∧ f x = true
  | [], k => .inl rfl
  | x :: r, k => by
    rw [findS]
    split
    · exact .inr ⟨0, x, rfl, rfl, by assumption⟩
    · rcases findS_lt r (k + 1) with h | ⟨j, y, h, h1, h2⟩
      · exact .inl h
      · refine .inr ⟨j + 1, y, ?_, by simpa using h1, h2⟩
        rw [show ((k : Int) + 1) = ((k + 1 : Nat) : Int) by omega, h]; congr 1; omega
end Go.Proofs.Ytdoibplhbdkapaa
