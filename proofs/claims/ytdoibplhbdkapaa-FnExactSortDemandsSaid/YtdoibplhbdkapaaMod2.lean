/- Mode tables: entries that hold a list of their own, and the facts that their lists can be read. No condition. -/
import Derived.Test.YtdoibplhbdkapaaMod1
import Derived.Test.YtdoibplhbdkapaaFlowI
namespace Go.Proofs.Ytdoibplhbdkapaa
open Go.RowKit
set_option linter.unusedVariables false
set_option linter.unusedSimpArgs false

structure Mode where
  rounds : Int
  slots : Int
  next : List Int
structure ModeI where
  m : Mode
  A : Option Addr
  c : Nat
def ModeI.cells (x : ModeI) : List Value := [.int .i64 x.m.rounds, .int .i64 x.m.slots, .slice x.A x.m.next.length x.c]
theorem ModeI.len (x : ModeI) : x.cells.length = 3 := rfl

/-- the list of each entry can be read -/
def Nexts (B : Nat) (w : World) (xs : List ModeI) : Prop := B ≤ w.heap.size ∧ ∀ x ∈ xs, Sl B w x.A (x.m.next.flatMap eI) ∧ x.m.next.length ≤ 9223372036854775807
section
variable {B B' : Nat} {w w' : World} {xs ys : List ModeI}
theorem Nexts.at_ {k : Nat} {x : ModeI} (h : Nexts B w xs) (hx : xs[k]? = some x) : Sl B w x.A (x.m.next.flatMap eI) := (h.2 x (List.mem_of_getElem? hx)).1
theorem Nexts.len {k : Nat} {x : ModeI} (h : Nexts B w xs) (hx : xs[k]? = some x) : x.m.next.length ≤ 9223372036854775807 := (h.2 x (List.mem_of_getElem? hx)).2
theorem Nexts.below (h : Nexts B w xs) (hb : Below B w w') : Nexts B w' xs := ⟨Nat.le_trans h.1 hb.size, fun x hx => ⟨(h.2 x hx).1.below hb, (h.2 x hx).2⟩⟩
theorem Nexts.ext (h : Nexts B w xs) (hb : Ext w w') : Nexts B w' xs := h.below (Below.mono hb h.1)
theorem Nexts.grown {row : Option Nat} (h : Nexts B w xs) (hg : w.grownBy w' row) (hr : ∀ g, row = some g → B ≤ g) : Nexts B w' xs := ⟨Nat.le_trans h.1 hg.size, fun x hx => ⟨(h.2 x hx).1.grown hg hr, (h.2 x hx).2⟩⟩
theorem Nexts.more (h : Nexts B w xs) (hB : B ≤ B') (hw : B' ≤ w.heap.size) : Nexts B' w xs := ⟨hw, fun x hx => ⟨(h.2 x hx).1.more hB hw, (h.2 x hx).2⟩⟩
theorem Nexts.nil_ (hB : B ≤ w.heap.size) : Nexts B w [] := ⟨hB, fun x hx => by simp at hx⟩
theorem Nexts.snoc {x : ModeI} (h : Nexts B w xs) (hx : Sl B w x.A (x.m.next.flatMap eI)) (hl : x.m.next.length ≤ 9223372036854775807) : Nexts B w (xs ++ [x]) := ⟨h.1, fun y hy => by
  rcases List.mem_append.1 hy with h1 | h1
  · exact h.2 y h1
  · obtain rfl : y = x := by simpa using h1
    exact ⟨hx, hl⟩⟩
end

/-- the list of each entry is a row of the call's own -/
def NOwn (w : World) (lo : Nat) (t : TypeId) (xs : List ModeI) : Prop := ∀ x ∈ xs, Own w lo t 1 x.A x.m.next.length x.c (x.m.next.flatMap eI) ∧ x.m.next.length ≤ 9223372036854775807
section
variable {w w' : World} {lo lo' n c s g : Nat} {t t' : TypeId} {A : Option Addr} {cs : List Value} {xs : List ModeI}
theorem NOwn.nil_ : NOwn w lo t [] := fun x hx => by simp at hx
theorem NOwn.ext (h : NOwn w lo t xs) (hb : Ext w w') : NOwn w' lo t xs := fun x hx => ⟨(h x hx).1.ext hb, (h x hx).2⟩
theorem NOwn.low (h : NOwn w lo t xs) (hl : lo' ≤ lo) : NOwn w lo' t xs := fun x hx => ⟨(h x hx).1.low hl, (h x hx).2⟩
theorem NOwn.grownO (h : NOwn w lo t xs) (k : Own w lo' t' s A n c cs) (hg : w.grownBy w' (Value.slice A n c).ownBlock) (ht : t ≠ t') : NOwn w' lo t xs := fun x hx => ⟨(h x hx).1.grown hg (Own.neO (h x hx).1 k ht), (h x hx).2⟩
theorem NOwn.grownB (h : NOwn w lo t xs) (k : Blk w g t' cs) (hg : w.grownBy w' (some g)) (ht : t ≠ t') : NOwn w' lo t xs := fun x hx => ⟨(h x hx).1.grownBlk hg (Own.neT (h x hx).1 k ht), (h x hx).2⟩
theorem NOwn.nexts (h : NOwn w lo t xs) : Nexts w.heap.size w xs := ⟨Nat.le_refl _, fun x hx => ⟨(h x hx).1.sl, (h x hx).2⟩⟩
theorem NOwn.snoc {x : ModeI} (h : NOwn w lo t xs) (hx : Own w lo t 1 x.A x.m.next.length x.c (x.m.next.flatMap eI)) (hl : x.m.next.length ≤ 9223372036854775807) : NOwn w lo t (xs ++ [x]) := fun y hy => by
  rcases List.mem_append.1 hy with h1 | h1
  · exact h y h1
  · obtain rfl : y = x := by simpa using h1
    exact ⟨hx, hl⟩
end

theorem fill2_at {α : Type} {ys : List α} {k n : Nat} {z : α} (hy : ys.length = k) (hk : k < n) : (ys ++ List.replicate (n - k) z)[k]? = some z := by
  rw [List.getElem?_append_right (by omega), hy, Nat.sub_self, List.getElem?_replicate, if_pos (by omega)]
theorem fill2_set {α : Type} {ys : List α} {k n : Nat} {x z : α} (hy : ys.length = k) (hk : k < n) : (ys ++ List.replicate (n - k) z).set k x = (ys ++ [x]) ++ List.replicate (n - (k + 1)) z := by
  rw [List.set_append, if_neg (by omega), hy, Nat.sub_self, show n - k = (n - (k + 1)) + 1 by omega, List.replicate_succ, List.set_cons_zero]; simp
theorem fill2_end {α : Type} {ys : List α} {k n : Nat} {z : α} (hk : n ≤ k) : ys ++ List.replicate (n - k) z = ys := by rw [show n - k = 0 by omega]; simp
def prevG {α : Type} (xs : List α) (k : Nat) : Option α := if k = 0 then none else xs[k - 1]?
theorem prevG_succ {α : Type} {xs : List α} {k : Nat} {x : α} (h : xs[k]? = some x) : prevG xs (k + 1) = some x := by simp [prevG, h]
theorem prevG_pos {α : Type} {xs : List α} {k : Nat} {y : α} (hk : 0 < (k : Int)) (h : xs[k - 1]? = some y) : prevG xs k = some y := by rw [prevG, if_neg (by omega)]; exact h
theorem prevG_zero {α : Type} {xs : List α} {k : Nat} (hk : ¬ 0 < (k : Int)) : prevG xs k = none := by rw [prevG, if_pos (by omega)]
theorem map_at {α β : Type} {f : α → β} {xs : List α} {k : Nat} {x : α} (h : xs[k]? = some x) : (xs.map f)[k]? = some (f x) := by simp [h]

/-! ### what the functions on mode tables compute -/
/-- rising, from below up, all in 0 .. n-1 -/
def risesFrom (n : Int) : Option Int → List Int → Bool
  | _, [] => true
  | none, x :: r => inB x 0 (n - 1) && risesFrom n (some x) r
  | some y, x :: r => inB x 0 (n - 1) && decide (y < x) && risesFrom n (some x) r
theorem rises_ok0 {n x : Int} {r : List Int} (h : inB x 0 (n - 1) = true) : risesFrom n none (x :: r) = risesFrom n (some x) r := by simp [risesFrom, h]
theorem rises_ok1 {n x y : Int} {r : List Int} (h : inB x 0 (n - 1) = true) (h2 : y < x) : risesFrom n (some y) (x :: r) = risesFrom n (some x) r := by simp [risesFrom, h, h2]
theorem rises_bad0 {n x : Int} {p : Option Int} {r : List Int} (h : inB x 0 (n - 1) = false) : risesFrom n p (x :: r) = false := by cases p <;> simp [risesFrom, h]
theorem rises_bad1 {n x y : Int} {r : List Int} (h2 : ¬ y < x) : risesFrom n (some y) (x :: r) = false := by simp [risesFrom, h2]
theorem rises_nil {n : Int} {p : Option Int} : risesFrom n p [] = true := by cases p <;> rfl
def risesB (xs : List Int) (n : Int) : Bool := risesFrom n none xs
def hasB (xs : List Int) (v : Int) : Bool := xs.any fun x => decide (x = v)
def idxI (v : Int) (k : Int) : List Int → Int
  | [] => -1
  | x :: r => if x = v then k else idxI v (k + 1) r
theorem idxI_has (v : Int) : ∀ (xs : List Int) (k : Int), 0 ≤ k → decide (0 ≤ idxI v k xs) = hasB xs v
  | [], k, h => by simp [idxI, hasB]
  | x :: r, k, h => by
    rw [idxI]
    by_cases e : x = v
    · rw [if_pos e]; simp [hasB, e, h]
    · rw [if_neg e, idxI_has v r (k + 1) (by omega)]; simp [hasB, e]
def modeOk (n i : Int) (x : Mode) : Bool := inB x.rounds 1 8 && inB x.slots 1 16 && risesB x.next n && !(hasB x.next i)
def modesFrom (n : Int) (i : Int) : List Mode → Bool
  | [] => true
  | x :: r => modeOk n i x && modesFrom n (i + 1) r
theorem modesFrom_at : ∀ (ms : List Mode) (n i : Int) (k : Nat) (x : Mode), modesFrom n i ms = true → ms[k]? = some x → modeOk n (i + k) x = true
  | [], n, i, k, x, h, hx => by simp at hx
  | y :: r, n, i, 0, x, h, hx => by
    simp only [modesFrom, Bool.and_eq_true] at h
    simp at hx; subst hx; simpa using h.1
  | y :: r, n, i, k + 1, x, h, hx => by
    simp only [modesFrom, Bool.and_eq_true] at h
    have := modesFrom_at r n (i + 1) k x h.2 (by simpa using hx)
    rwa [show i + 1 + (k : Int) = i + ((k + 1 : Nat) : Int) by omega] at this
def isMT (ms : List Mode) : Bool := inB ms.length 1 16 && modesFrom ms.length 0 ms
theorem isMT_at {ms : List Mode} {k : Nat} {x : Mode} (h : isMT ms = true) (hx : ms[k]? = some x) : modeOk ms.length k x = true := by
  simp only [isMT, Bool.and_eq_true] at h
  have := modesFrom_at ms _ _ k x h.2 hx
  simpa using this
theorem isMT_len {ms : List Mode} (h : isMT ms = true) : 1 ≤ ms.length ∧ ms.length ≤ 16 := by
  simp only [isMT, Bool.and_eq_true] at h
  have := inB_iff.1 h.1; omega
theorem modeOk_in {n i : Int} {x : Mode} (h : modeOk n i x = true) : (1 ≤ x.rounds ∧ x.rounds ≤ 8) ∧ (1 ≤ x.slots ∧ x.slots ≤ 16) ∧ risesB x.next n = true := by
  simp only [modeOk, Bool.and_eq_true] at h
  exact ⟨inB_iff.1 h.1.1.1, inB_iff.1 h.1.1.2, h.1.2⟩
def cycM (ms : List Mode) (mode : Int) : Int × Int := if isMT ms = true then (if inB mode 0 ((ms.length : Int) - 1) = true then (match ms[mode.toNat]? with
  | some x => (x.rounds * x.slots, 0)
  | none => (0, 2)) else (0, 2)) else (0, 1)
/-- what the laws' size functions give -/
def szInt (n : Nat) (left : Int) : Int := if left - n < 0 then -1 else left - n
def szMs : List ModeI → Int → Int
  | [], left => left
  | x :: r, left => if szInt x.m.next.length left < 0 then -1 else szMs r (szInt x.m.next.length left)
def szM (xs : List ModeI) (left : Int) : Int := if left - xs.length < 0 then -1 else szMs xs (left - xs.length)
theorem szMs_le : ∀ (xs : List ModeI) (left : Int), ¬ szMs xs left < 0 → ∀ x ∈ xs, (x.m.next.length : Int) ≤ left
  | [], left, h, x, hx => by simp at hx
  | y :: r, left, h, x, hx => by
    rw [szMs] at h
    split at h
    · omega
    · rename_i h1
      have h2 : szInt y.m.next.length left = left - y.m.next.length := by
        unfold szInt at *; split
        · rename_i h3; rw [if_pos h3] at h1; omega
        · rfl
      have h3 : ¬ left - (y.m.next.length : Int) < 0 := by rw [h2] at h1; exact h1
      rcases List.mem_cons.1 hx with rfl | hx
      · omega
      · rw [h2] at h
        have := szMs_le r _ h x hx
        omega
theorem szM_le {xs : List ModeI} (h : ¬ szM xs 1048576 < 0) : xs.length ≤ 1048576 ∧ ∀ x ∈ xs, x.m.next.length ≤ 1048576 := by
  unfold szM at h
  split at h
  · omega
  · refine ⟨by omega, fun x hx => ?_⟩
    have := szMs_le xs _ h x hx
    omega
end Go.Proofs.Ytdoibplhbdkapaa
