/- Tables in memory: rows that are the call's own, written in place. No condition. -/
import Derived.Test.YtimabffnoanciaaMod9
import Derived.Test.YtimabffnoanciaaMod15
namespace Go.Proofs.Ytimabffnoanciaa
open Go.RowKit
set_option linter.unusedVariables false
set_option linter.unusedSimpArgs false

def rowC (x : ModeI) : List Value := [.slice x.A x.m.next.length x.c]
theorem rowC_len (x : ModeI) : (rowC x).length = 1 := rfl
def rowI (A : Option Addr) (c : Nat) (xs : List Int) : ModeI := ⟨⟨0, 0, xs⟩, A, c⟩
def tblOf (xs : List ModeI) : Tbl := xs.map fun x => x.m.next
theorem tblOf_len (xs : List ModeI) : (tblOf xs).length = xs.length := List.length_map ..
theorem tblOf_at {xs : List ModeI} {r : Nat} {x : ModeI} (hx : xs[r]? = some x) : rowT (tblOf xs) r = x.m.next := by
  rw [rowT, List.getD_eq_getElem?_getD, tblOf, List.getElem?_map, hx]; rfl
/-- entry r with the number k at place s -/
def setX (x : ModeI) (s : Nat) (k : Int) : ModeI := ⟨⟨x.m.rounds, x.m.slots, x.m.next.set s k⟩, x.A, x.c⟩
theorem setX_blk (x : ModeI) (s : Nat) (k : Int) : (setX x s k).blk = x.blk := by unfold ModeI.blk setX; simp only [List.length_set]
theorem setX_row (x : ModeI) (s : Nat) (k : Int) : rowC (setX x s k) = rowC x := by unfold rowC setX; simp only [List.length_set]
theorem rowC_set {x x' : ModeI} (h : rowC x' = rowC x) : ∀ {xs : List ModeI} {r : Nat}, xs[r]? = some x → (xs.set r x').flatMap rowC = xs.flatMap rowC
  | [], r, hx => by simp at hx
  | y :: l, 0, hx => by simp at hx; subst hx; simp [h]
  | y :: l, r + 1, hx => by
    have := rowC_set h (xs := l) (r := r) (by simpa using hx)
    simp only [List.set_cons_succ, List.flatMap_cons, this]
theorem tblOf_set {xs : List ModeI} {r s : Nat} {k : Int} {x : ModeI} (hx : xs[r]? = some x) : tblOf (xs.set r (setX x s k)) = putC (tblOf xs) r s k := by
  rw [putC, tblOf_at hx, tblOf, List.map_set]; rfl
theorem Disj.set_same {xs : List ModeI} {k : Nat} {x x' : ModeI} (hd : Disj xs) (hx : xs[k]? = some x) (hb : x'.blk = x.blk) : Disj (xs.set k x') := fun i j a b hi hj hij g ha hb' => by
  have hk : k < xs.length := (List.getElem?_eq_some_iff.1 hx).1
  rw [List.getElem?_set] at hi hj
  split at hi <;> split at hj
  · omega
  · rename_i h1 h2
    injection hi with hi; subst hi
    exact hd k j x b hx hj (by omega) g (by rw [← hb]; exact ha) hb'
  · rename_i h1 h2
    injection hj with hj; subst hj
    exact hd i k a x hi hx (by omega) g ha (by rw [← hb]; exact hb')
  · exact hd i j a b hi hj hij g ha hb'
theorem bound_set {xs : List ModeI} {k hi : Nat} {x x' : ModeI} (hu : ∀ y ∈ xs, ∀ g, y.blk = some g → g < hi) (hx : xs[k]? = some x) (hb : x'.blk = x.blk) : ∀ y ∈ xs.set k x', ∀ g, y.blk = some g → g < hi := fun y hy g hg => by
  rcases List.mem_or_eq_of_mem_set hy with h1 | rfl
  · exact hu y h1 g hg
  · exact hu x (List.mem_of_getElem? hx) g (by rw [← hb]; exact hg)
theorem mem_others {α : Type} {xs : List α} {k : Nat} {x' y : α} (h : y ∈ xs.set k x') : y = x' ∨ ∃ i, i ≠ k ∧ xs[i]? = some y := by
  obtain ⟨i, hi⟩ := List.mem_iff_getElem?.1 h
  rw [List.getElem?_set] at hi
  split at hi
  · rename_i e
    split at hi
    · injection hi with hi; exact .inl hi.symm
    · cases hi
  · rename_i e; exact .inr ⟨i, fun e2 => e e2.symm, hi⟩
theorem mem_erase {α : Type} {xs : List α} {k : Nat} {y : α} : y ∈ xs.eraseIdx k ↔ ∃ i, i ≠ k ∧ xs[i]? = some y := List.mem_eraseIdx_iff_getElem?
theorem NOwn.erase {w : World} {lo : Nat} {t : TypeId} {xs : List ModeI} (h : NOwn w lo t xs) (k : Nat) : NOwn w lo t (xs.eraseIdx k) := fun y hy => h y (List.mem_of_mem_eraseIdx hy)
theorem NOwn.put {w : World} {lo : Nat} {t : TypeId} {xs : List ModeI} {k : Nat} {x' : ModeI} (h : NOwn w lo t (xs.eraseIdx k)) (hx : Own w lo t 1 x'.A x'.m.next.length x'.c (x'.m.next.flatMap eI)) (hl : x'.m.next.length ≤ 9223372036854775807) : NOwn w lo t (xs.set k x') := fun y hy => by
  rcases mem_others hy with rfl | h2
  · exact ⟨hx, hl⟩
  · exact h y (mem_erase.2 h2)
theorem Disj.erase {xs : List ModeI} {k : Nat} {x : ModeI} (hd : Disj xs) (hx : xs[k]? = some x) : ∀ y ∈ xs.eraseIdx k, ∀ g, x.blk = some g → y.blk ≠ some g := fun y hy g hg => by
  obtain ⟨i, h1, h2⟩ := mem_erase.1 hy
  exact hd k i x y hx h2 (fun e => h1 e.symm) g hg
/-- entry r has been written -/
theorem NOwn.wrote {w : World} {lo : Nat} {t : TypeId} {xs : List ModeI} {k s : Nat} {v : Int} {x : ModeI} (h : NOwn w lo t (xs.eraseIdx k)) (hx : Own w lo t 1 x.A x.m.next.length x.c ((x.m.next.set s v).flatMap eI)) (hl : x.m.next.length ≤ 9223372036854775807) : NOwn w lo t (xs.set k (setX x s v)) :=
  h.put (x' := setX x s v) (by show Own w lo t 1 x.A (x.m.next.set s v).length x.c _; rw [List.length_set]; exact hx) (by show (x.m.next.set s v).length ≤ _; rw [List.length_set]; exact hl)
section
variable {lo hi B : Nat} {ts : List TypeId} {w w' w'' : World}
theorem WinK.size (h : WinK lo hi ts w w') : w.heap.size ≤ w'.heap.size := h.win.size
theorem Kep.ofExt (h : Ext w w') : Kep ts w w' := ⟨h.size, fun i cur t e hi _ => (h.block i (Array.getElem?_eq_some_iff.1 hi).1).trans hi⟩
theorem WinK.ext (h : WinK lo hi ts w w') (k : Ext w' w'') : WinK lo hi ts w w'' := ⟨h.win.trans (Win.ofExt k), h.kep.trans (Kep.ofExt k)⟩
theorem WinK.ofExt (k : Ext w w') : WinK lo hi ts w w' := ⟨Win.ofExt k, Kep.ofExt k⟩
theorem WinK.below (h : WinK lo hi ts w w') (hl : lo ≤ w.heap.size) : Below lo w w' := h.win.below hl
end
theorem Sl.head {B : Nat} {w : World} {A : Option Addr} {cs : List Value} (h : Sl B w A cs) (k : Nat) : Sl B w A (cs.take k) := ⟨h.1, fun j v hj => by
  rw [List.getElem?_take] at hj
  split at hj
  · exact h.2 j v hj
  · cases hj⟩
theorem eI_map (l : List Int) : l.flatMap eI = l.map fun z => Value.int .i64 z := by induction l with
  | nil => rfl
  | cons x r ih => rw [List.flatMap_cons, ih]; rfl
/-- a row of n, of which the first k hold v, after m more have been copied -/
theorem fill_copy {v : Int} {k m n : Nat} (h : k + m ≤ n) (hm : m ≤ k) :
    ((List.replicate k v ++ List.replicate (n - k) (0 : Int)).flatMap eI).take k ++ (((List.replicate k v ++ List.replicate (n - k) (0 : Int)).flatMap eI).take m) ++ ((List.replicate k v ++ List.replicate (n - k) (0 : Int)).flatMap eI).drop (k + m) = (List.replicate (k + m) v ++ List.replicate (n - (k + m)) (0 : Int)).flatMap eI := by
  simp only [eI_map, List.map_append, List.map_replicate]
  rw [List.take_append_of_le_length (by simp), List.take_append_of_le_length (by simp; omega), List.drop_append, List.take_replicate, List.take_replicate, List.drop_replicate, List.drop_replicate, List.length_replicate]
  rw [show min k k = k by omega, show min m k = m by omega, show k - (k + m) = 0 by omega, show n - k - (k + m - k) = n - (k + m) by omega, List.replicate_zero, List.nil_append, List.replicate_append_replicate]
theorem sl_len_pos {xs : List Int} (h : 0 < xs.length) : ∃ y, xs[0]? = some y := ⟨_, List.getElem?_eq_getElem h⟩
end Go.Proofs.Ytimabffnoanciaa
