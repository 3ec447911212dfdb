/- An image is read from its text, and a text is the text of what is read. No condition. -/
import Derived.Test.YtimabffnoanciaaW2
namespace Go.Proofs.Ytimabffnoanciaa
open Go.RowKit
set_option linter.unusedVariables false
set_option linter.unusedSimpArgs false
set_option maxRecDepth 20000
def img (xs : List Int) : ByteArray := if isB xs = true then strOf (hexB xs) else ByteArray.empty
theorem hexV_hxd {m : Int} (h : 0 ≤ m ∧ m < 16) : hexV (hxd m) = m := by
  have h1 : m = 0 ∨ m = 1 ∨ m = 2 ∨ m = 3 ∨ m = 4 ∨ m = 5 ∨ m = 6 ∨ m = 7 ∨ m = 8 ∨ m = 9 ∨ m = 10 ∨ m = 11 ∨ m = 12 ∨ m = 13 ∨ m = 14 ∨ m = 15 := by omega
  rcases h1 with rfl | rfl | rfl | rfl | rfl | rfl | rfl | rfl | rfl | rfl | rfl | rfl | rfl | rfl | rfl | rfl <;> decide
theorem hxd_hexV {b : UInt8} (h : 0 ≤ hexV b) : hxd (hexV b) = b := by
  have h0 := b.toNat_lt
  have h1 : b = UInt8.ofNat b.toNat := by simp
  have h2 : (48 ≤ b.toNat ∧ b.toNat ≤ 57) ∨ (97 ≤ b.toNat ∧ b.toNat ≤ 102) := by
    unfold hexV at h
    split at h
    · left; omega
    · split at h
      · right; omega
      · omega
  have h3 : b.toNat = 48 ∨ b.toNat = 49 ∨ b.toNat = 50 ∨ b.toNat = 51 ∨ b.toNat = 52 ∨ b.toNat = 53 ∨ b.toNat = 54 ∨ b.toNat = 55 ∨ b.toNat = 56 ∨ b.toNat = 57 ∨ b.toNat = 97 ∨ b.toNat = 98 ∨ b.toNat = 99 ∨ b.toNat = 100 ∨ b.toNat = 101 ∨ b.toNat = 102 := by omega
  rcases h3 with h3 | h3 | h3 | h3 | h3 | h3 | h3 | h3 | h3 | h3 | h3 | h3 | h3 | h3 | h3 | h3 <;> (rw [h3] at h1; subst h1; decide)
theorem rdG_hexB : ∀ (xs : List Int), (∀ x ∈ xs, 0 ≤ x ∧ x ≤ 255) → rdG (hexB xs) = some xs
  | [], _ => rfl
  | x :: r, h => by
    have h1 := h x (by simp)
    have e1 := hexV_hxd (m := x / 16) (by omega)
    have e2 := hexV_hxd (m := x % 16) (by omega)
    have ih := rdG_hexB r fun y hy => h y (by simp [hy])
    show rdG (hxd (x / 16) :: hxd (x % 16) :: hexB r) = _
    rw [rdG, e1, e2, if_neg (by omega), ih]
    simp only [Option.map_some, Option.some.injEq, List.cons.injEq, and_true]
    omega
theorem isB_all {xs : List Int} (h : isB xs = true) : ∀ x ∈ xs, 0 ≤ x ∧ x ≤ 255 := fun x hx => by
  obtain ⟨k, hk⟩ := List.mem_iff_getElem?.1 hx
  exact isB_at h hk
theorem strOf_size (l : List UInt8) : (strOf l).size = l.length := rfl
theorem rd_img (xs : List Int) : rd (img xs) = (if isB xs = true then xs else [], true) := by
  unfold img
  split
  · rename_i h
    have hl := isB_len h
    have e : (strOf (hexB xs)).size = 2 * xs.length := hexB_len xs
    unfold rd
    rw [if_neg (by omega), show (strOf (hexB xs)).data.toList = hexB xs from rfl, rdG_hexB xs (isB_all h)]
  · rfl
theorem hexB_rdG : ∀ (n : Nat) (l : List UInt8) (ys : List Int), l.length = 2 * n → rdG l = some ys → hexB ys = l ∧ (∀ y ∈ ys, 0 ≤ y ∧ y ≤ 255) ∧ ys.length = n
  | 0, [], ys, _, h => by simp [rdG] at h; subst h; exact ⟨rfl, fun y hy => by simp at hy, rfl⟩
  | n + 1, [], ys, hn, h => by simp at hn
  | n, [a], ys, hn, h => by simp at hn; omega
  | 0, a :: b :: r, ys, hn, h => by simp at hn
  | n + 1, a :: b :: r, ys, hn, h => by
    rw [rdG] at h
    split at h
    · cases h
    · rename_i h1
      cases h2 : rdG r with
      | none => rw [h2] at h; simp at h
      | some q =>
        rw [h2] at h
        simp only [Option.map_some, Option.some.injEq] at h
        subst h
        obtain ⟨h3, h4, h5⟩ := hexB_rdG n r q (by simp at hn; omega) h2
        have va := hexV_le a
        have vb := hexV_le b
        refine ⟨?_, ?_, by simp [h5]⟩
        · show hxd ((16 * hexV a + hexV b) / 16) :: hxd ((16 * hexV a + hexV b) % 16) :: hexB q = _
          rw [show (16 * hexV a + hexV b) / 16 = hexV a by omega, show (16 * hexV a + hexV b) % 16 = hexV b by omega, hxd_hexV (by omega), hxd_hexV (by omega), h3]
        · intro y hy
          rcases List.mem_cons.1 hy with rfl | hy
          · omega
          · exact h4 y hy
theorem img_rd {s : ByteArray} (h : (rd s).2 = true) : img (rd s).1 = s := by
  unfold rd at h ⊢
  split at h
  · cases h
  · rename_i h1
    rw [if_neg h1]
    have hsz : s.data.toList.length = s.size := rfl
    cases h2 : rdG s.data.toList with
    | none => rw [h2] at h; cases h
    | some l =>
      obtain ⟨h3, h4, h5⟩ := hexB_rdG (s.size / 2) s.data.toList l (by omega) h2
      have hb : isB l = true := by
        simp only [isB, Bool.and_eq_true, decide_eq_true_eq, List.all_eq_true]
        refine ⟨by omega, fun y hy => inB_iff.2 (h4 y hy)⟩
      show img l = s
      unfold img strOf
      rw [if_pos hb, h3, Array.toArray_toList]
theorem img_size (xs : List Int) : (img xs).size ≤ 2048 := by
  unfold img
  split
  · rename_i h
    have hl := isB_len h
    rw [strOf_size, hexB_len]; omega
  · exact Nat.zero_le _
theorem rd_small {s : ByteArray} (h : s.size ≤ 1048576) : (rd s).1.length ≤ 1048576 := rd_len s h
def ST8 : List ByteArray := [⟨#[48]⟩, ⟨#[49]⟩, ⟨#[32]⟩, ⟨#[58]⟩, ⟨#[45]⟩, ⟨#[97]⟩, ⟨#[47]⟩, ⟨#[10]⟩]
theorem st8_le : ∀ y ∈ ST8, y.size ≤ 1 := fun y hy => by
  simp only [ST8, List.mem_cons, List.not_mem_nil, or_false] at hy
  rcases hy with rfl | rfl | rfl | rfl | rfl | rfl | rfl | rfl <;> decide
end Go.Proofs.Ytimabffnoanciaa
