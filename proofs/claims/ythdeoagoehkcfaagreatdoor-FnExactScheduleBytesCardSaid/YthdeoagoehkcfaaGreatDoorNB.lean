/- Bytes of nodes and of schedules: plain functions. No condition. -/
import Derived.Test.YthdeoagoehkcfaaGreatDoorB1
import Derived.Test.YthdeoagoehkcfaaGreatDoorB3
import Derived.Test.YthdeoagoehkcfaaGreatDoorMod7
namespace Go.Proofs.YthdeoagoehkcfaaGreatDoor
open Go.RowKit
set_option linter.unusedVariables false
set_option linter.unusedSimpArgs false
set_option maxRecDepth 20000
/-! ### bytes of nodes and of schedules -/
def nameI (x : NodeI) : List Int := x.name.data.toList.map fun b => (b.toNat : Int)
def nodeH (x : NodeI) : List Int := [x.id, x.drift / 256, x.drift % 256, if x.passive = true then 1 else 0, (x.name.size : Int)]
def nodeB (x : NodeI) : List Int := nodeH x ++ nameI x
def ntP (xs : List NodeI) (k : Nat) : List Int := (xs.length : Int) :: (xs.take k).flatMap nodeB
theorem nameI_len (x : NodeI) : (nameI x).length = x.name.size := by simp [nameI]
theorem nameI_at {x : NodeI} {j : Nat} (h : j < x.name.size) : (nameI x)[j]? = some ((x.name.data.toList.getD ((j : Int)).toNat 0).toNat : Int) := by
  have hj : j < x.name.data.toList.length := by simpa using h
  rw [nameI, List.getElem?_map, List.getD_eq_getElem?_getD, Int.toNat_natCast, List.getElem?_eq_getElem hj]; rfl
theorem ntP_step {xs : List NodeI} {k : Nat} {x : NodeI} (h : xs[k]? = some x) : ntP xs (k + 1) = ntP xs k ++ nodeH x ++ nameI x := by
  unfold ntP
  rw [List.take_add_one, h]
  simp [List.flatMap_append, nodeB]
theorem take_snoc {L : List Int} {j : Nat} {v : Int} (h : L[j]? = some v) : L.take (j + 1) = L.take j ++ [v] := by rw [List.take_add_one, h]; rfl
def ntB (xs : List NodeI) : List Int := ntP xs xs.length
theorem nodesB_le : ∀ (l : List NodeI), (∀ x ∈ l, x.name.size ≤ 6) → (l.flatMap nodeB).length ≤ 11 * l.length
  | [], _ => by simp
  | x :: r, h => by
    have h1 := h x (by simp)
    have h2 := nodesB_le r fun y hy => h y (by simp [hy])
    rw [List.flatMap_cons, List.length_append, List.length_cons, nodeB, List.length_append, nameI_len]
    simp only [nodeH, List.length_cons, List.length_nil]; omega
theorem nodeOk_size {x : NodeI} (h : nodeOk x = true) : x.name.size ≤ 6 := by
  have h1 := (nodeOk_in h).2.2
  simp only [nameOk, Bool.and_eq_true, decide_eq_true_eq] at h1
  exact h1.2
theorem ntB_le {xs : List NodeI} (h : isNT xs = true) : (ntB xs).length ≤ 353 := by
  have h1 := isNT_len h
  have h2 := nodesB_le xs fun x hx => nodeOk_size (isNT_all h x hx)
  unfold ntB ntP
  rw [List.take_length, List.length_cons]
  omega
theorem mtB_le {ms : List Mode} (h : isMT ms = true) : (mtP ms ms.length).length ≤ 305 := by
  have hl := isMT_len h
  have hf := flat_le (f := modeB) (b := 19) ms fun x hx => by
    obtain ⟨k, hk⟩ := List.mem_iff_getElem?.1 hx
    obtain ⟨h1, h2, h3⟩ := modeOk_in (isMT_at h hk)
    have h4 := risesB_len h3
    simp [modeB]; omega
  have hf2 : 19 * ms.length ≤ 19 * 16 := Nat.mul_le_mul_left _ hl.2
  unfold mtP
  rw [List.take_length, List.length_cons]; omega
def idB (z : Int) : List Int := [z / 65536, z / 256 % 256, z % 256]
def schB (d : MedlD) : List Int := idB d.id ++ ntB d.ns ++ mtP d.ms d.ms.length ++ stB d.ss
def schF (d : MedlD) : List Int × Int := if isMedl d = true then (schB d, 0) else ([], 1)
theorem schB_le {d : MedlD} (h : isMedl d = true) : (schB d).length ≤ 1502 := by
  have wf := isMedl_iff.1 h
  have h1 := ntB_le wf.nt
  have h2 := mtB_le wf.mt
  have h3 : (stB d.ss).length = 1 + 7 * d.ss.length := stP_len (Nat.le_refl _)
  have h4 := isST_len wf.st
  unfold schB
  rw [List.length_append, List.length_append, List.length_append]
  simp only [idB, List.length_cons, List.length_nil]; omega
theorem schF_len (m : MedlI) : (schF m.d).1.length ≤ 1048576 := by
  unfold schF
  split
  · rename_i h; have := schB_le h; simp only; omega
  · simp
theorem and255 {z : Int} (h : 0 ≤ z ∧ z ≤ 1099511627776) : bitsV .and .i64 z 255 = z % 256 := by
  obtain ⟨n, rfl⟩ : ∃ n : Nat, z = (n : Int) := ⟨z.toNat, by omega⟩
  have h1 := bits_and (a := n) (b := 255) (by omega) (by omega)
  rw [show ((255 : Nat) : Int) = 255 from rfl] at h1
  rw [h1, show n &&& 255 = n % 256 from Nat.and_two_pow_sub_one_eq_mod n 8]; omega
theorem shr16 {z : Int} (h : 0 ≤ z) : z.fdiv (2 ^ (min ((16 : Int).toNat) IntKind.i64.bits)) = z / 65536 := by
  show z.fdiv 65536 = _
  rw [Int.fdiv_eq_ediv_of_nonneg _ (by omega)]
theorem shr8 {z : Int} (h : 0 ≤ z) : z.fdiv (2 ^ (min ((8 : Int).toNat) IntKind.i64.bits)) = z / 256 := by
  show z.fdiv 256 = _
  rw [Int.fdiv_eq_ediv_of_nonneg _ (by omega)]
/-- a row of rows: an entry is held as a mode with its list alone -/
def rowC (x : ModeI) : List Value := [.slice x.A x.m.next.length x.c]
theorem rowC_len (x : ModeI) : (rowC x).length = 1 := rfl
def sumL (rs : List ModeI) : List Int := rs.flatMap fun x => x.m.next
def rowI (A : Option Addr) (c : Nat) (xs : List Int) : ModeI := ⟨⟨0, 0, xs⟩, A, c⟩
theorem sumL_step {rs : List ModeI} {k : Nat} {x : ModeI} (h : rs[k]? = some x) : sumL (rs.take (k + 1)) = sumL (rs.take k) ++ x.m.next := by
  unfold sumL
  rw [List.take_add_one, h]; simp [List.flatMap_append]
theorem sumL_le (rs : List ModeI) (k : Nat) : (sumL (rs.take k)).length ≤ (sumL rs).length := by
  have e : sumL rs = sumL (rs.take k) ++ sumL (rs.drop k) := by unfold sumL; rw [← List.flatMap_append, List.take_append_drop]
  rw [e, List.length_append]; omega
end Go.Proofs.YthdeoagoehkcfaaGreatDoor
