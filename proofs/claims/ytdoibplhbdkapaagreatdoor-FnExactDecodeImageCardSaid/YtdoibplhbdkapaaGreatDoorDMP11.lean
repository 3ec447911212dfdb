/- Texts of the seat that a law needs, put together. No condition. -/
import Derived.Test.YtdoibplhbdkapaaGreatDoorDMP7
import Derived.Test.YtdoibplhbdkapaaGreatDoorDMP8
import Derived.Test.YtdoibplhbdkapaaGreatDoorDMP10
import Derived.Test.YtdoibplhbdkapaaGreatDoorDMP3
import Derived.Test.YtdoibplhbdkapaaGreatDoorDMP6
import Derived.Shelf.Strings.SlTrimAscii
namespace Go.Proofs.YtdoibplhbdkapaaGreatDoor
open Go.RowKit
set_option linter.unusedVariables false
set_option linter.unusedSimpArgs false
set_option maxRecDepth 20000
def strB (l : List Int) : ByteArray := ⟨(l.map fun x => x.toNat.toUInt8).toArray⟩
theorem strB_list (l : List Int) : (strB l).data.toList = l.map fun x => x.toNat.toUInt8 := by simp [strB]
theorem strB_size (l : List Int) : (strB l).size = l.length := by
  rw [ByteArray.size, ← Array.length_toList, strB_list, List.length_map]
def runP (l : List Int) : ByteArray := ⟨(l.flatMap fun x => (Utf8.encode x).data.toList).toArray⟩
theorem runP_list (l : List Int) : (runP l).data.toList = l.flatMap fun x => (Utf8.encode x).data.toList := by simp [runP]
theorem ba_ext {a b : ByteArray} (h : a.data.toList = b.data.toList) : a = b := by
  cases a; cases b
  simp only at h
  congr 1
  exact Array.toList_inj.1 h
theorem runP_step {l : List Int} {k : Nat} {x : Int} (h : l[k]? = some x) : runP (l.take (k + 1)) = runP (l.take k) ++ Utf8.encode x := by
  apply ba_ext
  rw [runP_list, List.take_add_one, h, ByteArray.data_append, Array.toList_append, runP_list]
  simp [List.flatMap_append]
theorem enc_low {x : Int} (h : 0 ≤ x ∧ x ≤ 127) : (Utf8.encode x).data.toList = [x.toNat.toUInt8] := by
  have hv : Utf8.valid x = true := by simp only [Utf8.valid, Bool.or_eq_true, Bool.and_eq_true, decide_eq_true_eq]; omega
  unfold Utf8.encode
  simp only [hv, if_true]
  rw [if_pos (by omega)]
theorem enc_high {x : Int} (h : 128 ≤ x ∧ x ≤ 255) : ∃ b c : UInt8, (Utf8.encode x).data.toList = [b, c] ∧ nameB b = false := by
  have hv : Utf8.valid x = true := by simp only [Utf8.valid, Bool.or_eq_true, Bool.and_eq_true, decide_eq_true_eq]; omega
  unfold Utf8.encode
  simp only [hv, if_true]
  rw [if_neg (by omega), if_pos (by omega)]
  refine ⟨_, _, rfl, ?_⟩
  have e : (UInt8.ofNat (192 + x.toNat / 64)).toNat = 192 + x.toNat / 64 := by
    rw [UInt8.toNat_ofNat']; omega
  show ((decide (97 ≤ (UInt8.ofNat (192 + x.toNat / 64)).toNat) && decide ((UInt8.ofNat (192 + x.toNat / 64)).toNat ≤ 122)) || (decide (48 ≤ (UInt8.ofNat (192 + x.toNat / 64)).toNat) && decide ((UInt8.ofNat (192 + x.toNat / 64)).toNat ≤ 57))) = false
  rw [e, decide_eq_false (p := 192 + x.toNat / 64 ≤ 122) (by omega), decide_eq_false (p := 192 + x.toNat / 64 ≤ 57) (by omega)]
  simp
theorem enc_size (x : Int) : (Utf8.encode x).size ≤ 4 := by
  unfold Utf8.encode
  simp only []
  split
  · split <;> (try split) <;> (try split) <;> simp [ByteArray.size]
  · split <;> (try split) <;> (try split) <;> simp [ByteArray.size]
theorem runP_size : ∀ (l : List Int), (runP l).size ≤ 4 * l.length
  | [] => by simp [runP, ByteArray.size]
  | x :: r => by
    have h1 := runP_size r
    have h2 := enc_size x
    rw [ByteArray.size, ← Array.length_toList, runP_list] at h1 ⊢
    rw [ByteArray.size, ← Array.length_toList] at h2
    rw [List.flatMap_cons, List.length_append, List.length_cons]; omega
theorem low_flat : ∀ (l : List Int), (∀ x ∈ l, 0 ≤ x ∧ x ≤ 127) → l.flatMap (fun x => (Utf8.encode x).data.toList) = l.map fun x => x.toNat.toUInt8
  | [], _ => rfl
  | x :: r, h => by rw [List.flatMap_cons, List.map_cons, enc_low (h x (by simp)), low_flat r fun y hy => h y (by simp [hy])]; rfl
/-- both readings give the same name, or no name at all -/
theorem name_both {l : List Int} (hb : ∀ x ∈ l, 0 ≤ x ∧ x ≤ 255) : runP l = strB l ∨ (nameOk (runP l) = false ∧ nameOk (strB l) = false) := by
  by_cases h : ∀ x ∈ l, x ≤ 127
  · left
    apply ba_ext
    rw [runP_list, strB_list]
    exact low_flat l fun x hx => ⟨(hb x hx).1, h x hx⟩
  · right
    obtain ⟨x, h1⟩ := Classical.not_forall.1 h
    obtain ⟨h1, h2⟩ := Classical.not_imp.1 h1
    have hx := hb x h1
    constructor
    · obtain ⟨b, c, e, hn⟩ := enc_high (x := x) (by omega)
      have hm : b ∈ (runP l).data.toList := by
        rw [runP_list]; exact List.mem_flatMap.2 ⟨x, h1, by rw [e]; simp⟩
      have : (runP l).data.toList.all nameB = false := by
        rw [Bool.eq_false_iff]
        intro hall
        rw [List.all_eq_true.1 hall b hm] at hn; cases hn
      rw [nameOk, this]; rfl
    · have hm : x.toNat.toUInt8 ∈ (strB l).data.toList := by
        rw [strB_list]; exact List.mem_map.2 ⟨x, h1, rfl⟩
      have hn : nameB x.toNat.toUInt8 = false := by
        have e : (x.toNat.toUInt8).toNat = x.toNat := by
          show (UInt8.ofNat x.toNat).toNat = _
          rw [UInt8.toNat_ofNat']; omega
        unfold nameB
        rw [e, decide_eq_false (p := x.toNat ≤ 122) (by omega), decide_eq_false (p := x.toNat ≤ 57) (by omega)]; simp
      have : (strB l).data.toList.all nameB = false := by
        rw [Bool.eq_false_iff]
        intro hall
        rw [List.all_eq_true.1 hall _ hm] at hn; cases hn
      rw [nameOk, this]; rfl
def nodeE (xs : List Int) (a : Nat) : NodeI := ⟨xs.getD a 0, strB ((xs.drop (a + 5)).take (xs.getD (a + 4) 0).toNat), 256 * xs.getD (a + 1) 0 + xs.getD (a + 2) 0, decide (xs.getD (a + 3) 0 = 1)⟩
def nmL (xs : List Int) (a : Nat) : Nat := (xs.getD (a + 4) 0).toNat
def prsN (xs : List Int) : Nat → Nat → Option (List NodeI × Nat)
  | 0, a => some ([], a)
  | n + 1, a => if a + 5 ≤ xs.length ∧ a + 5 + nmL xs a ≤ xs.length then (prsN xs n (a + 5 + nmL xs a)).map fun r => (nodeE xs a :: r.1, r.2) else none
def rdN (xs : List Int) : Option (List NodeI × Nat) := if xs.length = 0 then none else match prsN xs (xs.getD 0 0).toNat 1 with
  | some r => if isNT r.1 = true ∧ ntB r.1 = xs.take r.2 then some r else none
  | none => none
theorem prsN_at (xs : List Int) : ∀ (n a : Nat) (r : List NodeI × Nat), prsN xs n a = some r → a ≤ xs.length → r.2 ≤ xs.length ∧ a ≤ r.2 ∧ r.1.length = n
  | 0, a, r, h, ha => by simp [prsN] at h; subst h; exact ⟨ha, Nat.le_refl _, rfl⟩
  | n + 1, a, r, h, ha => by
    rw [prsN] at h
    split at h
    · rename_i h1
      cases h2 : prsN xs n (a + 5 + nmL xs a) with
      | none => rw [h2] at h; simp at h
      | some q =>
        rw [h2] at h
        simp only [Option.map_some, Option.some.injEq] at h
        obtain ⟨h3, h4, h5⟩ := prsN_at xs n _ q h2 h1.2
        rw [← h]
        exact ⟨h3, by show a ≤ q.2; omega, by simp [h5]⟩
    · cases h
theorem prsN_step {xs : List Int} {rem a : Nat} (hr : 0 < rem) (h : a + 5 + nmL xs a ≤ xs.length) : prsN xs rem a = (prsN xs (rem - 1) (a + 5 + nmL xs a)).map fun r => (nodeE xs a :: r.1, r.2) := by
  obtain ⟨r, rfl⟩ : ∃ r, rem = r + 1 := ⟨rem - 1, by omega⟩
  rw [prsN, if_pos ⟨by omega, h⟩]; rfl
theorem prsN_short {xs : List Int} {rem a : Nat} (hr : 0 < rem) (h : xs.length < a + 5 + nmL xs a) : prsN xs rem a = none := by
  obtain ⟨r, rfl⟩ : ∃ r, rem = r + 1 := ⟨rem - 1, by omega⟩
  rw [prsN, if_neg (by omega)]
theorem rdN_empty {xs : List Int} (h : xs.length = 0) : rdN xs = none := by rw [rdN, if_pos h]
theorem rdN_none {xs : List Int} (h : xs.length ≠ 0) (hp : prsN xs (xs.getD 0 0).toNat 1 = none) : rdN xs = none := by rw [rdN, if_neg h, hp]
theorem rdN_some {xs : List Int} {r : List NodeI × Nat} (h : xs.length ≠ 0) (hp : prsN xs (xs.getD 0 0).toNat 1 = some r) (ht : isNT r.1 = true) (hb : ntB r.1 = xs.take r.2) : rdN xs = some r := by rw [rdN, if_neg h, hp]; simp [ht, hb]
theorem rdN_not {xs : List Int} {r : List NodeI × Nat} (h : xs.length ≠ 0) (hp : prsN xs (xs.getD 0 0).toNat 1 = some r) (ht : isNT r.1 = false) : rdN xs = none := by rw [rdN, if_neg h, hp]; simp [ht]
theorem rdN_not2 {xs : List Int} {r : List NodeI × Nat} (h : xs.length ≠ 0) (hp : prsN xs (xs.getD 0 0).toNat 1 = some r) (hb : ntB r.1 ≠ xs.take r.2) : rdN xs = none := by rw [rdN, if_neg h, hp]; simp [hb]
theorem rdN_in {xs : List Int} {r : List NodeI × Nat} (h : rdN xs = some r) : isNT r.1 = true ∧ ntB r.1 = xs.take r.2 ∧ r.2 ≤ xs.length := by
  unfold rdN at h
  split at h
  · cases h
  · rename_i h0
    split at h
    · rename_i q hq
      split at h
      · rename_i h1
        injection h with h; subst h
        exact ⟨h1.1, h1.2, (prsN_at xs _ 1 _ hq (by omega)).1⟩
      · cases h
    · cases h
def RdN (o : Option (List NodeI × Nat)) (ys : List NodeI) (sz : Int) (ok : Bool) : Prop := match o with
  | none => ys = [] ∧ sz = 0 ∧ ok = false
  | some r => ys = r.1 ∧ sz = (r.2 : Int) ∧ ok = true
theorem RdN.f {o : Option (List NodeI × Nat)} {ys : List NodeI} {sz : Int} (h : RdN o ys sz false) : o = none ∧ ys = [] ∧ sz = 0 := by
  cases o with
  | none => exact ⟨rfl, h.1, h.2.1⟩
  | some r => exact absurd h.2.2 (by decide)
theorem RdN.t {o : Option (List NodeI × Nat)} {ys : List NodeI} {sz : Int} (h : RdN o ys sz true) : ∃ r, o = some r ∧ ys = r.1 ∧ sz = (r.2 : Int) := by
  cases o with
  | none => exact absurd h.2.2 (by decide)
  | some r => exact ⟨r, rfl, h.1, h.2.1⟩
def c4 (xs : List Int) (a : Nat) : Nat := nAt xs (nAt xs (nAt xs (nAt xs a)))
def b4 (xs : List Int) (a : Nat) (b : Bool) : Bool := nBad xs (nAt xs (nAt xs (nAt xs a))) (nBad xs (nAt xs (nAt xs a)) (nBad xs (nAt xs a) (nBad xs a b)))
def entN (xs : List Int) (a : Nat) : List Int × Nat × Bool := someR xs (nV xs (c4 xs a)).toNat (nAt xs (c4 xs a)) (nBad xs (c4 xs a) (b4 xs a false))
def nodeR (xs : List Int) (a : Nat) : NodeI := ⟨nV xs a, runP (entN xs a).1, 256 * nV xs (nAt xs a) + nV xs (nAt xs (nAt xs a)), decide (nV xs (nAt xs (nAt xs (nAt xs a))) = 1)⟩
theorem entN_le {xs : List Int} {a : Nat} (ha : a ≤ xs.length) : (entN xs a).2.1 ≤ xs.length := someR_le xs _ _ _ (nAt_le (nAt_le (nAt_le (nAt_le (nAt_le ha)))))
theorem entN_len {xs : List Int} (hb : isB xs = true) (a : Nat) : (entN xs a).1.length ≤ 255 := by
  have h1 := nV_in hb (c4 xs a)
  exact Nat.le_trans (someR_len xs _ _ _) (by omega)
theorem entN_good {xs : List Int} {a : Nat} (h : a + 5 + nmL xs a ≤ xs.length) :
    entN xs a = ((xs.drop (a + 5)).take (nmL xs a), a + 5 + nmL xs a, false) ∧ nV xs a = xs.getD a 0 ∧ nV xs (nAt xs a) = xs.getD (a + 1) 0 ∧ nV xs (nAt xs (nAt xs a)) = xs.getD (a + 2) 0 ∧ nV xs (nAt xs (nAt xs (nAt xs a))) = xs.getD (a + 3) 0 := by
  obtain ⟨h1, h2, h3⟩ := n_ok (show a < xs.length by omega) false
  obtain ⟨h4, h5, h6⟩ := n_ok (show a + 1 < xs.length by omega) false
  obtain ⟨h7, h8, h9⟩ := n_ok (show a + 1 + 1 < xs.length by omega) false
  obtain ⟨h10, h11, h12⟩ := n_ok (show a + 1 + 1 + 1 < xs.length by omega) false
  obtain ⟨h13, h14, h15⟩ := n_ok (show a + 1 + 1 + 1 + 1 < xs.length by omega) false
  have e4 : c4 xs a = a + 4 := by unfold c4; rw [h1, h4, h7, h10]
  have e5 : b4 xs a false = false := by unfold b4; rw [h1, h4, h7, h2, h5, h8, h11]
  refine ⟨?_, h3, by rw [h1, h6], by rw [h1, h4, h9], by rw [h1, h4, h7, h12]⟩
  unfold entN
  rw [e4, e5, h13, h14, h15]
  exact someR_good xs _ _ h
theorem entN_short {xs : List Int} {a : Nat} (ha : a ≤ xs.length) (h : xs.length < a + 5 + nmL xs a) : (entN xs a).2.2 = true := by
  unfold entN
  by_cases e : nBad xs (c4 xs a) (b4 xs a false) = true
  · rw [e]; exact someR_bad xs _ _
  · have e0 : ¬ a = xs.length := fun h => e (by
      have : nBad xs a false = true := by unfold nBad; rw [if_pos h]
      unfold b4; rw [this, nBad_keep, nBad_keep, nBad_keep, nBad_keep])
    obtain ⟨h1, h2, h3⟩ := n_ok (show a < xs.length by omega) false
    have e1 : ¬ a + 1 = xs.length := fun h => e (by
      have : nBad xs (a + 1) (nBad xs a false) = true := by unfold nBad; rw [if_pos h]
      unfold b4; rw [h1, this, nBad_keep, nBad_keep, nBad_keep])
    obtain ⟨h4, h5, h6⟩ := n_ok (show a + 1 < xs.length by omega) false
    have e2 : ¬ a + 1 + 1 = xs.length := fun h => e (by
      have : nBad xs (a + 1 + 1) (nBad xs (a + 1) (nBad xs a false)) = true := by unfold nBad; rw [if_pos h]
      unfold b4; rw [h1, h4, this, nBad_keep, nBad_keep])
    obtain ⟨h7, h8, h9⟩ := n_ok (show a + 1 + 1 < xs.length by omega) false
    have e3 : ¬ a + 1 + 1 + 1 = xs.length := fun h => e (by
      have : nBad xs (a + 1 + 1 + 1) (nBad xs (a + 1 + 1) (nBad xs (a + 1) (nBad xs a false))) = true := by unfold nBad; rw [if_pos h]
      unfold b4; rw [h1, h4, h7, this, nBad_keep])
    obtain ⟨h10, h11, h12⟩ := n_ok (show a + 1 + 1 + 1 < xs.length by omega) false
    have e4 : c4 xs a = a + 4 := by unfold c4; rw [h1, h4, h7, h10]
    have e5 : ¬ a + 1 + 1 + 1 + 1 = xs.length := fun h => e (by
      rw [e4]; unfold nBad; rw [if_pos h])
    obtain ⟨h13, h14, h15⟩ := n_ok (show a + 1 + 1 + 1 + 1 < xs.length by omega) false
    have e6 : b4 xs a false = false := by unfold b4; rw [h1, h4, h7, h2, h5, h8, h11]
    rw [e4, e6, h13, h14, h15]
    exact someR_short xs _ _ (by omega) (by show xs.length < a + 5 + nmL xs a; exact h)
/-- the table as the cursor reads it, and as it is: alike, or neither is a table -/
def RelN (ys zs : List NodeI) : Prop := ys = zs ∨ ((∃ y ∈ ys, nodeOk y = false) ∧ ∃ z ∈ zs, nodeOk z = false)
theorem RelN.snoc {ys zs : List NodeI} {y z : NodeI} (h : RelN ys zs) (h2 : y = z ∨ (nodeOk y = false ∧ nodeOk z = false)) : RelN (ys ++ [y]) (zs ++ [z]) := by
  rcases h with h | ⟨⟨u, hu, hu2⟩, v, hv, hv2⟩
  · rcases h2 with h2 | ⟨h2, h3⟩
    · left; rw [h, h2]
    · right; exact ⟨⟨y, by simp, h2⟩, z, by simp, h3⟩
  · right; exact ⟨⟨u, by simp [hu], hu2⟩, v, by simp [hv], hv2⟩
theorem not_nt {ys : List NodeI} (h : ∃ y ∈ ys, nodeOk y = false) : isNT ys = false := by
  obtain ⟨y, h1, h2⟩ := h
  rw [Bool.eq_false_iff]
  intro h3
  rw [isNT_all h3 y h1] at h2; cases h2
theorem nodeR_rel {xs : List Int} (hb : isB xs = true) {a : Nat} (h : a + 5 + nmL xs a ≤ xs.length) : nodeR xs a = nodeE xs a ∨ (nodeOk (nodeR xs a) = false ∧ nodeOk (nodeE xs a) = false) := by
  obtain ⟨e, h1, h2, h3, h4⟩ := entN_good h
  have hl : ∀ x ∈ (xs.drop (a + 5)).take (nmL xs a), 0 ≤ x ∧ x ≤ 255 := fun x hx => by
    obtain ⟨k, hk⟩ := List.mem_iff_getElem?.1 (List.mem_of_mem_drop (List.mem_of_mem_take hx))
    exact isB_at hb hk
  have e1 : nodeR xs a = ⟨xs.getD a 0, runP ((xs.drop (a + 5)).take (nmL xs a)), 256 * xs.getD (a + 1) 0 + xs.getD (a + 2) 0, decide (xs.getD (a + 3) 0 = 1)⟩ := by
    unfold nodeR; rw [e, h1, h2, h3, h4]
  rw [e1]
  rcases name_both hl with h5 | ⟨h5, h6⟩
  · left; rw [h5]; rfl
  · right
    unfold nodeE
    change nameOk (strB ((xs.drop (a + 5)).take (nmL xs a))) = false at h6
    constructor
    · simp only [nodeOk, h5, Bool.and_false, Bool.false_and]
    · have h7 : nameOk (strB ((xs.drop (a + 5)).take (xs.getD (a + 4) 0).toNat)) = false := h6
      simp only [nodeOk, h7, Bool.and_false, Bool.false_and]
def HgN (xs : List Int) (rem a : Nat) (b : Bool) (ys : List NodeI) : Prop :=
  (b = false → xs.length ≠ 0 ∧ ∃ zs, RelN ys zs ∧ prsN xs (xs.getD 0 0).toNat 1 = (prsN xs rem a).map fun r => (zs ++ r.1, r.2)) ∧ (b = true → rdN xs = none)
theorem HgN.start (xs : List Int) : HgN xs (nV xs 0).toNat (nAt xs 0) (nBad xs 0 false) [] := by
  by_cases h : xs.length = 0
  · have e : nBad xs 0 false = true := by unfold nBad; rw [if_pos h.symm]
    rw [e]
    exact ⟨fun hh => (by cases hh), fun _ => rdN_empty h⟩
  · obtain ⟨h1, h2, h3⟩ := n_ok (xs := xs) (a := 0) (by omega) false
    rw [h1, h2, h3]
    refine ⟨fun _ => ⟨h, [], .inl rfl, ?_⟩, fun hh => (by cases hh)⟩
    cases prsN xs (xs.getD 0 0).toNat (0 + 1) <;> simp
theorem HgN.step {xs : List Int} {rem a : Nat} {ys : List NodeI} (hB : isB xs = true) (h : HgN xs rem a false ys) (hr : 0 < rem) (ha : a ≤ xs.length) :
    HgN xs (rem - 1) (entN xs a).2.1 (entN xs a).2.2 (ys ++ [nodeR xs a]) := by
  obtain ⟨h3, zs, h4, h5⟩ := h.1 rfl
  by_cases hg : a + 5 + nmL xs a ≤ xs.length
  · obtain ⟨e, _⟩ := entN_good hg
    rw [e]
    refine ⟨fun _ => ⟨h3, zs ++ [nodeE xs a], h4.snoc (nodeR_rel hB hg), ?_⟩, fun hb => by cases hb⟩
    rw [h5, prsN_step hr hg]
    cases prsN xs (rem - 1) (a + 5 + nmL xs a) <;> simp
  · have e := entN_short ha (by omega)
    rw [e]
    refine ⟨fun hb => (by cases hb), fun _ => rdN_none h3 ?_⟩
    rw [h5, prsN_short hr (by omega)]; rfl
theorem HgN.stop {xs : List Int} {a : Nat} {ys : List NodeI} (h : HgN xs 0 a false ys) : (isNT ys = false → rdN xs = none) ∧ (isNT ys = true → ntB ys ≠ xs.take a → rdN xs = none) ∧ (isNT ys = true → ntB ys = xs.take a → rdN xs = some (ys, a)) := by
  obtain ⟨h3, zs, h4, h5⟩ := h.1 rfl
  have h6 : prsN xs (xs.getD 0 0).toNat 1 = some (zs, a) := by rw [h5]; simp [prsN]
  rcases h4 with rfl | ⟨h7, h8⟩
  · exact ⟨fun h => rdN_not h3 h6 h, fun _ h => rdN_not2 h3 h6 h, fun h1 h2 => rdN_some h3 h6 h1 h2⟩
  · have h9 := not_nt h7
    exact ⟨fun _ => rdN_not h3 h6 (not_nt h8), fun h => (by rw [h9] at h; cases h), fun h => (by rw [h9] at h; cases h)⟩
section
variable {P : Program} {n : Nat} {ops : Array Oper} {K : List (Nat × Value) → World → Prop} {l : List Oper} {fl : List Bool} {e : List (Nat × Value)} {S : World → Prop}
end
theorem ow_convIS {P : Program} {e : List (Nat × Value)} {w : World} {K : Value → World → Prop} {ty : TypeId} {x : Operand} {src dst : TypeId} {k k1 : IntKind} {n : Int} (hs : P.underlying src = some (.int k1)) (hd : P.underlying dst = some .string) (hx : evO e x = some (.int k n)) (h : K (.string (Utf8.encode n)) w) : OpWp P e (.convert src dst x) ty w K := fun ρ d p a g hρ => by
  have h1 := hρ _ _ hx
  simp [execOp, h1, convert, run_underlying hs, run_underlying hd, Conv.intToString, upto]; exact h
theorem wi32 {n : Int} (h : 0 ≤ n ∧ n ≤ 255) : IntKind.i32.wrap n = n := by
  have h1 : n % 4294967296 = n := by omega
  simp [IntKind.wrap, IntKind.bits, IntKind.signed, h1]; omega
theorem wu8n {n : Int} (h : 0 ≤ n ∧ n ≤ 255) : IntKind.u8.wrap n = ((n.toNat.toUInt8).toNat : Int) := by
  have h1 : n % 256 = n := by omega
  have e : (n.toNat.toUInt8).toNat = n.toNat := by
    show (UInt8.ofNat n.toNat).toNat = _
    rw [UInt8.toNat_ofNat']; omega
  rw [e]
  simp [IntKind.wrap, IntKind.bits, IntKind.signed, h1]; omega
theorem sameI_n (A : Option Addr) (B c n : Nat) (xs : List Int) (A2 : Option Addr) (B2 c2 n2 : Nat) (ys : List Int) (w : World) (hs : Sl B w A (xs.flatMap eI)) (h2 : Sl B2 w A2 (ys.flatMap eI)) (hl : xs.length ≤ 1048576) (e1 : xs.length = n) (e2 : ys.length = n2) :
    Calls Tryz.prog 240 #[.slice A n c, .slice A2 n2 c2] w (Ret fun v w' => v = .bool (decide (xs = ys)) ∧ Ext w w') := by
  subst e1; subst e2; exact sameI_c A B c xs A2 B2 c2 ys w hs h2 hl
theorem someR_b {xs : List Int} (hb : isB xs = true) : ∀ (n a : Nat) (bad : Bool), ∀ x ∈ (someR xs n a bad).1, 0 ≤ x ∧ x ≤ 255
  | 0, a, bad, x, hx => by simp [someR] at hx
  | n + 1, a, true, x, hx => by simp [someR] at hx
  | n + 1, a, false, x, hx => by
    simp only [someR] at hx
    rcases List.mem_cons.1 hx with rfl | h
    · exact nV_in hb a
    · exact someR_b hb n _ _ x h
theorem entN_b {xs : List Int} {a k : Nat} {z : Int} (hb : isB xs = true) (h : (entN xs a).1[k]? = some z) : 0 ≤ z ∧ z ≤ 255 := someR_b hb _ _ _ z (List.mem_of_getElem? h)
theorem one_bytes (bs : List UInt8) : ∀ u ∈ bs.flatMap eB, u.oneCell' = true := fun u hu => by
  obtain ⟨x, _, h⟩ := List.mem_flatMap.1 hu
  simp only [eB, List.mem_cons, List.not_mem_nil, or_false] at h
  subst h; rfl
theorem byteL_step {xs : List Int} {k a : Nat} {x : Int} (h : xs[a + k]? = some x) : ((xs.drop a).take (k + 1)).map (fun x => x.toNat.toUInt8) = ((xs.drop a).take k).map (fun x => x.toNat.toUInt8) ++ [x.toNat.toUInt8] := by
  rw [List.take_add_one, List.getElem?_drop, h]; simp
end Go.Proofs.YtdoibplhbdkapaaGreatDoor
namespace Go.Proofs.YtdoibplhbdkapaaGreatDoor
open Go.RowKit
set_option linter.unusedVariables false
set_option linter.unusedSimpArgs false
set_option maxRecDepth 20000
theorem next_c (A : Option Addr) (B c : Nat) (xs : List Int) (gC a : Nat) (bad : Bool) (w : World) (q : Blk w gC 166 (curC A c xs a bad)) (hs : Sl B w A (xs.flatMap eI)) (hl : xs.length ≤ 1048576) (ha : a ≤ xs.length) (hB : B ≤ gC) :
    Calls Tryz.prog 160 #[.pointer (some ⟨gC, 0, none⟩)] w (Ret fun v w' => v = .int .i64 (nV xs a) ∧ Blk w' gC 166 (curC A c xs (nAt xs a) (nBad xs a bad)) ∧ w.grownBy w' (some gC)) := by
  have Bhs := hs.1
  have X := gb_refl w (some gC)
  refine calls_of (args := [.pointer (some ⟨gC, 0, none⟩)]) Tryz.func160 Tryz.ntmps160 rfl rfl ?_
  refine c_seqR ?_
  refine ops_cons rfl (ow_assign rfl ?_)
  refine ops_nil ?_
  refine c_seq ?_
  refine c_seqD [false, false, false, false, false, false, false, false, false, false] mixed (by kernel_rfl) ?_
  refine f_q rfl (fun wq sq => ow_move rfl ⟨rfl, Ext.refl _⟩) ?_
  refine f_q rfl (fun wq sq => ow_nilCheck rfl ⟨rfl, Ext.refl _⟩) ?_
  refine f_q rfl (fun wq sq => ow_fieldAddrB off166_1 rfl rfl ⟨rfl, Ext.refl _⟩) ?_
  refine f_q rfl (fun wq sq => ow_loadB (q.ext sq) ti3 rfl rfl ⟨rfl, Ext.refl _⟩) ?_
  refine f_q rfl (fun wq sq => ow_move rfl ⟨rfl, Ext.refl _⟩) ?_
  refine f_q rfl (fun wq sq => ow_nilCheck rfl ⟨rfl, Ext.refl _⟩) ?_
  refine f_q rfl (fun wq sq => ow_fieldAddrB off166_0 rfl rfl ⟨rfl, Ext.refl _⟩) ?_
  refine f_q rfl (fun wq sq => ow_loadB (q.ext sq) ti30 rfl rfl ⟨rfl, Ext.refl _⟩) ?_
  refine f_q rfl (fun wq sq => ow_len Tryz.underlying30 rfl ⟨rfl, Ext.refl _⟩) ?_
  refine f_qb rfl (fun wq sq => ow_eql rfl rfl ⟨rfl, Ext.refl _⟩) (fun he => ?_) (fun he => ?_)
  refine f_nil (fun w1 sq => ?_)
  have xq := sq
  replace q := q.ext xq
  replace hs := hs.ext xq
  replace X := gb_ext X xq; clear xq sq
  refine ops_nil ?_
  refine c_true rfl ?_
  refine c_seqR ?_
  refine ops_cons rfl (ow_move rfl ?_)
  refine ops_cons rfl (ow_nilCheck rfl ?_)
  refine ops_cons rfl (ow_fieldAddrB off166_2 rfl rfl ?_)
  refine ops_cons rfl (ow_storeB q ti4 rfl rfl rfl rfl rfl rfl ?_)
  intro w3 q2 hg2 z4
  replace hs := hs.grown hg2 (by intro g hg; injection hg; omega)
  replace X := gb_trans X hg2
  clear hg2 q
  refine ops_nil ?_
  refine c_seqR ?_
  refine ops_cons rfl (ow_assign rfl ?_)
  refine ops_nil ?_
  refine c_ret ?_
  refine tq_r ?_
  refine fin_ret1 rfl rfl ?_
  · skip
    first
    | (have e1 : nV xs a = 0 := by unfold nV; rw [if_pos (by omega)]
       have e2 : nAt xs a = a := by unfold nAt; rw [if_pos (by omega)]
       have e3 : nBad xs a bad = true := by unfold nBad; rw [if_pos (by omega)]
       rw [e1, e2, e3]; exact ⟨rfl, q2, X⟩)
    | (have e1 : nV xs a = x := by unfold nV; rw [if_neg (by omega), List.getD_eq_getElem?_getD, hx]; rfl
       have e2 : nAt xs a = a + 1 := by unfold nAt; rw [if_neg (by omega)]
       have e3 : nBad xs a bad = bad := by unfold nBad; rw [if_neg (by omega)]
       rw [e1, e2, e3]; exact ⟨rfl, q2, X⟩)
  obtain ⟨x, hx, dx⟩ := drop_at (xs := xs) (k := a) (by omega)
  refine f_nil (fun w5 sq => ?_)
  have xq := sq
  replace q := q.ext xq
  replace hs := hs.ext xq
  replace X := gb_ext X xq; clear xq sq
  refine ops_nil ?_
  refine c_false rfl ?_
  refine c_skip ?_
  refine tq_n ?_
  refine c_seqR ?_
  refine ops_cons rfl (ow_move rfl ?_)
  refine ops_cons rfl (ow_nilCheck rfl ?_)
  refine ops_cons rfl (ow_fieldAddrB off166_1 rfl rfl ?_)
  refine ops_cons rfl (ow_loadB q ti3 rfl rfl ?_)
  refine ops_cons rfl (ow_add rfl rfl (w64 (by omega)) ?_)
  refine ops_cons rfl (ow_nilCheck rfl ?_)
  refine ops_cons rfl (ow_fieldAddrB off166_1 rfl rfl ?_)
  refine ops_cons rfl (ow_storeB q ti3 rfl rfl rfl rfl rfl rfl ?_)
  intro w7 q2 hg6 z8
  replace hs := hs.grown hg6 (by intro g hg; injection hg; omega)
  replace X := gb_trans X hg6
  clear hg6 q
  refine ops_nil ?_
  refine c_seqD [false, false, false, false, false, false, false, false, false, false, false, false] mixed (by kernel_rfl) ?_
  refine f_q rfl (fun wq sq => ow_move rfl ⟨rfl, Ext.refl _⟩) ?_
  refine f_q rfl (fun wq sq => ow_nilCheck rfl ⟨rfl, Ext.refl _⟩) ?_
  refine f_q rfl (fun wq sq => ow_fieldAddrB off166_0 rfl rfl ⟨rfl, Ext.refl _⟩) ?_
  refine f_q rfl (fun wq sq => ow_loadB (q2.ext sq) ti30 rfl rfl ⟨rfl, Ext.refl _⟩) ?_
  refine f_q rfl (fun wq sq => ow_move rfl ⟨rfl, Ext.refl _⟩) ?_
  refine f_q rfl (fun wq sq => ow_nilCheck rfl ⟨rfl, Ext.refl _⟩) ?_
  refine f_q rfl (fun wq sq => ow_fieldAddrB off166_1 rfl rfl ⟨rfl, Ext.refl _⟩) ?_
  refine f_q rfl (fun wq sq => ow_loadB (q2.ext sq) ti3 rfl rfl ⟨rfl, Ext.refl _⟩) ?_
  refine f_q rfl (fun wq sq => ow_sub rfl rfl (w64 (by omega)) ⟨rfl, Ext.refl _⟩) ?_
  refine f_q rfl (fun wq sq => ow_indexT (hs.ext sq) eI_len rfl el30 rfl rfl rfl hx (by omega) ⟨rfl, Ext.refl _⟩) ?_
  refine f_q rfl (fun wq sq => ow_loadT (hs.ext sq) eI_len hx ti2 rfl rfl rfl ⟨rfl, Ext.refl _⟩) ?_
  refine f_q rfl (fun wq sq => ow_assign rfl ⟨rfl, Ext.refl _⟩) ?_
  refine f_nil (fun w9 sq => ?_)
  have xq := sq
  replace hs := hs.ext xq
  replace q2 := q2.ext xq
  replace X := gb_ext X xq; clear xq sq
  refine ops_nil ?_
  refine c_ret ?_
  refine fin_ret1 rfl rfl ?_
  · skip
    first
    | (have e1 : nV xs a = 0 := by unfold nV; rw [if_pos (by omega)]
       have e2 : nAt xs a = a := by unfold nAt; rw [if_pos (by omega)]
       have e3 : nBad xs a bad = true := by unfold nBad; rw [if_pos (by omega)]
       rw [e1, e2, e3]; exact ⟨rfl, q2, X⟩)
    | (have e1 : nV xs a = x := by unfold nV; rw [if_neg (by omega), List.getD_eq_getElem?_getD, hx]; rfl
       have e2 : nAt xs a = a + 1 := by unfold nAt; rw [if_neg (by omega)]
       have e3 : nBad xs a bad = bad := by unfold nBad; rw [if_neg (by omega)]
       rw [e1, e2, e3]; exact ⟨rfl, q2, X⟩)

theorem some_c (A : Option Addr) (B c : Nat) (xs : List Int) (gC a : Nat) (bad : Bool) (z : Int) (w : World) (q : Blk w gC 166 (curC A c xs a bad)) (hs : Sl B w A (xs.flatMap eI)) (hl : xs.length ≤ 1048576) (ha : a ≤ xs.length) (hB : B ≤ gC) (hz0 : 0 ≤ z ∧ z ≤ 1048576) :
    Calls Tryz.prog 161 #[.pointer (some ⟨gC, 0, none⟩), .int .i64 z] w (Ret fun v w' => ∃ A' c', v = .slice A' (someR xs z.toNat a bad).1.length c' ∧ Own w' w.heap.size 2 1 A' (someR xs z.toNat a bad).1.length c' ((someR xs z.toNat a bad).1.flatMap eI) ∧ Blk w' gC 166 (curC A c xs (someR xs z.toNat a bad).2.1 (someR xs z.toNat a bad).2.2) ∧ w.grownBy w' (some gC)) := by
  have Bhs := hs.1
  have X := gb_refl w (some gC)
  refine calls_of (args := [.pointer (some ⟨gC, 0, none⟩), .int .i64 z]) Tryz.func161 Tryz.ntmps161 rfl rfl ?_
  refine c_seqR ?_
  refine ops_cons rfl (ow_assign rfl ?_)
  refine ops_nil ?_
  refine c_seqR ?_
  refine ops_cons rfl (ow_buildSlice el30 ti2 rfl rfl rfl rfl rfl ?_)
  intro gO w2 egO oO bbgO x1 zgO
  replace oO := Own.low oO X.size
  replace q := q.ext x1
  replace hs := hs.ext x1
  replace X := gb_ext X x1; clear x1
  refine ops_cons rfl (ow_assign rfl ?_)
  refine ops_nil ?_
  refine c_seq ?_
  refine c_block ?_
  refine c_loop (G := Nat × List Int × Nat × Bool × Nat × Option Addr × Nat × Int) (fun ⟨k, ys, a1, b1, n1, A1, c1, tm⟩ => [(0, .pointer (some ⟨gC, 0, none⟩)), (4, .slice none 0 0), (1, .int .i64 tm), (5, .slice A1 n1 c1)]) (fun ⟨k, ys, a1, b1, n1, A1, c1, tm⟩ wr => k ≤ z.toNat ∧ tm = z - k ∧ a1 ≤ xs.length ∧ (n1 = ys.length ∧ n1 ≤ k) ∧ someR xs z.toNat a bad = (ys ++ (someR xs (z.toNat - k) a1 b1).1, (someR xs (z.toNat - k) a1 b1).2) ∧ Blk wr gC 166 (curC A c xs a1 b1) ∧ Own wr w.heap.size 2 1 A1 n1 c1 (ys.flatMap eI) ∧ Sl B wr A (xs.flatMap eI) ∧ w.grownBy wr (some gC)) (fun ⟨k, ys, a1, b1, n1, A1, c1, tm⟩ => z.toNat - k) (0, [], a, bad, 0, some ⟨gO, 0, none⟩, 0, z) (.cons rfl (.cons rfl (.cons rfl (.cons rfl (.nil _))))) ?_ ?_
  · exact ⟨by omega, by omega, ha, ⟨rfl, by omega⟩, rfl, q, oO, hs, X⟩
  clear q hs oO
  clear X
  rintro ⟨k, ys, a1, b1, n1, A1, c1, tm⟩ wr ⟨hk0, htm, ha1, hn, hi, q, oO, hs, X⟩
  refine c_seq ?_
  refine c_seqR ?_
  refine ops_cons rfl (ow_move rfl ?_)
  refine ops_cons rfl (ow_gtr2 rfl rfl (fun hk => ?_) (fun hk => ?_))
  refine ops_cons rfl (ow_move rfl ?_)
  refine ops_want rfl rfl rfl (ow_move rfl ?_)
  refine ops_want rfl rfl rfl (ow_nilCheck rfl ?_)
  refine ops_want rfl rfl rfl (ow_fieldAddrB off166_2 rfl rfl ?_)
  refine ops_want rfl rfl rfl (ow_loadB q ti4 rfl rfl ?_)
  refine ops_want rfl rfl rfl (ow_not rfl ?_)
  refine ops_cons rfl (ow_pick rfl rfl ?_)
  refine ops_nil ?_
  refine c_split rfl (fun h3 => ?_) (fun h3 => ?_)
  refine c_skip ?_
  refine tq_n ?_
  refine c_seq ?_
  refine c_block ?_
  refine c_region ?_
  refine ops_cons rfl (ow_move rfl ?_)
  refine ops_cons rfl (ow_move rfl ?_)
  refine ops_cons rfl (ow_call ent160 rfl (ret_mono (next_c _ _ _ _ _ _ _ _ q hs hl ha1 hB) ?_))
  rintro _ w5 ⟨rfl, q2, x4⟩
  replace oO := oO.grownBlk x4 (Own.neT oO q (by decide))
  replace hs := hs.grown x4 (by intro g hg; injection hg; omega)
  replace X := gb_trans X x4
  clear x4 q
  refine ops_cons rfl (ow_buildSlice el30 ti2 rfl rfl rfl rfl rfl ?_)
  intro g6 w9 eg6 oT bbg6 x7 zg6
  replace oT := Own.low oT X.size
  replace oO := oO.ext x7
  replace hs := hs.ext x7
  replace q2 := q2.ext x7
  replace X := gb_ext X x7; clear x7
  refine ops_cons rfl (ow_append (ts := #[]) oO X.size oT.sl (by first | rfl | simp) (by first | exact List.all_eq_true.1 rfl | simp [Value.oneCell']) el30 ti2 rfl rfl rfl rfl (by omega) (by omega) ?_)
  intro AoN coN w11 oN hg10
  replace hs := hs.grown hg10 (fun g hg => Nat.le_trans Bhs (Own.lt oO hg).1)
  replace q2 := q2.grown hg10 (fun h => Own.neT oO q2 (by decide) h.symm)
  replace X := gb_new X hg10 (fun g hg => (Own.lt oO hg).1)
  clear hg10
  refine ops_cons rfl (ow_assign rfl ?_)
  refine ops_nil ?_
  refine bq_n ?_
  refine tq_n ?_
  refine c_region ?_
  refine ops_cons rfl (ow_move rfl ?_)
  refine ops_cons rfl (ow_sub rfl rfl (w64 (by omega)) ?_)
  refine ops_cons rfl (ow_assign rfl ?_)
  refine ops_nil ?_
  refine tq_n ⟨(k + 1, ys ++ [nV xs a1], nAt xs a1, nBad xs a1 b1, n1 + 1, AoN, coN, tm - 1), (.cons rfl (.cons rfl (.cons rfl (.cons rfl (.nil _))))), ?_, ?_⟩
  · skip
    exact ⟨by omega, by omega, nAt_le ha1, ⟨by simp [hn.1], by omega⟩, (by
      have hb : b1 = false := by simpa using ‹(!b1) = true›
      rw [hi, someR_step xs (show 0 < z.toNat - k by omega) hb, show z.toNat - k - 1 = z.toNat - (k + 1) by omega]; simp), q2, oN.to (snoc eI ys _).symm, hs, X⟩
  · first | omega | (dsimp only; omega)
  refine c_exit ?_
  refine tq_e ?_
  refine tq_e ?_
  refine bq_e ?_
  refine tq_n ?_
  refine c_seqR ?_
  refine ops_cons rfl (ow_move rfl ?_)
  refine ops_cons rfl (ow_assign rfl ?_)
  refine ops_nil ?_
  refine c_ret ?_
  refine fin_ret1 rfl rfl ?_
  · skip
    have hst : z.toNat - k = 0 ∨ b1 = true := by
      first
      | (left; omega)
      | (right; simpa using ‹(!b1) = false›)
    rw [hi, someR_stop xs _ _ hst, List.append_nil, ← hn.1]
    exact ⟨_, _, rfl, oO, q, X⟩
  refine ops_cons rfl (ow_move rfl ?_)
  refine ops_skip rfl rfl rfl rfl ?_
  refine ops_skip rfl rfl rfl rfl ?_
  refine ops_skip rfl rfl rfl rfl ?_
  refine ops_skip rfl rfl rfl rfl ?_
  refine ops_skip rfl rfl rfl rfl ?_
  refine ops_cons rfl (ow_pick rfl rfl ?_)
  refine ops_nil ?_
  refine c_false rfl ?_
  refine c_exit ?_
  refine tq_e ?_
  refine tq_e ?_
  refine bq_e ?_
  refine tq_n ?_
  refine c_seqR ?_
  refine ops_cons rfl (ow_move rfl ?_)
  refine ops_cons rfl (ow_assign rfl ?_)
  refine ops_nil ?_
  refine c_ret ?_
  refine fin_ret1 rfl rfl ?_
  · skip
    have hst : z.toNat - k = 0 ∨ b1 = true := by
      first
      | (left; omega)
      | (right; simpa using ‹(!b1) = false›)
    rw [hi, someR_stop xs _ _ hst, List.append_nil, ← hn.1]
    exact ⟨_, _, rfl, oO, q, X⟩
end Go.Proofs.YtdoibplhbdkapaaGreatDoor
namespace Go.Proofs.YtdoibplhbdkapaaGreatDoor
open Go.RowKit
set_option linter.unusedVariables false
set_option linter.unusedSimpArgs false
set_option maxRecDepth 20000
theorem l01All_c (A : Option Addr) (B c : Nat) (xs : List Int) (m hi0 : Int) (w : World) (hs : Sl B w A (xs.flatMap eI)) (hl : xs.length ≤ 1048576) :
    Calls Tryz.prog 178 #[.slice A xs.length c, .int .i64 m, .int .i64 hi0] w (Ret fun v w' => v = .bool (decide ((xs.length : Int) ≤ m) && xs.all fun x => inB x 0 hi0) ∧ Ext w w') := by
  have Bhs := hs.1
  have X := Ext.refl w
  refine calls_of (args := [.slice A xs.length c, .int .i64 m, .int .i64 hi0]) Tryz.func178 Tryz.ntmps178 rfl rfl ?_
  refine c_seqR ?_
  refine ops_cons rfl (ow_assign rfl ?_)
  refine ops_nil ?_
  refine c_seq ?_
  refine c_seqR ?_
  refine ops_cons rfl (ow_move rfl ?_)
  refine ops_cons rfl (ow_len Tryz.underlying30 rfl ?_)
  refine ops_cons rfl (ow_move rfl ?_)
  refine ops_cons rfl (ow_gtr2 rfl rfl (fun hm => ?_) (fun hm => ?_))
  refine ops_nil ?_
  refine c_true rfl ?_
  refine c_seqR ?_
  refine ops_cons rfl (ow_assign rfl ?_)
  refine ops_nil ?_
  refine c_ret ?_
  refine tq_r ?_
  refine fin_ret1 rfl rfl ?_
  · skip
    refine ⟨congrArg Value.bool ?_, X⟩
    first | (rw [decide_eq_false (by omega)]; rfl) | (rw [decide_eq_true (by omega), hi, drop_end hk]; rfl) | (rw [hi, dx]; simp [*])
  refine ops_nil ?_
  refine c_false rfl ?_
  refine c_skip ?_
  refine tq_n ?_
  refine c_seq ?_
  refine c_seqR ?_
  refine ops_cons rfl (ow_assign rfl ?_)
  refine ops_nil ?_
  refine c_block ?_
  refine c_loop (G := Nat) (fun k => [(0, .slice A xs.length c), (2, .int .i64 hi0), (7, .int .i64 (k : Nat))]) (fun k wr => k ≤ xs.length ∧ xs.all (fun x => inB x 0 hi0) = (xs.drop k).all (fun x => inB x 0 hi0) ∧ Sl B wr A (xs.flatMap eI) ∧ Ext w wr) (fun k => xs.length - k) 0 (.cons rfl (.cons rfl (.cons rfl (.nil _)))) ?_ ?_
  · exact ⟨by omega, rfl, hs, X⟩
  clear hs
  clear X
  rintro k wr ⟨hk0, hi, hs, X⟩
  refine c_seq ?_
  refine c_seqR ?_
  refine ops_cons rfl (ow_move rfl ?_)
  refine ops_cons rfl (ow_move rfl ?_)
  refine ops_cons rfl (ow_len Tryz.underlying30 rfl ?_)
  refine ops_cons rfl (ow_lss2 rfl rfl (fun hk => ?_) (fun hk => ?_))
  obtain ⟨x, hx, dx⟩ := drop_at' hk
  refine ops_nil ?_
  refine c_true rfl ?_
  refine c_skip ?_
  refine tq_n ?_
  refine c_seq ?_
  refine c_block ?_
  refine c_seqR ?_
  refine ops_cons rfl (ow_move rfl ?_)
  refine ops_cons rfl (ow_move rfl ?_)
  refine ops_cons rfl (ow_indexT hs eI_len rfl el30 rfl rfl rfl hx rfl ?_)
  refine ops_cons rfl (ow_loadT hs eI_len hx ti2 rfl rfl rfl ?_)
  refine ops_cons rfl (ow_move rfl ?_)
  refine ops_cons rfl (ow_callB ent111 rfl (l01In_c _ _ _ _) (fun w3 h1 x2 => ?_) (fun w3 h1 x2 => ?_))
  replace hs := hs.ext x2
  replace X := Ext.trans X x2; clear x2
  refine ops_cons rfl (ow_not rfl ?_)
  refine ops_nil ?_
  refine c_false rfl ?_
  refine c_skip ?_
  refine bq_n ?_
  refine tq_n ?_
  refine c_region ?_
  refine ops_cons rfl (ow_move rfl ?_)
  refine ops_cons rfl (ow_add rfl rfl (w64 (by omega)) ?_)
  refine ops_cons rfl (ow_assign rfl ?_)
  refine ops_nil ?_
  refine tq_n ⟨k + 1, (.cons rfl (.cons rfl (.cons rfl (.nil _)))), ?_, ?_⟩
  · exact ⟨by omega, (by rw [hi, dx]; simp [*]), hs, X⟩
  · first | omega | (dsimp only; omega)
  replace hs := hs.ext x2
  replace X := Ext.trans X x2; clear x2
  refine ops_cons rfl (ow_not rfl ?_)
  refine ops_nil ?_
  refine c_true rfl ?_
  refine c_seqR ?_
  refine ops_cons rfl (ow_assign rfl ?_)
  refine ops_nil ?_
  refine c_ret ?_
  refine bq_r ?_
  refine tq_r ?_
  refine tq_r ?_
  refine bq_r ?_
  refine tq_r ?_
  refine fin_ret1 rfl rfl ?_
  · skip
    refine ⟨congrArg Value.bool ?_, X⟩
    first | (rw [decide_eq_false (by omega)]; rfl) | (rw [decide_eq_true (by omega), hi, drop_end hk]; rfl) | (rw [hi, dx]; simp [*])
  refine ops_nil ?_
  refine c_false rfl ?_
  refine c_exit ?_
  refine tq_e ?_
  refine tq_e ?_
  refine bq_e ?_
  refine tq_n ?_
  refine c_seqR ?_
  refine ops_cons rfl (ow_assign rfl ?_)
  refine ops_nil ?_
  refine c_ret ?_
  refine fin_ret1 rfl rfl ?_
  · skip
    refine ⟨congrArg Value.bool ?_, X⟩
    first | (rw [decide_eq_false (by omega)]; rfl) | (rw [decide_eq_true (by omega), hi, drop_end hk]; rfl) | (rw [hi, dx]; simp [*])

theorem sIsBytes_c (A : Option Addr) (B c : Nat) (xs : List Int) (w : World) (hs : Sl B w A (xs.flatMap eI)) (hl : xs.length ≤ 1048576) :
    Calls Tryz.prog 98 #[.slice A xs.length c] w (Ret fun v w' => v = .bool (isB xs) ∧ Ext w w') := by
  have Bhs := hs.1
  have X := Ext.refl w
  refine calls_of (args := [.slice A xs.length c]) Tryz.func98 Tryz.ntmps98 rfl rfl ?_
  refine c_seqR ?_
  refine ops_cons rfl (ow_assign rfl ?_)
  refine ops_nil ?_
  refine c_seqR ?_
  refine ops_cons rfl (ow_move rfl ?_)
  refine ops_cons rfl (ow_call ent178 rfl (ret_mono (l01All_c _ _ _ _ _ _ _ hs hl) ?_))
  rintro _ w2 ⟨rfl, x1⟩
  replace hs := hs.ext x1
  replace X := Ext.trans X x1; clear x1
  refine ops_cons rfl (ow_assign rfl ?_)
  refine ops_nil ?_
  refine c_ret ?_
  refine fin_ret1 rfl rfl ?_
  exact ⟨by rfl, X⟩

theorem iIsBytes_c (A : Option Addr) (B c : Nat) (xs : List Int) (w : World) (hs : Sl B w A (xs.flatMap eI)) (hl : xs.length ≤ 1048576) :
    Calls Tryz.prog 74 #[.slice A xs.length c] w (Ret fun v w' => v = .bool (isB xs) ∧ Ext w w') := by
  have Bhs := hs.1
  have X := Ext.refl w
  refine calls_of (args := [.slice A xs.length c]) Tryz.func74 Tryz.ntmps74 rfl rfl ?_
  refine c_seqR ?_
  refine ops_cons rfl (ow_assign rfl ?_)
  refine ops_nil ?_
  refine c_seqR ?_
  refine ops_cons rfl (ow_move rfl ?_)
  refine ops_cons rfl (ow_len Tryz.underlying30 rfl ?_)
  refine ops_cons rfl (ow_leq2 rfl rfl (fun hm => ?_) (fun hm => ?_))
  refine ops_cons rfl (ow_move rfl ?_)
  refine ops_want rfl rfl rfl (ow_move rfl ?_)
  refine ops_want rfl rfl rfl (ow_call ent159 rfl (ret_mono (allWithin_c _ _ _ _ _ _ _ hs hl) ?_))
  rintro _ w2 ⟨rfl, x1⟩
  replace hs := hs.ext x1
  replace X := Ext.trans X x1; clear x1
  refine ops_cons rfl (ow_pick rfl rfl ?_)
  refine ops_cons rfl (ow_assign rfl ?_)
  refine ops_nil ?_
  refine c_ret ?_
  refine fin_ret1 rfl rfl ?_
  · skip
    refine ⟨congrArg Value.bool ?_, X⟩
    first | (rw [isB, decide_eq_false (by omega)]; rfl) | (rw [isB, decide_eq_true (by omega)]; simp [*])
  refine ops_cons rfl (ow_move rfl ?_)
  refine ops_skip rfl rfl rfl rfl ?_
  refine ops_skip rfl rfl rfl rfl ?_
  refine ops_cons rfl (ow_pick rfl rfl ?_)
  refine ops_cons rfl (ow_assign rfl ?_)
  refine ops_nil ?_
  refine c_ret ?_
  refine fin_ret1 rfl rfl ?_
  · skip
    refine ⟨congrArg Value.bool ?_, X⟩
    first | (rw [isB, decide_eq_false (by omega)]; rfl) | (rw [isB, decide_eq_true (by omega)]; simp [*])

theorem l01Own_c (A : Option Addr) (B c n : Nat) (xs : List Int) (w : World) (hs : Sl B w A (xs.flatMap eI)) (en : n = xs.length) (hl : xs.length ≤ 1048576) :
    Calls Tryz.prog 196 #[.slice A n c] w (Ret fun v w' => ∃ A' c', v = .slice A' xs.length c' ∧ Own w' w.heap.size 2 1 A' xs.length c' (xs.flatMap eI) ∧ Ext w w') := by
  have Bhs := hs.1
  have X := Ext.refl w
  refine calls_of (args := [.slice A n c]) Tryz.func196 Tryz.ntmps196 rfl rfl ?_
  refine c_seqR ?_
  refine ops_cons rfl (ow_assign rfl ?_)
  refine ops_nil ?_
  refine c_seqR ?_
  refine ops_cons rfl (ow_buildSlice el30 ti2 rfl rfl rfl rfl rfl ?_)
  intro gO w2 egO oO bbgO x1 zgO
  replace oO := Own.low oO X.size
  replace hs := hs.ext x1
  replace X := Ext.trans X x1; clear x1
  refine ops_cons rfl (ow_move rfl ?_)
  refine ops_cons rfl (ow_append (ts := #[]) oO X.size hs (by rw [flat_len eI_len xs, en]) (one_ints _) el30 ti2 rfl rfl rfl rfl (by omega) (by omega) ?_)
  intro AoN coN w4 oN hg3
  replace hs := hs.grown hg3 (fun g hg => Nat.le_trans Bhs (Own.lt oO hg).1)
  replace X := X.grown hg3 X.size (fun g hg => (Own.lt oO hg).1)
  clear hg3
  refine ops_cons rfl (ow_assign rfl ?_)
  refine ops_nil ?_
  refine c_ret ?_
  refine fin_ret1 rfl rfl ?_
  · skip
    rw [Nat.zero_add, en] at oN
    exact ⟨_, _, by rw [Nat.zero_add, en], oN, X⟩
end Go.Proofs.YtdoibplhbdkapaaGreatDoor
namespace Go.Proofs.YtdoibplhbdkapaaGreatDoor
open Go.RowKit Go.Shelf Go.Lib
set_option linter.unusedVariables false
def lays160_ren : Go.Shelf.Ren := ⟨fun x => match x with | 160 => 248 | 232 => 268 | 231 => 267 | 227 => 269 | 234 => 271 | 233 => 270 | 236 => 273 | 235 => 272 | 228 => 280 | 271 => 283 | 151 => 282 | 197 => 281 | 120 => 288 | 152 => 287 | 260 => 286 | 137 => 289 | 119 => 290 | 224 => 291 | 225 => 292 | 217 => 293 | 266 => 294 | n => n, fun x => match x with | 9 => 9 | 4 => 4 | 3 => 3 | 5 => 5 | 117 => 234 | 116 => 233 | 0 => 0 | 124 => 237 | 21 => 21 | 105 => 240 | 46 => 140 | 119 => 244 | 139 => 247 | 138 => 246 | n => n, fun x => match x with | 3 => 0 | 4 => 1 | n => n⟩
set_option maxRecDepth 100000
theorem lays160 : Lays.n160 Tryz.prog lays160_ren where
  mixed := by kernel_rfl
  f119 := Tryz.func290.trans (congrArg some (by kernel_rfl))
  f120 := Tryz.func288.trans (congrArg some (by kernel_rfl))
  f137 := Tryz.func289.trans (congrArg some (by kernel_rfl))
  f151 := Tryz.func282.trans (congrArg some (by kernel_rfl))
  f152 := Tryz.func287.trans (congrArg some (by kernel_rfl))
  f160 := Tryz.func248.trans (congrArg some (by kernel_rfl))
  f197 := Tryz.func281.trans (congrArg some (by kernel_rfl))
  f217 := Tryz.func293.trans (congrArg some (by kernel_rfl))
  f224 := Tryz.func291.trans (congrArg some (by kernel_rfl))
  f225 := Tryz.func292.trans (congrArg some (by kernel_rfl))
  f227 := Tryz.func269.trans (congrArg some (by kernel_rfl))
  f228 := Tryz.func280.trans (congrArg some (by kernel_rfl))
  f231 := Tryz.func267.trans (congrArg some (by kernel_rfl))
  f232 := Tryz.func268.trans (congrArg some (by kernel_rfl))
  f233 := Tryz.func270.trans (congrArg some (by kernel_rfl))
  f234 := Tryz.func271.trans (congrArg some (by kernel_rfl))
  f235 := Tryz.func272.trans (congrArg some (by kernel_rfl))
  f236 := Tryz.func273.trans (congrArg some (by kernel_rfl))
  f260 := Tryz.func286.trans (congrArg some (by kernel_rfl))
  f266 := Tryz.func294.trans (congrArg some (by kernel_rfl))
  f271 := Tryz.func283.trans (congrArg some (by kernel_rfl))
  t0 := Tryz.underlying0
  a0 := Tryz.isAgg0
  z0 := Tryz.sizeOf0
  v0 := Tryz.zeroValue0
  t3 := Tryz.underlying3
  a3 := Tryz.isAgg3
  z3 := Tryz.sizeOf3
  v3 := Tryz.zeroValue3
  t4 := Tryz.underlying4
  a4 := Tryz.isAgg4
  z4 := Tryz.sizeOf4
  v4 := Tryz.zeroValue4
  t5 := Tryz.underlying5
  a5 := Tryz.isAgg5
  z5 := Tryz.sizeOf5
  v5 := Tryz.zeroValue5
  t9 := Tryz.underlying9
  a9 := Tryz.isAgg9
  z9 := Tryz.sizeOf9
  v9 := Tryz.zeroValue9
  t21 := Tryz.underlying21
  a21 := Tryz.isAgg21
  z21 := Tryz.sizeOf21
  v21 := Tryz.zeroValue21
  t46 := Tryz.underlying140
  a46 := Tryz.isAgg140
  z46 := Tryz.sizeOf140
  v46 := Tryz.zeroValue140
  t105 := Tryz.underlying240
  a105 := Tryz.isAgg240
  z105 := Tryz.sizeOf240
  v105 := Tryz.zeroValue240
  t116 := Tryz.underlying233
  a116 := Tryz.isAgg233
  z116 := Tryz.sizeOf233
  t117 := Tryz.underlying234
  a117 := Tryz.isAgg234
  z117 := Tryz.sizeOf234
  v117 := Tryz.zeroValue234
  t119 := Tryz.underlying244
  a119 := Tryz.isAgg244
  z119 := Tryz.sizeOf244
  t124 := Tryz.underlying237
  a124 := Tryz.isAgg237
  z124 := Tryz.sizeOf237
  v124 := Tryz.zeroValue237
  t138 := Tryz.underlying246
  a138 := Tryz.isAgg246
  z138 := Tryz.sizeOf246
  v138 := Tryz.zeroValue246
  t139 := Tryz.underlying247
  a139 := Tryz.isAgg247
  z139 := Tryz.sizeOf247
  v139 := Tryz.zeroValue247
  g3 := by kernel_rfl
  g4 := by kernel_rfl
theorem trim_c (s : ByteArray) (w : World) (hs : s.size ≤ 9223372036854775807) :
    Calls Tryz.prog 248 #[.string s, .string ⟨#[97, 98, 99, 100, 101, 102, 103, 104, 105, 106, 107, 108, 109, 110, 111, 112, 113, 114, 115, 116, 117, 118, 119, 120, 121, 122, 48, 49, 50, 51, 52, 53, 54, 55, 56, 57]⟩] w (Ret fun v w' => v = .string (trimV s) ∧ Ext w w') := by
  have hcon := Any.strings_Trim_laid lays160 (by kernel_rfl) s ⟨#[97, 98, 99, 100, 101, 102, 103, 104, 105, 106, 107, 108, 109, 110, 111, 112, 113, 114, 115, 116, 117, 118, 119, 120, 121, 122, 48, 49, 50, 51, 52, 53, 54, 55, 56, 57]⟩ w hs (by decide) (ascii_of_all (by decide))
  refine Calls.mono hcon fun e w' h => ?_
  obtain ⟨rfl, hb⟩ := h
  exact ⟨rfl, hb⟩
end Go.Proofs.YtdoibplhbdkapaaGreatDoor
