/- Slot tables: entries are found at their places, bytes are read again. No condition. -/
import Derived.Test.YtojgfbbdjobdnaaB1
import Derived.Test.YtojgfbbdjobdnaaD4
import Derived.Test.YtojgfbbdjobdnaaMod12
import Derived.Test.YtojgfbbdjobdnaaMod5
import Derived.Test.YtojgfbbdjobdnaaR3
namespace Go.Proofs.Ytojgfbbdjobdnaa
open Go.RowKit
set_option linter.unusedVariables false
set_option linter.unusedSimpArgs false
set_option maxRecDepth 20000
/-! ### an entry is found at its place -/
theorem pair_lt {l : List Int} (h : l.Pairwise (· < ·)) {i j : Nat} {a b : Int} (hi : l[i]? = some a) (hj : l[j]? = some b) (hij : i < j) : a < b := by
  obtain ⟨h1, h2⟩ := List.getElem?_eq_some_iff.1 hi
  obtain ⟨h3, h4⟩ := List.getElem?_eq_some_iff.1 hj
  have := List.pairwise_iff_getElem.1 h i j h1 h3 hij
  rw [h2, h4] at this; exact this
theorem find_own {xs : List SlotI} (h : isST xs = true) {i : Nat} {x : SlotI} (hx : xs[i]? = some x) : findS (hitS x.mode x.round x.slot) 0 xs = (i : Int) := by
  have hs : okFrom none xs = true := by simp only [isST, Bool.and_eq_true] at h; exact h.1
  have hp := (okFrom_sorted xs none hs).1
  have hm : ∀ (j : Nat) (y : SlotI), xs[j]? = some y → (xs.map fun x => codeK x.key)[j]? = some (codeK y.key) := fun j y hy => by simp [hy]
  rcases findS_lt (f := hitS x.mode x.round x.slot) xs 0 with h1 | ⟨j, y, h1, h2, h3⟩
  · exfalso
    have h4 := (findS_none (f := hitS x.mode x.round x.slot) xs 0).1 (by rw [h1]; omega) x (List.mem_of_getElem? hx)
    simp [hitS] at h4
  · have h5 : y.key = x.key := by
      simp only [hitS, Bool.and_eq_true, decide_eq_true_eq] at h3
      simp [SlotI.key, h3.1.1, h3.1.2, h3.2]
    have h6 : j = i := by
      rcases Nat.lt_trichotomy j i with h7 | h7 | h7
      · have := pair_lt hp (hm j y h2) (hm i x hx) h7
        rw [h5] at this; omega
      · exact h7
      · have := pair_lt hp (hm i x hx) (hm j y h2) h7
        rw [h5] at this; omega
    rw [show ((0 : Nat) : Int) = 0 from rfl] at h1
    rw [h1, h6]; congr 1; omega
theorem findD_own {xs : List SlotI} (h : isST xs = true) {i : Nat} {x : SlotI} (hx : xs[i]? = some x) : findD xs x.mode x.round x.slot = (x.desc, 0) := by
  rw [findD, if_pos h, find_own h hx, if_neg (by omega), Int.toNat_natCast, hx]

/-! ### bytes of slot tables are read again -/
theorem getD_app (p l : List Int) (i : Nat) : (p ++ l).getD (p.length + i) 0 = l.getD i 0 := by
  rw [List.getD_eq_getElem?_getD, List.getD_eq_getElem?_getD, List.getElem?_append_right (by omega), show p.length + i - p.length = i by omega]
theorem slotB_len (x : SlotI) : (slotB x).length = 7 := by simp [slotB, descB]
theorem slotE_slotB {p q : List Int} {x : SlotI} (h : slotOk x = true) : slotE (p ++ (slotB x ++ q)) p.length = x ∧ vAt (p ++ (slotB x ++ q)) (p.length + 2) = true := by
  obtain ⟨h1, h2, h3, h4⟩ := slotOk_in h
  obtain ⟨h5, h6, h7, h8⟩ := descOk_in h4
  obtain ⟨mo, ro, sl, ⟨no, ki, si, du, ch⟩⟩ := x
  simp only at h1 h2 h3 h5 h6 h7 h8
  have e0 := getD_app p (slotB ⟨mo, ro, sl, ⟨no, ki, si, du, ch⟩⟩ ++ q) 0
  have e1 := getD_app p (slotB ⟨mo, ro, sl, ⟨no, ki, si, du, ch⟩⟩ ++ q) 1
  have e2 := getD_app p (slotB ⟨mo, ro, sl, ⟨no, ki, si, du, ch⟩⟩ ++ q) 2
  have e3 := getD_app p (slotB ⟨mo, ro, sl, ⟨no, ki, si, du, ch⟩⟩ ++ q) 3
  have e4 := getD_app p (slotB ⟨mo, ro, sl, ⟨no, ki, si, du, ch⟩⟩ ++ q) 4
  have e5 := getD_app p (slotB ⟨mo, ro, sl, ⟨no, ki, si, du, ch⟩⟩ ++ q) 5
  have e6 := getD_app p (slotB ⟨mo, ro, sl, ⟨no, ki, si, du, ch⟩⟩ ++ q) 6
  generalize hL : p ++ (slotB ⟨mo, ro, sl, ⟨no, ki, si, du, ch⟩⟩ ++ q) = L at *
  simp only [slotB, descB, List.cons_append, List.nil_append, List.getD_cons_zero, List.getD_cons_succ, Nat.add_zero] at e0 e1 e2 e3 e4 e5 e6
  have hd : dAt L (p.length + 2) = ⟨no, ki, si, du, ch⟩ := by
    unfold dAt descR
    rw [e2, show p.length + 2 + 1 = p.length + 3 from rfl, e3, show p.length + 2 + 2 = p.length + 4 from rfl, e4, show p.length + 2 + 3 = p.length + 5 from rfl, e5, show p.length + 2 + 4 = p.length + 6 from rfl, e6]
    rw [show (ki * 64 + si) / 64 = ki by omega, show (ki * 64 + si) % 64 = si by omega, show 256 * (du / 256) + du % 256 = du by omega]
    cases ch <;> simp
  refine ⟨?_, ?_⟩
  · unfold slotE
    rw [hd, e0, e1, show (mo * 16 + ro) / 16 = mo by omega, show (mo * 16 + ro) % 16 = ro by omega]
  · have e : vAt L (p.length + 2) = (descOk (dAt L (p.length + 2)) && decide (L.getD (p.length + 2 + 4) 0 ≤ 1)) := rfl
    rw [e, hd, h4, show p.length + 2 + 4 = p.length + 6 from rfl, e6]
    cases ch <;> simp
theorem prsS_flat : ∀ (xs : List SlotI) (p q : List Int), (∀ x ∈ xs, slotOk x = true) → prsS (p ++ (xs.flatMap slotB ++ q)) xs.length p.length = some xs
  | [], p, q, _ => rfl
  | x :: r, p, q, h => by
    have h1 := slotE_slotB (p := p) (q := r.flatMap slotB ++ q) (h x (by simp))
    have h2 := prsS_flat r (p ++ slotB x) q fun y hy => h y (by simp [hy])
    have e : p ++ slotB x ++ (r.flatMap slotB ++ q) = p ++ (slotB x ++ (r.flatMap slotB ++ q)) := by simp
    rw [e, List.length_append, slotB_len] at h2
    rw [List.flatMap_cons, List.append_assoc, List.length_cons, prsS, if_pos ⟨by simp [slotB_len], h1.2⟩, h2, h1.1]; rfl
theorem stB_eq (xs : List SlotI) : stB xs = (xs.length : Int) :: xs.flatMap slotB := by unfold stB stP; rw [List.take_length]
theorem rdS_back {xs : List SlotI} (h : isST xs = true) (q : List Int) : rdS (stB xs ++ q) = some xs := by
  have hok : ∀ x ∈ xs, slotOk x = true := fun x hx => by
    obtain ⟨k, hk⟩ := List.mem_iff_getElem?.1 hx
    exact isST_at h hk
  have h1 := prsS_flat xs [(xs.length : Int)] q hok
  have e : stB xs ++ q = [(xs.length : Int)] ++ (xs.flatMap slotB ++ q) := by rw [stB_eq]; rfl
  refine rdS_some (by rw [e]; simp) ?_ h
  rw [e]
  simpa using h1
theorem slotB_in {x : SlotI} (h : slotOk x = true) : ∀ z ∈ slotB x, 0 ≤ z ∧ z ≤ 255 := by
  obtain ⟨h1, h2, h3, h4⟩ := slotOk_in h
  obtain ⟨h5, h6, h7, h8⟩ := descOk_in h4
  intro z hz
  simp only [slotB, descB, List.cons_append, List.nil_append, List.mem_cons, List.not_mem_nil, or_false] at hz
  rcases hz with rfl | rfl | rfl | rfl | rfl | rfl | rfl
  · omega
  · omega
  · omega
  · omega
  · omega
  · omega
  · split <;> omega
theorem isB_back {xs : List SlotI} (h : isST xs = true) : isB (stB xs ++ [7]) = true := by
  have hl := isST_len h
  have h7 := flat7 xs
  simp only [isB, Bool.and_eq_true, decide_eq_true_eq, List.all_eq_true]
  refine ⟨by rw [stB_eq]; simp [h7]; omega, fun z hz => inB_iff.2 ?_⟩
  rw [stB_eq] at hz
  simp only [List.cons_append, List.mem_cons, List.mem_append, List.not_mem_nil, or_false] at hz
  rcases hz with rfl | hz | rfl
  · omega
  · obtain ⟨x, hx, hz⟩ := List.mem_flatMap.1 hz
    obtain ⟨k, hk⟩ := List.mem_iff_getElem?.1 hx
    exact slotB_in (isST_at h hk) z hz
  · omega
theorem readSF_back {xs : List SlotI} (h : isST xs = true) : readSF (stB xs ++ [7]) = (xs, 1 + 7 * (xs.length : Int), 0) := by
  rw [readSF, if_pos (isB_back h), rdS_back h]
/-- what was read has the bytes that were read -/
theorem slotB_slotE {xs : List Int} (hB : isB xs = true) {a : Nat} (ha : a + 7 ≤ xs.length) (hv : vAt xs (a + 2) = true) : slotB (slotE xs a) = (xs.drop a).take 7 := by
  have g0 := gB hB a
  have g1 := gB hB (a + 1)
  have g2 := gB hB (a + 2)
  have g3 := gB hB (a + 2 + 1)
  have g4 := gB hB (a + 2 + 2)
  have g5 := gB hB (a + 2 + 3)
  have g6 := gB hB (a + 2 + 4)
  have hd : descOk (dAt xs (a + 2)) = true := by
    have : vAt xs (a + 2) = (descOk (dAt xs (a + 2)) && decide (xs.getD (a + 2 + 4) 0 ≤ 1)) := rfl
    rw [this] at hv; simp only [Bool.and_eq_true] at hv; exact hv.1
  have h5 := descV_same hd g2 g3 g4 g5 g6
  have hv' : descV (xs.getD (a + 2) 0) (xs.getD (a + 2 + 1) 0) (xs.getD (a + 2 + 2) 0) (xs.getD (a + 2 + 3) 0) (xs.getD (a + 2 + 4) 0) = true := hv
  rw [hv'] at h5
  have h6 := of_decide_eq_true h5.symm
  have e : slotB (slotE xs a) = [xs.getD a 0 / 16 * 16 + xs.getD a 0 % 16, xs.getD (a + 1) 0] ++ descB (descR (xs.getD (a + 2) 0) (xs.getD (a + 2 + 1) 0) (xs.getD (a + 2 + 2) 0) (xs.getD (a + 2 + 3) 0) (xs.getD (a + 2 + 4) 0)) := rfl
  rw [e, h6, show xs.getD a 0 / 16 * 16 + xs.getD a 0 % 16 = xs.getD a 0 by omega]
  rw [drop_getD (show a < xs.length by omega), drop_getD (show a + 1 < xs.length by omega), List.take_succ_cons, List.take_succ_cons, show a + 1 + 1 = a + 2 from rfl, five_eq (show a + 2 + 5 ≤ xs.length by omega)]
  rfl
theorem prsS_bytes {xs : List Int} (hB : isB xs = true) : ∀ (n a : Nat) (l : List SlotI), prsS xs n a = some l → l.flatMap slotB = (xs.drop a).take (7 * n)
  | 0, a, l, h => by simp [prsS] at h; subst h; simp
  | n + 1, a, l, h => by
    rw [prsS] at h
    split at h
    · rename_i h1
      cases h2 : prsS xs n (a + 7) with
      | none => rw [h2] at h; simp at h
      | some q =>
        rw [h2] at h
        simp only [Option.map_some, Option.some.injEq] at h
        have ih := prsS_bytes hB n _ q h2
        rw [← h, List.flatMap_cons, slotB_slotE hB h1.1 h1.2, ih, show 7 * (n + 1) = 7 + 7 * n by omega, List.take_add, List.drop_drop]
    · cases h
theorem stB_read {xs : List Int} (hB : isB xs = true) {l : List SlotI} (h : rdS xs = some l) : stB l = xs.take (1 + 7 * l.length) := by
  obtain ⟨h1, h2, h3⟩ := rdS_len h
  have hne : xs.length ≠ 0 := by omega
  have hg := gB hB 0
  have hp : prsS xs (xs.getD 0 0).toNat 1 = some l := by
    unfold rdS at h
    rw [if_neg hne] at h
    split at h
    · rename_i q hq
      split at h
      · injection h with h; rw [hq, h]
      · cases h
    · cases h
  have h4 := prsS_bytes hB _ _ _ hp
  rw [stB_eq, h4, h1]
  have e : xs = xs.getD 0 0 :: xs.drop 1 := by
    have := drop_getD (xs := xs) (a := 0) (by omega)
    simpa using this
  have e2 : xs.take (1 + 7 * (xs.getD 0 0).toNat) = xs.getD 0 0 :: (xs.drop 1).take (7 * (xs.getD 0 0).toNat) := by
    conv => lhs; rw [e]
    rw [Nat.add_comm 1, List.take_succ_cons]
    rw [← e]
  rw [e2, Int.toNat_of_nonneg hg.1]
end Go.Proofs.Ytojgfbbdjobdnaa
