/- Parts. No condition. -/
import Derived.Test.YtdoibplhbdkapaaGreatDoorDOP3
import Derived.Test.YtdoibplhbdkapaaGreatDoorDOP9
import Derived.Test.YtdoibplhbdkapaaGreatDoorDOP10
import Derived.Test.YtdoibplhbdkapaaGreatDoorDOP4
import Derived.Test.YtdoibplhbdkapaaGreatDoorDOP6
namespace Go.Proofs.YtdoibplhbdkapaaGreatDoor
open Go.RowKit
set_option linter.unusedVariables false
set_option linter.unusedSimpArgs false
def wT (A : Option Addr) (c : Nat) (xs : List Int) (a : Nat) (bad : Bool) : List Value := [.slice A xs.length c, .int .i64 (a : Nat), .bool bad]
def iD (xs : List Int) (a : Nat) : Nat := if a = xs.length then a else a + 1
def fL (xs : List Int) (a : Nat) (bad : Bool) : Bool := if a = xs.length then true else bad
def nV (xs : List Int) (a : Nat) : Int := if a = xs.length then 0 else xs.getD a 0
theorem fT {xs : List Int} {a : Nat} (h : a ≤ xs.length) : iD xs a ≤ xs.length := by unfold iD; split <;> omega
theorem pY {xs : List Int} (hb : nU xs = true) (a : Nat) : 0 ≤ nV xs a ∧ nV xs a ≤ 255 := by
 unfold nV
 split
 · omega
 · rw [List.getD_eq_getElem?_getD]
   cases h : xs[a]? with
   | none => simp
   | some x => exact iE hb h
def iR (xs : List Int) : Nat → Nat → Bool → List Int × Nat × Bool
 | 0, a, bad => ([], a, bad)
 | _ + 1, a, true => ([], a, true)
 | n + 1, a, false => (nV xs a :: (iR xs n (iD xs a) (fL xs a false)).1, (iR xs n (iD xs a) (fL xs a false)).2)
theorem xU (xs : List Int) : ∀ (n a : Nat) (bad : Bool), (iR xs n a bad).1.length ≤ n
 | 0, a, bad => by simp [iR]
 | n + 1, a, true => by simp [iR]
 | n + 1, a, false => by
   have := xU xs n (iD xs a) (fL xs a false)
   simp only [iR, List.length_cons]; omega
theorem aAI (xs : List Int) : ∀ (n a : Nat) (bad : Bool), a ≤ xs.length → (iR xs n a bad).2.1 ≤ xs.length
 | 0, a, bad, h => h
 | n + 1, a, true, h => h
 | n + 1, a, false, h => aAI xs n _ _ (fT h)
theorem rD (xs : List Int) : ∀ (n a : Nat), (iR xs n a true).2.2 = true
 | 0, _ => rfl
 | _ + 1, _ => rfl
theorem sG (xs : List Int) : ∀ (n a : Nat), a + n ≤ xs.length → iR xs n a false = ((xs.drop a).take n, a + n, false)
 | 0, a, h => by simp [iR]
 | n + 1, a, h => by
   have ha : a < xs.length := by omega
   have e1 : iD xs a = a + 1 := by unfold iD; rw [if_neg (by omega)]
   have e2 : fL xs a false = false := by unfold fL; rw [if_neg (by omega)]
   have e3 : nV xs a = xs[a] := by unfold nV; rw [if_neg (by omega), List.getD_eq_getElem?_getD, List.getElem?_eq_getElem ha]; rfl
   simp only [iR, e1, e2, e3, sG xs n (a + 1) (by omega)]
   rw [List.drop_eq_getElem_cons ha, List.take_succ_cons]
   congr 2; omega
theorem qP (xs : List Int) : ∀ (n a : Nat), a ≤ xs.length → xs.length < a + n → (iR xs n a false).2.2 = true
 | 0, a, h, h2 => by omega
 | n + 1, a, h, h2 => by
   simp only [iR]
   by_cases e : a = xs.length
   · have e2 : fL xs a false = true := by unfold fL; rw [if_pos e]
     rw [e2]; exact rD xs n _
   · have e1 : iD xs a = a + 1 := by unfold iD; rw [if_neg e]
     have e2 : fL xs a false = false := by unfold fL; rw [if_neg e]
     rw [e1, e2]; exact qP xs n (a + 1) (by omega) (by omega)
theorem pB {xs : List Int} {a : Nat} (h : a < xs.length) (bad : Bool) : iD xs a = a + 1 ∧ fL xs a bad = bad ∧ nV xs a = xs.getD a 0 := by
 unfold iD fL nV
 rw [if_neg (by omega), if_neg (by omega), if_neg (by omega)]
 exact ⟨rfl, rfl, rfl⟩
theorem iK (xs : List Int) (a : Nat) : fL xs a true = true := by unfold fL; split <;> rfl
def iY (xs : List Int) : Nat → Nat → Option (List Mode × Nat)
 | 0, a => some ([], a)
 | n + 1, a => if a + 3 ≤ xs.length ∧ a + 3 + (xs.getD (a + 2) 0).toNat ≤ xs.length then
     (iY xs n (a + 3 + (xs.getD (a + 2) 0).toNat)).map fun r => (⟨xs.getD a 0, xs.getD (a + 1) 0, (xs.drop (a + 3)).take (xs.getD (a + 2) 0).toNat⟩ :: r.1, r.2)
   else none
theorem aD3 {xs : List Int} {a : Nat} (h : a + 3 ≤ xs.length ∧ a + 3 + (xs.getD (a + 2) 0).toNat ≤ xs.length) :
   nV xs a = xs.getD a 0 ∧ nV xs (iD xs a) = xs.getD (a + 1) 0 ∧ nV xs (iD xs (iD xs a)) = xs.getD (a + 2) 0 ∧ iD xs (iD xs (iD xs a)) = a + 3 ∧ fL xs (iD xs (iD xs a)) (fL xs (iD xs a) (fL xs a false)) = false := by
 obtain ⟨h1, h2, h3⟩ := pB (show a < xs.length by omega) false
 rw [h1]
 obtain ⟨h4, h5, h6⟩ := pB (show a + 1 < xs.length by omega) (fL xs a false)
 rw [h4]
 obtain ⟨h7, h8, h9⟩ := pB (show a + 1 + 1 < xs.length by omega) (fL xs (a + 1) (fL xs a false))
 exact ⟨h3, h6, h9, h7, by rw [h8, h5, h2]⟩
theorem aC6 {xs : List Int} {a : Nat} (ha : a ≤ xs.length) (h : xs.length < a + 3) : fL xs (iD xs (iD xs a)) (fL xs (iD xs a) (fL xs a false)) = true := by
 by_cases e0 : a = xs.length
 · have e1 : fL xs a false = true := by unfold fL; rw [if_pos e0]
   rw [e1, iK, iK]
 · obtain ⟨h1, h2, h3⟩ := pB (show a < xs.length by omega) false
   rw [h1]
   by_cases e1 : a + 1 = xs.length
   · have e2 : fL xs (a + 1) (fL xs a false) = true := by unfold fL; rw [if_pos e1]
     rw [e2, iK]
   · obtain ⟨h4, h5, h6⟩ := pB (show a + 1 < xs.length by omega) (fL xs a false)
     rw [h4]
     unfold fL; rw [if_pos (by omega)]
theorem aCb (xs : List Int) : ∀ (n a : Nat) (r : List Mode × Nat), iY xs n a = some r → a ≤ xs.length → r.2 ≤ xs.length ∧ r.1.length = n
 | 0, a, r, h, ha => by simp [iY] at h; subst h; exact ⟨ha, rfl⟩
 | n + 1, a, r, h, ha => by
   rw [iY] at h
   split at h
   · rename_i h1
     cases h2 : iY xs n (a + 3 + (xs.getD (a + 2) 0).toNat) with
     | none => rw [h2] at h; simp at h
     | some q =>
       rw [h2] at h
       simp only [Option.map_some, Option.some.injEq] at h
       obtain ⟨h3, h4⟩ := aCb xs n _ q h2 h1.2
       rw [← h]
       exact ⟨h3, by simp [h4]⟩
   · cases h
theorem aAJ (xs : List Int) (n a : Nat) {b : Bool} (h : n = 0 ∨ b = true) : iR xs n a b = ([], a, b) := by
 rcases h with h | h
 · subst h; rfl
 · subst h; cases n <;> rfl
theorem aD4 (xs : List Int) {n a : Nat} {b : Bool} (h : 0 < n) (hb : b = false) : iR xs n a b = (nV xs a :: (iR xs (n - 1) (iD xs a) (fL xs a b)).1, (iR xs (n - 1) (iD xs a) (fL xs a b)).2) := by
 subst hb
 obtain ⟨m, rfl⟩ : ∃ m, n = m + 1 := ⟨n - 1, by omega⟩
 rfl
def qL (xs : List Int) (a : Nat) : List Int × Nat × Bool := iR xs (nV xs (iD xs (iD xs a))).toNat (iD xs (iD xs (iD xs a))) (fL xs (iD xs (iD xs a)) (fL xs (iD xs a) (fL xs a false)))
theorem aD5 {xs : List Int} {a rem : Nat} (ha : a ≤ xs.length) :
   ((qL xs a).2.2 = false → iY xs (rem + 1) a = (iY xs rem (qL xs a).2.1).map fun r => (⟨nV xs a, nV xs (iD xs a), (qL xs a).1⟩ :: r.1, r.2)) ∧ ((qL xs a).2.2 = true → iY xs (rem + 1) a = none) := by
 by_cases hg : a + 3 ≤ xs.length ∧ a + 3 + (xs.getD (a + 2) 0).toNat ≤ xs.length
 · obtain ⟨h1, h2, h3, h4, h5⟩ := aD3 hg
   have e : qL xs a = ((xs.drop (a + 3)).take (xs.getD (a + 2) 0).toNat, a + 3 + (xs.getD (a + 2) 0).toNat, false) := by
     unfold qL; rw [h3, h4, h5, sG xs _ _ hg.2]
   rw [e, h1, h2]
   refine ⟨fun _ => ?_, fun h => by cases h⟩
   rw [iY, if_pos hg]
 · have e : iY xs (rem + 1) a = none := by rw [iY, if_neg hg]
   rw [e]
   refine ⟨fun h => ?_, fun _ => rfl⟩
   exfalso
   have hb : (qL xs a).2.2 = true := by
     unfold qL
     by_cases h3 : a + 3 ≤ xs.length
     · obtain ⟨h1, h2, h4⟩ := pB (show a < xs.length by omega) false
       obtain ⟨h5, h6, h7⟩ := pB (show a + 1 < xs.length by omega) false
       obtain ⟨h8, h9, h10⟩ := pB (show a + 1 + 1 < xs.length by omega) false
       simp only [h1, h2, h5, h6, h8, h9, h10]
       exact qP xs _ _ (by omega) (by rw [show a + 1 + 1 = a + 2 from rfl]; omega)
     · rw [aC6 ha (by omega)]; exact rD xs _ _
   rw [hb] at h; cases h
theorem aCc {xs : List Int} (hb : nU xs = true) {a : Nat} (ha : a ≤ xs.length) : (qL xs a).2.1 ≤ xs.length ∧ (qL xs a).1.length ≤ 255 := by
 have h1 := pY hb (iD xs (iD xs a))
 exact ⟨aAI xs _ _ _ (fT (fT (fT ha))), Q7l (xU xs _ _ _) (by omega)⟩
def lF (xs : List Int) : Option (List Mode × Nat) := if xs.length = 0 then none else match iY xs (xs.getD 0 0).toNat 1 with
 | some r => if jX r.1 = true then some r else none
 | none => none
def RdM (o : Option (List Mode × Nat)) (ms : List Mode) (sz : Int) (ok : Bool) : Prop := match o with
 | some r => ms = r.1 ∧ sz = (r.2 : Int) ∧ ok = true
 | none => ms = [] ∧ sz = 0 ∧ ok = false
theorem nF {xs : List Int} (h : xs.length = 0) : lF xs = none := by rw [lF, if_pos h]
theorem kU {xs : List Int} (h : xs.length ≠ 0) (hp : iY xs (xs.getD 0 0).toNat 1 = none) : lF xs = none := by rw [lF, if_neg h, hp]
theorem rE {xs : List Int} {r : List Mode × Nat} (h : xs.length ≠ 0) (hp : iY xs (xs.getD 0 0).toNat 1 = some r) (ht : jX r.1 = true) : lF xs = some r := by rw [lF, if_neg h, hp]; simp [ht]
theorem uN {xs : List Int} {r : List Mode × Nat} (h : xs.length ≠ 0) (hp : iY xs (xs.getD 0 0).toNat 1 = some r) (ht : jX r.1 = false) : lF xs = none := by rw [lF, if_neg h, hp]; simp [ht]
def HgM (xs : List Int) (rem a : Nat) (b : Bool) (ms : List Mode) : Prop :=
 (b = false → xs.length ≠ 0 ∧ iY xs (xs.getD 0 0).toNat 1 = (iY xs rem a).map fun r => (ms ++ r.1, r.2)) ∧ (b = true → lF xs = none)
theorem HgM.start (xs : List Int) : HgM xs (nV xs 0).toNat (iD xs 0) (fL xs 0 false) [] := by
 by_cases h : xs.length = 0
 · have e : fL xs 0 false = true := by unfold fL; rw [if_pos h.symm]
   rw [e]
   exact ⟨fun hh => (by cases hh), fun _ => nF h⟩
 · obtain ⟨h1, h2, h3⟩ := pB (xs := xs) (a := 0) (by omega) false
   rw [h1, h2, h3]
   refine ⟨fun _ => ⟨h, ?_⟩, fun hh => (by cases hh)⟩
   cases iY xs (xs.getD 0 0).toNat (0 + 1) <;> simp
theorem HgM.step {xs : List Int} {rem a : Nat} {ms : List Mode} (h : HgM xs rem a false ms) (hr : 0 < rem) (ha : a ≤ xs.length) :
   HgM xs (rem - 1) (qL xs a).2.1 (qL xs a).2.2 (ms ++ [⟨nV xs a, nV xs (iD xs a), (qL xs a).1⟩]) := by
 obtain ⟨r, rfl⟩ : ∃ r, rem = r + 1 := ⟨rem - 1, by omega⟩
 obtain ⟨h1, h2⟩ := aD5 (rem := r) ha
 obtain ⟨h3, h4⟩ := h.1 rfl
 refine ⟨fun hb => ⟨h3, ?_⟩, fun hb => ?_⟩
 · rw [h4, h1 hb, show r + 1 - 1 = r by omega]
   cases iY xs r (qL xs a).2.1 <;> simp
 · rw [h2 hb] at h4
   exact kU h3 h4
theorem HgM.stop {xs : List Int} {a : Nat} {ms : List Mode} (h : HgM xs 0 a false ms) : (jX ms = true → lF xs = some (ms, a)) ∧ (jX ms = false → lF xs = none) := by
 obtain ⟨h3, h4⟩ := h.1 rfl
 have h5 : iY xs (xs.getD 0 0).toNat 1 = some (ms, a) := by rw [h4]; simp [iY]
 exact ⟨fun h => rE h3 h5 h, fun h => uN h3 h5 h⟩
theorem tL {xs : List Int} {a : Nat} {x : Int} (h : xs[a]? = some x) : xs.getD a 0 = x := by rw [List.getD_eq_getElem?_getD, h]; rfl
theorem aFF {xs : List Int} {a rem yn : Nat} {x0 x1 : Int} (hr : 0 < rem) (h0 : xs[a]? = some x0) (h1 : xs[a + 1]? = some x1) (h2 : xs[a + 2]? = some (yn : Int)) (h3 : a + 3 + yn ≤ xs.length) :
   iY xs rem a = (iY xs (rem - 1) (a + 3 + yn)).map fun r => (⟨x0, x1, (xs.drop (a + 3)).take yn⟩ :: r.1, r.2) := by
 obtain ⟨r, rfl⟩ : ∃ r, rem = r + 1 := ⟨rem - 1, by omega⟩
 rw [iY, tL h0, tL h1, tL h2, Int.toNat_natCast, if_pos ⟨by omega, h3⟩]; rfl
theorem pZ {xs : List Int} {a rem : Nat} (hr : 0 < rem) (h : xs.length < a + 3) : iY xs rem a = none := by
 obtain ⟨r, rfl⟩ : ∃ r, rem = r + 1 := ⟨rem - 1, by omega⟩
 rw [iY, if_neg (by omega)]
theorem nT {xs : List Int} {a rem yn : Nat} (hr : 0 < rem) (h2 : xs[a + 2]? = some (yn : Int)) (h : xs.length < a + 3 + yn) : iY xs rem a = none := by
 obtain ⟨r, rfl⟩ : ∃ r, rem = r + 1 := ⟨rem - 1, by omega⟩
 rw [iY, tL h2, Int.toNat_natCast, if_neg (by omega)]
theorem RdM.f {o : Option (List Mode × Nat)} {ms : List Mode} {sz : Int} (h : RdM o ms sz false) : o = none := by
 cases o with
 | none => rfl
 | some r => exact absurd h.2.2 (by decide)
theorem RdM.t {o : Option (List Mode × Nat)} {ms : List Mode} {sz : Int} (h : RdM o ms sz true) : ∃ r, o = some r ∧ ms = r.1 ∧ sz = (r.2 : Int) := by
 cases o with
 | none => exact absurd h.2.2 (by decide)
 | some r => exact ⟨r, rfl, h.1, h.2.1⟩
theorem aBz (xs : List Int) : ∀ (n a : Nat) (r : List Mode × Nat), iY xs n a = some r → ∀ m ∈ r.1, m.next.length ≤ xs.length
 | 0, a, r, h => by simp [iY] at h; subst h; simp
 | n + 1, a, r, h => by
   rw [iY] at h
   split at h
   · cases h2 : iY xs n (a + 3 + (xs.getD (a + 2) 0).toNat) with
     | none => rw [h2] at h; simp at h
     | some q =>
       rw [h2] at h
       simp only [Option.map_some, Option.some.injEq] at h
       have ih := aBz xs n _ q h2
       rw [← h]
       intro m hm
       rcases List.mem_cons.1 hm with rfl | hm
       · simp; omega
       · exact ih m hm
   · cases h
theorem aCd {xs : List Int} {r : List Mode × Nat} (h : lF xs = some r) : r.1.length ≤ 16 ∧ r.2 ≤ xs.length ∧ (∀ m ∈ r.1, m.next.length ≤ xs.length) ∧ jX r.1 = true := by
 unfold lF at h
 split at h
 · cases h
 · rename_i h1
   split at h
   · rename_i q hq
     split at h
     · rename_i ht
       injection h with h; subst h
       exact ⟨(tU ht).2, (aCb xs _ _ _ hq (by omega)).1, aBz xs _ _ _ hq, ht⟩
     · cases h
   · cases h
def qA (a b c d e : Int) : Desc := ⟨a, b / 64, b % 64, 256 * c + d, decide (e = 1)⟩
def pF (a b c d e : Int) : Bool := fP (qA a b c d e) && decide (e ≤ 1)
def dAt (xs : List Int) (a : Nat) : Desc := qA (xs.getD a 0) (xs.getD (a + 1) 0) (xs.getD (a + 2) 0) (xs.getD (a + 3) 0) (xs.getD (a + 4) 0)
def vAt (xs : List Int) (a : Nat) : Bool := pF (xs.getD a 0) (xs.getD (a + 1) 0) (xs.getD (a + 2) 0) (xs.getD (a + 3) 0) (xs.getD (a + 4) 0)
def aK5 (xs : List Int) (a : Nat) : List Int := [xs.getD a 0, xs.getD (a + 1) 0, xs.getD (a + 2) 0, xs.getD (a + 3) 0, xs.getD (a + 4) 0]
def wU (xs : List Int) (a : Nat) : SlotI := ⟨xs.getD a 0 / 16, xs.getD a 0 % 16, xs.getD (a + 1) 0, dAt xs (a + 2)⟩
def jR (xs : List Int) : Nat → Nat → Option (List SlotI)
 | 0, _ => some []
 | n + 1, a => if a + 7 ≤ xs.length ∧ vAt xs (a + 2) = true then (jR xs n (a + 7)).map fun r => wU xs a :: r else none
def jI (xs : List Int) : Option (List SlotI) := if xs.length = 0 then none else match jR xs (xs.getD 0 0).toNat 1 with
 | some l => if iB l = true then some l else none
 | none => none
def RdS (o : Option (List SlotI)) (ys : List SlotI) (n : Int) (ok : Bool) : Prop := match o with
 | some l => ys = l ∧ n = 1 + 7 * l.length ∧ ok = true
 | none => ok = false
theorem mG {xs : List Int} {a : Nat} (h : a < xs.length) : xs.drop a = xs.getD a 0 :: xs.drop (a + 1) := by
 rw [List.drop_eq_getElem_cons h, List.getD_eq_getElem?_getD, List.getElem?_eq_getElem h]; rfl
theorem aCe {xs : List Int} {a : Nat} (h : a + 5 ≤ xs.length) : (xs.drop a).take 5 = aK5 xs a := by
 rw [mG (show a < xs.length by omega), mG (show a + 1 < xs.length by omega), mG (show a + 1 + 1 < xs.length by omega), mG (show a + 1 + 1 + 1 < xs.length by omega), mG (show a + 1 + 1 + 1 + 1 < xs.length by omega)]
 rfl
theorem aAK (xs : List Int) : ∀ (n a : Nat) (l : List SlotI), jR xs n a = some l → a ≤ xs.length → a + 7 * n ≤ xs.length ∧ l.length = n
 | 0, a, l, h, ha => by simp [jR] at h; subst h; exact ⟨ha, rfl⟩
 | n + 1, a, l, h, ha => by
   rw [jR] at h
   split at h
   · rename_i h1
     cases h2 : jR xs n (a + 7) with
     | none => rw [h2] at h; simp at h
     | some q =>
       rw [h2] at h
       simp only [Option.map_some, Option.some.injEq] at h
       have h3 := aAK xs n _ q h2 h1.1
       rw [← h]
       exact ⟨by omega, by simp [h3.2]⟩
   · cases h
theorem rF {xs : List Int} (h : xs.length = 0) : jI xs = none := by rw [jI, if_pos h]
theorem qB {xs : List Int} (h : xs.length ≠ 0) (hp : jR xs (xs.getD 0 0).toNat 1 = none) : jI xs = none := by rw [jI, if_neg h, hp]
theorem tO {xs : List Int} {l : List SlotI} (h : xs.length ≠ 0) (hp : jR xs (xs.getD 0 0).toNat 1 = some l) (ht : iB l = true) : jI xs = some l := by rw [jI, if_neg h, hp]; simp [ht]
theorem wV {xs : List Int} {l : List SlotI} (h : xs.length ≠ 0) (hp : jR xs (xs.getD 0 0).toNat 1 = some l) (ht : iB l = false) : jI xs = none := by rw [jI, if_neg h, hp]; simp [ht]
theorem uO {xs : List Int} (h : xs.length ≠ 0) (h2 : (xs.length : Int) < 1 + 7 * xs.getD 0 0) : jI xs = none := by
 cases hp : jR xs (xs.getD 0 0).toNat 1 with
 | none => exact qB h hp
 | some l => have := aAK xs _ _ l hp (by omega); omega
theorem aAe {xs : List Int} {l : List SlotI} (h : jI xs = some l) : l.length = (xs.getD 0 0).toNat ∧ 1 + 7 * l.length ≤ xs.length ∧ iB l = true := by
 unfold jI at h
 split at h
 · cases h
 · rename_i h1
   split at h
   · rename_i q hq
     split at h
     · rename_i ht
       injection h with h; subst h
       have := aAK xs _ _ q hq (by omega)
       exact ⟨this.2, by omega, ht⟩
     · cases h
   · cases h
def HgS (xs : List Int) (rem a : Nat) (b : Bool) (ys : List SlotI) : Prop :=
 (b = false → xs.length ≠ 0 ∧ jR xs (xs.getD 0 0).toNat 1 = (jR xs rem a).map fun r => ys ++ r) ∧ (b = true → jI xs = none)
theorem HgS.start (xs : List Int) : HgS xs (nV xs 0).toNat (iD xs 0) (fL xs 0 false) [] := by
 by_cases h : xs.length = 0
 · have e : fL xs 0 false = true := by unfold fL; rw [if_pos h.symm]
   rw [e]
   exact ⟨fun hh => (by cases hh), fun _ => rF h⟩
 · obtain ⟨h1, h2, h3⟩ := pB (xs := xs) (a := 0) (by omega) false
   rw [h1, h2, h3]
   refine ⟨fun _ => ⟨h, ?_⟩, fun hh => (by cases hh)⟩
   cases jR xs (xs.getD 0 0).toNat (0 + 1) <;> simp
def tP (xs : List Int) (a : Nat) : List Int × Nat × Bool := iR xs 5 (iD xs (iD xs a)) (fL xs (iD xs a) (fL xs a false))
theorem aAL {xs : List Int} {a : Nat} (ha : a ≤ xs.length) :
   ((tP xs a).2.2 = true ∧ xs.length < a + 7) ∨ ((tP xs a).2.2 = false ∧ a + 7 ≤ xs.length ∧ nV xs a = xs.getD a 0 ∧ nV xs (iD xs a) = xs.getD (a + 1) 0 ∧ (tP xs a).1 = aK5 xs (a + 2) ∧ (tP xs a).2.1 = a + 7) := by
 by_cases h : a + 7 ≤ xs.length
 · obtain ⟨h1, h2, h3⟩ := pB (show a < xs.length by omega) false
   obtain ⟨h4, h5, h6⟩ := pB (show a + 1 < xs.length by omega) false
   have e : tP xs a = ((xs.drop (a + 2)).take 5, a + 7, false) := by
     unfold tP
     rw [h1, h4, h2, h5]
     exact sG xs 5 (a + 2) (by omega)
   rw [e, h1]
   exact .inr ⟨rfl, h, h3, h6, aCe (by omega), rfl⟩
 · refine .inl ⟨?_, by omega⟩
   unfold tP
   by_cases e0 : a = xs.length
   · have e1 : fL xs a false = true := by unfold fL; rw [if_pos e0]
     rw [e1, iK]; exact rD xs _ _
   · obtain ⟨h1, h2, h3⟩ := pB (show a < xs.length by omega) false
     rw [h1, h2]
     by_cases e1 : a + 1 = xs.length
     · have e2 : fL xs (a + 1) false = true := by unfold fL; rw [if_pos e1]
       rw [e2]; exact rD xs _ _
     · obtain ⟨h4, h5, h6⟩ := pB (show a + 1 < xs.length by omega) false
       rw [h4, h5]
       exact qP xs _ _ (by omega) (by omega)
theorem HgS.bad {xs : List Int} {rem a : Nat} {ys : List SlotI} (h : HgS xs rem a false ys) (hr : 0 < rem) (ha : a ≤ xs.length) (hb : (tP xs a).2.2 = true) : jI xs = none := by
 obtain ⟨r, rfl⟩ : ∃ r, rem = r + 1 := ⟨rem - 1, by omega⟩
 obtain ⟨h3, h4⟩ := h.1 rfl
 rcases aAL ha with ⟨_, h5⟩ | ⟨h5, _⟩
 · refine qB h3 ?_
   rw [h4, jR, if_neg (by omega)]; rfl
 · rw [hb] at h5; cases h5
theorem HgS.inval {xs : List Int} {rem a : Nat} {ys : List SlotI} (h : HgS xs rem a false ys) (hr : 0 < rem) (hv : vAt xs (a + 2) = false) : jI xs = none := by
 obtain ⟨r, rfl⟩ : ∃ r, rem = r + 1 := ⟨rem - 1, by omega⟩
 obtain ⟨h3, h4⟩ := h.1 rfl
 refine qB h3 ?_
 rw [h4, jR, if_neg (by simp [hv])]; rfl
theorem HgS.step {xs : List Int} {rem a : Nat} {ys : List SlotI} (h : HgS xs rem a false ys) (hr : 0 < rem) (ha : a + 7 ≤ xs.length) (hv : vAt xs (a + 2) = true) :
   HgS xs (rem - 1) (a + 7) false (ys ++ [wU xs a]) := by
 obtain ⟨r, rfl⟩ : ∃ r, rem = r + 1 := ⟨rem - 1, by omega⟩
 obtain ⟨h3, h4⟩ := h.1 rfl
 refine ⟨fun _ => ⟨h3, ?_⟩, fun hb => by cases hb⟩
 rw [h4, jR, if_pos ⟨ha, hv⟩, show r + 1 - 1 = r by omega]
 cases jR xs r (a + 7) <;> simp
theorem HgS.stop {xs : List Int} {a : Nat} {ys : List SlotI} (h : HgS xs 0 a false ys) : (iB ys = true → jI xs = some ys) ∧ (iB ys = false → jI xs = none) := by
 obtain ⟨h3, h4⟩ := h.1 rfl
 have h5 : jR xs (xs.getD 0 0).toNat 1 = some ys := by rw [h4]; simp [jR]
 exact ⟨fun h => tO h3 h5 h, fun h => wV h3 h5 h⟩
theorem gB {xs : List Int} (hB : nU xs = true) (i : Nat) : 0 ≤ xs.getD i 0 ∧ xs.getD i 0 ≤ 255 := by
 rw [List.getD_eq_getElem?_getD]
 cases h : xs[i]? with
 | none => simp
 | some x => exact iE hB h
theorem aFG {xs : List Int} {rem a : Nat} (hr : 0 < rem) (h : a + 7 ≤ xs.length) (hv : vAt xs (a + 2) = true) : jR xs rem a = (jR xs (rem - 1) (a + 7)).map fun r => wU xs a :: r := by
 obtain ⟨r, rfl⟩ : ∃ r, rem = r + 1 := ⟨rem - 1, by omega⟩
 rw [jR, if_pos ⟨h, hv⟩]; rfl
theorem wW {xs : List Int} {rem a : Nat} (hr : 0 < rem) (hv : vAt xs (a + 2) = false) : jR xs rem a = none := by
 obtain ⟨r, rfl⟩ : ∃ r, rem = r + 1 := ⟨rem - 1, by omega⟩
 rw [jR, if_neg (by simp [hv])]
theorem RdS.f {o : Option (List SlotI)} {ys : List SlotI} {sz : Int} (h : RdS o ys sz false) : o = none := by
 cases o with
 | none => rfl
 | some r => exact absurd h.2.2 (by decide)
theorem RdS.t {o : Option (List SlotI)} {ys : List SlotI} {sz : Int} (h : RdS o ys sz true) : o = some ys ∧ sz = 1 + 7 * ys.length := by
 cases o with
 | none => exact absurd h (by simp [RdS])
 | some r =>
   have h1 := h.1
   subst h1
   exact ⟨rfl, h.2.1⟩
theorem aFH {xs : List Int} (h : fL xs 0 false = false) : iD xs 0 = 1 := by
 unfold fL at h
 unfold iD
 split at h
 · cases h
 · rename_i h1; rw [if_neg h1]
set_option maxRecDepth 20000
def vD (l : List Int) : ByteArray := ⟨(l.map fun x => x.toNat.toUInt8).toArray⟩
theorem xV (l : List Int) : (vD l).data.toList = l.map fun x => x.toNat.toUInt8 := by simp [vD]
theorem aFI (l : List Int) : (vD l).size = l.length := by
 rw [ByteArray.size, ← Array.length_toList, xV, List.length_map]
def vE (l : List Int) : ByteArray := ⟨(l.flatMap fun x => (Utf8.encode x).data.toList).toArray⟩
theorem rG (l : List Int) : (vE l).data.toList = l.flatMap fun x => (Utf8.encode x).data.toList := by simp [vE]
theorem aGW {a b : ByteArray} (h : a.data.toList = b.data.toList) : a = b := by
 cases a; cases b
 simp only at h
 congr 1
 exact Array.toList_inj.1 h
theorem aFJ {l : List Int} {k : Nat} {x : Int} (h : l[k]? = some x) : vE (l.take (k + 1)) = vE (l.take k) ++ Utf8.encode x := by
 apply aGW
 rw [rG, List.take_add_one, h, ByteArray.data_append, Array.toList_append, rG]
 simp [List.flatMap_append]
theorem aIg {x : Int} (h : 0 ≤ x ∧ x ≤ 127) : (Utf8.encode x).data.toList = [x.toNat.toUInt8] := by
 have hv : Utf8.valid x = true := by simp only [Utf8.valid, Bool.or_eq_true, Bool.and_eq_true, decide_eq_true_eq]; omega
 unfold Utf8.encode
 simp only [hv, if_true]
 rw [if_pos (by omega)]
theorem aGX {x : Int} (h : 128 ≤ x ∧ x ≤ 255) : ∃ b c : UInt8, (Utf8.encode x).data.toList = [b, c] ∧ hH b = false := by
 have hv : Utf8.valid x = true := by simp only [Utf8.valid, Bool.or_eq_true, Bool.and_eq_true, decide_eq_true_eq]; omega
 unfold Utf8.encode
 simp only [hv, if_true]
 rw [if_neg (by omega), if_pos (by omega)]
 refine ⟨_, _, rfl, ?_⟩
 have e : (UInt8.ofNat (192 + x.toNat / 64)).toNat = 192 + x.toNat / 64 := by
   rw [UInt8.toNat_ofNat']; omega
 show ((decide (97 ≤ (UInt8.ofNat (192 + x.toNat / 64)).toNat) && decide ((UInt8.ofNat (192 + x.toNat / 64)).toNat ≤ 122)) || (decide (48 ≤ (UInt8.ofNat (192 + x.toNat / 64)).toNat) && decide ((UInt8.ofNat (192 + x.toNat / 64)).toNat ≤ 57))) = false
 rw [e, decide_eq_false (p := 192 + x.toNat / 64 ≤ 122) (by omega), decide_eq_false (p := 192 + x.toNat / 64 ≤ 57) (by omega)]
 simp
theorem aC7 (x : Int) : (Utf8.encode x).size ≤ 4 := by
 unfold Utf8.encode
 simp only []
 split
 · split <;> (try split) <;> (try split) <;> simp [ByteArray.size]
 · split <;> (try split) <;> (try split) <;> simp [ByteArray.size]
theorem xW : ∀ (l : List Int), (vE l).size ≤ 4 * l.length
 | [] => by simp [vE, ByteArray.size]
 | x :: r => by
   have h1 := xW r
   have h2 := aC7 x
   rw [ByteArray.size, ← Array.length_toList, rG] at h1 ⊢
   rw [ByteArray.size, ← Array.length_toList] at h2
   rw [List.flatMap_cons, List.length_append, List.length_cons]; omega
theorem aC8 : ∀ (l : List Int), (∀ x ∈ l, 0 ≤ x ∧ x ≤ 127) → l.flatMap (fun x => (Utf8.encode x).data.toList) = l.map fun x => x.toNat.toUInt8
 | [], _ => rfl
 | x :: r, h => by rw [List.flatMap_cons, List.map_cons, aIg (h x (by simp)), aC8 r fun y hy => h y (by simp [hy])]; rfl
theorem aFK {l : List Int} (hb : ∀ x ∈ l, 0 ≤ x ∧ x ≤ 255) : vE l = vD l ∨ (fB (vE l) = false ∧ fB (vD l) = false) := by
 by_cases h : ∀ x ∈ l, x ≤ 127
 · left
   apply aGW
   rw [rG, xV]
   exact aC8 l fun x hx => ⟨(hb x hx).1, h x hx⟩
 · right
   obtain ⟨x, h1⟩ := Classical.not_forall.1 h
   obtain ⟨h1, h2⟩ := Classical.not_imp.1 h1
   have hx := hb x h1
   constructor
   · obtain ⟨b, c, e, hn⟩ := aGX (x := x) (by omega)
     have hm : b ∈ (vE l).data.toList := by
       rw [rG]; exact List.mem_flatMap.2 ⟨x, h1, by rw [e]; simp⟩
     have : (vE l).data.toList.all hH = false := by
       rw [Bool.eq_false_iff]
       intro hall
       rw [List.all_eq_true.1 hall b hm] at hn; cases hn
     rw [fB, this]; rfl
   · have hm : x.toNat.toUInt8 ∈ (vD l).data.toList := by
       rw [xV]; exact List.mem_map.2 ⟨x, h1, rfl⟩
     have hn : hH x.toNat.toUInt8 = false := by
       have e : (x.toNat.toUInt8).toNat = x.toNat := by
         show (UInt8.ofNat x.toNat).toNat = _
         rw [UInt8.toNat_ofNat']; omega
       unfold hH
       rw [e, decide_eq_false (p := x.toNat ≤ 122) (by omega), decide_eq_false (p := x.toNat ≤ 57) (by omega)]; simp
     have : (vD l).data.toList.all hH = false := by
       rw [Bool.eq_false_iff]
       intro hall
       rw [List.all_eq_true.1 hall _ hm] at hn; cases hn
     rw [fB, this]; rfl
def yW (xs : List Int) (a : Nat) : NodeI := ⟨xs.getD a 0, vD ((xs.drop (a + 5)).take (xs.getD (a + 4) 0).toNat), 256 * xs.getD (a + 1) 0 + xs.getD (a + 2) 0, decide (xs.getD (a + 3) 0 = 1)⟩
def nmL (xs : List Int) (a : Nat) : Nat := (xs.getD (a + 4) 0).toNat
def mA (xs : List Int) : Nat → Nat → Option (List NodeI × Nat)
 | 0, a => some ([], a)
 | n + 1, a => if a + 5 ≤ xs.length ∧ a + 5 + nmL xs a ≤ xs.length then (mA xs n (a + 5 + nmL xs a)).map fun r => (yW xs a :: r.1, r.2) else none
def jD (xs : List Int) : Option (List NodeI × Nat) := if xs.length = 0 then none else match mA xs (xs.getD 0 0).toNat 1 with
 | some r => if eC r.1 = true ∧ rA r.1 = xs.take r.2 then some r else none
 | none => none
theorem aE5 (xs : List Int) : ∀ (n a : Nat) (r : List NodeI × Nat), mA xs n a = some r → a ≤ xs.length → r.2 ≤ xs.length ∧ a ≤ r.2 ∧ r.1.length = n
 | 0, a, r, h, ha => by simp [mA] at h; subst h; exact ⟨ha, Nat.le_refl _, rfl⟩
 | n + 1, a, r, h, ha => by
   rw [mA] at h
   split at h
   · rename_i h1
     cases h2 : mA xs n (a + 5 + nmL xs a) with
     | none => rw [h2] at h; simp at h
     | some q =>
       rw [h2] at h
       simp only [Option.map_some, Option.some.injEq] at h
       obtain ⟨h3, h4, h5⟩ := aE5 xs n _ q h2 h1.2
       rw [← h]
       exact ⟨h3, by show a ≤ q.2; omega, by simp [h5]⟩
   · cases h
theorem aBA {xs : List Int} {rem a : Nat} (hr : 0 < rem) (h : a + 5 + nmL xs a ≤ xs.length) : mA xs rem a = (mA xs (rem - 1) (a + 5 + nmL xs a)).map fun r => (yW xs a :: r.1, r.2) := by
 obtain ⟨r, rfl⟩ : ∃ r, rem = r + 1 := ⟨rem - 1, by omega⟩
 rw [mA, if_pos ⟨by omega, h⟩]; rfl
theorem mB {xs : List Int} {rem a : Nat} (hr : 0 < rem) (h : xs.length < a + 5 + nmL xs a) : mA xs rem a = none := by
 obtain ⟨r, rfl⟩ : ∃ r, rem = r + 1 := ⟨rem - 1, by omega⟩
 rw [mA, if_neg (by omega)]
theorem nG {xs : List Int} (h : xs.length = 0) : jD xs = none := by rw [jD, if_pos h]
theorem qC {xs : List Int} (h : xs.length ≠ 0) (hp : mA xs (xs.getD 0 0).toNat 1 = none) : jD xs = none := by rw [jD, if_neg h, hp]
theorem qD {xs : List Int} {r : List NodeI × Nat} (h : xs.length ≠ 0) (hp : mA xs (xs.getD 0 0).toNat 1 = some r) (ht : eC r.1 = true) (hb : rA r.1 = xs.take r.2) : jD xs = some r := by rw [jD, if_neg h, hp]; simp [ht, hb]
theorem qQ {xs : List Int} {r : List NodeI × Nat} (h : xs.length ≠ 0) (hp : mA xs (xs.getD 0 0).toNat 1 = some r) (ht : eC r.1 = false) : jD xs = none := by rw [jD, if_neg h, hp]; simp [ht]
theorem qE {xs : List Int} {r : List NodeI × Nat} (h : xs.length ≠ 0) (hp : mA xs (xs.getD 0 0).toNat 1 = some r) (hb : rA r.1 ≠ xs.take r.2) : jD xs = none := by rw [jD, if_neg h, hp]; simp [hb]
theorem aAM {xs : List Int} {r : List NodeI × Nat} (h : jD xs = some r) : eC r.1 = true ∧ rA r.1 = xs.take r.2 ∧ r.2 ≤ xs.length := by
 unfold jD at h
 split at h
 · cases h
 · rename_i h0
   split at h
   · rename_i q hq
     split at h
     · rename_i h1
       injection h with h; subst h
       exact ⟨h1.1, h1.2, (aE5 xs _ 1 _ hq (by omega)).1⟩
     · cases h
   · cases h
def RdN (o : Option (List NodeI × Nat)) (ys : List NodeI) (sz : Int) (ok : Bool) : Prop := match o with
 | none => ys = [] ∧ sz = 0 ∧ ok = false
 | some r => ys = r.1 ∧ sz = (r.2 : Int) ∧ ok = true
theorem RdN.f {o : Option (List NodeI × Nat)} {ys : List NodeI} {sz : Int} (h : RdN o ys sz false) : o = none ∧ ys = [] ∧ sz = 0 := by
 cases o with
 | none => exact ⟨rfl, h.1, h.2.1⟩
 | some r => exact absurd h.2.2 (by decide)
theorem RdN.t {o : Option (List NodeI × Nat)} {ys : List NodeI} {sz : Int} (h : RdN o ys sz true) : ∃ r, o = some r ∧ ys = r.1 ∧ sz = (r.2 : Int) := by
 cases o with
 | none => exact absurd h.2.2 (by decide)
 | some r => exact ⟨r, rfl, h.1, h.2.1⟩
def c4 (xs : List Int) (a : Nat) : Nat := iD xs (iD xs (iD xs (iD xs a)))
def b4 (xs : List Int) (a : Nat) (b : Bool) : Bool := fL xs (iD xs (iD xs (iD xs a))) (fL xs (iD xs (iD xs a)) (fL xs (iD xs a) (fL xs a b)))
def mX (xs : List Int) (a : Nat) : List Int × Nat × Bool := iR xs (nV xs (c4 xs a)).toNat (iD xs (c4 xs a)) (fL xs (c4 xs a) (b4 xs a false))
def yX (xs : List Int) (a : Nat) : NodeI := ⟨nV xs a, vE (mX xs a).1, 256 * nV xs (iD xs a) + nV xs (iD xs (iD xs a)), decide (nV xs (iD xs (iD xs (iD xs a))) = 1)⟩
theorem aIh {xs : List Int} {a : Nat} (ha : a ≤ xs.length) : (mX xs a).2.1 ≤ xs.length := aAI xs _ _ _ (fT (fT (fT (fT (fT ha)))))
theorem aGY {xs : List Int} (hb : nU xs = true) (a : Nat) : (mX xs a).1.length ≤ 255 := by
 have h1 := pY hb (c4 xs a)
 exact Q7l (xU xs _ _ _) (by omega)
theorem aBB {xs : List Int} {a : Nat} (h : a + 5 + nmL xs a ≤ xs.length) :
   mX xs a = ((xs.drop (a + 5)).take (nmL xs a), a + 5 + nmL xs a, false) ∧ nV xs a = xs.getD a 0 ∧ nV xs (iD xs a) = xs.getD (a + 1) 0 ∧ nV xs (iD xs (iD xs a)) = xs.getD (a + 2) 0 ∧ nV xs (iD xs (iD xs (iD xs a))) = xs.getD (a + 3) 0 := by
 obtain ⟨h1, h2, h3⟩ := pB (show a < xs.length by omega) false
 obtain ⟨h4, h5, h6⟩ := pB (show a + 1 < xs.length by omega) false
 obtain ⟨h7, h8, h9⟩ := pB (show a + 1 + 1 < xs.length by omega) false
 obtain ⟨h10, h11, h12⟩ := pB (show a + 1 + 1 + 1 < xs.length by omega) false
 obtain ⟨h13, h14, h15⟩ := pB (show a + 1 + 1 + 1 + 1 < xs.length by omega) false
 have e4 : c4 xs a = a + 4 := by unfold c4; rw [h1, h4, h7, h10]
 have e5 : b4 xs a false = false := by unfold b4; rw [h1, h4, h7, h2, h5, h8, h11]
 refine ⟨?_, h3, by rw [h1, h6], by rw [h1, h4, h9], by rw [h1, h4, h7, h12]⟩
 unfold mX
 rw [e4, e5, h13, h14, h15]
 exact sG xs _ _ h
theorem aD6 {xs : List Int} {a : Nat} (ha : a ≤ xs.length) (h : xs.length < a + 5 + nmL xs a) : (mX xs a).2.2 = true := by
 unfold mX
 by_cases e : fL xs (c4 xs a) (b4 xs a false) = true
 · rw [e]; exact rD xs _ _
 · have e0 : ¬ a = xs.length := fun h => e (by
     have : fL xs a false = true := by unfold fL; rw [if_pos h]
     unfold b4; rw [this, iK, iK, iK, iK])
   obtain ⟨h1, h2, h3⟩ := pB (show a < xs.length by omega) false
   have e1 : ¬ a + 1 = xs.length := fun h => e (by
     have : fL xs (a + 1) (fL xs a false) = true := by unfold fL; rw [if_pos h]
     unfold b4; rw [h1, this, iK, iK, iK])
   obtain ⟨h4, h5, h6⟩ := pB (show a + 1 < xs.length by omega) false
   have e2 : ¬ a + 1 + 1 = xs.length := fun h => e (by
     have : fL xs (a + 1 + 1) (fL xs (a + 1) (fL xs a false)) = true := by unfold fL; rw [if_pos h]
     unfold b4; rw [h1, h4, this, iK, iK])
   obtain ⟨h7, h8, h9⟩ := pB (show a + 1 + 1 < xs.length by omega) false
   have e3 : ¬ a + 1 + 1 + 1 = xs.length := fun h => e (by
     have : fL xs (a + 1 + 1 + 1) (fL xs (a + 1 + 1) (fL xs (a + 1) (fL xs a false))) = true := by unfold fL; rw [if_pos h]
     unfold b4; rw [h1, h4, h7, this, iK])
   obtain ⟨h10, h11, h12⟩ := pB (show a + 1 + 1 + 1 < xs.length by omega) false
   have e4 : c4 xs a = a + 4 := by unfold c4; rw [h1, h4, h7, h10]
   have e5 : ¬ a + 1 + 1 + 1 + 1 = xs.length := fun h => e (by
     rw [e4]; unfold fL; rw [if_pos h])
   obtain ⟨h13, h14, h15⟩ := pB (show a + 1 + 1 + 1 + 1 < xs.length by omega) false
   have e6 : b4 xs a false = false := by unfold b4; rw [h1, h4, h7, h2, h5, h8, h11]
   rw [e4, e6, h13, h14, h15]
   exact qP xs _ _ (by omega) (by show xs.length < a + 5 + nmL xs a; exact h)
def RelN (ys zs : List NodeI) : Prop := ys = zs ∨ ((∃ y ∈ ys, fE y = false) ∧ ∃ z ∈ zs, fE z = false)
theorem RelN.snoc {ys zs : List NodeI} {y z : NodeI} (h : RelN ys zs) (h2 : y = z ∨ (fE y = false ∧ fE z = false)) : RelN (ys ++ [y]) (zs ++ [z]) := by
 rcases h with h | ⟨⟨u, hu, hu2⟩, v, hv, hv2⟩
 · rcases h2 with h2 | ⟨h2, h3⟩
   · left; rw [h, h2]
   · right; exact ⟨⟨y, by simp, h2⟩, z, by simp, h3⟩
 · right; exact ⟨⟨u, by simp [hu], hu2⟩, v, by simp [hv], hv2⟩
theorem aGZ {ys : List NodeI} (h : ∃ y ∈ ys, fE y = false) : eC ys = false := by
 obtain ⟨y, h1, h2⟩ := h
 rw [Bool.eq_false_iff]
 intro h3
 rw [nW h3 y h1] at h2; cases h2
theorem aFL {xs : List Int} (hb : nU xs = true) {a : Nat} (h : a + 5 + nmL xs a ≤ xs.length) : yX xs a = yW xs a ∨ (fE (yX xs a) = false ∧ fE (yW xs a) = false) := by
 obtain ⟨e, h1, h2, h3, h4⟩ := aBB h
 have hl : ∀ x ∈ (xs.drop (a + 5)).take (nmL xs a), 0 ≤ x ∧ x ≤ 255 := fun x hx => by
   obtain ⟨k, hk⟩ := List.mem_iff_getElem?.1 (List.mem_of_mem_drop (List.mem_of_mem_take hx))
   exact iE hb hk
 have e1 : yX xs a = ⟨xs.getD a 0, vE ((xs.drop (a + 5)).take (nmL xs a)), 256 * xs.getD (a + 1) 0 + xs.getD (a + 2) 0, decide (xs.getD (a + 3) 0 = 1)⟩ := by
   unfold yX; rw [e, h1, h2, h3, h4]
 rw [e1]
 rcases aFK hl with h5 | ⟨h5, h6⟩
 · left; rw [h5]; rfl
 · right
   unfold yW
   change fB (vD ((xs.drop (a + 5)).take (nmL xs a))) = false at h6
   constructor
   · simp only [fE, h5, Bool.and_false, Bool.false_and]
   · have h7 : fB (vD ((xs.drop (a + 5)).take (xs.getD (a + 4) 0).toNat)) = false := h6
     simp only [fE, h7, Bool.and_false, Bool.false_and]
def HgN (xs : List Int) (rem a : Nat) (b : Bool) (ys : List NodeI) : Prop :=
 (b = false → xs.length ≠ 0 ∧ ∃ zs, RelN ys zs ∧ mA xs (xs.getD 0 0).toNat 1 = (mA xs rem a).map fun r => (zs ++ r.1, r.2)) ∧ (b = true → jD xs = none)
theorem HgN.start (xs : List Int) : HgN xs (nV xs 0).toNat (iD xs 0) (fL xs 0 false) [] := by
 by_cases h : xs.length = 0
 · have e : fL xs 0 false = true := by unfold fL; rw [if_pos h.symm]
   rw [e]
   exact ⟨fun hh => (by cases hh), fun _ => nG h⟩
 · obtain ⟨h1, h2, h3⟩ := pB (xs := xs) (a := 0) (by omega) false
   rw [h1, h2, h3]
   refine ⟨fun _ => ⟨h, [], .inl rfl, ?_⟩, fun hh => (by cases hh)⟩
   cases mA xs (xs.getD 0 0).toNat (0 + 1) <;> simp
theorem HgN.step {xs : List Int} {rem a : Nat} {ys : List NodeI} (hB : nU xs = true) (h : HgN xs rem a false ys) (hr : 0 < rem) (ha : a ≤ xs.length) :
   HgN xs (rem - 1) (mX xs a).2.1 (mX xs a).2.2 (ys ++ [yX xs a]) := by
 obtain ⟨h3, zs, h4, h5⟩ := h.1 rfl
 by_cases hg : a + 5 + nmL xs a ≤ xs.length
 · obtain ⟨e, _⟩ := aBB hg
   rw [e]
   refine ⟨fun _ => ⟨h3, zs ++ [yW xs a], h4.snoc (aFL hB hg), ?_⟩, fun hb => by cases hb⟩
   rw [h5, aBA hr hg]
   cases mA xs (rem - 1) (a + 5 + nmL xs a) <;> simp
 · have e := aD6 ha (by omega)
   rw [e]
   refine ⟨fun hb => (by cases hb), fun _ => qC h3 ?_⟩
   rw [h5, mB hr (by omega)]; rfl
theorem HgN.stop {xs : List Int} {a : Nat} {ys : List NodeI} (h : HgN xs 0 a false ys) : (eC ys = false → jD xs = none) ∧ (eC ys = true → rA ys ≠ xs.take a → jD xs = none) ∧ (eC ys = true → rA ys = xs.take a → jD xs = some (ys, a)) := by
 obtain ⟨h3, zs, h4, h5⟩ := h.1 rfl
 have h6 : mA xs (xs.getD 0 0).toNat 1 = some (zs, a) := by rw [h5]; simp [mA]
 rcases h4 with rfl | ⟨h7, h8⟩
 · exact ⟨fun h => qQ h3 h6 h, fun _ h => qE h3 h6 h, fun h1 h2 => qD h3 h6 h1 h2⟩
 · have h9 := aGZ h7
   exact ⟨fun _ => qQ h3 h6 (aGZ h8), fun h => (by rw [h9] at h; cases h), fun h => (by rw [h9] at h; cases h)⟩
section
variable {P : Program} {n : Nat} {ops : Array Oper} {K : List (Nat × Value) → World → Prop} {l : List Oper} {fl : List Bool} {e : List (Nat × Value)} {S : World → Prop}
end
theorem aFM {P : Program} {e : List (Nat × Value)} {w : World} {K : Value → World → Prop} {ty : TypeId} {x : Operand} {src dst : TypeId} {k k1 : IntKind} {n : Int} (hs : P.underlying src = some (.int k1)) (hd : P.underlying dst = some .string) (hx : fV e x = some (.int k n)) (h : K (.string (Utf8.encode n)) w) : OpWp P e (.convert src dst x) ty w K := fun ρ d p a g hρ => by
 have h1 := hρ _ _ hx
 simp [execOp, h1, convert, run_underlying hs, run_underlying hd, Conv.intToString, upto]; exact h
theorem aLC {n : Int} (h : 0 ≤ n ∧ n ≤ 255) : IntKind.i32.wrap n = n := by
 have h1 : n % 4294967296 = n := by omega
 simp [IntKind.wrap, IntKind.bits, IntKind.signed, h1]; omega
theorem aLD {n : Int} (h : 0 ≤ n ∧ n ≤ 255) : IntKind.u8.wrap n = ((n.toNat.toUInt8).toNat : Int) := by
 have h1 : n % 256 = n := by omega
 have e : (n.toNat.toUInt8).toNat = n.toNat := by
   show (UInt8.ofNat n.toNat).toNat = _
   rw [UInt8.toNat_ofNat']; omega
 rw [e]
 simp [IntKind.wrap, IntKind.bits, IntKind.signed, h1]; omega
theorem aIi (A : Option Addr) (B c n : Nat) (xs : List Int) (A2 : Option Addr) (B2 c2 n2 : Nat) (ys : List Int) (w : World) (hs : Sl B w A (xs.flatMap eI)) (h2 : Sl B2 w A2 (ys.flatMap eI)) (hl : xs.length ≤ 1048576) (e1 : xs.length = n) (e2 : ys.length = n2) :
   Calls Tryz.prog 240 #[.slice A n c, .slice A2 n2 c2] w (fF fun v w' => v = .bool (decide (xs = ys)) ∧ Ext w w') := by
 subst e1; subst e2; exact aFg A B c xs A2 B2 c2 ys w hs h2 hl
theorem aE6 {xs : List Int} (hb : nU xs = true) : ∀ (n a : Nat) (bad : Bool), ∀ x ∈ (iR xs n a bad).1, 0 ≤ x ∧ x ≤ 255
 | 0, a, bad, x, hx => by simp [iR] at hx
 | n + 1, a, true, x, hx => by simp [iR] at hx
 | n + 1, a, false, x, hx => by
   simp only [iR] at hx
   rcases List.mem_cons.1 hx with rfl | h
   · exact pY hb a
   · exact aE6 hb n _ _ x h
theorem aJA {xs : List Int} {a k : Nat} {z : Int} (hb : nU xs = true) (h : (mX xs a).1[k]? = some z) : 0 ≤ z ∧ z ≤ 255 := aE6 hb _ _ _ z (List.mem_of_getElem? h)
theorem aFN (bs : List UInt8) : ∀ u ∈ bs.flatMap eB, u.oneCell' = true := fun u hu => by
 obtain ⟨x, _, h⟩ := List.mem_flatMap.1 hu
 simp only [eB, List.mem_cons, List.not_mem_nil, or_false] at h
 subst h; rfl
theorem aD7 {xs : List Int} {k a : Nat} {x : Int} (h : xs[a + k]? = some x) : ((xs.drop a).take (k + 1)).map (fun x => x.toNat.toUInt8) = ((xs.drop a).take k).map (fun x => x.toNat.toUInt8) ++ [x.toNat.toUInt8] := by
 rw [List.take_add_one, List.getElem?_drop, h]; simp
theorem mT (A : Option Addr) (B c : Nat) (xs : List Int) (gC a : Nat) (bad : Bool) (w : World) (q : Blk w gC 166 (wT A c xs a bad)) (hs : Sl B w A (xs.flatMap eI)) (hl : xs.length ≤ 1048576) (ha : a ≤ xs.length) (hB : B ≤ gC) :
   Calls Tryz.prog 160 #[.pointer (some ⟨gC, 0, none⟩)] w (fF fun v w' => v = .int .i64 (nV xs a) ∧ Blk w' gC 166 (wT A c xs (iD xs a) (fL xs a bad)) ∧ w.grownBy w' (some gC)) := by
 have Bhs := hs.1
 have X := pJ w (some gC)
 refine bJ (args := [.pointer (some ⟨gC, 0, none⟩)]) Tryz.func160 Tryz.ntmps160 rfl rfl (aF (aA rfl (aE rfl (aB (aR (eK [false, false, false, false, false, false, false, false, false, false] mixed (by kernel_rfl) (cO rfl (fun wq sq => aC rfl ⟨rfl, Q7r _⟩) (cO rfl (fun wq sq => dJ rfl ⟨rfl, Q7r _⟩) (cO rfl (fun wq sq => aG kF rfl rfl ⟨rfl, Q7r _⟩) (cO rfl (fun wq sq => aJ (q.ext sq) ti3 rfl rfl ⟨rfl, Q7r _⟩) (cO rfl (fun wq sq => aC rfl ⟨rfl, Q7r _⟩) (cO rfl (fun wq sq => dJ rfl ⟨rfl, Q7r _⟩) (cO rfl (fun wq sq => aG aAZ rfl rfl ⟨rfl, Q7r _⟩) (cO rfl (fun wq sq => aJ (q.ext sq) mD rfl rfl ⟨rfl, Q7r _⟩) ?_))))))))))))))
 refine cO rfl (fun wq sq => bO Tryz.underlying30 rfl ⟨rfl, Q7r _⟩) (uZ rfl (fun wq sq => jJ rfl rfl ⟨rfl, Q7r _⟩) (fun he => ?_) (fun he => ?_))
 refine dX (fun w1 sq => ?_)
 have xq := sq
 replace q := q.ext xq
 replace hs := hs.ext xq
 replace X := dU X xq; clear xq sq
 refine aB (aQ rfl (aF (aA rfl (aC rfl (aA rfl (dJ rfl (aA rfl (aG jG rfl rfl (aA rfl (bK q xO rfl rfl rfl rfl rfl rfl ?_))))))))))
 intro w3 q2 hg2 z4
 replace hs := hs.grown hg2 (by intro g hg; injection hg; omega)
 replace X := dI X hg2
 clear hg2 q
 refine aB (aF (aA rfl (aE rfl (aB (aW (bN (aL rfl rfl ?_)))))))
 · skip
   first
   | (have e1 : nV xs a = 0 := by unfold nV; rw [if_pos (by omega)]
      have e2 : iD xs a = a := by unfold iD; rw [if_pos (by omega)]
      have e3 : fL xs a bad = true := by unfold fL; rw [if_pos (by omega)]
      rw [e1, e2, e3]; exact ⟨rfl, q2, X⟩)
   | (have e1 : nV xs a = x := by unfold nV; rw [if_neg (by omega), List.getD_eq_getElem?_getD, hx]; rfl
      have e2 : iD xs a = a + 1 := by unfold iD; rw [if_neg (by omega)]
      have e3 : fL xs a bad = bad := by unfold fL; rw [if_neg (by omega)]
      rw [e1, e2, e3]; exact ⟨rfl, q2, X⟩)
 obtain ⟨x, hx, dx⟩ := eL (xs := xs) (k := a) (by omega)
 refine dX (fun w5 sq => ?_)
 have xq := sq
 replace q := q.ext xq
 replace hs := hs.ext xq
 replace X := dU X xq; clear xq sq
 refine aB (aM rfl (aV (aS (aF (aA rfl (aC rfl (aA rfl (dJ rfl (aA rfl (aG kF rfl rfl (aA rfl (aJ q ti3 rfl rfl (aA rfl (aY rfl rfl (dM (by omega)) (aA rfl (dJ rfl (aA rfl (aG kF rfl rfl (aA rfl (bK q ti3 rfl rfl rfl rfl rfl rfl ?_))))))))))))))))))))
 intro w7 q2 hg6 z8
 replace hs := hs.grown hg6 (by intro g hg; injection hg; omega)
 replace X := dI X hg6
 clear hg6 q
 refine aB (eK [false, false, false, false, false, false, false, false, false, false, false, false] mixed (by kernel_rfl) (cO rfl (fun wq sq => aC rfl ⟨rfl, Q7r _⟩) (cO rfl (fun wq sq => dJ rfl ⟨rfl, Q7r _⟩) (cO rfl (fun wq sq => aG aAZ rfl rfl ⟨rfl, Q7r _⟩) (cO rfl (fun wq sq => aJ (q2.ext sq) mD rfl rfl ⟨rfl, Q7r _⟩) (cO rfl (fun wq sq => aC rfl ⟨rfl, Q7r _⟩) (cO rfl (fun wq sq => dJ rfl ⟨rfl, Q7r _⟩) (cO rfl (fun wq sq => aG kF rfl rfl ⟨rfl, Q7r _⟩) (cO rfl (fun wq sq => aJ (q2.ext sq) ti3 rfl rfl ⟨rfl, Q7r _⟩) (cO rfl (fun wq sq => fZ rfl rfl (dM (by omega)) ⟨rfl, Q7r _⟩) (cO rfl (fun wq sq => aU (hs.ext sq) bI rfl cQ rfl rfl rfl hx (by omega) ⟨rfl, Q7r _⟩) ?_)))))))))))
 refine cO rfl (fun wq sq => bS (hs.ext sq) bI hx dB rfl rfl rfl ⟨rfl, Q7r _⟩) (cO rfl (fun wq sq => aE rfl ⟨rfl, Q7r _⟩) (dX (fun w9 sq => ?_)))
 have xq := sq
 replace hs := hs.ext xq
 replace q2 := q2.ext xq
 replace X := dU X xq; clear xq sq
 refine aB (aW (aL rfl rfl ?_))
 · skip
   first
   | (have e1 : nV xs a = 0 := by unfold nV; rw [if_pos (by omega)]
      have e2 : iD xs a = a := by unfold iD; rw [if_pos (by omega)]
      have e3 : fL xs a bad = true := by unfold fL; rw [if_pos (by omega)]
      rw [e1, e2, e3]; exact ⟨rfl, q2, X⟩)
   | (have e1 : nV xs a = x := by unfold nV; rw [if_neg (by omega), List.getD_eq_getElem?_getD, hx]; rfl
      have e2 : iD xs a = a + 1 := by unfold iD; rw [if_neg (by omega)]
      have e3 : fL xs a bad = bad := by unfold fL; rw [if_neg (by omega)]
      rw [e1, e2, e3]; exact ⟨rfl, q2, X⟩)
theorem aD8 (A : Option Addr) (B c : Nat) (xs : List Int) (gC a : Nat) (bad : Bool) (z : Int) (w : World) (q : Blk w gC 166 (wT A c xs a bad)) (hs : Sl B w A (xs.flatMap eI)) (hl : xs.length ≤ 1048576) (ha : a ≤ xs.length) (hB : B ≤ gC) (hz0 : 0 ≤ z ∧ z ≤ 1048576) :
   Calls Tryz.prog 161 #[.pointer (some ⟨gC, 0, none⟩), .int .i64 z] w (fF fun v w' => ∃ A' c', v = .slice A' (iR xs z.toNat a bad).1.length c' ∧ Own w' w.heap.size 2 1 A' (iR xs z.toNat a bad).1.length c' ((iR xs z.toNat a bad).1.flatMap eI) ∧ Blk w' gC 166 (wT A c xs (iR xs z.toNat a bad).2.1 (iR xs z.toNat a bad).2.2) ∧ w.grownBy w' (some gC)) := by
 have Bhs := hs.1
 have X := pJ w (some gC)
 refine bJ (args := [.pointer (some ⟨gC, 0, none⟩), .int .i64 z]) Tryz.func161 Tryz.ntmps161 rfl rfl (aF (aA rfl (aE rfl (aB (aF (aA rfl (aO cQ dB rfl rfl rfl rfl rfl ?_)))))))
 intro gO w2 egO oO bbgO x1 zgO
 replace oO := Own.low oO X.size
 replace q := q.ext x1
 replace hs := hs.ext x1
 replace X := dU X x1; clear x1
 refine aA rfl (aE rfl (aB (aR (aX (dG (G := Nat × List Int × Nat × Bool × Nat × Option Addr × Nat × Int) (fun ⟨k, ys, a1, b1, n1, A1, c1, tm⟩ => [(0, .pointer (some ⟨gC, 0, none⟩)), (4, .slice none 0 0), (1, .int .i64 tm), (5, .slice A1 n1 c1)]) (fun ⟨k, ys, a1, b1, n1, A1, c1, tm⟩ wr => k ≤ z.toNat ∧ tm = z - k ∧ a1 ≤ xs.length ∧ (n1 = ys.length ∧ n1 ≤ k) ∧ iR xs z.toNat a bad = (ys ++ (iR xs (z.toNat - k) a1 b1).1, (iR xs (z.toNat - k) a1 b1).2) ∧ Blk wr gC 166 (wT A c xs a1 b1) ∧ Own wr w.heap.size 2 1 A1 n1 c1 (ys.flatMap eI) ∧ Sl B wr A (xs.flatMap eI) ∧ w.grownBy wr (some gC)) (fun ⟨k, ys, a1, b1, n1, A1, c1, tm⟩ => z.toNat - k) (0, [], a, bad, 0, some ⟨gO, 0, none⟩, 0, z) (.cons rfl (.cons rfl (.cons rfl (.cons rfl (.nil _))))) ?_ ?_)))))
 · exact ⟨by omega, by omega, ha, ⟨rfl, by omega⟩, rfl, q, oO, hs, X⟩
 clear q hs oO
 clear X
 rintro ⟨k, ys, a1, b1, n1, A1, c1, tm⟩ wr ⟨hk0, htm, ha1, hn, hi, q, oO, hs, X⟩
 refine aR (aF (aA rfl (aC rfl (aA rfl (fG rfl rfl (fun hk => ?_) (fun hk => ?_))))))
 refine aA rfl (aC rfl (aI rfl rfl rfl (aC rfl (aI rfl rfl rfl (dJ rfl (aI rfl rfl rfl (aG jG rfl rfl (aI rfl rfl rfl (aJ q xO rfl rfl (aI rfl rfl rfl (bP rfl (aA rfl (aK rfl rfl (aB (rU rfl (fun h3 => ?_) (fun h3 => ?_))))))))))))))))
 refine aV (aS (aR (aX (aN (aA rfl (aC rfl (aA rfl (aC rfl (aA rfl (aT mW rfl (aP (mT _ _ _ _ _ _ _ _ q hs hl ha1 hB) ?_)))))))))))
 rintro _ w5 ⟨rfl, q2, x4⟩
 replace oO := oO.grownBlk x4 (Own.neT oO q (by decide))
 replace hs := hs.grown x4 (by intro g hg; injection hg; omega)
 replace X := dI X x4
 clear x4 q
 refine aA rfl (aO cQ dB rfl rfl rfl rfl rfl ?_)
 intro g6 w9 eg6 oT bbg6 x7 zg6
 replace oT := Own.low oT X.size
 replace oO := oO.ext x7
 replace hs := hs.ext x7
 replace q2 := q2.ext x7
 replace X := dU X x7; clear x7
 refine aA rfl (cH (ts := #[]) oO X.size oT.sl (by first | rfl | simp) (by first | exact List.all_eq_true.1 rfl | simp [Value.oneCell']) cQ dB rfl rfl rfl rfl (by omega) (by omega) ?_)
 intro AoN coN w11 oN hg10
 replace hs := hs.grown hg10 (fun g hg => Q7l Bhs (Own.lt oO hg).1)
 replace q2 := q2.grown hg10 (fun h => Own.neT oO q2 (by decide) h.symm)
 replace X := dV X hg10 (fun g hg => (Own.lt oO hg).1)
 clear hg10
 refine aA rfl (aE rfl (aB (dO (aS (aN (aA rfl (aC rfl (aA rfl (fZ rfl rfl (dM (by omega)) (aA rfl (aE rfl (aB (aS ⟨(k + 1, ys ++ [nV xs a1], iD xs a1, fL xs a1 b1, n1 + 1, AoN, coN, tm - 1), (.cons rfl (.cons rfl (.cons rfl (.cons rfl (.nil _))))), ?_, ?_⟩)))))))))))))
 · skip
   exact ⟨by omega, by omega, fT ha1, ⟨by simp [hn.1], by omega⟩, (by
     have hb : b1 = false := by simpa using ‹(!b1) = true›
     rw [hi, aD4 xs (show 0 < z.toNat - k by omega) hb, show z.toNat - k - 1 = z.toNat - (k + 1) by omega]; simp), q2, oN.to (lI eI ys _).symm, hs, X⟩
 · first | omega | (dsimp only; omega)
 refine dD (dC (dC (eG (aS (aF (aA rfl (aC rfl (aA rfl (aE rfl (aB (aW (aL rfl rfl ?_))))))))))))
 · skip
   have hst : z.toNat - k = 0 ∨ b1 = true := by
     first
     | (left; omega)
     | (right; simpa using ‹(!b1) = false›)
   rw [hi, aAJ xs _ _ hst, List.append_nil, ← hn.1]
   exact ⟨_, _, rfl, oO, q, X⟩
 refine aA rfl (aC rfl (aH rfl rfl rfl rfl (aH rfl rfl rfl rfl (aH rfl rfl rfl rfl (aH rfl rfl rfl rfl (aH rfl rfl rfl rfl (aA rfl (aK rfl rfl (aB (aM rfl (dD (dC (dC (eG (aS (aF (aA rfl (aC rfl (aA rfl (aE rfl (aB (aW (aL rfl rfl ?_)))))))))))))))))))))))
 · skip
   have hst : z.toNat - k = 0 ∨ b1 = true := by
     first
     | (left; omega)
     | (right; simpa using ‹(!b1) = false›)
   rw [hi, aAJ xs _ _ hst, List.append_nil, ← hn.1]
   exact ⟨_, _, rfl, oO, q, X⟩
end Go.Proofs.YtdoibplhbdkapaaGreatDoor
