/- Parts. No condition. -/
import Derived.Test.YtdoibplhbdkapaaGreatDoorDNP4
import Derived.Test.YtdoibplhbdkapaaGreatDoorDNP3
import Derived.Test.YtdoibplhbdkapaaGreatDoorDNP13
import Derived.RangeFuncFrom
import Derived.RangeFuncBox
import Derived.RangeFuncLeaves
import Derived.RangeFuncCalls
import Derived.TacticsIn
import Derived.RangeFuncBound
import Derived.Test.YtdoibplhbdkapaaGreatDoorDNP14
namespace Go.Proofs.YtdoibplhbdkapaaGreatDoor
open Go.RowKit
set_option linter.unusedVariables false
set_option linter.unusedSimpArgs false
theorem aIl {z n : Int} (p : Int) (h : 0 ≤ z) (hp : 0 ≤ p) (e : (2 : Int) ^ (min n.toNat IntKind.i64.bits) = p) : z.fdiv (2 ^ (min n.toNat IntKind.i64.bits)) = z / p := by
 rw [e, Int.fdiv_eq_ediv_of_nonneg _ hp]
theorem aKI {z : Int} (h : 0 ≤ z ∧ z ≤ 1099511627776) : kW .and .i64 z 1 = z % 2 := by
 obtain ⟨n, rfl⟩ : ∃ n : Nat, z = (n : Int) := ⟨z.toNat, by omega⟩
 have h1 := sG (a := n) (b := 1) (by omega) (by omega)
 rw [show ((1 : Nat) : Int) = 1 from rfl] at h1
 rw [h1, show n &&& 1 = n % 2 from Nat.and_one_is_mod n]; omega
theorem aJ3 {z : Int} (h : 0 ≤ z ∧ z ≤ 1099511627776) : kW .and .i64 z 16777215 = z % 16777216 := by
 obtain ⟨n, rfl⟩ : ∃ n : Nat, z = (n : Int) := ⟨z.toNat, by omega⟩
 have h1 := sG (a := n) (b := 16777215) (by omega) (by omega)
 rw [show ((16777215 : Nat) : Int) = 16777215 from rfl] at h1
 rw [h1, show n &&& 16777215 = n % 16777216 from Nat.and_two_pow_sub_one_eq_mod n 24]; omega
theorem aHT {a b : Int} (ha : 0 ≤ a ∧ a ≤ 1) (hb : 0 ≤ b ∧ b ≤ 1) : kW .xor .i64 a b = (a + b) % 2 := by
 obtain ⟨n, rfl⟩ : ∃ n : Nat, a = (n : Int) := ⟨a.toNat, by omega⟩
 obtain ⟨k, rfl⟩ : ∃ k : Nat, b = (k : Int) := ⟨b.toNat, by omega⟩
 rw [uZ (by omega) (by omega)]
 have h1 : n = 0 ∨ n = 1 := by omega
 have h2 : k = 0 ∨ k = 1 := by omega
 rcases h1 with rfl | rfl <;> rcases h2 with rfl | rfl <;> rfl
def aB9 (r : Int) : Int := ((r.toNat ^^^ 6122955 : Nat) : Int)
def aDd (r b : Int) : Int := if (r / 8388608 + b) % 2 = 1 then aB9 (r % 8388608 * 2) else r % 8388608 * 2
def aAr (r : Int) (l : List Int) : Int := l.foldl aDd r
theorem aHh {r : Int} (h : 0 ≤ r ∧ r < 16777216) : 0 ≤ aB9 r ∧ aB9 r < 16777216 := by
 unfold aB9
 have := Nat.xor_lt_two_pow (n := 24) (x := r.toNat) (y := 6122955) (by omega) (by decide)
 omega
theorem aD9 {r : Int} (h : 0 ≤ r ∧ r < 16777216) : kW .xor .i64 r 6122955 = aB9 r := by
 obtain ⟨n, rfl⟩ : ∃ n : Nat, r = (n : Int) := ⟨r.toNat, by omega⟩
 rw [show (6122955 : Int) = ((6122955 : Nat) : Int) from rfl, uZ (by omega) (by decide)]; rfl
theorem aHi {r b : Int} (h : 0 ≤ r ∧ r < 16777216) : 0 ≤ aDd r b ∧ aDd r b < 16777216 := by
 unfold aDd
 split
 · exact aHh (by omega)
 · omega
theorem xO : ∀ (l : List Int) {r : Int}, (0 ≤ r ∧ r < 16777216) → 0 ≤ aAr r l ∧ aAr r l < 16777216
 | [], _, h => h
 | _ :: l, _, h => xO l (aHi h)
theorem sR {l : List Int} {k : Nat} {x r : Int} (h : l[k]? = some x) : aAr r (l.take (k + 1)) = aDd (aAr r (l.take k)) x := by
 rw [List.take_add_one, h]; simp [aAr, List.foldl_append]
def aCa (x : Int) (j : Nat) : Int := x / 2 ^ j % 2
def xI (x : Int) (k : Nat) : List Int := (List.range k).map fun i => aCa x (7 - i)
def lM (xs : List Int) : List Int := xs.flatMap fun x => xI x 8
theorem aAD (x : Int) (k : Nat) : xI x (k + 1) = xI x k ++ [aCa x (7 - k)] := by simp [xI, List.range_succ]
theorem yT (x : Int) (k : Nat) : (xI x k).length = k := by simp [xI]
theorem aHj (x : Int) (j : Nat) : 0 ≤ aCa x j ∧ aCa x j ≤ 1 := by unfold aCa; omega
theorem pW : ∀ (xs : List Int), (lM xs).length = 8 * xs.length
 | [] => rfl
 | x :: r => by
   have := pW r
   unfold lM at this ⊢
   rw [List.flatMap_cons, List.length_append, yT, this, List.length_cons]; omega
theorem aCb {xs : List Int} : ∀ b ∈ lM xs, 0 ≤ b ∧ b ≤ 1 := fun b hb => by
 obtain ⟨x, _, h2⟩ := List.mem_flatMap.1 hb
 obtain ⟨i, _, rfl⟩ := List.mem_map.1 h2
 exact aHj _ _
theorem qN {xs : List Int} {k : Nat} {x : Int} (h : xs[k]? = some x) : lM (xs.take (k + 1)) = lM (xs.take k) ++ xI x 8 := by
 unfold lM
 rw [List.take_add_one, h]; simp [List.flatMap_append]
theorem aEa {x : Int} {j : Nat} (h : 0 ≤ x ∧ x ≤ 1099511627776) (hj : j ≤ 63) : kW .and .i64 (x / 2 ^ j) 1 = aCa x j := by
 have h1 : 0 ≤ x / 2 ^ j := Int.ediv_nonneg h.1 (Int.pow_nonneg (by omega))
 have h2 : x / 2 ^ j ≤ x := Int.ediv_le_self _ h.1
 rw [aKI (by omega)]; rfl
theorem aHk {z : Int} {j : Nat} (h : 0 ≤ z) (hj : j ≤ 63) : z.fdiv (2 ^ (min ((j : Int).toNat) IntKind.i64.bits)) = z / 2 ^ j := by
 rw [Int.toNat_natCast, show min j IntKind.i64.bits = j by show min j 64 = j; omega, Int.fdiv_eq_ediv_of_nonneg _ (Int.pow_nonneg (by omega))]
def id3 (z : Int) : List Int := [z / 65536, z / 256 % 256, z % 256]
def aEE (k : Nat) (b : List Int) : Int := aAr ((k : Int) + 1) (lM b)
def qO (k : Nat) (b : List Int) : List Int := id3 (aEE k b)
theorem sS {k : Nat} (b : List Int) (h : k < 16777215) : 0 ≤ aEE k b ∧ aEE k b < 16777216 := xO _ (by omega)
def gK (xs : List Int) (k : Nat) : List Int := (xs.drop (28 * k)).take 28
def aCc (xs : List Int) (k : Nat) : Int := if xs.length ≤ 28 * (k + 1) then 128 else 0
def iW (xs : List Int) (k : Nat) : List Int := (k : Int) :: (((gK xs k).length : Int) + aCc xs k) :: gK xs k
def jB (xs : List Int) (k : Nat) : List Int := iW xs k ++ qO k (iW xs k)
def uD (xs : List Int) (k : Nat) : List Int := (List.range k).flatMap (jB xs)
def nB (n : Nat) : Nat := if n = 0 then 1 else (n + 27) / 28
def uE (xs : List Int) : List Int := uD xs (nB xs.length)
theorem fK (xs : List Int) (k : Nat) : uD xs (k + 1) = uD xs k ++ jB xs k := by
 simp [uD, List.range_succ, List.flatMap_append]
theorem iX (xs : List Int) (k : Nat) : (gK xs k).length = min 28 (xs.length - 28 * k) := by simp [gK]
theorem pX (xs : List Int) (k : Nat) : (jB xs k).length = min 28 (xs.length - 28 * k) + 5 := by
 rw [jB, List.length_append, iW, List.length_cons, List.length_cons, iX]; rfl
theorem yU (xs : List Int) : ∀ k : Nat, 28 * k ≤ xs.length → (uD xs k).length = 33 * k
 | 0, _ => rfl
 | k + 1, h => by
   rw [fK, List.length_append, pX, yU xs k (by omega)]; omega
theorem yV (n : Nat) : 1 ≤ nB n := by unfold nB; split <;> omega
theorem aAE (n : Nat) : 28 * nB n ≤ n + 28 := by unfold nB; split <;> omega
theorem aAF {n k : Nat} : k < nB n ↔ (k = 0 ∨ 28 * k < n) := by unfold nB; split <;> omega
theorem sT {n k : Nat} (h : k < nB n) : (n ≤ 28 * (k + 1)) ↔ k + 1 = nB n := by
 unfold nB at h ⊢; split <;> (split at h <;> omega)
theorem xP (xs : List Int) : (uE xs).length = xs.length + 5 * nB xs.length := by
 have h1 : nB xs.length = nB xs.length - 1 + 1 := by have := yV xs.length; omega
 have h2 := aAE xs.length
 have h3 := (sT (n := xs.length) (k := nB xs.length - 1) (by omega)).2 h1.symm
 unfold uE
 rw [h1, fK, List.length_append, pX, yU xs _ (by omega)]; omega
def fS (xs : List Int) (k : Nat) : List Int := (xs.drop (33 * k)).take 33
def nS (n : Nat) : Nat := if n = 0 then 1 else (n + 32) / 33
def rQ (xs : List Int) (k : Nat) : Bool := decide ((fS xs k).length < 5) || !decide (qO k ((fS xs k).take ((fS xs k).length - 3)) = (fS xs k).drop ((fS xs k).length - 3))
def xJ (xs : List Int) (k : Nat) : List Int := ((List.range k).filter (rQ xs)).map fun (j : Nat) => (j : Int)
def dmg (xs : List Int) : List Int := xJ xs (nS xs.length)
def aHl (xs : List Int) (k : Nat) : List Int := ((fS xs k).take ((fS xs k).length - 3)).drop 2
def aDe (xs : List Int) (k : Nat) : List Int := (List.range k).flatMap (aHl xs)
def uF (xs : List Int) : List Int := aDe xs (nS xs.length)
def lN (xs : List Int) : List Int × Int := if dmg xs ≠ [] then ([], 7) else if (uF xs).length ≤ 868 ∧ uE (uF xs) = xs then (uF xs, 0) else ([], 6)
theorem aFD (n : Nat) : 1 ≤ nS n := by unfold nS; split <;> omega
theorem aFE (n : Nat) : 33 * nS n ≤ n + 33 := by unfold nS; split <;> omega
theorem rU (xs : List Int) (k : Nat) : (fS xs k).length = min 33 (xs.length - 33 * k) := by simp [fS]
theorem nP (xs : List Int) (k : Nat) : xJ xs (k + 1) = if rQ xs k = true then xJ xs k ++ [(k : Int)] else xJ xs k := by
 unfold xJ
 rw [List.range_succ, List.filter_append, List.map_append]
 cases h : rQ xs k <;> simp [h]
theorem aHm (xs : List Int) (k : Nat) : (xJ xs k).length ≤ k := by
 unfold xJ
 rw [List.length_map]
 exact Q7l (List.length_filter_le _ _) (by simp)
theorem vN (xs : List Int) (k : Nat) : aDe xs (k + 1) = aDe xs k ++ aHl xs k := by
 simp [aDe, List.range_succ, List.flatMap_append]
theorem aHn {xs : List Int} (h : dmg xs = []) {k : Nat} (hk : k < nS xs.length) : rQ xs k = false := by
 unfold dmg xJ at h
 have h1 := List.map_eq_nil_iff.1 h
 have h2 := (List.filter_eq_nil_iff.1 h1) k (List.mem_range.2 hk)
 simpa using h2
theorem yW {xs : List Int} {k : Nat} (h : rQ xs k = false) : 5 ≤ (fS xs k).length ∧ qO k ((fS xs k).take ((fS xs k).length - 3)) = (fS xs k).drop ((fS xs k).length - 3) := by
 simp only [rQ, Bool.or_eq_false_iff, decide_eq_false_iff_not, Bool.not_eq_false', decide_eq_true_eq] at h
 exact ⟨by omega, h.2⟩
theorem aEF (xs : List Int) {k : Nat} (h : k < nB xs.length) : ∃ t, uE xs = uD xs k ++ (jB xs k ++ t) ∧ (t = [] ∨ (jB xs k).length = 33) := by
 obtain ⟨j, hj⟩ : ∃ j, nB xs.length = k + 1 + j := ⟨nB xs.length - (k + 1), by omega⟩
 unfold uE
 rw [hj]
 clear h
 have hL : 0 < j → 28 * (k + 1) ≤ xs.length := fun h0 => by
   have := (aAF (n := xs.length) (k := k + 1)).1 (by omega); omega
 have : ∀ i, ∃ t, uD xs (k + 1 + i) = uD xs k ++ (jB xs k ++ t) ∧ (i = 0 → t = []) := fun i => by
   induction i with
   | zero => exact ⟨[], by rw [Nat.add_zero, fK, List.append_nil], fun _ => rfl⟩
   | succ i ih =>
     obtain ⟨t, h1, _⟩ := ih
     exact ⟨t ++ jB xs (k + 1 + i), by rw [← Nat.add_assoc, fK, h1]; simp [List.append_assoc], fun h => absurd h (by omega)⟩
 obtain ⟨t, h1, h2⟩ := this j
 refine ⟨t, h1, ?_⟩
 rcases Nat.eq_zero_or_pos j with h0 | h0
 · exact .inl (h2 h0)
 · right; rw [pX]; have := hL h0; omega
theorem aDf (xs : List Int) {k : Nat} (h : k < nB xs.length) : fS (uE xs) k = jB xs k := by
 obtain ⟨t, h1, h2⟩ := aEF xs h
 have h3 : (uD xs k).length = 33 * k := yU xs k (by have := (aAF (n := xs.length)).1 h; omega)
 have h4 := pX xs k
 unfold fS
 rw [h1, ← h3, List.drop_left]
 rcases h2 with rfl | h2
 · rw [List.append_nil, List.take_of_length_le (by omega)]
 · rw [← h2, List.take_left]
theorem aFF (xs : List Int) : nS (uE xs).length = nB xs.length := by
 rw [xP]
 unfold nS nB
 split <;> (split <;> omega)
theorem aAG (xs : List Int) (k : Nat) : (jB xs k).take ((jB xs k).length - 3) = iW xs k ∧ (jB xs k).drop ((jB xs k).length - 3) = qO k (iW xs k) := by
 have e : (jB xs k).length - 3 = (iW xs k).length := by rw [jB, List.length_append]; simp [qO, id3]
 rw [e]; unfold jB
 exact ⟨List.take_left, List.drop_left⟩
theorem aFG (xs : List Int) {k : Nat} (h : k < nB xs.length) : rQ (uE xs) k = false := by
 have h1 := aAG xs k
 have h2 := pX xs k
 rw [rQ, aDf xs h, h1.1, h1.2]
 simp; omega
theorem aEb (xs : List Int) : dmg (uE xs) = [] := by
 unfold dmg xJ
 rw [List.map_eq_nil_iff, List.filter_eq_nil_iff, aFF]
 intro k hk
 rw [aFG xs (List.mem_range.1 hk)]; simp
theorem aEG (xs : List Int) (k : Nat) : xs.take (28 * k) ++ gK xs k = xs.take (28 * (k + 1)) := by
 unfold gK
 rw [show 28 * (k + 1) = 28 * k + 28 by omega, List.take_add]
theorem aCd (xs : List Int) : ∀ k : Nat, k ≤ nB xs.length → aDe (uE xs) k = xs.take (28 * k)
 | 0, _ => rfl
 | k + 1, h => by
   rw [vN, aCd xs k (by omega), aHl, aDf xs (by omega), (aAG xs k).1, ← aEG]; rfl
theorem aHo (xs : List Int) : uF (uE xs) = xs := by
 unfold uF
 rw [aFF, aCd xs _ (Nat.le_refl _)]
 refine List.take_of_length_le ?_
 have := (sT (n := xs.length) (k := nB xs.length - 1) (by have := yV xs.length; omega)).2 (by have := yV xs.length; omega)
 have := yV xs.length
 omega
theorem aEH {xs : List Int} (h : xs.length ≤ 868) : lN (uE xs) = (xs, 0) := by
 unfold lN
 rw [aEb, aHo, if_neg (by simp), if_pos ⟨h, rfl⟩]
theorem aHp {xs : List Int} (hb : ∀ x ∈ xs, 0 ≤ x ∧ x ≤ 255) (h : xs.length ≤ 868) : ∀ x ∈ uE xs, 0 ≤ x ∧ x ≤ 255 := fun x hx => by
 obtain ⟨k, hk, h2⟩ := List.mem_flatMap.1 hx
 have hk := List.mem_range.1 hk
 have hn := aAE xs.length
 have hpl := iX xs k
 have hc := sS (k := k) (iW xs k) (by omega)
 rcases List.mem_append.1 h2 with h3 | h3
 · rcases List.mem_cons.1 h3 with rfl | h4
   · omega
   · rcases List.mem_cons.1 h4 with rfl | h5
     · unfold aCc; split <;> omega
     · exact hb x (List.mem_of_mem_drop (List.mem_of_mem_take h5))
 · simp only [qO, id3, List.mem_cons, List.not_mem_nil, or_false] at h3
   omega
set_option maxRecDepth 20000
theorem aKJ {z : Int} (h : 0 ≤ z ∧ z ≤ 1099511627776) : IntKind.i64.wrap (z * 2 ^ (min ((1 : Int).toNat) IntKind.i64.bits)) = z * 2 := by
 rw [show (2 : Int) ^ (min ((1 : Int).toNat) IntKind.i64.bits) = 2 from rfl]; exact dR (by omega)
theorem aHU {x z : Int} {j : Nat} (e : z = (j : Int)) (h : 0 ≤ x) (hj : j ≤ 63) : x.fdiv (2 ^ (min z.toNat IntKind.i64.bits)) = x / 2 ^ j := by subst e; exact aHk h hj
theorem wuz {n : Int} (h : 0 ≤ n ∧ n ≤ 9223372036854775807) : IntKind.u64.wrap n = n := by
 have h1 : n % 18446744073709551616 = n := by omega
 simp [IntKind.wrap, IntKind.bits, IntKind.signed, h1]
theorem u8v {xs : List Int} (hb : ∀ x ∈ xs, 0 ≤ x ∧ x ≤ 255) {k : Nat} {x : Int} (h : xs[k]? = some x) : 0 ≤ x ∧ x ≤ 255 := hb x (List.mem_of_getElem? h)
theorem aBl {r x : Int} (h : 0 ≤ r ∧ r < 16777216) : aDd r x = if (x + r / 8388608) % 2 = 1 then aB9 (r * 2 % 16777216) else r * 2 % 16777216 := by
 unfold aDd
 rw [show r * 2 % 16777216 = r % 8388608 * 2 by omega, Int.add_comm]
theorem Sl.takeI {B : Nat} {w : World} {A : Option Addr} {xs : List Int} (h : Sl B w A (xs.flatMap eI)) (k : Nat) : Sl B w A ((xs.take k).flatMap eI) := by
 have e := tG (enc := eI) bL xs k
 rw [Nat.mul_one] at e
 rw [← e]
 exact ⟨h.1, fun j v hj => by
   rw [List.getElem?_take] at hj
   split at hj
   · exact h.2 j v hj
   · cases hj⟩
theorem aFH (a : Addr) (i j : Nat) : (a.add i).add j = a.add (i + j) := by
 unfold Addr.add
 by_cases hi : i = 0 <;> by_cases hj : j = 0 <;> simp [hi, hj, Nat.add_assoc]
theorem Sl.dropI {B : Nat} {w : World} {A : Option Addr} {xs : List Int} (h : Sl B w A (xs.flatMap eI)) (k : Nat) : Sl B w (A.map (·.add k)) ((xs.drop k).flatMap eI) := by
 have e := tF (enc := eI) bL xs k
 rw [Nat.mul_one] at e
 rw [← e]
 refine ⟨h.1, fun j v hj => ?_⟩
 rw [List.getElem?_drop] at hj
 obtain ⟨h1, h2, h3⟩ := h.2 _ v hj
 cases A with
 | none => cases h1
 | some a =>
   refine ⟨rfl, ?_, ?_⟩
   · show (a.add k).block < B
     rw [jL]; exact h2
   · show w.cell? ((a.add k).add j) = some v
     rw [aFH]; exact h3
theorem Sl.dropX {B c : Nat} {w : World} {A : Option Addr} {xs : List Int} (h : Sl B w A (xs.flatMap eI)) (k : Nat) (hc : xs.length ≤ c) : Sl B w (if c = k then A else A.map (·.add (k * 1))) ((xs.drop k).flatMap eI) := by
 split
 · rename_i hk
   rw [List.drop_of_length_le (by omega)]
   exact ⟨h.1, fun j v hj => by simp at hj⟩
 · rw [Nat.mul_one]; exact h.dropI k
theorem aCe (A : Option Addr) (B c : Nat) (xs : List Int) (A2 : Option Addr) (B2 c2 : Nat) (ys : List Int) (w : World) (hs : Sl B w A (xs.flatMap eI)) (h2 : Sl B2 w A2 (ys.flatMap eI)) (hl : xs.length ≤ 1048576) :
   Calls Tryz.prog 168 #[.slice A xs.length c, .slice A2 ys.length c2] w (fD fun v w' => v = .bool (decide (xs = ys)) ∧ Ext w w') := by
 have Bhs := hs.1
 have Bh2 := h2.1
 have X := Q7r w
 refine bI (args := [.slice A xs.length c, .slice A2 ys.length c2]) Tryz.func168 Tryz.ntmps168 rfl rfl ?_
 refine aE ?_
 refine aA rfl (aD rfl ?_)
 refine aB ?_
 refine aQ ?_
 refine aE ?_
 refine aA rfl (aC rfl ?_)
 refine aA rfl (cQ Tryz.underlying30 rfl ?_)
 refine aA rfl (aC rfl ?_)
 refine aA rfl (cQ Tryz.underlying30 rfl ?_)
 refine aA rfl (hP rfl rfl (fun hlen => ?_) (fun hlen => ?_))
 refine aB ?_
 refine aR rfl ?_
 refine aE ?_
 refine aA rfl (aD rfl ?_)
 refine aB ?_
 refine aV ?_
 refine bU ?_
 refine aK rfl rfl ?_
 · skip
   refine ⟨congrArg Value.bool ?_, X⟩
   exact (decide_eq_false (fun e => hlen (by rw [e]))).symm
 refine aB ?_
 refine aL rfl ?_
 refine aU ?_
 refine aP ?_
 refine aQ ?_
 refine aE ?_
 refine aA rfl (aC rfl ?_)
 refine aA rfl (cQ Tryz.underlying30 rfl ?_)
 refine aA rfl (aC rfl ?_)
 refine aB ?_
 refine aW ?_
 refine dD (G := Nat) (fun k => [(0, .slice A xs.length c), (1, .slice A2 ys.length c2), (12, .int .i64 (xs.length : Nat)), (13, .int .i64 (k : Nat))]) (fun k wr => k ≤ xs.length ∧ xs.take k = ys.take k ∧ Sl B wr A (xs.flatMap eI) ∧ Sl B2 wr A2 (ys.flatMap eI) ∧ Ext w wr) (fun k => xs.length - k) 0 (.cons rfl (.cons rfl (.cons rfl (.cons rfl (.nil _))))) ?_ ?_
 · exact ⟨by omega, rfl, hs, h2, X⟩
 clear hs h2
 clear X
 rintro k wr ⟨hk0, hi, hs, h2, X⟩
 refine aE ?_
 refine aA rfl (cH rfl rfl (fun hk => ?_) (fun hk => ?_))
 obtain ⟨x, hx, dx⟩ := dM hk
 obtain ⟨y, hy, dy⟩ := jZ (xs := ys) (k := k) (by omega)
 refine aB ?_
 refine aQ ?_
 refine aR rfl ?_
 refine aU ?_
 refine aP ?_
 refine aQ ?_
 refine aW ?_
 refine aE ?_
 refine aA rfl (aC rfl ?_)
 refine aA rfl (aD rfl ?_)
 refine aB ?_
 refine eO [false, false, false, false, false, false, false, false, false] mixed (by kernel_rfl) ?_
 refine cE rfl (fun wq sq => aC rfl ⟨rfl, Q7r _⟩) ?_
 refine cE rfl (fun wq sq => aC rfl ⟨rfl, Q7r _⟩) ?_
 refine cE rfl (fun wq sq => aT (hs.ext sq) bL rfl dA rfl rfl rfl hx rfl ⟨rfl, Q7r _⟩) ?_
 refine cE rfl (fun wq sq => cX (hs.ext sq) bL hx cY rfl rfl rfl ⟨rfl, Q7r _⟩) ?_
 refine cE rfl (fun wq sq => aC rfl ⟨rfl, Q7r _⟩) ?_
 refine cE rfl (fun wq sq => aC rfl ⟨rfl, Q7r _⟩) ?_
 refine cE rfl (fun wq sq => aT (h2.ext sq) bL rfl dA rfl rfl rfl hy rfl ⟨rfl, Q7r _⟩) ?_
 refine cE rfl (fun wq sq => cX (h2.ext sq) bL hy cY rfl rfl rfl ⟨rfl, Q7r _⟩) ?_
 refine uR rfl (fun wq sq => qS rfl rfl ⟨rfl, Q7r _⟩) (fun hxy => ?_) (fun hxy => ?_)
 refine dW (fun w1 sq => ?_)
 have xq := sq
 replace hs := hs.ext xq
 replace h2 := h2.ext xq
 replace X := Q7x X xq; clear xq sq
 refine aB ?_
 refine aR rfl ?_
 refine aE ?_
 refine aA rfl (aD rfl ?_)
 refine aB ?_
 refine aV ?_
 refine dN ?_
 refine bU ?_
 refine bU ?_
 refine dN ?_
 refine bU ?_
 refine aK rfl rfl ?_
 · skip
   refine ⟨congrArg Value.bool ?_, X⟩
   refine (decide_eq_false (fun e => ?_)).symm
   rw [e, hy] at hx; injection hx with hx; omega
 refine dW (fun w2 sq => ?_)
 have xq := sq
 replace hs := hs.ext xq
 replace h2 := h2.ext xq
 replace X := Q7x X xq; clear xq sq
 refine aB ?_
 refine aL rfl ?_
 refine aU ?_
 refine dJ ?_
 refine aP ?_
 refine aM ?_
 refine aA rfl (aZ rfl rfl (dR (by omega)) ?_)
 refine aA rfl (aC rfl ?_)
 refine aB ?_
 refine aP ⟨k + 1, (.cons rfl (.cons rfl (.cons rfl (.cons rfl (.nil _))))), ?_, ?_⟩
 · exact ⟨by omega, (by rw [List.take_add_one, List.take_add_one, hi, hx, hy, show x = y by omega]), hs, h2, X⟩
 · first | omega | (dsimp only; omega)
 refine aB ?_
 refine aQ ?_
 refine aL rfl ?_
 refine dC ?_
 refine dB ?_
 refine dB ?_
 refine eA ?_
 refine aP ?_
 refine aE ?_
 refine aA rfl (aD rfl ?_)
 refine aB ?_
 refine aV ?_
 refine aK rfl rfl ?_
 · skip
   refine ⟨congrArg Value.bool ?_, X⟩
   refine (decide_eq_true ?_).symm
   have e1 : xs.take xs.length = ys.take xs.length := by have h := hi; rwa [show k = xs.length by omega] at h
   rw [List.take_length, List.take_of_length_le (by omega)] at e1; exact e1
theorem aFI (A : Option Addr) (lo n c : Nat) (cs : List Value) (x : Int) (w : World) (oA : Own w lo 2 1 A n c cs) (hlo : lo ≤ w.heap.size) (hx : 0 ≤ x ∧ x ≤ 255) (hn : n ≤ 16777216) :
   Calls Tryz.prog 257 #[.slice A n c, .int .i64 x, .int .i64 8] w (fD fun v w' => ∃ A' c', v = .slice A' (n + 8) c' ∧ Own w' lo 2 1 A' (n + 8) c' (cs ++ (xI x 8).flatMap eI) ∧ Below lo w w') := by
 have X := Below.refl lo w
 refine bI (args := [.slice A n c, .int .i64 x, .int .i64 8]) Tryz.func257 Tryz.ntmps257 rfl rfl ?_
 refine aE ?_
 refine aA rfl (aD rfl ?_)
 refine aB ?_
 refine aQ ?_
 refine aE ?_
 refine aA rfl (aC rfl ?_)
 refine aA rfl (fZ rfl rfl (show IntKind.i64.wrap (8 - 1) = 7 by decide) ?_)
 refine aA rfl (aD rfl ?_)
 refine aB ?_
 refine aW ?_
 refine dD (G := Nat × Int × Nat × Option Addr × Nat) (fun ⟨k, z, n1, A1, c1⟩ => [(1, .int .i64 x), (6, .slice none 0 0), (0, .slice A1 n1 c1), (7, .int .i64 z)]) (fun ⟨k, z, n1, A1, c1⟩ wr => k ≤ 8 ∧ z = 7 - (k : Int) ∧ n1 = n + k ∧ Own wr lo 2 1 A1 n1 c1 (cs ++ (xI x k).flatMap eI) ∧ Below lo w wr) (fun ⟨k, z, n1, A1, c1⟩ => 8 - k) (0, 7, n, A, c) (.cons rfl (.cons rfl (.cons rfl (.cons rfl (.nil _))))) ?_ ?_
 · exact ⟨by omega, (by omega), rfl, (oA.to (by simp [xI])), X⟩
 clear oA
 clear X
 rintro ⟨k, z, n1, A1, c1⟩ wr ⟨hk0, hz, hn1, oA, X⟩
 refine aQ ?_
 refine aE ?_
 refine aA rfl (aC rfl ?_)
 refine aA rfl (lC rfl rfl (fun hk => ?_) (fun hk => ?_))
 refine aB ?_
 refine aR rfl ?_
 refine aU ?_
 refine aP ?_
 refine aQ ?_
 refine aW ?_
 refine aM ?_
 refine aA rfl (aC rfl ?_)
 refine aA rfl (aC rfl ?_)
 refine aA rfl (aC rfl ?_)
 refine aA rfl (qU rfl rfl (by omega) (aHU (j := 7 - k) (by omega) hx.1 (by omega)) ?_)
 refine aA rfl (qT rfl rfl (aEa (by omega) (by omega)) ?_)
 refine aA rfl (aN dA cY rfl rfl rfl rfl rfl ?_)
 intro g1 w3 eg1 oS bbg1 x2 zg1
 replace oS := Own.low oS (Q7l hlo X.size)
 replace oA := oA.ext x2
 replace X := Below.trans X (Below.mono x2 (Q7l hlo X.size))
 refine aA rfl (cF (ts := #[]) oA (Q7l hlo X.size) oS.sl rfl (eF [aCa x (7 - k)]) dA cY rfl rfl rfl rfl (by omega) (by omega) ?_)
 intro AoN coN w5 oN hg4
 replace X := X.grown hg4 (Q7l hlo X.size) (fun g hg => (Own.lt oA hg).1)
 clear hg4
 refine aA rfl (aD rfl ?_)
 refine aB ?_
 refine dJ ?_
 refine aP ?_
 refine aM ?_
 refine aA rfl (aC rfl ?_)
 refine aA rfl (fZ rfl rfl (dR (by omega)) ?_)
 refine aA rfl (aD rfl ?_)
 refine aB ?_
 refine aP ⟨(k + 1, z - 1, n1 + 1, AoN, coN), (.cons rfl (.cons rfl (.cons rfl (.cons rfl (.nil _))))), ?_, ?_⟩
 · exact ⟨by omega, (by omega), (by omega), (oN.to (by rw [aAD, List.flatMap_append, ← List.append_assoc]; rfl)), X⟩
 · first | omega | (dsimp only; omega)
 refine aB ?_
 refine aL rfl ?_
 refine dC ?_
 refine dB ?_
 refine dB ?_
 refine eA ?_
 refine aP ?_
 refine aE ?_
 refine aA rfl (aC rfl ?_)
 refine aA rfl (aD rfl ?_)
 refine aB ?_
 refine aV ?_
 refine aK rfl rfl ?_
 · skip
   have e : k = 8 := by omega
   subst e; subst hn1
   exact ⟨A1, c1, rfl, oA, X⟩
theorem aFJ (A : Option Addr) (B c : Nat) (xs : List Int) (w : World) (hs : Sl B w A (xs.flatMap eI)) (hl : xs.length ≤ 1048576) (hb : ∀ x ∈ xs, 0 ≤ x ∧ x ≤ 255) :
   Calls Tryz.prog 223 #[.slice A xs.length c] w (fD fun v w' => ∃ A' c', v = .slice A' (lM xs).length c' ∧ Own w' w.heap.size 2 1 A' (lM xs).length c' ((lM xs).flatMap eI) ∧ Ext w w') := by
 have Bhs := hs.1
 have X := Q7r w
 refine bI (args := [.slice A xs.length c]) Tryz.func223 Tryz.ntmps223 rfl rfl ?_
 refine aE ?_
 refine aA rfl (aD rfl ?_)
 refine aB ?_
 refine aE ?_
 refine aA rfl (aN dA cY rfl rfl rfl rfl rfl ?_)
 intro gO w2 egO oO bbgO x1 zgO
 replace oO := Own.low oO X.size
 replace hs := hs.ext x1
 replace X := Q7x X x1
 refine aA rfl (aD rfl ?_)
 refine aB ?_
 refine aQ ?_
 refine aE ?_
 refine aA rfl (aC rfl ?_)
 refine aA rfl (cQ Tryz.underlying30 rfl ?_)
 refine aA rfl (aC rfl ?_)
 refine aB ?_
 refine aW ?_
 refine dD (G := Nat × Nat × Option Addr × Nat) (fun ⟨k, n1, A1, c1⟩ => [(2, .slice none 0 0), (7, .slice A xs.length c), (8, .int .i64 (xs.length : Nat)), (3, .slice A1 n1 c1), (9, .int .i64 (k : Nat))]) (fun ⟨k, n1, A1, c1⟩ wr => k ≤ xs.length ∧ n1 = (lM (xs.take k)).length ∧ Own wr w.heap.size 2 1 A1 n1 c1 ((lM (xs.take k)).flatMap eI) ∧ Sl B wr A (xs.flatMap eI) ∧ Ext w wr) (fun ⟨k, n1, A1, c1⟩ => xs.length - k) (0, 0, some ⟨gO, 0, none⟩, 0) (.cons rfl (.cons rfl (.cons rfl (.cons rfl (.cons rfl (.nil _)))))) ?_ ?_
 · exact ⟨by omega, rfl, oO, hs, X⟩
 clear hs oO
 clear X
 rintro ⟨k, n1, A1, c1⟩ wr ⟨hk0, hn1, oO, hs, X⟩
 refine aE ?_
 refine aA rfl (cH rfl rfl (fun hk => ?_) (fun hk => ?_))
 obtain ⟨x, hx, dx⟩ := dM hk
 refine aB ?_
 refine aQ ?_
 refine aR rfl ?_
 refine aU ?_
 refine aP ?_
 refine aQ ?_
 refine aW ?_
 refine aE ?_
 refine aA rfl (aT hs bL rfl dA rfl rfl rfl hx rfl ?_)
 refine aA rfl (cX hs bL hx cY rfl rfl rfl ?_)
 refine aA rfl (aD rfl ?_)
 refine aB ?_
 refine aM ?_
 refine aA rfl (aC rfl ?_)
 refine aA rfl (aC rfl ?_)
 have hxb := u8v hb hx
 have hn2 := pW (xs.take k)
 rw [List.length_take] at hn2
 refine aA rfl (aS aJD rfl (aO (aFI A1 w.heap.size n1 c1 _ x _ oO X.size hxb (by omega)) ?_))
 rintro _ wB ⟨A2, c2, rfl, oN, xB⟩
 replace hs := hs.below (Below.mono xB Bhs)
 replace X := Below.trans X xB; clear xB oO
 refine aA rfl (aD rfl ?_)
 refine aB ?_
 refine dJ ?_
 refine aP ?_
 refine aM ?_
 refine aA rfl (aZ rfl rfl (dR (by omega)) ?_)
 refine aA rfl (aC rfl ?_)
 refine aB ?_
 refine aP ⟨(k + 1, n1 + 8, A2, c2), (.cons rfl (.cons rfl (.cons rfl (.cons rfl (.cons rfl (.nil _)))))), ?_, ?_⟩
 · exact ⟨by omega, (by rw [qN hx, List.length_append, yT, hn1]), (oN.to (by rw [qN hx, List.flatMap_append])), hs, X⟩
 · first | omega | (dsimp only; omega)
 refine aB ?_
 refine aQ ?_
 refine aL rfl ?_
 refine dC ?_
 refine dB ?_
 refine dB ?_
 refine eA ?_
 refine aP ?_
 refine aE ?_
 refine aA rfl (aC rfl ?_)
 refine aA rfl (aD rfl ?_)
 refine aB ?_
 refine aV ?_
 refine aK rfl rfl ?_
 · skip
   rw [show k = xs.length by omega, List.take_length] at oO hn1
   rw [← hn1]; exact ⟨A1, c1, rfl, oO, X⟩
theorem aEI (A : Option Addr) (B c : Nat) (xs : List Int) (w : World) (hs : Sl B w A (xs.flatMap eI)) (hl : xs.length ≤ 1048576) (hb : ∀ x ∈ xs, 0 ≤ x ∧ x ≤ 255) :
   Calls Tryz.prog 235 #[.slice A xs.length c] w (fD fun v w' => ∃ A' c', v = .slice A' (lM xs).length c' ∧ Own w' w.heap.size 2 1 A' (lM xs).length c' ((lM xs).flatMap eI) ∧ Ext w w') := by
 have Bhs := hs.1
 have X := Q7r w
 refine bI (args := [.slice A xs.length c]) Tryz.func235 Tryz.ntmps235 rfl rfl ?_
 refine aE ?_
 refine aA rfl (aD rfl ?_)
 refine aB ?_
 refine aE ?_
 refine aA rfl (aN dA cY rfl rfl rfl rfl rfl ?_)
 intro gO w2 egO oO bbgO x1 zgO
 replace oO := Own.low oO X.size
 replace hs := hs.ext x1
 replace X := Q7x X x1
 refine aA rfl (aD rfl ?_)
 refine aB ?_
 refine aQ ?_
 refine aE ?_
 refine aA rfl (aD rfl ?_)
 refine aB ?_
 refine aW ?_
 refine dD (G := Nat × Nat × Option Addr × Nat) (fun ⟨k, n1, A1, c1⟩ => [(0, .slice A xs.length c), (2, .slice none 0 0), (3, .slice A1 n1 c1), (4, .int .i64 (k : Nat))]) (fun ⟨k, n1, A1, c1⟩ wr => k ≤ xs.length ∧ n1 = (lM (xs.take k)).length ∧ Own wr w.heap.size 2 1 A1 n1 c1 ((lM (xs.take k)).flatMap eI) ∧ Sl B wr A (xs.flatMap eI) ∧ Ext w wr) (fun ⟨k, n1, A1, c1⟩ => xs.length - k) (0, 0, some ⟨gO, 0, none⟩, 0) (.cons rfl (.cons rfl (.cons rfl (.cons rfl (.nil _))))) ?_ ?_
 · exact ⟨by omega, rfl, oO, hs, X⟩
 clear hs oO
 clear X
 rintro ⟨k, n1, A1, c1⟩ wr ⟨hk0, hn1, oO, hs, X⟩
 refine aQ ?_
 refine aE ?_
 refine aA rfl (aC rfl ?_)
 refine aA rfl (aC rfl ?_)
 refine aA rfl (cQ Tryz.underlying30 rfl ?_)
 refine aA rfl (cH rfl rfl (fun hk => ?_) (fun hk => ?_))
 obtain ⟨x, hx, dx⟩ := dM hk
 have hxb := u8v hb hx
 have hn2 := pW (xs.take k)
 rw [List.length_take] at hn2
 refine aB ?_
 refine aR rfl ?_
 refine aU ?_
 refine aP ?_
 refine aQ ?_
 refine aW ?_
 refine aE ?_
 refine aA rfl (aD rfl ?_)
 refine aB ?_
 refine aW ?_
 refine dD (G := Nat × Int × Nat × Option Addr × Nat) (fun ⟨j, z, n2, A2, c2⟩ => [(0, .slice A xs.length c), (2, .slice none 0 0), (4, .int .i64 (k : Nat)), (7, .int .i64 (k : Nat)), (8, .slice A xs.length c), (9, .int .i64 (xs.length : Nat)), (3, .slice A2 n2 c2), (5, .int .i64 z)]) (fun ⟨j, z, n2, A2, c2⟩ wr => j ≤ 8 ∧ z = 7 - (j : Int) ∧ n2 = n1 + j ∧ Own wr w.heap.size 2 1 A2 n2 c2 (((lM (xs.take k)) ++ xI x j).flatMap eI) ∧ Sl B wr A (xs.flatMap eI) ∧ Ext w wr) (fun ⟨j, z, n2, A2, c2⟩ => 8 - j) (0, 7, n1, A1, c1) (.cons rfl (.cons rfl (.cons rfl (.cons rfl (.cons rfl (.cons rfl (.cons rfl (.cons rfl (.nil _))))))))) ?_ ?_
 · exact ⟨by omega, (by omega), rfl, (oO.to (by simp [xI])), hs, X⟩
 clear oO hs
 clear X
 rintro ⟨j, z, n2, A2, c2⟩ wr ⟨hj0, hz, hn3, oP, hs, X⟩
 refine aQ ?_
 refine aE ?_
 refine aA rfl (aC rfl ?_)
 refine aA rfl (lC rfl rfl (fun hj => ?_) (fun hj => ?_))
 refine aB ?_
 refine aR rfl ?_
 refine aU ?_
 refine aP ?_
 refine aQ ?_
 refine aW ?_
 refine aM ?_
 refine aA rfl (aC rfl ?_)
 refine aA rfl (aC rfl ?_)
 refine aA rfl (aC rfl ?_)
 refine aA rfl (aT hs bL rfl dA rfl rfl rfl hx rfl ?_)
 refine aA rfl (cX hs bL hx cY rfl rfl rfl ?_)
 refine aA rfl (aC rfl ?_)
 refine aA rfl (jX Tryz.underlying3 Tryz.underlying140 rfl (wuz (by omega)) ?_)
 refine aA rfl (qU rfl rfl (by omega) (aHU (j := 7 - j) (by omega) hxb.1 (by omega)) ?_)
 refine aA rfl (qT rfl rfl (aEa (by omega) (by omega)) ?_)
 refine aA rfl (aN dA cY rfl rfl rfl rfl rfl ?_)
 intro g3 w5 eg3 oS bbg3 x4 zg3
 replace oS := Own.low oS X.size
 replace oP := oP.ext x4
 replace hs := hs.ext x4
 replace X := Q7x X x4
 refine aA rfl (cF (ts := #[]) oP X.size oS.sl rfl (eF [aCa x (7 - j)]) dA cY rfl rfl rfl rfl (by omega) (by omega) ?_)
 intro AoN coN w7 oN hg6
 replace hs := hs.grown hg6 (fun g hg => Q7l Bhs (Own.lt oP hg).1)
 replace X := X.grown hg6 X.size (fun g hg => (Own.lt oP hg).1)
 clear hg6
 refine aA rfl (aD rfl ?_)
 refine aB ?_
 refine dJ ?_
 refine aP ?_
 refine aM ?_
 refine aA rfl (aC rfl ?_)
 refine aA rfl (fZ rfl rfl (dR (by omega)) ?_)
 refine aA rfl (aD rfl ?_)
 refine aB ?_
 refine aP ⟨(j + 1, z - 1, n2 + 1, AoN, coN), (.cons rfl (.cons rfl (.cons rfl (.cons rfl (.cons rfl (.cons rfl (.cons rfl (.cons rfl (.nil _))))))))), ?_, ?_⟩
 · exact ⟨by omega, (by omega), (by omega), (oN.to (by rw [aAD, ← List.append_assoc]; exact Eq.symm (by rw [List.flatMap_append]; rfl))), hs, X⟩
 · first | omega | (dsimp only; omega)
 refine aB ?_
 refine aL rfl ?_
 refine dC ?_
 refine dB ?_
 refine dB ?_
 refine eA ?_
 refine dJ ?_
 refine aP ?_
 refine aM ?_
 refine aA rfl (aC rfl ?_)
 refine aA rfl (aZ rfl rfl (dR (by omega)) ?_)
 refine aA rfl (aD rfl ?_)
 refine aB ?_
 refine aP ⟨(k + 1, n2, A2, c2), (.cons rfl (.cons rfl (.cons rfl (.cons rfl (.nil _))))), ?_, ?_⟩
 · exact ⟨by omega, (by rw [qN hx, List.length_append, yT]; omega), (oP.to (by rw [qN hx, show j = 8 by omega])), hs, X⟩
 · first | omega | (dsimp only; omega)
 refine aB ?_
 refine aL rfl ?_
 refine dC ?_
 refine dB ?_
 refine dB ?_
 refine eA ?_
 refine aP ?_
 refine aE ?_
 refine aA rfl (aC rfl ?_)
 refine aA rfl (aD rfl ?_)
 refine aB ?_
 refine aV ?_
 refine aK rfl rfl ?_
 · skip
   rw [show k = xs.length by omega, List.take_length] at oO hn1
   rw [← hn1]; exact ⟨A1, c1, rfl, oO, X⟩
theorem aEJ  (w : World)  :
   Calls Tryz.prog 221 #[] w (fD fun v w' => v = .agg #[.int .i64 24, .int .i64 6122955] ∧ Ext w w') := by
 have X := Q7r w
 refine bI (args := []) Tryz.func221 Tryz.ntmps221 rfl rfl ?_
 refine aE ?_
 refine aA rfl (dO wV ?_)
 intro g0 w2 eg0 b0 x1 zg0
 have lg0 : w.heap.size ≤ g0 := Q7l X.size (Q7e eg0.symm)
 replace X := Q7x X x1
 refine aB ?_
 refine aE ?_
 refine aA rfl (cO aH1 wV rfl rfl ?_)
 refine aA rfl (aX b0 wV rfl rfl rfl rfl rfl rfl ?_)
 intro w4 b1 hg3 z5
 replace X := X.grown hg3 X.size (by intro g hg; injection hg; omega)
 clear hg3 b0
 refine aB ?_
 refine aV ?_
 refine eC rfl rfl b1 wV rfl ?_
 exact ⟨by rfl, X⟩
theorem aEK  (w : World)  :
   Calls Tryz.prog 234 #[] w (fD fun v w' => v = .agg #[.int .i64 24, .int .i64 6122955] ∧ Ext w w') := by
 have X := Q7r w
 refine bI (args := []) Tryz.func234 Tryz.ntmps234 rfl rfl ?_
 refine aE ?_
 refine aA rfl (dO wV ?_)
 intro g0 w2 eg0 b0 x1 zg0
 have lg0 : w.heap.size ≤ g0 := Q7l X.size (Q7e eg0.symm)
 replace X := Q7x X x1
 refine aB ?_
 refine aE ?_
 refine aA rfl (cO aH1 wV rfl rfl ?_)
 refine aA rfl (aX b0 wV rfl rfl rfl rfl rfl rfl ?_)
 intro w4 b1 hg3 z5
 replace X := X.grown hg3 X.size (by intro g hg; injection hg; omega)
 clear hg3 b0
 refine aB ?_
 refine aV ?_
 refine eC rfl rfl b1 wV rfl ?_
 exact ⟨by rfl, X⟩
theorem aIm (A : Option Addr) (B c : Nat) (xs : List Int) (r : Int) (w : World) (hs : Sl B w A (xs.flatMap eI)) (hl : xs.length ≤ 1048576) (hr : 0 ≤ r ∧ r < 16777216) (hb : ∀ b ∈ xs, 0 ≤ b ∧ b ≤ 1) :
   Calls Tryz.prog 222 #[.agg #[.int .i64 24, .int .i64 6122955], .int .i64 r, .slice A xs.length c] w (fD fun v w' => v = .int .i64 (aAr r xs) ∧ Ext w w') := by
 have Bhs := hs.1
 have X := Q7r w
 refine bI (args := [.agg #[.int .i64 24, .int .i64 6122955], .int .i64 r, .slice A xs.length c]) Tryz.func222 Tryz.ntmps222 rfl rfl ?_
 refine aE ?_
 refine aA rfl (eE rfl rfl ?_)
 intro gC w2 egC bC x1 zgC
 have lgC : w.heap.size ≤ gC := Q7l X.size (Q7e egC.symm)
 have pgChs := Q7l hs.1 (Q7e egC.symm)
 replace hs := hs.ext x1
 replace X := Q7x X x1
 refine aA rfl (aD rfl ?_)
 refine aB ?_
 refine aQ ?_
 refine aE ?_
 refine aA rfl (aC rfl ?_)
 refine aA rfl (cQ Tryz.underlying30 rfl ?_)
 refine aA rfl (aC rfl ?_)
 refine aB ?_
 refine aW ?_
 refine dD (G := Nat × Int) (fun ⟨k, r1⟩ => [(3, .pointer (some ⟨gC, 0, none⟩)), (6, .int .i64 0), (10, .slice A xs.length c), (11, .int .i64 (xs.length : Nat)), (1, .int .i64 r1), (12, .int .i64 (k : Nat))]) (fun ⟨k, r1⟩ wr => k ≤ xs.length ∧ r1 = (aAr r (xs.take k)) ∧ Sl B wr A (xs.flatMap eI) ∧ Blk wr gC 218 [.int .i64 24, .int .i64 6122955] ∧ Ext w wr) (fun ⟨k, r1⟩ => xs.length - k) (0, r) (.cons rfl (.cons rfl (.cons rfl (.cons rfl (.cons rfl (.cons rfl (.nil _))))))) ?_ ?_
 · exact ⟨by omega, rfl, hs, bC, X⟩
 clear hs bC
 clear X
 rintro ⟨k, r1⟩ wr ⟨hk0, hr1, hs, bC, X⟩
 refine aE ?_
 refine aA rfl (cH rfl rfl (fun hk => ?_) (fun hk => ?_))
 obtain ⟨x, hx, dx⟩ := dM hk
 have hri := xO (xs.take k) hr
 rw [← hr1] at hri
 have hxb := hb x (List.mem_of_getElem? hx)
 refine aB ?_
 refine aQ ?_
 refine aR rfl ?_
 refine aU ?_
 refine aP ?_
 refine aQ ?_
 refine aW ?_
 refine aE ?_
 refine aA rfl (aT hs bL rfl dA rfl rfl rfl hx rfl ?_)
 refine aA rfl (cX hs bL hx cY rfl rfl rfl ?_)
 refine aA rfl (aD rfl ?_)
 refine aB ?_
 refine aE ?_
 refine aA rfl (aC rfl ?_)
 refine aA rfl (aC rfl ?_)
 refine aA rfl (aF zS rfl rfl ?_)
 refine aA rfl (aI bC cY rfl rfl ?_)
 refine aA rfl (fZ rfl rfl (show IntKind.i64.wrap (24 - 1) = 23 by decide) ?_)
 refine aA rfl (qU rfl rfl (by omega) (aIl 8388608 hri.1 (by omega) rfl) ?_)
 refine aA rfl (zC rfl rfl (aHT (by omega) (by omega)) ?_)
 refine aA rfl (aD rfl ?_)
 refine aB ?_
 refine aE ?_
 refine aA rfl (aC rfl ?_)
 refine aA rfl (rX rfl rfl (by omega) (aKJ (by omega)) ?_)
 refine aA rfl (aF zS rfl rfl ?_)
 refine aA rfl (aI bC cY rfl rfl ?_)
 refine aA rfl (rX rfl rfl (by omega) (show IntKind.i64.wrap (1 * 2 ^ (min ((24 : Int).toNat) IntKind.i64.bits)) = 16777216 by decide) ?_)
 refine aA rfl (fZ rfl rfl (show IntKind.i64.wrap (16777216 - 1) = 16777215 by decide) ?_)
 refine aA rfl (qT rfl rfl (aJ3 (by omega)) ?_)
 refine aA rfl (aD rfl ?_)
 refine aB ?_
 refine aE ?_
 refine aA rfl (aC rfl ?_)
 refine aA rfl (dK rfl rfl (fun ht => ?_) (fun ht => ?_))
 refine aB ?_
 refine aR rfl ?_
 refine aM ?_
 refine aA rfl (aC rfl ?_)
 refine aA rfl (aF aCG rfl rfl ?_)
 refine aA rfl (aI bC cY rfl rfl ?_)
 refine aA rfl (zC rfl rfl (aD9 (by omega)) ?_)
 refine aA rfl (aD rfl ?_)
 refine aB ?_
 refine dJ ?_
 refine aP ?_
 refine aM ?_
 refine aA rfl (aZ rfl rfl (dR (by omega)) ?_)
 refine aA rfl (aC rfl ?_)
 refine aB ?_
 refine aP ⟨(k + 1, aB9 (r1 * 2 % 16777216)), (.cons rfl (.cons rfl (.cons rfl (.cons rfl (.cons rfl (.cons rfl (.nil _))))))), ?_, ?_⟩
 · exact ⟨by omega, (by rw [sR hx, ← hr1, aBl hri, if_pos ht]), hs, bC, X⟩
 · first | omega | (dsimp only; omega)
 refine aB ?_
 refine aL rfl ?_
 refine aU ?_
 refine dJ ?_
 refine aP ?_
 refine aM ?_
 refine aA rfl (aZ rfl rfl (dR (by omega)) ?_)
 refine aA rfl (aC rfl ?_)
 refine aB ?_
 refine aP ⟨(k + 1, r1 * 2 % 16777216), (.cons rfl (.cons rfl (.cons rfl (.cons rfl (.cons rfl (.cons rfl (.nil _))))))), ?_, ?_⟩
 · exact ⟨by omega, (by rw [sR hx, ← hr1, aBl hri, if_neg ht]), hs, bC, X⟩
 · first | omega | (dsimp only; omega)
 refine aB ?_
 refine aQ ?_
 refine aL rfl ?_
 refine dC ?_
 refine dB ?_
 refine dB ?_
 refine eA ?_
 refine aP ?_
 refine aE ?_
 refine aA rfl (aC rfl ?_)
 refine aA rfl (aD rfl ?_)
 refine aB ?_
 refine aV ?_
 refine aK rfl rfl ?_
 · skip
   refine ⟨congrArg (Value.int .i64) ?_, X⟩
   rw [hr1, show k = xs.length by omega, List.take_length]
theorem aEL (A : Option Addr) (B c : Nat) (xs : List Int) (r : Int) (w : World) (hs : Sl B w A (xs.flatMap eI)) (hl : xs.length ≤ 1048576) (hr : 0 ≤ r ∧ r < 16777216) (hb : ∀ b ∈ xs, 0 ≤ b ∧ b ≤ 1) :
   Calls Tryz.prog 233 #[.agg #[.int .i64 24, .int .i64 6122955], .int .i64 r, .slice A xs.length c] w (fD fun v w' => v = .int .i64 (aAr r xs) ∧ Ext w w') := by
 have Bhs := hs.1
 have X := Q7r w
 refine bI (args := [.agg #[.int .i64 24, .int .i64 6122955], .int .i64 r, .slice A xs.length c]) Tryz.func233 Tryz.ntmps233 rfl rfl ?_
 refine aE ?_
 refine aA rfl (eE rfl rfl ?_)
 intro gC w2 egC bC x1 zgC
 have lgC : w.heap.size ≤ gC := Q7l X.size (Q7e egC.symm)
 have pgChs := Q7l hs.1 (Q7e egC.symm)
 replace hs := hs.ext x1
 replace X := Q7x X x1
 refine aA rfl (aD rfl ?_)
 refine aB ?_
 refine aE ?_
 refine aA rfl (aF zS rfl rfl ?_)
 refine aA rfl (aI bC cY rfl rfl ?_)
 refine aA rfl (fZ rfl rfl (show IntKind.i64.wrap (24 - 1) = 23 by decide) ?_)
 refine aA rfl (jX Tryz.underlying2 Tryz.underlying140 rfl (show IntKind.u64.wrap 23 = 23 by decide) ?_)
 refine aA rfl (rX rfl rfl (by omega) (show IntKind.i64.wrap (1 * 2 ^ (min ((23 : Int).toNat) IntKind.i64.bits)) = 8388608 by decide) ?_)
 refine aA rfl (aD rfl ?_)
 refine aB ?_
 refine aQ ?_
 refine aE ?_
 refine aA rfl (aD rfl ?_)
 refine aB ?_
 refine aW ?_
 refine dD (G := Nat × Int) (fun ⟨k, r1⟩ => [(2, .slice A xs.length c), (3, .pointer (some ⟨gC, 0, none⟩)), (6, .int .i64 0), (7, .int .i64 8388608), (1, .int .i64 r1), (8, .int .i64 (k : Nat))]) (fun ⟨k, r1⟩ wr => k ≤ xs.length ∧ r1 = (aAr r (xs.take k)) ∧ Sl B wr A (xs.flatMap eI) ∧ Blk wr gC 218 [.int .i64 24, .int .i64 6122955] ∧ Ext w wr) (fun ⟨k, r1⟩ => xs.length - k) (0, r) (.cons rfl (.cons rfl (.cons rfl (.cons rfl (.cons rfl (.cons rfl (.nil _))))))) ?_ ?_
 · exact ⟨by omega, rfl, hs, bC, X⟩
 clear hs bC
 clear X
 rintro ⟨k, r1⟩ wr ⟨hk0, hr1, hs, bC, X⟩
 refine aQ ?_
 refine aE ?_
 refine aA rfl (aC rfl ?_)
 refine aA rfl (aC rfl ?_)
 refine aA rfl (cQ Tryz.underlying30 rfl ?_)
 refine aA rfl (cH rfl rfl (fun hk => ?_) (fun hk => ?_))
 obtain ⟨x, hx, dx⟩ := dM hk
 have hri := xO (xs.take k) hr
 rw [← hr1] at hri
 have hxb := hb x (List.mem_of_getElem? hx)
 refine aB ?_
 refine aR rfl ?_
 refine aU ?_
 refine aP ?_
 refine aQ ?_
 refine aW ?_
 refine eO [false, false, false, false, false, false, false, false, false] mixed (by kernel_rfl) ?_
 refine cE rfl (fun wq sq => aC rfl ⟨rfl, Q7r _⟩) ?_
 refine cE rfl (fun wq sq => aC rfl ⟨rfl, Q7r _⟩) ?_
 refine cE rfl (fun wq sq => iE rfl rfl (by omega) (xW (by omega)) ⟨rfl, Q7r _⟩) ?_
 refine cE rfl (fun wq sq => aC rfl ⟨rfl, Q7r _⟩) ?_
 refine cE rfl (fun wq sq => aC rfl ⟨rfl, Q7r _⟩) ?_
 refine cE rfl (fun wq sq => aT (hs.ext sq) bL rfl dA rfl rfl rfl hx rfl ⟨rfl, Q7r _⟩) ?_
 refine cE rfl (fun wq sq => cX (hs.ext sq) bL hx cY rfl rfl rfl ⟨rfl, Q7r _⟩) ?_
 refine cE rfl (fun wq sq => zC rfl rfl ((aHT (by omega) (by omega)).trans (show _ = (x + r1 / 8388608) % 2 by rw [Int.add_comm])) ⟨rfl, Q7r _⟩) ?_
 refine cE rfl (fun wq sq => aD rfl ⟨rfl, Q7r _⟩) ?_
 refine dW (fun w3 sq => ?_)
 have xq := sq
 replace hs := hs.ext xq
 replace bC := bC.ext xq
 replace X := Q7x X xq; clear xq sq
 refine aB ?_
 refine aE ?_
 refine aA rfl (aC rfl ?_)
 refine aA rfl (aC rfl ?_)
 refine aA rfl (fN rfl rfl (by omega) (sV (by omega)) ?_)
 refine aA rfl (iN rfl rfl (show IntKind.i64.wrap _ = r1 * 2 % 16777216 from (dR (by omega)).trans (by omega)) ?_)
 refine aA rfl (aD rfl ?_)
 refine aB ?_
 refine aE ?_
 refine aA rfl (aC rfl ?_)
 refine aA rfl (dK rfl rfl (fun ht => ?_) (fun ht => ?_))
 refine aB ?_
 refine aR rfl ?_
 refine aM ?_
 refine aA rfl (aC rfl ?_)
 refine aA rfl (aF aCG rfl rfl ?_)
 refine aA rfl (aI bC cY rfl rfl ?_)
 refine aA rfl (zC rfl rfl (aD9 (by omega)) ?_)
 refine aA rfl (aD rfl ?_)
 refine aB ?_
 refine dJ ?_
 refine aP ?_
 refine aM ?_
 refine aA rfl (aC rfl ?_)
 refine aA rfl (aZ rfl rfl (dR (by omega)) ?_)
 refine aA rfl (aD rfl ?_)
 refine aB ?_
 refine aP ⟨(k + 1, aB9 (r1 * 2 % 16777216)), (.cons rfl (.cons rfl (.cons rfl (.cons rfl (.cons rfl (.cons rfl (.nil _))))))), ?_, ?_⟩
 · exact ⟨by omega, (by rw [sR hx, ← hr1, aBl hri, if_pos ht]), hs, bC, X⟩
 · first | omega | (dsimp only; omega)
 refine aB ?_
 refine aL rfl ?_
 refine aU ?_
 refine dJ ?_
 refine aP ?_
 refine aM ?_
 refine aA rfl (aC rfl ?_)
 refine aA rfl (aZ rfl rfl (dR (by omega)) ?_)
 refine aA rfl (aD rfl ?_)
 refine aB ?_
 refine aP ⟨(k + 1, r1 * 2 % 16777216), (.cons rfl (.cons rfl (.cons rfl (.cons rfl (.cons rfl (.cons rfl (.nil _))))))), ?_, ?_⟩
 · exact ⟨by omega, (by rw [sR hx, ← hr1, aBl hri, if_neg ht]), hs, bC, X⟩
 · first | omega | (dsimp only; omega)
 refine aB ?_
 refine aL rfl ?_
 refine dC ?_
 refine dB ?_
 refine dB ?_
 refine eA ?_
 refine aP ?_
 refine aE ?_
 refine aA rfl (aC rfl ?_)
 refine aA rfl (aD rfl ?_)
 refine aB ?_
 refine aV ?_
 refine aK rfl rfl ?_
 · skip
   refine ⟨congrArg (Value.int .i64) ?_, X⟩
   rw [hr1, show k = xs.length by omega, List.take_length]
def WideF (F : Fence) : Prop := F = Fence.wide ∨ ∃ l, F = Fence.wide.inRound l
theorem WideF.w : WideF Fence.wide := .inl rfl
theorem WideF.r (l : Nat) : WideF (Fence.wide.inRound l) := .inr ⟨l, rfl⟩
theorem aFK {F : Fence} (hF : WideF F) {m : Nat} {P : Program} {f : FuncId} {args : Array Value} {w : World} {R : Ending → World → Prop} (h : Calls P f args w R) : CallsIn F m P f args w R := by
 rcases hF with rfl | ⟨l, rfl⟩
 · exact callsIn_wide.2 h
 · exact CallsIn.inRound l (callsIn_wide.2 h)
theorem WideF.fn {F : Fence} (hF : WideF F) (f : FuncId) : F.fn f := by
 rcases hF with rfl | ⟨l, rfl⟩ <;> trivial
theorem WideF.deep {F : Fence} (hF : WideF F) (m : Nat) : F.depth.isSome = true → 1 ≤ m := by
 rcases hF with rfl | ⟨l, rfl⟩ <;> (intro h; cases h)
def aHV : Op → Bool
 | .defer _ => false
 | _ => true
theorem aDg {op : Op} (h : aHV op = true) : ∀ c, op ≠ .defer c := fun c e => by subst e; cases h
def FitsD (D : List Deferred) (n : Nat) (e : List (Nat × Value)) (a : Act) : Prop := a.defers = D ∧ a.tmps.size = n ∧ ∀ t v, lk e t = some v → a.tmps.getD t undef = v
theorem FitsD.fits {D : List Deferred} {n : Nat} {e : List (Nat × Value)} {a : Act} (h : FitsD D n e a) : Fits n e { a with defers := [] } := ⟨rfl, h.2.1, h.2.2⟩
theorem FitsD.knows {D : List Deferred} {n : Nat} {e : List (Nat × Value)} {a : Act} (h : FitsD D n e a) : aBW e a.eval := h.fits.knows
theorem FitsD.put {D : List Deferred} {n : Nat} {e : List (Nat × Value)} {a : Act} (h : FitsD D n e a) (d : Option Tmp) (v : Value) (hd : hU n d = true) : FitsD D n (jE e d v) (a.put d v) := by
 have h1 := h.fits.put d v hd
 have h2 : ({ a with defers := [] } : Act).put d v = { a.put d v with defers := [] } := by cases d <;> rfl
 have h3 : (a.put d v).defers = a.defers := by cases d <;> rfl
 rw [h2] at h1
 exact ⟨h3.trans h.1, h1.2.1, h1.2.2⟩
section
variable {F : Fence} {m : Nat} {P : Program} {n : Nat} {D : List Deferred} {ops : Array Oper} {rest : List Oper} {e : List (Nat × Value)} {w : World} {K : List (Nat × Value) → World → Prop}
theorem aBm (hF : WideF F) {o : Oper} {a : Act} {w : World} {K : Value → World → Prop} {next : Act → World → Prop} {Q : Exit → Act → World → Prop} (hd : ∀ c, o.op ≠ .defer c)
   (h : upto P K ((execOp a.eval o).run P w)) (hk : ∀ v w', K v w' → next (a.put o.dst v) w') : o.wpIn F m P a w next Q := by
 refine ⟨fun f _ => hF.fn f, ?_⟩
 rw [Oper.semAt_eq _ _ _ hd]
 generalize (execOp a.eval o).run P w = r at *
 cases r with
 | halt x w => exact h.elim
 | ok n w =>
   cases n <;> simp only [upto] at h <;> simp only [Oper.uponIn] <;> first
     | exact hk _ _ h
     | exact ⟨hF.deep m, aFK hF (Calls.mono h (fun e w'' he => by cases e <;> first | exact hk _ _ he | exact he.elim))⟩
def yX (F : Fence) (m : Nat) (P : Program) (n : Nat) (D : List Deferred) (ops : Array Oper) (l : List Oper) (e : List (Nat × Value)) (w : World) (K : List (Nat × Value) → World → Prop) : Prop :=
 ∀ (a : Act) (Q : Exit → Act → World → Prop), FitsD D n e a → (∀ e' a' w', FitsD D n e' a' → K e' w' → Q .normal a' w') → wpListIn F m P ops Q l a w
theorem pY (h : K e w) : yX F m P n D ops [] e w K := fun _ _ ha hK => wpListIn_nil (hK _ _ _ ha h)
theorem fE (hF : WideF F) {dst : Option Tmp} {op : Op} {ty : TypeId} {pos : String} {af : Array Edge} (hd : hU n dst = true) (hn : aHV op = true)
   (h : OpWp P e op ty w fun v w' => yX F m P n D ops rest (jE e dst v) w' K) : yX F m P n D ops (⟨dst, op, ty, pos, af, none⟩ :: rest) e w K :=
 fun a Q ha hK => wpListIn_plain rfl fun K' hK' => aBm hF (o := ⟨dst, op, ty, pos, af, none⟩) (aDg hn) (h a.eval dst pos af none ha.knows) fun v w' hv => hK' _ _ (hv _ Q (ha.put dst v hd) hK)
theorem aDh (hF : WideF F) {dst : Option Tmp} {x : Operand} {args : Array Operand} {ts : Array TypeId} {vs : List Value} {l : Nat} {ty : TypeId} {pos : String} {af : Array Edge} (hd : hU n dst = true)
   (hx : fF e x = some (.func (.yield l) #[] #[])) (hy : rY e args.toList = some vs)
   (h : YieldAt F (m - 1) P l vs.toArray w fun en w' => ∃ v, en = .returned v ∧ yX F m P n D ops rest (jE e dst v) w' K) : yX F m P n D ops (⟨dst, .call ⟨.value x, args, ts⟩, ty, pos, af, none⟩ :: rest) e w K :=
 fun a Q ha hK => wpListIn_plain rfl fun K' hK' => by
   have h1 : args.map a.eval = vs.toArray := Array.ext' (by simpa using nW ha.knows _ _ hy)
   have h2 := ha.knows _ _ hx
   obtain ⟨fn, tmps, assign, body, hy, hR⟩ := h
   refine ⟨fun f _ => hF.fn f, ?_⟩
   rw [Oper.semAt_eq _ _ _ (fun c h => by cases h)]
   have hr : (execOp a.eval ⟨dst, .call ⟨.value x, args, ts⟩, ty, pos, af, none⟩).run P w = .ok (.round l fn tmps assign body) w := by
     simp only [execOp, resolve, h1, h2, Deferred.ofValue, invoke]
     simp only [Sem.run_bind, Sem.run_pure, Result.andThen_ok, Array.append_empty, Array.empty_append]
     exact hy
   rw [hr, Oper.uponIn_round]
   refine ⟨hF.deep m, hR.mono ?_⟩
   rintro en w' ⟨v, rfl, hv⟩
   exact hK' _ _ (hv _ Q (ha.put dst v hd) hK)
end
section
variable {m : Nat} {P : Program} {n : Nat} {e : List (Nat × Value)} {w : World} {Q : Exit → List (Nat × Value) → World → Prop}
theorem aIn (m : Nat) {id : Nat} {l : List Oper} (h : yX Fence.wide m P n [] l.toArray l e w (fun e' w' => Q .normal e' w')) : qI P n (.region id l.toArray false) e w Q :=
 fun a ha => (wpIn_wide (n := m)).1 (wpIn_region_lit (h a _ ha fun e' _ _ hf hk => ⟨e', hf, hk⟩))
theorem aIo (m : Nat) {id : Nat} {l : List Oper} {y : Code} (h : yX Fence.wide m P n [] l.toArray l e w (fun e' w' => qI P n y e' w' Q)) : qI P n (.seq (.region id l.toArray false) y) e w Q := aQ (aIn m h)
end
theorem aAH {w w' : World} (h : Ext w w') : w.grownBy w' none := ⟨h.os, h.tape, h.output, h.size, fun k hk _ => h.block k hk⟩
theorem aDi {β : Type} {B : Nat} {J : β → World → Prop} (hJ : AbidesFrom B J) {s : β} {w w' : World} (h : J s w) (x : Ext w w') : J s w' := hJ s w w' none h (aAH x) (fun r e => by cases e)
section
variable {P : Program} {e : List (Nat × Value)} {ty : TypeId} {w : World} {K : Value → World → Prop} {x lo hi mx : Operand} {t el : TypeId} {s n c l h : Nat} {A : Option Addr} {k1 k2 k3 : IntKind} {m1 m2 m3 : Int}
theorem uG (ht : xM P t = some (el, s)) (hx : fF e x = some (.slice A n c)) (h1 : fF e lo = some (.int k1 m1)) (e1 : m1 = (l : Int)) (hl : l ≤ n) (hK : K (.slice (if c = l then A else A.map (·.add (l * s))) (n - l) (c - l)) w) : OpWp P e (.slice t x (some lo) none none) ty w K := fun ρ d p a g hρ => by
 have g0 := hρ _ _ hx; have g1 := hρ _ _ h1
 obtain ⟨hu, hsz⟩ := rA ht
 subst e1
 have hr := run_slice_l (P := P) (w := w) t A n c hu k1 (l : Int) (by omega) (by omega)
 simp only [execOp, g0, Option.map_some, Option.map_none, g1, Sem.run_bind, run_sliceAt_slice w t _ _ _ _ hu, hr, hsz, Result.andThen_ok, Sem.run_pure, upto, sliced, Int.toNat_natCast]
 exact hK
theorem aCf (ht : xM P t = some (el, 1)) (hx : fF e x = some (.slice A n c)) (h1 : fF e lo = some (.int k1 m1)) (h2 : fF e hi = some (.int k2 m2)) (h3 : fF e mx = some (.int k3 m3)) (e1 : m1 = (l : Int)) (e2 : m2 = (h : Int)) (e3 : m3 = (h : Int)) (hlh : l < h) (hc : h ≤ c)
   (hK : K (.slice (A.map (·.add l)) (h - l) (h - l)) w) : OpWp P e (.slice t x (some lo) (some hi) (some mx)) ty w K := fun ρ d p a g hρ => by
 have g0 := hρ _ _ hx; have g1 := hρ _ _ h1; have g2 := hρ _ _ h2; have g3 := hρ _ _ h3
 obtain ⟨hu, hsz⟩ := rA ht
 subst e1; subst e2; subst e3
 have hr := run_slice_lhm (P := P) (w := w) t A n c hu k1 k2 k3 (l : Int) (h : Int) (h : Int) (by omega) (by omega) (by omega) (by omega)
 simp only [execOp, g0, Option.map_some, Option.map_none, g1, g2, g3, Sem.run_bind, run_sliceAt_slice w t _ _ _ _ hu, hr, hsz, Result.andThen_ok, Sem.run_pure, upto, sliced, Int.toNat_natCast]
 rw [if_neg (by omega), Nat.mul_one]
 exact hK
end
def JK {β : Type} (J : β → World → Prop) (B : Nat) (s : β) (w : World) : Prop := AbidesFrom B J ∧ J s w
theorem JK.ext {β : Type} {J : β → World → Prop} {B : Nat} {s : β} {w w' : World} (h : JK J B s w) (x : Ext w w') : JK J B s w' := ⟨h.1, aDi h.1 h.2 x⟩
theorem aEM {en : Ending} {A B : Prop} (h : (en = .returned (.bool true) ∧ A) ∨ (en = .returned (.bool false) ∧ B)) : ∃ b, en = .returned (.bool b) ∧ (b = true → A) ∧ (b = false → B) := by
 rcases h with ⟨h, a⟩ | ⟨h, b⟩
 · exact ⟨true, h, (fun _ => a), (fun h => by cases h)⟩
 · exact ⟨false, h, (fun h => by cases h), (fun _ => b)⟩
def chA (A : Option Addr) (l : Nat) : Option Addr := A.map (·.add l)
def rV (A : Option Addr) (d : Nat) (xs : List Int) (k : Nat) : ModeI := kS (chA A (d * k)) (min d (xs.length - d * k)) ((xs.drop (d * k)).take d)
def chs (A : Option Addr) (d : Nat) (xs : List Int) (m : Nat) : List ModeI := (List.range m).map (rV A d xs)
def cN (d n : Nat) : Nat := (n + d - 1) / d
theorem aFL (A : Option Addr) (d : Nat) (xs : List Int) (k : Nat) : chs A d xs (k + 1) = chs A d xs k ++ [rV A d xs k] := by simp [chs, List.range_succ]
theorem xQ (A : Option Addr) (d : Nat) (xs : List Int) (k : Nat) : (chs A d xs k).length = k := by simp [chs]
theorem yY (A : Option Addr) (d : Nat) (xs : List Int) (k : Nat) : (rV A d xs k).m.next.length = min d (xs.length - d * k) := by simp [rV, kS]
theorem aFM {d n k : Nat} (hd : 1 ≤ d) : k < cN d n ↔ d * k < n := by
 unfold cN
 rw [Nat.lt_div_iff_mul_lt (by omega), Nat.mul_comm k d]; omega
theorem aFN {d n k : Nat} (hd : 1 ≤ d) (h1 : k ≤ cN d n) (h2 : ¬ d * k < n) : k = cN d n := by
 have h3 : ¬ k < cN d n := fun h => h2 ((aFM hd).1 h)
 omega
theorem aJ4 {d n : Nat} (hd : 1 ≤ d) : cN d n ≤ n := by
 rcases Nat.eq_zero_or_pos (cN d n) with h | h
 · omega
 · have h1 := (aFM (d := d) (n := n) (k := cN d n - 1) hd).1 (by omega)
   have h2 : cN d n - 1 ≤ d * (cN d n - 1) := Nat.le_mul_of_pos_left _ (by omega)
   omega
theorem aFO (l n0 gs gn d c : Nat) (A : Option Addr) (xs : List Int) (J Jx : List ModeI → World → Prop) (w : World) (q1 : Blk w gs 30 [.slice A xs.length c]) (q2 : Blk w gn 3 [.int .i64 (d : Nat)]) (hj : JK J w.heap.size [] w) (hlo : n0 ≤ w.heap.size) (hgs : gs < n0) (hgn : gn < n0) (hd : 1 ≤ d ∧ d ≤ 1000) (hl : xs.length ≤ 1048576) (hc : xs.length ≤ c) (hY : ∀ pre x W1, J pre W1 → pre.length < cN d xs.length → YieldAt Fence.wide 0 Tryz.prog l #[Value.slice (ModeI.A x) (ModeI.m x).next.length (ModeI.c x)] W1 fun e W' => (e = .returned (.bool true) ∧ J (pre ++ [x]) W' ∧ Below n0 W1 W') ∨ (e = .returned (.bool false) ∧ Jx (pre ++ [x]) W')) :
   Calls Tryz.prog 220 #[.func (.yield l) #[] #[], .pointer (some ⟨gs, 0, none⟩), .pointer (some ⟨gn, 0, none⟩)] w (fD fun v w' => J (chs A d xs (cN d xs.length)) w' ∨ ∃ pre, Jx pre w') := by
 have X := Below.refl n0 w
 refine bI (args := [.func (.yield l) #[] #[], .pointer (some ⟨gs, 0, none⟩), .pointer (some ⟨gn, 0, none⟩)]) Tryz.func220 Tryz.ntmps220 rfl rfl ?_
 refine aE ?_
 refine aA rfl (aD rfl ?_)
 refine aB ?_
 refine aW ?_
 refine dD (G := Nat × Nat) (fun ⟨k, i⟩ => [(0, .func (.yield l) #[] #[]), (1, .pointer (some ⟨gs, 0, none⟩)), (2, .pointer (some ⟨gn, 0, none⟩)), (4, .int .i64 (i : Nat))]) (fun ⟨k, i⟩ wr => i = d * k ∧ k ≤ cN d xs.length ∧ JK J w.heap.size (chs A d xs k) wr ∧ Blk wr gs 30 [.slice A xs.length c] ∧ Blk wr gn 3 [.int .i64 (d : Nat)] ∧ Below n0 w wr) (fun ⟨k, i⟩ => cN d xs.length - k) (0, 0) (.cons rfl (.cons rfl (.cons rfl (.cons rfl (.nil _))))) ?_ ?_
 · exact ⟨rfl, (Nat.zero_le _), hj, q1, q2, X⟩
 clear q1 q2 hj
 clear X
 rintro ⟨k, i⟩ wr ⟨hik, hkN, hj, q1, q2, X⟩
 refine aQ ?_
 refine aE ?_
 refine aA rfl (aC rfl ?_)
 refine aA rfl (aI q1 kQ rfl rfl ?_)
 refine aA rfl (cQ Tryz.underlying30 rfl ?_)
 refine aA rfl (cH rfl rfl (fun hk => ?_) (fun hk => ?_))
 refine aB ?_
 refine aR rfl ?_
 refine aU ?_
 refine aP ?_
 refine aQ ?_
 refine aW ?_
 refine eO [false, false, false, false, false, false, false] mixed (by kernel_rfl) ?_
 refine cE rfl (fun wq sq => aI (q2.ext sq) ti3 rfl rfl ⟨rfl, Q7r _⟩) ?_
 refine cE rfl (fun wq sq => aI (q1.ext sq) kQ rfl rfl ⟨rfl, Q7r _⟩) ?_
 refine cE rfl (fun wq sq => aC rfl ⟨rfl, Q7r _⟩) ?_
 refine cE rfl (fun wq sq => uG (l := i) dA rfl rfl rfl (by omega) ⟨rfl, Q7r _⟩) ?_
 refine cE rfl (fun wq sq => cQ Tryz.underlying30 rfl ⟨rfl, Q7r _⟩) ?_
 refine cE rfl (fun wq sq => aDu rfl rfl ⟨rfl, Q7r _⟩) ?_
 refine cE rfl (fun wq sq => aD rfl ⟨rfl, Q7r _⟩) ?_
 refine dW (fun w1 sq => ?_)
 have xq := sq
 replace hj := hj.ext xq
 replace q1 := q1.ext xq
 replace q2 := q2.ext xq
 replace X := Below.trans X (Below.mono xq (Q7l hlo X.size)); clear xq sq
 refine aB ?_
 refine aIo 1 ?_
 refine fE WideF.w rfl rfl (aC rfl ?_)
 refine fE WideF.w rfl rfl (aI q1 kQ rfl rfl ?_)
 refine fE WideF.w rfl rfl (aC rfl ?_)
 refine fE WideF.w rfl rfl (aC rfl ?_)
 refine fE WideF.w rfl rfl (aC rfl ?_)
 refine fE WideF.w rfl rfl (aZ rfl rfl (show IntKind.i64.wrap _ = ((i + min d (xs.length - i) : Nat) : Int) from (dR (by omega)).trans (by omega)) ?_)
 refine fE WideF.w rfl rfl (aC rfl ?_)
 refine fE WideF.w rfl rfl (aC rfl ?_)
 refine fE WideF.w rfl rfl (aZ rfl rfl (show IntKind.i64.wrap _ = ((i + min d (xs.length - i) : Nat) : Int) from (dR (by omega)).trans (by omega)) ?_)
 refine fE WideF.w rfl rfl (aCf (l := i) (h := i + min d (xs.length - i)) dA rfl rfl rfl rfl rfl rfl rfl (by omega) (by omega) ?_)
 refine aDh WideF.w rfl rfl rfl ?_
 have hck := (aFM (n := xs.length) (k := k) hd.1).2 (by rw [← hik]; omega)
 have hpl := yY A d xs k
 rw [← hik] at hpl
 have hyy := hY _ (rV A d xs k) _ hj.2 (by rw [xQ]; exact hck)
 rw [hpl] at hyy
 rw [show i + min d (xs.length - i) - i = min d (xs.length - i) by omega]
 have eP : (rV A d xs k).A = A.map (·.add i) ∧ (rV A d xs k).c = min d (xs.length - i) := ⟨by rw [hik]; rfl, by rw [hik]; rfl⟩
 rw [eP.1, eP.2] at hyy
 refine hyy.mono ?_
 intro en wY hyq
 obtain ⟨bq, rfl, hyT, hyF⟩ := aEM hyq
 refine ⟨_, rfl, ?_⟩
 cases hbq : bq
 have hjx := hyF hbq
 refine fE WideF.w rfl rfl (cD rfl ?_)
 refine pY ?_
 refine aR rfl ?_
 refine aV ?_
 refine dN ?_
 refine bU ?_
 refine bU ?_
 refine dN ?_
 refine aFw rfl ?_
 · skip
   first
   | exact .inr ⟨_, hjx⟩
   | (have e := aFN hd.1 hkN (by rw [← hik]; omega)
      rw [← e]; exact .inl hj.2)
 obtain ⟨hj2, hbl⟩ := hyT hbq
 replace q1 := q1.below hbl hgs
 replace q2 := q2.below hbl hgn
 replace X := Below.trans X hbl
 replace hj : JK J w.heap.size (chs A d xs (k + 1)) wY := ⟨hj.1, by rw [aFL]; exact hj2⟩
 refine fE WideF.w rfl rfl (cD rfl ?_)
 refine pY ?_
 refine aL rfl ?_
 refine aU ?_
 refine dJ ?_
 refine aP ?_
 refine aM ?_
 refine aA rfl (aC rfl ?_)
 refine aA rfl (aI q2 ti3 rfl rfl ?_)
 refine aA rfl (aZ rfl rfl (show IntKind.i64.wrap _ = ((i + d : Nat) : Int) from (dR (by omega)).trans (by omega)) ?_)
 refine aA rfl (aD rfl ?_)
 refine aB ?_
 refine aP ⟨(k + 1, i + d), (.cons rfl (.cons rfl (.cons rfl (.cons rfl (.nil _))))), ?_, ?_⟩
 · exact ⟨(by rw [Nat.mul_succ, ← hik]), (by omega), hj, q1, q2, X⟩
 · exact Nat.sub_lt_sub_left hck (Nat.lt_succ_self k)
 refine aB ?_
 refine aL rfl ?_
 refine dC ?_
 refine dB ?_
 refine dB ?_
 refine eA ?_
 refine aFv rfl ?_
 · skip
   first
   | exact .inr ⟨_, hjx⟩
   | (have e := aFN hd.1 hkN (by rw [← hik]; omega)
      rw [← e]; exact .inl hj.2)
end Go.Proofs.YtdoibplhbdkapaaGreatDoor
