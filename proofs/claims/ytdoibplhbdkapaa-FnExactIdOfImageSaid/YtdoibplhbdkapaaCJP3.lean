/- Texts of the seat that a law needs, put together. No condition. -/
import Derived.Test.YtdoibplhbdkapaaCJP2
import Derived.Test.YtdoibplhbdkapaaRows
namespace Go.Proofs.Ytdoibplhbdkapaa
open Go.RowKit
set_option linter.unusedVariables false
set_option linter.unusedSimpArgs false
theorem shrP {z n : Int} (p : Int) (h : 0 ≤ z) (hp : 0 ≤ p) (e : (2 : Int) ^ (min n.toNat IntKind.i64.bits) = p) : z.fdiv (2 ^ (min n.toNat IntKind.i64.bits)) = z / p := by
  rw [e, Int.fdiv_eq_ediv_of_nonneg _ hp]
theorem and1 {z : Int} (h : 0 ≤ z ∧ z ≤ 1099511627776) : bitsV .and .i64 z 1 = z % 2 := by
  obtain ⟨n, rfl⟩ : ∃ n : Nat, z = (n : Int) := ⟨z.toNat, by omega⟩
  have h1 := bits_and (a := n) (b := 1) (by omega) (by omega)
  rw [show ((1 : Nat) : Int) = 1 from rfl] at h1
  rw [h1, show n &&& 1 = n % 2 from Nat.and_one_is_mod n]; omega
theorem and24 {z : Int} (h : 0 ≤ z ∧ z ≤ 1099511627776) : bitsV .and .i64 z 16777215 = z % 16777216 := by
  obtain ⟨n, rfl⟩ : ∃ n : Nat, z = (n : Int) := ⟨z.toNat, by omega⟩
  have h1 := bits_and (a := n) (b := 16777215) (by omega) (by omega)
  rw [show ((16777215 : Nat) : Int) = 16777215 from rfl] at h1
  rw [h1, show n &&& 16777215 = n % 16777216 from Nat.and_two_pow_sub_one_eq_mod n 24]; omega
theorem xor01 {a b : Int} (ha : 0 ≤ a ∧ a ≤ 1) (hb : 0 ≤ b ∧ b ≤ 1) : bitsV .xor .i64 a b = (a + b) % 2 := by
  obtain ⟨n, rfl⟩ : ∃ n : Nat, a = (n : Int) := ⟨a.toNat, by omega⟩
  obtain ⟨k, rfl⟩ : ∃ k : Nat, b = (k : Int) := ⟨b.toNat, by omega⟩
  rw [bits_xor (by omega) (by omega)]
  have h1 : n = 0 ∨ n = 1 := by omega
  have h2 : k = 0 ∨ k = 1 := by omega
  rcases h1 with rfl | rfl <;> rcases h2 with rfl | rfl <;> rfl
def xorC (r : Int) : Int := ((r.toNat ^^^ 6122955 : Nat) : Int)
def crcS (r b : Int) : Int := if (r / 8388608 + b) % 2 = 1 then xorC (r % 8388608 * 2) else r % 8388608 * 2
def crcF (r : Int) (l : List Int) : Int := l.foldl crcS r
theorem xorC_in {r : Int} (h : 0 ≤ r ∧ r < 16777216) : 0 ≤ xorC r ∧ xorC r < 16777216 := by
  unfold xorC
  have := Nat.xor_lt_two_pow (n := 24) (x := r.toNat) (y := 6122955) (by omega) (by decide)
  omega
theorem xorC_eq {r : Int} (h : 0 ≤ r ∧ r < 16777216) : bitsV .xor .i64 r 6122955 = xorC r := by
  obtain ⟨n, rfl⟩ : ∃ n : Nat, r = (n : Int) := ⟨r.toNat, by omega⟩
  rw [show (6122955 : Int) = ((6122955 : Nat) : Int) from rfl, bits_xor (by omega) (by decide)]; rfl
theorem crcS_in {r b : Int} (h : 0 ≤ r ∧ r < 16777216) : 0 ≤ crcS r b ∧ crcS r b < 16777216 := by
  unfold crcS
  split
  · exact xorC_in (by omega)
  · omega
theorem crcF_in : ∀ (l : List Int) {r : Int}, (0 ≤ r ∧ r < 16777216) → 0 ≤ crcF r l ∧ crcF r l < 16777216
  | [], _, h => h
  | _ :: l, _, h => crcF_in l (crcS_in h)
theorem crcF_step {l : List Int} {k : Nat} {x r : Int} (h : l[k]? = some x) : crcF r (l.take (k + 1)) = crcS (crcF r (l.take k)) x := by
  rw [List.take_add_one, h]; simp [crcF, List.foldl_append]
def bitI (x : Int) (j : Nat) : Int := x / 2 ^ j % 2
def bitP (x : Int) (k : Nat) : List Int := (List.range k).map fun i => bitI x (7 - i)
def bitsL (xs : List Int) : List Int := xs.flatMap fun x => bitP x 8
theorem bitP_step (x : Int) (k : Nat) : bitP x (k + 1) = bitP x k ++ [bitI x (7 - k)] := by simp [bitP, List.range_succ]
theorem bitP_len (x : Int) (k : Nat) : (bitP x k).length = k := by simp [bitP]
theorem bitI_in (x : Int) (j : Nat) : 0 ≤ bitI x j ∧ bitI x j ≤ 1 := by unfold bitI; omega
theorem bitsL_len : ∀ (xs : List Int), (bitsL xs).length = 8 * xs.length
  | [] => rfl
  | x :: r => by
    have := bitsL_len r
    unfold bitsL at this ⊢
    rw [List.flatMap_cons, List.length_append, bitP_len, this, List.length_cons]; omega
theorem bitsL_in {xs : List Int} : ∀ b ∈ bitsL xs, 0 ≤ b ∧ b ≤ 1 := fun b hb => by
  obtain ⟨x, _, h2⟩ := List.mem_flatMap.1 hb
  obtain ⟨i, _, rfl⟩ := List.mem_map.1 h2
  exact bitI_in _ _
theorem bitsL_step {xs : List Int} {k : Nat} {x : Int} (h : xs[k]? = some x) : bitsL (xs.take (k + 1)) = bitsL (xs.take k) ++ bitP x 8 := by
  unfold bitsL
  rw [List.take_add_one, h]; simp [List.flatMap_append]
/-- a bit by shifting -/
theorem bit_shr {x : Int} {j : Nat} (h : 0 ≤ x ∧ x ≤ 1099511627776) (hj : j ≤ 63) : bitsV .and .i64 (x / 2 ^ j) 1 = bitI x j := by
  have h1 : 0 ≤ x / 2 ^ j := Int.ediv_nonneg h.1 (Int.pow_nonneg (by omega))
  have h2 : x / 2 ^ j ≤ x := Int.ediv_le_self _ h.1
  rw [and1 (by omega)]; rfl
theorem shr_pow {z : Int} {j : Nat} (h : 0 ≤ z) (hj : j ≤ 63) : z.fdiv (2 ^ (min ((j : Int).toNat) IntKind.i64.bits)) = z / 2 ^ j := by
  rw [Int.toNat_natCast, show min j IntKind.i64.bits = j by show min j 64 = j; omega, Int.fdiv_eq_ediv_of_nonneg _ (Int.pow_nonneg (by omega))]
def id3 (z : Int) : List Int := [z / 65536, z / 256 % 256, z % 256]
def crcK (k : Nat) (b : List Int) : Int := crcF ((k : Int) + 1) (bitsL b)
def chkB (k : Nat) (b : List Int) : List Int := id3 (crcK k b)
theorem crcK_in {k : Nat} (b : List Int) (h : k < 16777215) : 0 ≤ crcK k b ∧ crcK k b < 16777216 := crcF_in _ (by omega)
theorem id3_eq {c x y z : Int} (hc : 0 ≤ c ∧ c < 16777216) (hx : 0 ≤ x ∧ x ≤ 255) (hy : 0 ≤ y ∧ y ≤ 255) (hz : 0 ≤ z ∧ z ≤ 255) : id3 c = [x, y, z] ↔ c = x * 65536 + y * 256 + z := by
  simp only [id3, List.cons.injEq, and_true]
  omega
def sl33 (xs : List Int) (k : Nat) : List Int := (xs.drop (33 * k)).take 33
def nS (n : Nat) : Nat := if n = 0 then 1 else (n + 32) / 33
def badK (xs : List Int) (k : Nat) : Bool := decide ((sl33 xs k).length < 5) || !decide (chkB k ((sl33 xs k).take ((sl33 xs k).length - 3)) = (sl33 xs k).drop ((sl33 xs k).length - 3))
def dmgP (xs : List Int) (k : Nat) : List Int := ((List.range k).filter (badK xs)).map fun (j : Nat) => (j : Int)
def dmg (xs : List Int) : List Int := dmgP xs (nS xs.length)
theorem nS_on {n k : Nat} : k < nS n ↔ (k = 0 ∨ 33 * k < n) := by unfold nS; split <;> omega
theorem nS_pos (n : Nat) : 1 ≤ nS n := by unfold nS; split <;> omega
theorem nS_le (n : Nat) : 33 * nS n ≤ n + 33 := by unfold nS; split <;> omega
theorem sl33_len (xs : List Int) (k : Nat) : (sl33 xs k).length = min 33 (xs.length - 33 * k) := by simp [sl33]
theorem dmgP_step (xs : List Int) (k : Nat) : dmgP xs (k + 1) = if badK xs k = true then dmgP xs k ++ [(k : Int)] else dmgP xs k := by
  unfold dmgP
  rw [List.range_succ, List.filter_append, List.map_append]
  cases h : badK xs k <;> simp [h]
theorem dmgP_le (xs : List Int) (k : Nat) : (dmgP xs k).length ≤ k := by
  unfold dmgP
  rw [List.length_map]
  exact Nat.le_trans (List.length_filter_le _ _) (by simp)
theorem badK_false {xs : List Int} {k : Nat} (h : badK xs k = false) : 5 ≤ (sl33 xs k).length ∧ chkB k ((sl33 xs k).take ((sl33 xs k).length - 3)) = (sl33 xs k).drop ((sl33 xs k).length - 3) := by
  simp only [badK, Bool.or_eq_false_iff, decide_eq_false_iff_not, Bool.not_eq_false', decide_eq_true_eq] at h
  exact ⟨by omega, h.2⟩
end Go.Proofs.Ytdoibplhbdkapaa
namespace Go.Proofs.Ytdoibplhbdkapaa
theorem ti2 : tiO Try.prog 2 = some (false, 1, 8, [.int .i64 0]) := by kernel_rfl
theorem ti3 : tiO Try.prog 3 = some (false, 1, 8, [.int .i64 0]) := by kernel_rfl
theorem ti22 : tiO Try.prog 22 = some (false, 1, 24, [.slice none 0 0]) := by kernel_rfl
theorem el22 : elO Try.prog 22 = some (2, 1) := by kernel_rfl
theorem ti68 : tiO Try.prog 68 = some (false, 1, 24, [.slice none 0 0]) := by kernel_rfl
theorem el68 : elO Try.prog 68 = some (22, 1) := by kernel_rfl
theorem ti116 : tiO Try.prog 116 = some (true, 2, 16, [.int .i64 0, .int .i64 0]) := by kernel_rfl
theorem pl116 : plO Try.prog 116 = some [(0, 1), (1, 1)] := by kernel_rfl
theorem off116_0 : offO Try.prog 116 0 = some 0 := by kernel_rfl
theorem off116_1 : offO Try.prog 116 1 = some 1 := by kernel_rfl
theorem ent7 : Enters Try.prog 7 := enters_of Try.func7 (by kernel_rfl) (by kernel_rfl)
theorem ent8 : Enters Try.prog 8 := enters_of Try.func8 (by kernel_rfl) (by kernel_rfl)
theorem ent9 : Enters Try.prog 9 := enters_of Try.func9 (by kernel_rfl) (by kernel_rfl)
theorem ent10 : Enters Try.prog 10 := enters_of Try.func10 (by kernel_rfl) (by kernel_rfl)
theorem ent35 : Enters Try.prog 35 := enters_of Try.func35 (by kernel_rfl) (by kernel_rfl)
theorem ent36 : Enters Try.prog 36 := enters_of Try.func36 (by kernel_rfl) (by kernel_rfl)
theorem ent37 : Enters Try.prog 37 := enters_of Try.func37 (by kernel_rfl) (by kernel_rfl)
theorem ent38 : Enters Try.prog 38 := enters_of Try.func38 (by kernel_rfl) (by kernel_rfl)
theorem ent39 : Enters Try.prog 39 := enters_of Try.func39 (by kernel_rfl) (by kernel_rfl)
theorem ent40 : Enters Try.prog 40 := enters_of Try.func40 (by kernel_rfl) (by kernel_rfl)
theorem ent41 : Enters Try.prog 41 := enters_of Try.func41 (by kernel_rfl) (by kernel_rfl)
theorem ent42 : Enters Try.prog 42 := enters_of Try.func42 (by kernel_rfl) (by kernel_rfl)
theorem ent43 : Enters Try.prog 43 := enters_of Try.func43 (by kernel_rfl) (by kernel_rfl)
theorem ent67 : Enters Try.prog 67 := enters_of Try.func67 (by kernel_rfl) (by kernel_rfl)
theorem ent68 : Enters Try.prog 68 := enters_of Try.func68 (by kernel_rfl) (by kernel_rfl)
theorem ent69 : Enters Try.prog 69 := enters_of Try.func69 (by kernel_rfl) (by kernel_rfl)
theorem ent70 : Enters Try.prog 70 := enters_of Try.func70 (by kernel_rfl) (by kernel_rfl)
theorem ent71 : Enters Try.prog 71 := enters_of Try.func71 (by kernel_rfl) (by kernel_rfl)
theorem ent72 : Enters Try.prog 72 := enters_of Try.func72 (by kernel_rfl) (by kernel_rfl)
theorem ent73 : Enters Try.prog 73 := enters_of Try.func73 (by kernel_rfl) (by kernel_rfl)
theorem ent74 : Enters Try.prog 74 := enters_of Try.func74 (by kernel_rfl) (by kernel_rfl)
theorem ent77 : Enters Try.prog 77 := enters_of Try.func77 (by kernel_rfl) (by kernel_rfl)
theorem ent92 : Enters Try.prog 92 := enters_of Try.func92 (by kernel_rfl) (by kernel_rfl)
theorem ent93 : Enters Try.prog 93 := enters_of Try.func93 (by kernel_rfl) (by kernel_rfl)
theorem ent94 : Enters Try.prog 94 := enters_of Try.func94 (by kernel_rfl) (by kernel_rfl)
theorem ent95 : Enters Try.prog 95 := enters_of Try.func95 (by kernel_rfl) (by kernel_rfl)
theorem ent96 : Enters Try.prog 96 := enters_of Try.func96 (by kernel_rfl) (by kernel_rfl)
theorem ent97 : Enters Try.prog 97 := enters_of Try.func97 (by kernel_rfl) (by kernel_rfl)
theorem ent98 : Enters Try.prog 98 := enters_of Try.func98 (by kernel_rfl) (by kernel_rfl)
theorem ent99 : Enters Try.prog 99 := enters_of Try.func99 (by kernel_rfl) (by kernel_rfl)
theorem ent100 : Enters Try.prog 100 := enters_of Try.func100 (by kernel_rfl) (by kernel_rfl)
theorem ent111 : Enters Try.prog 111 := enters_of Try.func111 (by kernel_rfl) (by kernel_rfl)
theorem mixed : Try.prog.follows .mixedOrders = true := by kernel_rfl
end Go.Proofs.Ytdoibplhbdkapaa
namespace Go.Proofs.Ytdoibplhbdkapaa
open Go.RowKit
set_option linter.unusedVariables false

theorem Own.cap {w : World} {lo n c s : Nat} {t : TypeId} {A : Option Addr} {cs : List Value} (h : Own w lo t s A n c cs) : n ≤ c := by
  rcases Nat.eq_zero_or_pos n with e | e
  · omega
  · obtain ⟨_, _, _, _, _, hn, _⟩ := h.form e; exact hn
theorem flat_drop {α : Type} {enc : α → List Value} {s : Nat} (he : ∀ x, (enc x).length = s) : ∀ (xs : List α) (k : Nat), (xs.flatMap enc).drop (k * s) = (xs.drop k).flatMap enc
  | xs, 0 => by simp
  | [], k + 1 => by simp
  | x :: r, k + 1 => by
    rw [List.flatMap_cons, Nat.add_mul, Nat.one_mul, Nat.add_comm, List.drop_append, List.drop_of_length_le (by rw [he]; omega), he, List.nil_append, show s + k * s - s = k * s by omega, flat_drop he r k]; rfl
theorem flat_take {α : Type} {enc : α → List Value} {s : Nat} (he : ∀ x, (enc x).length = s) : ∀ (xs : List α) (k : Nat), (xs.flatMap enc).take (k * s) = (xs.take k).flatMap enc
  | xs, 0 => by simp
  | [], k + 1 => by simp
  | x :: r, k + 1 => by
    rw [List.flatMap_cons, Nat.add_mul, Nat.one_mul, Nat.add_comm, List.take_append, List.take_of_length_le (by rw [he]; omega), he, show s + k * s - s = k * s by omega, flat_take he r k]; rfl
theorem map_add0 (A : Option Addr) : A.map (·.add 0) = A := by cases A <;> rfl
/-- a part of a row that is read -/
theorem Sl.part {α : Type} {enc : α → List Value} {s : Nat} {w : World} {B : Nat} {A : Option Addr} {xs : List α} (h : Sl B w A (xs.flatMap enc)) (he : ∀ x, (enc x).length = s) (l m c : Nat) (hm : c = l → m = 0) :
    Sl B w (if c = l then A else A.map (·.add (l * s))) (((xs.drop l).take m).flatMap enc) := by
  by_cases hc : c = l
  · rw [hm hc]; simp only [List.take_zero, List.flatMap_nil]; exact Sl.nil_ h.1 _
  · rw [if_neg hc]
    have h1 := h.cut (l * s) (m * s)
    rw [flat_drop he, flat_take he] at h1
    by_cases h0 : l * s = 0
    · rw [if_pos h0] at h1; rw [h0, map_add0]; exact h1
    · rw [if_neg h0] at h1; exact h1
section
variable {P : Program} {e : List (Nat × Value)} {w : World} {K : Value → World → Prop} {ty t el : TypeId} {x lo hi : Operand} {s : Nat} {α : Type} {enc : α → List Value} {B n c l h : Nat} {A : Option Addr} {xs : List α} {k1 k2 : IntKind} {m1 m2 : Int}
theorem elem_of (ht : elO P t = some (el, s)) : P.underlying t = some (.slice (P.elem t)) ∧ ∀ w, (sizeOf (P.elem t)).run P w = .ok s w := by
  obtain ⟨ti, hu, hti, hts⟩ := elO_spec ht
  have he : P.elem t = el := by simp [Program.elem, hu]
  rw [he]
  exact ⟨hu, fun w => by simp only [run_sizeOf' hti, hts]⟩
theorem ow_sliceLH (ht : elO P t = some (el, s)) (hs : Sl B w A (xs.flatMap enc)) (he : ∀ x, (enc x).length = s) (hx : evO e x = some (.slice A n c)) (h1 : evO e lo = some (.int k1 m1)) (h2 : evO e hi = some (.int k2 m2)) (e1 : m1 = (l : Int)) (e2 : m2 = (h : Int))
    (hlh : l ≤ h) (hc : h ≤ c) (hK : ∀ A', Sl B w A' (((xs.drop l).take (h - l)).flatMap enc) → K (.slice A' (h - l) (c - l)) w) : OpWp P e (.slice t x (some lo) (some hi) none) ty w K := fun ρ d p a g hρ => by
  have g0 := hρ _ _ hx; have g1 := hρ _ _ h1; have g2 := hρ _ _ h2
  obtain ⟨hu, hsz⟩ := elem_of ht
  subst e1; subst e2
  have hr := run_slice_lh (P := P) (w := w) t A n c hu k1 k2 (l : Int) (h : Int) (by omega) (by omega) (by omega)
  simp only [execOp, g0, Option.map_some, Option.map_none, g1, g2, Sem.run_bind, run_sliceAt_slice w t _ _ _ _ hu, hr, hsz, Result.andThen_ok, Sem.run_pure, upto, sliced, Int.toNat_natCast]
  exact hK _ (hs.part he l (h - l) c (fun e => by omega))
end
end Go.Proofs.Ytdoibplhbdkapaa
namespace Go.Proofs.Ytdoibplhbdkapaa
open Go.RowKit
set_option linter.unusedVariables false
set_option linter.unusedSimpArgs false
theorem one_ints : ∀ (xs : List Int), ∀ u ∈ xs.flatMap eI, u.oneCell' = true := fun xs u hu => by
  obtain ⟨x, _, h⟩ := List.mem_flatMap.1 hu
  have : u = .int .i64 x := by simpa [eI] using h
  subst this; rfl
section
variable {P : Program} {e : List (Nat × Value)} {ty : TypeId} {w : World} {K : Value → World → Prop} {x y : Operand} {t el : TypeId} {s b : Nat} {z : List Value} {a : Bool}
end
section
variable {P : Program} {n : Nat} {ops : Array Oper} {I : World → Prop} {K : Act → World → Prop} {fuel : Nat} {listed listed' : Array Bool} {e : List (Nat × Value)} {w : World}
/-- a quiet one that is guarded and wanted is taken first -/
theorem wi_takeW (i : Nat) {dst : Option Tmp} {op : Op} {ty : TypeId} {pos : String} {af : Array Edge} {v : Value} {j d : Nat} {b : Bool} (hi : ops[i]? = some ⟨dst, op, ty, pos, af, some (j, b)⟩) (hs : Region.noSelect ops = true) (hd : dstOk n dst = true)
    (ht : takeB ops ops.size listed i = true) (hl : listed.setIfInBounds i true = listed') (hj : (ops[j]?).bind (·.dst) = some d) (hb : lk e d = some (.bool b)) (hy : ∀ w, I w → OpWp P e op ty w fun u w' => u = v ∧ w' = w)
    (h : WE P n ops I K fuel listed' (updO e dst v) w) : WE P n ops I K (fuel + 1) listed e w := fun a ha => by
  simp only [takeB, Bool.and_eq_true] at ht
  refine WI_first hi (Region.noSelect_spec hs) fuel listed a w (Region.free_spec hi ht.1) (by simpa using ht.2) (fun w hw => OpG.opX ha (by simp only [OpG, hj, hb]; rw [if_pos (by cases b <;> rfl)]; exact hy w hw)) ?_
  rw [hl]
  exact h _ (ha.put dst v hd)
/-- one that is guarded and not wanted is taken first -/
theorem wi_takeS (i : Nat) {dst : Option Tmp} {op : Op} {ty : TypeId} {pos : String} {af : Array Edge} {j d : Nat} {b : Bool} {u0 : Value} (hi : ops[i]? = some ⟨dst, op, ty, pos, af, some (j, b)⟩) (hs : Region.noSelect ops = true) (hd : dstOk n dst = true)
    (ht : takeB ops ops.size listed i = true) (hl : listed.setIfInBounds i true = listed') (hj : (ops[j]?).bind (·.dst) = some d) (hb : lk e d = some u0) (hu : saysB u0 b = false)
    (h : WE P n ops I K fuel listed' (updO e dst undef) w) : WE P n ops I K (fuel + 1) listed e w := fun a ha => by
  simp only [takeB, Bool.and_eq_true] at ht
  refine WI_first (v := undef) hi (Region.noSelect_spec hs) fuel listed a w (Region.free_spec hi ht.1) (by simpa using ht.2) (fun w hw => OpG.opX ha (by simp only [OpG, hj, hb]; rw [if_neg (by rw [hu]; simp)]; first | trivial | exact ⟨rfl, rfl⟩ | simp)) ?_
  rw [hl]
  exact h _ (ha.put dst undef hd)
/-- number i alone may come up; it is guarded and wanted -/
theorem wi_oneW (i : Nat) {dst : Option Tmp} {op : Op} {ty : TypeId} {pos : String} {af : Array Edge} {j d : Nat} {b : Bool} (hi : ops[i]? = some ⟨dst, op, ty, pos, af, some (j, b)⟩) (hd : dstOk n dst = true)
    (hr : rdy ops ops.size listed = [i]) (hl : listed.setIfInBounds i true = listed') (hj : (ops[j]?).bind (·.dst) = some d) (hb : lk e d = some (.bool b)) (hI : I w) (hy : OpWp P e op ty w fun u w' => WE P n ops I K fuel listed' (updO e dst u) w') : WE P n ops I K (fuel + 1) listed e w := fun a ha => by
  refine ⟨hI, by rw [hr]; simp, fun k hk o ho => ?_⟩
  rw [hr] at hk
  obtain rfl : k = i := by simpa using hk
  obtain rfl : ⟨dst, op, ty, pos, af, some (j, b)⟩ = o := by rw [hi] at ho; injection ho
  refine OpX.mono (OpG.opX (R := fun u w' => WE P n ops I K fuel listed' (updO e dst u) w') ha (by simp only [OpG, hj, hb]; rw [if_pos (by cases b <;> rfl)]; exact hy)) fun u w' hu => ?_
  rw [hl]
  exact hu _ (ha.put dst u hd)
end
end Go.Proofs.Ytdoibplhbdkapaa
namespace Go.Proofs.Ytdoibplhbdkapaa
open Go.RowKit
set_option linter.unusedVariables false
set_option linter.unusedSimpArgs false
set_option maxRecDepth 20000
theorem l01In_c (a b c : Int) (w : World)  :
    Calls Try.prog 77 #[.int .i64 a, .int .i64 b, .int .i64 c] w (Ret fun v w' => v = .bool (inB a b c) ∧ Ext w w') := by
  have X := Ext.refl w
  refine calls_of (args := [.int .i64 a, .int .i64 b, .int .i64 c]) Try.func77 Try.ntmps77 rfl rfl ?_
  refine c_seqR ?_
  refine ops_cons rfl (ow_assign rfl ?_)
  refine ops_nil ?_
  refine c_seqR ?_
  refine ops_cons rfl (ow_move rfl ?_)
  refine ops_cons rfl (ow_move rfl ?_)
  refine ops_cons rfl (ow_geq2 rfl rfl (fun h1 => ?_) (fun h1 => ?_))
  refine ops_cons rfl (ow_move rfl ?_)
  refine ops_want rfl rfl rfl (ow_move rfl ?_)
  refine ops_want rfl rfl rfl (ow_move rfl ?_)
  refine ops_want rfl rfl rfl (ow_leq rfl rfl ?_)
  refine ops_cons rfl (ow_pick rfl rfl ?_)
  refine ops_cons rfl (ow_assign rfl ?_)
  refine ops_nil ?_
  refine c_ret ?_
  refine fin_ret1 rfl rfl ?_
  exact ⟨by simp [inB, *], X⟩
  refine ops_cons rfl (ow_move rfl ?_)
  refine ops_skip rfl rfl rfl rfl ?_
  refine ops_skip rfl rfl rfl rfl ?_
  refine ops_skip rfl rfl rfl rfl ?_
  refine ops_cons rfl (ow_pick rfl rfl ?_)
  refine ops_cons rfl (ow_assign rfl ?_)
  refine ops_nil ?_
  refine c_ret ?_
  refine fin_ret1 rfl rfl ?_
  exact ⟨by simp [inB, *], X⟩

end Go.Proofs.Ytdoibplhbdkapaa
namespace Go.Proofs.Ytdoibplhbdkapaa
open Go.RowKit
set_option linter.unusedVariables false
set_option linter.unusedSimpArgs false
set_option maxRecDepth 20000
theorem l01Has_c (A : Option Addr) (B c : Nat) (xs : List Int) (n : Int) (w : World) (hs : Sl B w A (xs.flatMap eI)) (hl : xs.length ≤ 1048576) :
    Calls Try.prog 36 #[.slice A xs.length c, .int .i64 n] w (Ret fun v w' => v = .bool (hasB xs n) ∧ Ext w w') := by
  have Bhs := hs.1
  have X := Ext.refl w
  refine calls_of (args := [.slice A xs.length c, .int .i64 n]) Try.func36 Try.ntmps36 rfl rfl ?_
  refine c_seqR ?_
  refine ops_cons rfl (ow_assign rfl ?_)
  refine ops_nil ?_
  refine c_seq ?_
  refine c_seqR ?_
  refine ops_cons rfl (ow_assign rfl ?_)
  refine ops_nil ?_
  refine c_block ?_
  refine c_loop (G := Nat) (fun k => [(0, .slice A xs.length c), (1, .int .i64 n), (5, .int .i64 (k : Nat))]) (fun k wr => k ≤ xs.length ∧ hasB xs n = hasB (xs.drop k) n ∧ Sl B wr A (xs.flatMap eI) ∧ Ext w wr) (fun k => xs.length - k) 0 (.cons rfl (.cons rfl (.cons rfl (.nil _)))) ?_ ?_
  · exact ⟨by omega, rfl, hs, X⟩
  clear hs
  clear X
  rintro k wr ⟨hk0, hi, hs, X⟩
  refine c_seq ?_
  refine c_seqR ?_
  refine ops_cons rfl (ow_move rfl ?_)
  refine ops_cons rfl (ow_move rfl ?_)
  refine ops_cons rfl (ow_len Try.underlying22 rfl ?_)
  refine ops_cons rfl (ow_lss2 rfl rfl (fun hk => ?_) (fun hk => ?_))
  obtain ⟨x, hx, dx⟩ := drop_at' hk
  refine ops_nil ?_
  refine c_true rfl ?_
  refine c_skip ?_
  refine tq_n ?_
  refine c_seq ?_
  refine c_block ?_
  refine c_seqR ?_
  refine ops_cons rfl (ow_move rfl ?_)
  refine ops_cons rfl (ow_move rfl ?_)
  refine ops_cons rfl (ow_indexT hs eI_len rfl el22 rfl rfl rfl hx rfl ?_)
  refine ops_cons rfl (ow_loadT hs eI_len hx ti2 rfl rfl rfl ?_)
  refine ops_cons rfl (ow_move rfl ?_)
  refine ops_cons rfl (ow_eql2 rfl rfl (fun h1 => ?_) (fun h1 => ?_))
  refine ops_nil ?_
  refine c_true rfl ?_
  refine c_seqR ?_
  refine ops_cons rfl (ow_assign rfl ?_)
  refine ops_nil ?_
  refine c_ret ?_
  refine bq_r ?_
  refine tq_r ?_
  refine tq_r ?_
  refine bq_r ?_
  refine tq_r ?_
  refine fin_ret1 rfl rfl ?_
  · skip
    refine ⟨congrArg Value.bool ?_, X⟩
    first | (rw [hi, drop_end hk]; rfl) | (rw [hi, dx]; simp [hasB, *])
  refine ops_nil ?_
  refine c_false rfl ?_
  refine c_skip ?_
  refine bq_n ?_
  refine tq_n ?_
  refine c_region ?_
  refine ops_cons rfl (ow_move rfl ?_)
  refine ops_cons rfl (ow_add rfl rfl (w64 (by omega)) ?_)
  refine ops_cons rfl (ow_assign rfl ?_)
  refine ops_nil ?_
  refine tq_n ⟨k + 1, (.cons rfl (.cons rfl (.cons rfl (.nil _)))), ?_, ?_⟩
  · exact ⟨by omega, (by rw [hi, dx]; simp [hasB, *]), hs, X⟩
  · first | omega | (dsimp only; omega)
  refine ops_nil ?_
  refine c_false rfl ?_
  refine c_exit ?_
  refine tq_e ?_
  refine tq_e ?_
  refine bq_e ?_
  refine tq_n ?_
  refine c_seqR ?_
  refine ops_cons rfl (ow_assign rfl ?_)
  refine ops_nil ?_
  refine c_ret ?_
  refine fin_ret1 rfl rfl ?_
  · skip
    refine ⟨congrArg Value.bool ?_, X⟩
    first | (rw [hi, drop_end hk]; rfl) | (rw [hi, dx]; simp [hasB, *])

theorem index_c (A : Option Addr) (B c : Nat) (xs : List Int) (n : Int) (w : World) (hs : Sl B w A (xs.flatMap eI)) (hl : xs.length ≤ 1048576) :
    Calls Try.prog 70 #[.slice A xs.length c, .int .i64 n] w (Ret fun v w' => v = .int .i64 (idxI n 0 xs) ∧ Ext w w') := by
  have Bhs := hs.1
  have X := Ext.refl w
  refine calls_of (args := [.slice A xs.length c, .int .i64 n]) Try.func70 Try.ntmps70 rfl rfl ?_
  refine c_seqR ?_
  refine ops_cons rfl (ow_assign rfl ?_)
  refine ops_nil ?_
  refine c_seq ?_
  refine c_seqR ?_
  refine ops_cons rfl (ow_move rfl ?_)
  refine ops_cons rfl (ow_len Try.underlying22 rfl ?_)
  refine ops_cons rfl (ow_move rfl ?_)
  refine ops_nil ?_
  refine c_block ?_
  refine c_loop (G := Nat) (fun k => [(0, .slice A xs.length c), (1, .int .i64 n), (7, .int .i64 (xs.length : Nat)), (8, .int .i64 (k : Nat))]) (fun k wr => k ≤ xs.length ∧ idxI n 0 xs = idxI n k (xs.drop k) ∧ Sl B wr A (xs.flatMap eI) ∧ Ext w wr) (fun k => xs.length - k) 0 (.cons rfl (.cons rfl (.cons rfl (.cons rfl (.nil _))))) ?_ ?_
  · exact ⟨by omega, rfl, hs, X⟩
  clear hs
  clear X
  rintro k wr ⟨hk0, hi, hs, X⟩
  refine c_seqR ?_
  refine ops_cons rfl (ow_lss2 rfl rfl (fun hk => ?_) (fun hk => ?_))
  obtain ⟨x, hx, dx⟩ := drop_at' hk
  refine ops_nil ?_
  refine c_seq ?_
  refine c_true rfl ?_
  refine c_skip ?_
  refine tq_n ?_
  refine c_seq ?_
  refine c_block ?_
  refine c_seqR ?_
  refine ops_cons rfl (ow_move rfl ?_)
  refine ops_cons rfl (ow_assign rfl ?_)
  refine ops_nil ?_
  refine c_seqR ?_
  refine ops_cons rfl (ow_move rfl ?_)
  refine ops_cons rfl (ow_move rfl ?_)
  refine ops_cons rfl (ow_move rfl ?_)
  refine ops_cons rfl (ow_indexT hs eI_len rfl el22 rfl rfl rfl hx rfl ?_)
  refine ops_cons rfl (ow_loadT hs eI_len hx ti2 rfl rfl rfl ?_)
  refine ops_cons rfl (ow_eql2 rfl rfl (fun h1 => ?_) (fun h1 => ?_))
  refine ops_nil ?_
  refine c_true rfl ?_
  refine c_seqR ?_
  refine ops_cons rfl (ow_move rfl ?_)
  refine ops_cons rfl (ow_assign rfl ?_)
  refine ops_nil ?_
  refine c_ret ?_
  refine bq_r ?_
  refine tq_r ?_
  refine tq_r ?_
  refine bq_r ?_
  refine tq_r ?_
  refine fin_ret1 rfl rfl ?_
  · skip
    refine ⟨congrArg (Value.int .i64) ?_, X⟩
    first | (rw [hi, drop_end hk]; rfl) | (rw [hi, dx, idxI, if_pos (by omega)])
  refine ops_nil ?_
  refine c_false rfl ?_
  refine c_skip ?_
  refine bq_n ?_
  refine tq_n ?_
  refine c_region ?_
  refine ops_cons rfl (ow_add rfl rfl (w64 (by omega)) ?_)
  refine ops_cons rfl (ow_move rfl ?_)
  refine ops_nil ?_
  refine tq_n ⟨k + 1, (.cons rfl (.cons rfl (.cons rfl (.cons rfl (.nil _))))), ?_, ?_⟩
  · exact ⟨by omega, (by rw [hi, dx, idxI, if_neg (by omega)]; rfl), hs, X⟩
  · first | omega | (dsimp only; omega)
  refine ops_nil ?_
  refine c_seq ?_
  refine c_false rfl ?_
  refine c_exit ?_
  refine tq_e ?_
  refine tq_e ?_
  refine bq_e ?_
  refine tq_n ?_
  refine c_seqR ?_
  refine ops_cons rfl (ow_assign rfl ?_)
  refine ops_nil ?_
  refine c_ret ?_
  refine fin_ret1 rfl rfl ?_
  · skip
    refine ⟨congrArg (Value.int .i64) ?_, X⟩
    first | (rw [hi, drop_end hk]; rfl) | (rw [hi, dx, idxI, if_pos (by omega)])

theorem contains_c (A : Option Addr) (B c : Nat) (xs : List Int) (n : Int) (w : World) (hs : Sl B w A (xs.flatMap eI)) (hl : xs.length ≤ 1048576) :
    Calls Try.prog 40 #[.slice A xs.length c, .int .i64 n] w (Ret fun v w' => v = .bool (hasB xs n) ∧ Ext w w') := by
  have Bhs := hs.1
  have X := Ext.refl w
  refine calls_of (args := [.slice A xs.length c, .int .i64 n]) Try.func40 Try.ntmps40 rfl rfl ?_
  refine c_seqR ?_
  refine ops_cons rfl (ow_assign rfl ?_)
  refine ops_nil ?_
  refine c_seqR ?_
  refine ops_cons rfl (ow_move rfl ?_)
  refine ops_cons rfl (ow_move rfl ?_)
  refine ops_cons rfl (ow_call ent70 rfl (ret_mono (index_c _ _ _ _ _ _ hs hl) ?_))
  rintro _ w2 ⟨rfl, x1⟩
  replace hs := hs.ext x1
  replace X := Ext.trans X x1; clear x1
  refine ops_cons rfl (ow_geq rfl rfl ?_)
  refine ops_cons rfl (ow_assign rfl ?_)
  refine ops_nil ?_
  refine c_ret ?_
  refine fin_ret1 rfl rfl ?_
  exact ⟨congrArg Value.bool (idxI_has n xs 0 (by omega)), X⟩

theorem allWithin_c (A : Option Addr) (B c : Nat) (xs : List Int) (lo hi0 : Int) (w : World) (hs : Sl B w A (xs.flatMap eI)) (hl : xs.length ≤ 1048576) :
    Calls Try.prog 69 #[.slice A xs.length c, .int .i64 lo, .int .i64 hi0] w (Ret fun v w' => v = .bool (xs.all fun x => inB x lo hi0) ∧ Ext w w') := by
  have Bhs := hs.1
  have X := Ext.refl w
  refine calls_of (args := [.slice A xs.length c, .int .i64 lo, .int .i64 hi0]) Try.func69 Try.ntmps69 rfl rfl ?_
  refine c_seqR ?_
  refine ops_cons rfl (ow_assign rfl ?_)
  refine ops_nil ?_
  refine c_seq ?_
  refine c_seqR ?_
  refine ops_cons rfl (ow_move rfl ?_)
  refine ops_cons rfl (ow_len Try.underlying22 rfl ?_)
  refine ops_cons rfl (ow_move rfl ?_)
  refine ops_nil ?_
  refine c_block ?_
  refine c_loop (G := Nat) (fun k => [(1, .int .i64 lo), (2, .int .i64 hi0), (9, .slice A xs.length c), (10, .int .i64 (xs.length : Nat)), (11, .int .i64 (k : Nat))]) (fun k wr => k ≤ xs.length ∧ (xs.all fun x => inB x lo hi0) = ((xs.drop k).all fun x => inB x lo hi0) ∧ Sl B wr A (xs.flatMap eI) ∧ Ext w wr) (fun k => xs.length - k) 0 (.cons rfl (.cons rfl (.cons rfl (.cons rfl (.cons rfl (.nil _)))))) ?_ ?_
  · exact ⟨by omega, rfl, hs, X⟩
  clear hs
  clear X
  rintro k wr ⟨hk0, hi, hs, X⟩
  refine c_seqR ?_
  refine ops_cons rfl (ow_lss2 rfl rfl (fun hk => ?_) (fun hk => ?_))
  obtain ⟨x, hx, dx⟩ := drop_at' hk
  refine ops_nil ?_
  refine c_seq ?_
  refine c_true rfl ?_
  refine c_skip ?_
  refine tq_n ?_
  refine c_seq ?_
  refine c_block ?_
  refine c_seqR ?_
  refine ops_cons rfl (ow_indexT hs eI_len rfl el22 rfl rfl rfl hx rfl ?_)
  refine ops_cons rfl (ow_loadT hs eI_len hx ti2 rfl rfl rfl ?_)
  refine ops_cons rfl (ow_assign rfl ?_)
  refine ops_nil ?_
  refine c_seqR ?_
  refine ops_cons rfl (ow_move rfl ?_)
  refine ops_cons rfl (ow_move rfl ?_)
  refine ops_cons rfl (ow_lss2 rfl rfl (fun h1 => ?_) (fun h1 => ?_))
  refine ops_cons rfl (ow_move rfl ?_)
  refine ops_skip rfl rfl rfl rfl ?_
  refine ops_skip rfl rfl rfl rfl ?_
  refine ops_skip rfl rfl rfl rfl ?_
  refine ops_cons rfl (ow_pick rfl rfl ?_)
  refine ops_nil ?_
  refine c_true rfl ?_
  refine c_seqR ?_
  refine ops_cons rfl (ow_assign rfl ?_)
  refine ops_nil ?_
  refine c_ret ?_
  refine bq_r ?_
  refine tq_r ?_
  refine tq_r ?_
  refine bq_r ?_
  refine tq_r ?_
  refine fin_ret1 rfl rfl ?_
  · skip
    refine ⟨congrArg Value.bool ?_, X⟩
    first | (rw [hi, drop_end hk]; rfl) | (rw [hi, dx, List.all_cons, inB, decide_eq_false (by omega)]; rfl) | (rw [hi, dx, List.all_cons, inB, decide_eq_true (by omega), decide_eq_false (by omega)]; rfl)
  refine ops_cons rfl (ow_move rfl ?_)
  refine ops_want rfl rfl rfl (ow_move rfl ?_)
  refine ops_want rfl rfl rfl (ow_move rfl ?_)
  refine ops_want rfl rfl rfl (ow_gtr2 rfl rfl (fun h2 => ?_) (fun h2 => ?_))
  refine ops_cons rfl (ow_pick rfl rfl ?_)
  refine ops_nil ?_
  refine c_true rfl ?_
  refine c_seqR ?_
  refine ops_cons rfl (ow_assign rfl ?_)
  refine ops_nil ?_
  refine c_ret ?_
  refine bq_r ?_
  refine tq_r ?_
  refine tq_r ?_
  refine bq_r ?_
  refine tq_r ?_
  refine fin_ret1 rfl rfl ?_
  · skip
    refine ⟨congrArg Value.bool ?_, X⟩
    first | (rw [hi, drop_end hk]; rfl) | (rw [hi, dx, List.all_cons, inB, decide_eq_false (by omega)]; rfl) | (rw [hi, dx, List.all_cons, inB, decide_eq_true (by omega), decide_eq_false (by omega)]; rfl)
  refine ops_cons rfl (ow_pick rfl rfl ?_)
  refine ops_nil ?_
  refine c_false rfl ?_
  refine c_skip ?_
  refine bq_n ?_
  refine tq_n ?_
  refine c_region ?_
  refine ops_cons rfl (ow_add rfl rfl (w64 (by omega)) ?_)
  refine ops_cons rfl (ow_move rfl ?_)
  refine ops_nil ?_
  refine tq_n ⟨k + 1, (.cons rfl (.cons rfl (.cons rfl (.cons rfl (.cons rfl (.nil _)))))), ?_, ?_⟩
  · exact ⟨by omega, (by rw [hi, dx, List.all_cons, inB, decide_eq_true (by omega), decide_eq_true (by omega)]; rfl), hs, X⟩
  · first | omega | (dsimp only; omega)
  refine ops_nil ?_
  refine c_seq ?_
  refine c_false rfl ?_
  refine c_exit ?_
  refine tq_e ?_
  refine tq_e ?_
  refine bq_e ?_
  refine tq_n ?_
  refine c_seqR ?_
  refine ops_cons rfl (ow_assign rfl ?_)
  refine ops_nil ?_
  refine c_ret ?_
  refine fin_ret1 rfl rfl ?_
  · skip
    refine ⟨congrArg Value.bool ?_, X⟩
    first | (rw [hi, drop_end hk]; rfl) | (rw [hi, dx, List.all_cons, inB, decide_eq_false (by omega)]; rfl) | (rw [hi, dx, List.all_cons, inB, decide_eq_true (by omega), decide_eq_false (by omega)]; rfl)
end Go.Proofs.Ytdoibplhbdkapaa
namespace Go.Proofs.Ytdoibplhbdkapaa
open Go.RowKit
set_option linter.unusedVariables false
set_option linter.unusedSimpArgs false
set_option maxRecDepth 20000
theorem shl1 {z : Int} (h : 0 ≤ z ∧ z ≤ 1099511627776) : IntKind.i64.wrap (z * 2 ^ (min ((1 : Int).toNat) IntKind.i64.bits)) = z * 2 := by
  rw [show (2 : Int) ^ (min ((1 : Int).toNat) IntKind.i64.bits) = 2 from rfl]; exact w64 (by omega)
theorem shr_z {x z : Int} {j : Nat} (e : z = (j : Int)) (h : 0 ≤ x) (hj : j ≤ 63) : x.fdiv (2 ^ (min z.toNat IntKind.i64.bits)) = x / 2 ^ j := by subst e; exact shr_pow h hj
theorem wuz {n : Int} (h : 0 ≤ n ∧ n ≤ 9223372036854775807) : IntKind.u64.wrap n = n := by
  have h1 : n % 18446744073709551616 = n := by omega
  simp [IntKind.wrap, IntKind.bits, IntKind.signed, h1]
theorem u8v {xs : List Int} (hb : ∀ x ∈ xs, 0 ≤ x ∧ x ≤ 255) {k : Nat} {x : Int} (h : xs[k]? = some x) : 0 ≤ x ∧ x ≤ 255 := hb x (List.mem_of_getElem? h)
theorem crc_eq {r x : Int} (h : 0 ≤ r ∧ r < 16777216) : crcS r x = if (x + r / 8388608) % 2 = 1 then xorC (r * 2 % 16777216) else r * 2 % 16777216 := by
  unfold crcS
  rw [show r * 2 % 16777216 = r % 8388608 * 2 by omega, Int.add_comm]
theorem Sl.takeI {B : Nat} {w : World} {A : Option Addr} {xs : List Int} (h : Sl B w A (xs.flatMap eI)) (k : Nat) : Sl B w A ((xs.take k).flatMap eI) := by
  have e := flat_take (enc := eI) eI_len xs k
  rw [Nat.mul_one] at e
  rw [← e]
  exact ⟨h.1, fun j v hj => by
    rw [List.getElem?_take] at hj
    split at hj
    · exact h.2 j v hj
    · cases hj⟩
theorem add_add_ (a : Addr) (i j : Nat) : (a.add i).add j = a.add (i + j) := by
  unfold Addr.add
  by_cases hi : i = 0 <;> by_cases hj : j = 0 <;> simp [hi, hj, Nat.add_assoc]
theorem Sl.dropI {B : Nat} {w : World} {A : Option Addr} {xs : List Int} (h : Sl B w A (xs.flatMap eI)) (k : Nat) : Sl B w (A.map (·.add k)) ((xs.drop k).flatMap eI) := by
  have e := flat_drop (enc := eI) eI_len xs k
  rw [Nat.mul_one] at e
  rw [← e]
  refine ⟨h.1, fun j v hj => ?_⟩
  rw [List.getElem?_drop] at hj
  obtain ⟨h1, h2, h3⟩ := h.2 _ v hj
  cases A with
  | none => cases h1
  | some a =>
    refine ⟨rfl, ?_, ?_⟩
    · show (a.add k).block < B
      rw [block_of_add]; exact h2
    · show w.cell? ((a.add k).add j) = some v
      rw [add_add_]; exact h3
theorem Sl.dropX {B c : Nat} {w : World} {A : Option Addr} {xs : List Int} (h : Sl B w A (xs.flatMap eI)) (k : Nat) (hc : xs.length ≤ c) : Sl B w (if c = k then A else A.map (·.add (k * 1))) ((xs.drop k).flatMap eI) := by
  split
  · rename_i hk
    rw [List.drop_of_length_le (by omega)]
    exact ⟨h.1, fun j v hj => by simp at hj⟩
  · rw [Nat.mul_one]; exact h.dropI k
theorem equalI_c (A : Option Addr) (B c : Nat) (xs : List Int) (A2 : Option Addr) (B2 c2 : Nat) (ys : List Int) (w : World) (hs : Sl B w A (xs.flatMap eI)) (h2 : Sl B2 w A2 (ys.flatMap eI)) (hl : xs.length ≤ 1048576) :
    Calls Try.prog 71 #[.slice A xs.length c, .slice A2 ys.length c2] w (Ret fun v w' => v = .bool (decide (xs = ys)) ∧ Ext w w') := by
  have Bhs := hs.1
  have Bh2 := h2.1
  have X := Ext.refl w
  refine calls_of (args := [.slice A xs.length c, .slice A2 ys.length c2]) Try.func71 Try.ntmps71 rfl rfl ?_
  refine c_seqR ?_
  refine ops_cons rfl (ow_assign rfl ?_)
  refine ops_nil ?_
  refine c_seq ?_
  refine c_seqR ?_
  refine ops_cons rfl (ow_move rfl ?_)
  refine ops_cons rfl (ow_len Try.underlying22 rfl ?_)
  refine ops_cons rfl (ow_move rfl ?_)
  refine ops_cons rfl (ow_len Try.underlying22 rfl ?_)
  refine ops_cons rfl (ow_neq2 rfl rfl (fun hlen => ?_) (fun hlen => ?_))
  refine ops_nil ?_
  refine c_true rfl ?_
  refine c_seqR ?_
  refine ops_cons rfl (ow_assign rfl ?_)
  refine ops_nil ?_
  refine c_ret ?_
  refine tq_r ?_
  refine fin_ret1 rfl rfl ?_
  · skip
    refine ⟨congrArg Value.bool ?_, X⟩
    exact (decide_eq_false (fun e => hlen (by rw [e]))).symm
  refine ops_nil ?_
  refine c_false rfl ?_
  refine c_skip ?_
  refine tq_n ?_
  refine c_seq ?_
  refine c_seqR ?_
  refine ops_cons rfl (ow_move rfl ?_)
  refine ops_cons rfl (ow_len Try.underlying22 rfl ?_)
  refine ops_cons rfl (ow_move rfl ?_)
  refine ops_nil ?_
  refine c_block ?_
  refine c_loop (G := Nat) (fun k => [(0, .slice A xs.length c), (1, .slice A2 ys.length c2), (12, .int .i64 (xs.length : Nat)), (13, .int .i64 (k : Nat))]) (fun k wr => k ≤ xs.length ∧ xs.take k = ys.take k ∧ Sl B wr A (xs.flatMap eI) ∧ Sl B2 wr A2 (ys.flatMap eI) ∧ Ext w wr) (fun k => xs.length - k) 0 (.cons rfl (.cons rfl (.cons rfl (.cons rfl (.nil _))))) ?_ ?_
  · exact ⟨by omega, rfl, hs, h2, X⟩
  clear hs h2
  clear X
  rintro k wr ⟨hk0, hi, hs, h2, X⟩
  refine c_seqR ?_
  refine ops_cons rfl (ow_lss2 rfl rfl (fun hk => ?_) (fun hk => ?_))
  obtain ⟨x, hx, dx⟩ := drop_at' hk
  obtain ⟨y, hy, dy⟩ := drop_at (xs := ys) (k := k) (by omega)
  refine ops_nil ?_
  refine c_seq ?_
  refine c_true rfl ?_
  refine c_skip ?_
  refine tq_n ?_
  refine c_seq ?_
  refine c_block ?_
  refine c_seqR ?_
  refine ops_cons rfl (ow_move rfl ?_)
  refine ops_cons rfl (ow_assign rfl ?_)
  refine ops_nil ?_
  refine c_seqD [false, false, false, false, false, false, false, false, false] mixed (by kernel_rfl) ?_
  refine f_q rfl (fun wq sq => ow_move rfl ⟨rfl, Ext.refl _⟩) ?_
  refine f_q rfl (fun wq sq => ow_move rfl ⟨rfl, Ext.refl _⟩) ?_
  refine f_q rfl (fun wq sq => ow_indexT (hs.ext sq) eI_len rfl el22 rfl rfl rfl hx rfl ⟨rfl, Ext.refl _⟩) ?_
  refine f_q rfl (fun wq sq => ow_loadT (hs.ext sq) eI_len hx ti2 rfl rfl rfl ⟨rfl, Ext.refl _⟩) ?_
  refine f_q rfl (fun wq sq => ow_move rfl ⟨rfl, Ext.refl _⟩) ?_
  refine f_q rfl (fun wq sq => ow_move rfl ⟨rfl, Ext.refl _⟩) ?_
  refine f_q rfl (fun wq sq => ow_indexT (h2.ext sq) eI_len rfl el22 rfl rfl rfl hy rfl ⟨rfl, Ext.refl _⟩) ?_
  refine f_q rfl (fun wq sq => ow_loadT (h2.ext sq) eI_len hy ti2 rfl rfl rfl ⟨rfl, Ext.refl _⟩) ?_
  refine f_qb rfl (fun wq sq => ow_neq rfl rfl ⟨rfl, Ext.refl _⟩) (fun hxy => ?_) (fun hxy => ?_)
  refine f_nil (fun w1 sq => ?_)
  have xq := sq
  replace hs := hs.ext xq
  replace h2 := h2.ext xq
  replace X := Ext.trans X xq; clear xq sq
  refine ops_nil ?_
  refine c_true rfl ?_
  refine c_seqR ?_
  refine ops_cons rfl (ow_assign rfl ?_)
  refine ops_nil ?_
  refine c_ret ?_
  refine bq_r ?_
  refine tq_r ?_
  refine tq_r ?_
  refine bq_r ?_
  refine tq_r ?_
  refine fin_ret1 rfl rfl ?_
  · skip
    refine ⟨congrArg Value.bool ?_, X⟩
    refine (decide_eq_false (fun e => ?_)).symm
    rw [e, hy] at hx; injection hx with hx; omega
  refine f_nil (fun w2 sq => ?_)
  have xq := sq
  replace hs := hs.ext xq
  replace h2 := h2.ext xq
  replace X := Ext.trans X xq; clear xq sq
  refine ops_nil ?_
  refine c_false rfl ?_
  refine c_skip ?_
  refine bq_n ?_
  refine tq_n ?_
  refine c_region ?_
  refine ops_cons rfl (ow_add rfl rfl (w64 (by omega)) ?_)
  refine ops_cons rfl (ow_move rfl ?_)
  refine ops_nil ?_
  refine tq_n ⟨k + 1, (.cons rfl (.cons rfl (.cons rfl (.cons rfl (.nil _))))), ?_, ?_⟩
  · exact ⟨by omega, (by rw [List.take_add_one, List.take_add_one, hi, hx, hy, show x = y by omega]), hs, h2, X⟩
  · first | omega | (dsimp only; omega)
  refine ops_nil ?_
  refine c_seq ?_
  refine c_false rfl ?_
  refine c_exit ?_
  refine tq_e ?_
  refine tq_e ?_
  refine bq_e ?_
  refine tq_n ?_
  refine c_seqR ?_
  refine ops_cons rfl (ow_assign rfl ?_)
  refine ops_nil ?_
  refine c_ret ?_
  refine fin_ret1 rfl rfl ?_
  · skip
    refine ⟨congrArg Value.bool ?_, X⟩
    refine (decide_eq_true ?_).symm
    have e1 : xs.take xs.length = ys.take xs.length := by have h := hi; rwa [show k = xs.length by omega] at h
    rw [List.take_length, List.take_of_length_le (by omega)] at e1; exact e1

theorem appNum_c (A : Option Addr) (lo n c : Nat) (cs : List Value) (x : Int) (w : World) (oA : Own w lo 2 1 A n c cs) (hlo : lo ≤ w.heap.size) (hx : 0 ≤ x ∧ x ≤ 255) (hn : n ≤ 16777216) :
    Calls Try.prog 111 #[.slice A n c, .int .i64 x, .int .i64 8] w (Ret fun v w' => ∃ A' c', v = .slice A' (n + 8) c' ∧ Own w' lo 2 1 A' (n + 8) c' (cs ++ (bitP x 8).flatMap eI) ∧ Below lo w w') := by
  have X := Below.refl lo w
  refine calls_of (args := [.slice A n c, .int .i64 x, .int .i64 8]) Try.func111 Try.ntmps111 rfl rfl ?_
  refine c_seqR ?_
  refine ops_cons rfl (ow_assign rfl ?_)
  refine ops_nil ?_
  refine c_seq ?_
  refine c_seqR ?_
  refine ops_cons rfl (ow_move rfl ?_)
  refine ops_cons rfl (ow_sub rfl rfl (show IntKind.i64.wrap (8 - 1) = 7 by decide) ?_)
  refine ops_cons rfl (ow_assign rfl ?_)
  refine ops_nil ?_
  refine c_block ?_
  refine c_loop (G := Nat × Int × Nat × Option Addr × Nat) (fun ⟨k, z, n1, A1, c1⟩ => [(1, .int .i64 x), (6, .slice none 0 0), (0, .slice A1 n1 c1), (7, .int .i64 z)]) (fun ⟨k, z, n1, A1, c1⟩ wr => k ≤ 8 ∧ z = 7 - (k : Int) ∧ n1 = n + k ∧ Own wr lo 2 1 A1 n1 c1 (cs ++ (bitP x k).flatMap eI) ∧ Below lo w wr) (fun ⟨k, z, n1, A1, c1⟩ => 8 - k) (0, 7, n, A, c) (.cons rfl (.cons rfl (.cons rfl (.cons rfl (.nil _))))) ?_ ?_
  · exact ⟨by omega, (by omega), rfl, (oA.to (by simp [bitP])), X⟩
  clear oA
  clear X
  rintro ⟨k, z, n1, A1, c1⟩ wr ⟨hk0, hz, hn1, oA, X⟩
  refine c_seq ?_
  refine c_seqR ?_
  refine ops_cons rfl (ow_move rfl ?_)
  refine ops_cons rfl (ow_geq2 rfl rfl (fun hk => ?_) (fun hk => ?_))
  refine ops_nil ?_
  refine c_true rfl ?_
  refine c_skip ?_
  refine tq_n ?_
  refine c_seq ?_
  refine c_block ?_
  refine c_region ?_
  refine ops_cons rfl (ow_move rfl ?_)
  refine ops_cons rfl (ow_move rfl ?_)
  refine ops_cons rfl (ow_move rfl ?_)
  refine ops_cons rfl (ow_shr rfl rfl (by omega) (shr_z (j := 7 - k) (by omega) hx.1 (by omega)) ?_)
  refine ops_cons rfl (ow_and rfl rfl (bit_shr (by omega) (by omega)) ?_)
  refine ops_cons rfl (ow_buildSlice el22 ti2 rfl rfl rfl rfl rfl ?_)
  intro g1 w3 eg1 oS bbg1 x2 zg1
  replace oS := Own.low oS (Nat.le_trans hlo X.size)
  replace oA := oA.ext x2
  replace X := Below.trans X (Below.mono x2 (Nat.le_trans hlo X.size)); clear x2
  refine ops_cons rfl (ow_append (ts := #[]) oA (Nat.le_trans hlo X.size) oS.sl rfl (one_ints [bitI x (7 - k)]) el22 ti2 rfl rfl rfl rfl (by omega) (by omega) ?_)
  intro AoN coN w5 oN hg4
  replace X := X.grown hg4 (Nat.le_trans hlo X.size) (fun g hg => (Own.lt oA hg).1)
  clear hg4
  refine ops_cons rfl (ow_assign rfl ?_)
  refine ops_nil ?_
  refine bq_n ?_
  refine tq_n ?_
  refine c_region ?_
  refine ops_cons rfl (ow_move rfl ?_)
  refine ops_cons rfl (ow_sub rfl rfl (w64 (by omega)) ?_)
  refine ops_cons rfl (ow_assign rfl ?_)
  refine ops_nil ?_
  refine tq_n ⟨(k + 1, z - 1, n1 + 1, AoN, coN), (.cons rfl (.cons rfl (.cons rfl (.cons rfl (.nil _))))), ?_, ?_⟩
  · exact ⟨by omega, (by omega), (by omega), (oN.to (by rw [bitP_step, List.flatMap_append, ← List.append_assoc]; rfl)), X⟩
  · first | omega | (dsimp only; omega)
  refine ops_nil ?_
  refine c_false rfl ?_
  refine c_exit ?_
  refine tq_e ?_
  refine tq_e ?_
  refine bq_e ?_
  refine tq_n ?_
  refine c_seqR ?_
  refine ops_cons rfl (ow_move rfl ?_)
  refine ops_cons rfl (ow_assign rfl ?_)
  refine ops_nil ?_
  refine c_ret ?_
  refine fin_ret1 rfl rfl ?_
  · skip
    have e : k = 8 := by omega
    subst e; subst hn1
    exact ⟨A1, c1, rfl, oA, X⟩

theorem toBits_c (A : Option Addr) (B c : Nat) (xs : List Int) (w : World) (hs : Sl B w A (xs.flatMap eI)) (hl : xs.length ≤ 1048576) (hb : ∀ x ∈ xs, 0 ≤ x ∧ x ≤ 255) :
    Calls Try.prog 98 #[.slice A xs.length c] w (Ret fun v w' => ∃ A' c', v = .slice A' (bitsL xs).length c' ∧ Own w' w.heap.size 2 1 A' (bitsL xs).length c' ((bitsL xs).flatMap eI) ∧ Ext w w') := by
  have Bhs := hs.1
  have X := Ext.refl w
  refine calls_of (args := [.slice A xs.length c]) Try.func98 Try.ntmps98 rfl rfl ?_
  refine c_seqR ?_
  refine ops_cons rfl (ow_assign rfl ?_)
  refine ops_nil ?_
  refine c_seqR ?_
  refine ops_cons rfl (ow_buildSlice el22 ti2 rfl rfl rfl rfl rfl ?_)
  intro gO w2 egO oO bbgO x1 zgO
  replace oO := Own.low oO X.size
  replace hs := hs.ext x1
  replace X := Ext.trans X x1; clear x1
  refine ops_cons rfl (ow_assign rfl ?_)
  refine ops_nil ?_
  refine c_seq ?_
  refine c_seqR ?_
  refine ops_cons rfl (ow_move rfl ?_)
  refine ops_cons rfl (ow_len Try.underlying22 rfl ?_)
  refine ops_cons rfl (ow_move rfl ?_)
  refine ops_nil ?_
  refine c_block ?_
  refine c_loop (G := Nat × Nat × Option Addr × Nat) (fun ⟨k, n1, A1, c1⟩ => [(2, .slice none 0 0), (7, .slice A xs.length c), (8, .int .i64 (xs.length : Nat)), (3, .slice A1 n1 c1), (9, .int .i64 (k : Nat))]) (fun ⟨k, n1, A1, c1⟩ wr => k ≤ xs.length ∧ n1 = (bitsL (xs.take k)).length ∧ Own wr w.heap.size 2 1 A1 n1 c1 ((bitsL (xs.take k)).flatMap eI) ∧ Sl B wr A (xs.flatMap eI) ∧ Ext w wr) (fun ⟨k, n1, A1, c1⟩ => xs.length - k) (0, 0, some ⟨gO, 0, none⟩, 0) (.cons rfl (.cons rfl (.cons rfl (.cons rfl (.cons rfl (.nil _)))))) ?_ ?_
  · exact ⟨by omega, rfl, oO, hs, X⟩
  clear hs oO
  clear X
  rintro ⟨k, n1, A1, c1⟩ wr ⟨hk0, hn1, oO, hs, X⟩
  refine c_seqR ?_
  refine ops_cons rfl (ow_lss2 rfl rfl (fun hk => ?_) (fun hk => ?_))
  obtain ⟨x, hx, dx⟩ := drop_at' hk
  refine ops_nil ?_
  refine c_seq ?_
  refine c_true rfl ?_
  refine c_skip ?_
  refine tq_n ?_
  refine c_seq ?_
  refine c_block ?_
  refine c_seqR ?_
  refine ops_cons rfl (ow_indexT hs eI_len rfl el22 rfl rfl rfl hx rfl ?_)
  refine ops_cons rfl (ow_loadT hs eI_len hx ti2 rfl rfl rfl ?_)
  refine ops_cons rfl (ow_assign rfl ?_)
  refine ops_nil ?_
  refine c_region ?_
  refine ops_cons rfl (ow_move rfl ?_)
  refine ops_cons rfl (ow_move rfl ?_)
  have hxb := u8v hb hx
  have hn2 := bitsL_len (xs.take k)
  rw [List.length_take] at hn2
  refine ops_cons rfl (ow_call ent111 rfl (ret_mono (appNum_c A1 w.heap.size n1 c1 _ x _ oO X.size hxb (by omega)) ?_))
  rintro _ wB ⟨A2, c2, rfl, oN, xB⟩
  replace hs := hs.below (Below.mono xB Bhs)
  replace X := Below.trans X xB; clear xB oO
  refine ops_cons rfl (ow_assign rfl ?_)
  refine ops_nil ?_
  refine bq_n ?_
  refine tq_n ?_
  refine c_region ?_
  refine ops_cons rfl (ow_add rfl rfl (w64 (by omega)) ?_)
  refine ops_cons rfl (ow_move rfl ?_)
  refine ops_nil ?_
  refine tq_n ⟨(k + 1, n1 + 8, A2, c2), (.cons rfl (.cons rfl (.cons rfl (.cons rfl (.cons rfl (.nil _)))))), ?_, ?_⟩
  · exact ⟨by omega, (by rw [bitsL_step hx, List.length_append, bitP_len, hn1]), (oN.to (by rw [bitsL_step hx, List.flatMap_append])), hs, X⟩
  · first | omega | (dsimp only; omega)
  refine ops_nil ?_
  refine c_seq ?_
  refine c_false rfl ?_
  refine c_exit ?_
  refine tq_e ?_
  refine tq_e ?_
  refine bq_e ?_
  refine tq_n ?_
  refine c_seqR ?_
  refine ops_cons rfl (ow_move rfl ?_)
  refine ops_cons rfl (ow_assign rfl ?_)
  refine ops_nil ?_
  refine c_ret ?_
  refine fin_ret1 rfl rfl ?_
  · skip
    rw [show k = xs.length by omega, List.take_length] at oO hn1
    rw [← hn1]; exact ⟨A1, c1, rfl, oO, X⟩

theorem l01Bits_c (A : Option Addr) (B c : Nat) (xs : List Int) (w : World) (hs : Sl B w A (xs.flatMap eI)) (hl : xs.length ≤ 1048576) (hb : ∀ x ∈ xs, 0 ≤ x ∧ x ≤ 255) :
    Calls Try.prog 94 #[.slice A xs.length c] w (Ret fun v w' => ∃ A' c', v = .slice A' (bitsL xs).length c' ∧ Own w' w.heap.size 2 1 A' (bitsL xs).length c' ((bitsL xs).flatMap eI) ∧ Ext w w') := by
  have Bhs := hs.1
  have X := Ext.refl w
  refine calls_of (args := [.slice A xs.length c]) Try.func94 Try.ntmps94 rfl rfl ?_
  refine c_seqR ?_
  refine ops_cons rfl (ow_assign rfl ?_)
  refine ops_nil ?_
  refine c_seqR ?_
  refine ops_cons rfl (ow_buildSlice el22 ti2 rfl rfl rfl rfl rfl ?_)
  intro gO w2 egO oO bbgO x1 zgO
  replace oO := Own.low oO X.size
  replace hs := hs.ext x1
  replace X := Ext.trans X x1; clear x1
  refine ops_cons rfl (ow_assign rfl ?_)
  refine ops_nil ?_
  refine c_seq ?_
  refine c_seqR ?_
  refine ops_cons rfl (ow_assign rfl ?_)
  refine ops_nil ?_
  refine c_block ?_
  refine c_loop (G := Nat × Nat × Option Addr × Nat) (fun ⟨k, n1, A1, c1⟩ => [(0, .slice A xs.length c), (2, .slice none 0 0), (3, .slice A1 n1 c1), (4, .int .i64 (k : Nat))]) (fun ⟨k, n1, A1, c1⟩ wr => k ≤ xs.length ∧ n1 = (bitsL (xs.take k)).length ∧ Own wr w.heap.size 2 1 A1 n1 c1 ((bitsL (xs.take k)).flatMap eI) ∧ Sl B wr A (xs.flatMap eI) ∧ Ext w wr) (fun ⟨k, n1, A1, c1⟩ => xs.length - k) (0, 0, some ⟨gO, 0, none⟩, 0) (.cons rfl (.cons rfl (.cons rfl (.cons rfl (.nil _))))) ?_ ?_
  · exact ⟨by omega, rfl, oO, hs, X⟩
  clear hs oO
  clear X
  rintro ⟨k, n1, A1, c1⟩ wr ⟨hk0, hn1, oO, hs, X⟩
  refine c_seq ?_
  refine c_seqR ?_
  refine ops_cons rfl (ow_move rfl ?_)
  refine ops_cons rfl (ow_move rfl ?_)
  refine ops_cons rfl (ow_len Try.underlying22 rfl ?_)
  refine ops_cons rfl (ow_lss2 rfl rfl (fun hk => ?_) (fun hk => ?_))
  obtain ⟨x, hx, dx⟩ := drop_at' hk
  have hxb := u8v hb hx
  have hn2 := bitsL_len (xs.take k)
  rw [List.length_take] at hn2
  refine ops_nil ?_
  refine c_true rfl ?_
  refine c_skip ?_
  refine tq_n ?_
  refine c_seq ?_
  refine c_block ?_
  refine c_seqR ?_
  refine ops_cons rfl (ow_assign rfl ?_)
  refine ops_nil ?_
  refine c_block ?_
  refine c_loop (G := Nat × Int × Nat × Option Addr × Nat) (fun ⟨j, z, n2, A2, c2⟩ => [(0, .slice A xs.length c), (2, .slice none 0 0), (4, .int .i64 (k : Nat)), (7, .int .i64 (k : Nat)), (8, .slice A xs.length c), (9, .int .i64 (xs.length : Nat)), (3, .slice A2 n2 c2), (5, .int .i64 z)]) (fun ⟨j, z, n2, A2, c2⟩ wr => j ≤ 8 ∧ z = 7 - (j : Int) ∧ n2 = n1 + j ∧ Own wr w.heap.size 2 1 A2 n2 c2 (((bitsL (xs.take k)) ++ bitP x j).flatMap eI) ∧ Sl B wr A (xs.flatMap eI) ∧ Ext w wr) (fun ⟨j, z, n2, A2, c2⟩ => 8 - j) (0, 7, n1, A1, c1) (.cons rfl (.cons rfl (.cons rfl (.cons rfl (.cons rfl (.cons rfl (.cons rfl (.cons rfl (.nil _))))))))) ?_ ?_
  · exact ⟨by omega, (by omega), rfl, (oO.to (by simp [bitP])), hs, X⟩
  clear oO hs
  clear X
  rintro ⟨j, z, n2, A2, c2⟩ wr ⟨hj0, hz, hn3, oP, hs, X⟩
  refine c_seq ?_
  refine c_seqR ?_
  refine ops_cons rfl (ow_move rfl ?_)
  refine ops_cons rfl (ow_geq2 rfl rfl (fun hj => ?_) (fun hj => ?_))
  refine ops_nil ?_
  refine c_true rfl ?_
  refine c_skip ?_
  refine tq_n ?_
  refine c_seq ?_
  refine c_block ?_
  refine c_region ?_
  refine ops_cons rfl (ow_move rfl ?_)
  refine ops_cons rfl (ow_move rfl ?_)
  refine ops_cons rfl (ow_move rfl ?_)
  refine ops_cons rfl (ow_indexT hs eI_len rfl el22 rfl rfl rfl hx rfl ?_)
  refine ops_cons rfl (ow_loadT hs eI_len hx ti2 rfl rfl rfl ?_)
  refine ops_cons rfl (ow_move rfl ?_)
  refine ops_cons rfl (ow_conv Try.underlying3 Try.underlying104 rfl (wuz (by omega)) ?_)
  refine ops_cons rfl (ow_shr rfl rfl (by omega) (shr_z (j := 7 - j) (by omega) hxb.1 (by omega)) ?_)
  refine ops_cons rfl (ow_and rfl rfl (bit_shr (by omega) (by omega)) ?_)
  refine ops_cons rfl (ow_buildSlice el22 ti2 rfl rfl rfl rfl rfl ?_)
  intro g3 w5 eg3 oS bbg3 x4 zg3
  replace oS := Own.low oS X.size
  replace oP := oP.ext x4
  replace hs := hs.ext x4
  replace X := Ext.trans X x4; clear x4
  refine ops_cons rfl (ow_append (ts := #[]) oP X.size oS.sl rfl (one_ints [bitI x (7 - j)]) el22 ti2 rfl rfl rfl rfl (by omega) (by omega) ?_)
  intro AoN coN w7 oN hg6
  replace hs := hs.grown hg6 (fun g hg => Nat.le_trans Bhs (Own.lt oP hg).1)
  replace X := X.grown hg6 X.size (fun g hg => (Own.lt oP hg).1)
  clear hg6
  refine ops_cons rfl (ow_assign rfl ?_)
  refine ops_nil ?_
  refine bq_n ?_
  refine tq_n ?_
  refine c_region ?_
  refine ops_cons rfl (ow_move rfl ?_)
  refine ops_cons rfl (ow_sub rfl rfl (w64 (by omega)) ?_)
  refine ops_cons rfl (ow_assign rfl ?_)
  refine ops_nil ?_
  refine tq_n ⟨(j + 1, z - 1, n2 + 1, AoN, coN), (.cons rfl (.cons rfl (.cons rfl (.cons rfl (.cons rfl (.cons rfl (.cons rfl (.cons rfl (.nil _))))))))), ?_, ?_⟩
  · exact ⟨by omega, (by omega), (by omega), (oN.to (by rw [bitP_step, ← List.append_assoc]; exact Eq.symm (by rw [List.flatMap_append]; rfl))), hs, X⟩
  · first | omega | (dsimp only; omega)
  refine ops_nil ?_
  refine c_false rfl ?_
  refine c_exit ?_
  refine tq_e ?_
  refine tq_e ?_
  refine bq_e ?_
  refine bq_n ?_
  refine tq_n ?_
  refine c_region ?_
  refine ops_cons rfl (ow_move rfl ?_)
  refine ops_cons rfl (ow_add rfl rfl (w64 (by omega)) ?_)
  refine ops_cons rfl (ow_assign rfl ?_)
  refine ops_nil ?_
  refine tq_n ⟨(k + 1, n2, A2, c2), (.cons rfl (.cons rfl (.cons rfl (.cons rfl (.nil _))))), ?_, ?_⟩
  · exact ⟨by omega, (by rw [bitsL_step hx, List.length_append, bitP_len]; omega), (oP.to (by rw [bitsL_step hx, show j = 8 by omega])), hs, X⟩
  · first | omega | (dsimp only; omega)
  refine ops_nil ?_
  refine c_false rfl ?_
  refine c_exit ?_
  refine tq_e ?_
  refine tq_e ?_
  refine bq_e ?_
  refine tq_n ?_
  refine c_seqR ?_
  refine ops_cons rfl (ow_move rfl ?_)
  refine ops_cons rfl (ow_assign rfl ?_)
  refine ops_nil ?_
  refine c_ret ?_
  refine fin_ret1 rfl rfl ?_
  · skip
    rw [show k = xs.length by omega, List.take_length] at oO hn1
    rw [← hn1]; exact ⟨A1, c1, rfl, oO, X⟩

theorem iStdCrc_c  (w : World)  :
    Calls Try.prog 96 #[] w (Ret fun v w' => v = .agg #[.int .i64 24, .int .i64 6122955] ∧ Ext w w') := by
  have X := Ext.refl w
  refine calls_of (args := []) Try.func96 Try.ntmps96 rfl rfl ?_
  refine c_seqR ?_
  refine ops_cons rfl (ow_alloc ti116 ?_)
  intro g0 w2 eg0 b0 x1 zg0
  have lg0 : w.heap.size ≤ g0 := Nat.le_trans X.size (Nat.le_of_eq eg0.symm)
  replace X := Ext.trans X x1; clear x1
  refine ops_nil ?_
  refine c_seqR ?_
  refine ops_cons rfl (ow_buildP pl116 ti116 rfl rfl ?_)
  refine ops_cons rfl (ow_storeB b0 ti116 rfl rfl rfl rfl rfl rfl ?_)
  intro w4 b1 hg3 z5
  replace X := X.grown hg3 X.size (by intro g hg; injection hg; omega)
  clear hg3 b0
  refine ops_nil ?_
  refine c_ret ?_
  refine fin_cell1 rfl rfl b1 ti116 rfl ?_
  exact ⟨by rfl, X⟩

theorem sStdCrc_c  (w : World)  :
    Calls Try.prog 93 #[] w (Ret fun v w' => v = .agg #[.int .i64 24, .int .i64 6122955] ∧ Ext w w') := by
  have X := Ext.refl w
  refine calls_of (args := []) Try.func93 Try.ntmps93 rfl rfl ?_
  refine c_seqR ?_
  refine ops_cons rfl (ow_alloc ti116 ?_)
  intro g0 w2 eg0 b0 x1 zg0
  have lg0 : w.heap.size ≤ g0 := Nat.le_trans X.size (Nat.le_of_eq eg0.symm)
  replace X := Ext.trans X x1; clear x1
  refine ops_nil ?_
  refine c_seqR ?_
  refine ops_cons rfl (ow_buildP pl116 ti116 rfl rfl ?_)
  refine ops_cons rfl (ow_storeB b0 ti116 rfl rfl rfl rfl rfl rfl ?_)
  intro w4 b1 hg3 z5
  replace X := X.grown hg3 X.size (by intro g hg; injection hg; omega)
  clear hg3 b0
  refine ops_nil ?_
  refine c_ret ?_
  refine fin_cell1 rfl rfl b1 ti116 rfl ?_
  exact ⟨by rfl, X⟩

theorem feed_c (A : Option Addr) (B c : Nat) (xs : List Int) (r : Int) (w : World) (hs : Sl B w A (xs.flatMap eI)) (hl : xs.length ≤ 1048576) (hr : 0 ≤ r ∧ r < 16777216) (hb : ∀ b ∈ xs, 0 ≤ b ∧ b ≤ 1) :
    Calls Try.prog 97 #[.agg #[.int .i64 24, .int .i64 6122955], .int .i64 r, .slice A xs.length c] w (Ret fun v w' => v = .int .i64 (crcF r xs) ∧ Ext w w') := by
  have Bhs := hs.1
  have X := Ext.refl w
  refine calls_of (args := [.agg #[.int .i64 24, .int .i64 6122955], .int .i64 r, .slice A xs.length c]) Try.func97 Try.ntmps97 rfl rfl ?_
  refine c_seqR ?_
  refine ops_cons rfl (ow_box rfl rfl ?_)
  intro gC w2 egC bC x1 zgC
  have lgC : w.heap.size ≤ gC := Nat.le_trans X.size (Nat.le_of_eq egC.symm)
  have pgChs := Nat.le_trans hs.1 (Nat.le_of_eq egC.symm)
  replace hs := hs.ext x1
  replace X := Ext.trans X x1; clear x1
  refine ops_cons rfl (ow_assign rfl ?_)
  refine ops_nil ?_
  refine c_seq ?_
  refine c_seqR ?_
  refine ops_cons rfl (ow_move rfl ?_)
  refine ops_cons rfl (ow_len Try.underlying22 rfl ?_)
  refine ops_cons rfl (ow_move rfl ?_)
  refine ops_nil ?_
  refine c_block ?_
  refine c_loop (G := Nat × Int) (fun ⟨k, r1⟩ => [(3, .pointer (some ⟨gC, 0, none⟩)), (6, .int .i64 0), (10, .slice A xs.length c), (11, .int .i64 (xs.length : Nat)), (1, .int .i64 r1), (12, .int .i64 (k : Nat))]) (fun ⟨k, r1⟩ wr => k ≤ xs.length ∧ r1 = (crcF r (xs.take k)) ∧ Sl B wr A (xs.flatMap eI) ∧ Blk wr gC 116 [.int .i64 24, .int .i64 6122955] ∧ Ext w wr) (fun ⟨k, r1⟩ => xs.length - k) (0, r) (.cons rfl (.cons rfl (.cons rfl (.cons rfl (.cons rfl (.cons rfl (.nil _))))))) ?_ ?_
  · exact ⟨by omega, rfl, hs, bC, X⟩
  clear hs bC
  clear X
  rintro ⟨k, r1⟩ wr ⟨hk0, hr1, hs, bC, X⟩
  refine c_seqR ?_
  refine ops_cons rfl (ow_lss2 rfl rfl (fun hk => ?_) (fun hk => ?_))
  obtain ⟨x, hx, dx⟩ := drop_at' hk
  have hri := crcF_in (xs.take k) hr
  rw [← hr1] at hri
  have hxb := hb x (List.mem_of_getElem? hx)
  refine ops_nil ?_
  refine c_seq ?_
  refine c_true rfl ?_
  refine c_skip ?_
  refine tq_n ?_
  refine c_seq ?_
  refine c_block ?_
  refine c_seqR ?_
  refine ops_cons rfl (ow_indexT hs eI_len rfl el22 rfl rfl rfl hx rfl ?_)
  refine ops_cons rfl (ow_loadT hs eI_len hx ti2 rfl rfl rfl ?_)
  refine ops_cons rfl (ow_assign rfl ?_)
  refine ops_nil ?_
  refine c_seqR ?_
  refine ops_cons rfl (ow_move rfl ?_)
  refine ops_cons rfl (ow_move rfl ?_)
  refine ops_cons rfl (ow_fieldAddrB off116_0 rfl rfl ?_)
  refine ops_cons rfl (ow_loadB bC ti2 rfl rfl ?_)
  refine ops_cons rfl (ow_sub rfl rfl (show IntKind.i64.wrap (24 - 1) = 23 by decide) ?_)
  refine ops_cons rfl (ow_shr rfl rfl (by omega) (shrP 8388608 hri.1 (by omega) rfl) ?_)
  refine ops_cons rfl (ow_xor rfl rfl (xor01 (by omega) (by omega)) ?_)
  refine ops_cons rfl (ow_assign rfl ?_)
  refine ops_nil ?_
  refine c_seqR ?_
  refine ops_cons rfl (ow_move rfl ?_)
  refine ops_cons rfl (ow_shl rfl rfl (by omega) (shl1 (by omega)) ?_)
  refine ops_cons rfl (ow_fieldAddrB off116_0 rfl rfl ?_)
  refine ops_cons rfl (ow_loadB bC ti2 rfl rfl ?_)
  refine ops_cons rfl (ow_shl rfl rfl (by omega) (show IntKind.i64.wrap (1 * 2 ^ (min ((24 : Int).toNat) IntKind.i64.bits)) = 16777216 by decide) ?_)
  refine ops_cons rfl (ow_sub rfl rfl (show IntKind.i64.wrap (16777216 - 1) = 16777215 by decide) ?_)
  refine ops_cons rfl (ow_and rfl rfl (and24 (by omega)) ?_)
  refine ops_cons rfl (ow_assign rfl ?_)
  refine ops_nil ?_
  refine c_seqR ?_
  refine ops_cons rfl (ow_move rfl ?_)
  refine ops_cons rfl (ow_eql2 rfl rfl (fun ht => ?_) (fun ht => ?_))
  refine ops_nil ?_
  refine c_true rfl ?_
  refine c_region ?_
  refine ops_cons rfl (ow_move rfl ?_)
  refine ops_cons rfl (ow_fieldAddrB off116_1 rfl rfl ?_)
  refine ops_cons rfl (ow_loadB bC ti2 rfl rfl ?_)
  refine ops_cons rfl (ow_xor rfl rfl (xorC_eq (by omega)) ?_)
  refine ops_cons rfl (ow_assign rfl ?_)
  refine ops_nil ?_
  refine bq_n ?_
  refine tq_n ?_
  refine c_region ?_
  refine ops_cons rfl (ow_add rfl rfl (w64 (by omega)) ?_)
  refine ops_cons rfl (ow_move rfl ?_)
  refine ops_nil ?_
  refine tq_n ⟨(k + 1, xorC (r1 * 2 % 16777216)), (.cons rfl (.cons rfl (.cons rfl (.cons rfl (.cons rfl (.cons rfl (.nil _))))))), ?_, ?_⟩
  · exact ⟨by omega, (by rw [crcF_step hx, ← hr1, crc_eq hri, if_pos ht]), hs, bC, X⟩
  · first | omega | (dsimp only; omega)
  refine ops_nil ?_
  refine c_false rfl ?_
  refine c_skip ?_
  refine bq_n ?_
  refine tq_n ?_
  refine c_region ?_
  refine ops_cons rfl (ow_add rfl rfl (w64 (by omega)) ?_)
  refine ops_cons rfl (ow_move rfl ?_)
  refine ops_nil ?_
  refine tq_n ⟨(k + 1, r1 * 2 % 16777216), (.cons rfl (.cons rfl (.cons rfl (.cons rfl (.cons rfl (.cons rfl (.nil _))))))), ?_, ?_⟩
  · exact ⟨by omega, (by rw [crcF_step hx, ← hr1, crc_eq hri, if_neg ht]), hs, bC, X⟩
  · first | omega | (dsimp only; omega)
  refine ops_nil ?_
  refine c_seq ?_
  refine c_false rfl ?_
  refine c_exit ?_
  refine tq_e ?_
  refine tq_e ?_
  refine bq_e ?_
  refine tq_n ?_
  refine c_seqR ?_
  refine ops_cons rfl (ow_move rfl ?_)
  refine ops_cons rfl (ow_assign rfl ?_)
  refine ops_nil ?_
  refine c_ret ?_
  refine fin_ret1 rfl rfl ?_
  · skip
    refine ⟨congrArg (Value.int .i64) ?_, X⟩
    rw [hr1, show k = xs.length by omega, List.take_length]

theorem l02Feed_c (A : Option Addr) (B c : Nat) (xs : List Int) (r : Int) (w : World) (hs : Sl B w A (xs.flatMap eI)) (hl : xs.length ≤ 1048576) (hr : 0 ≤ r ∧ r < 16777216) (hb : ∀ b ∈ xs, 0 ≤ b ∧ b ≤ 1) :
    Calls Try.prog 92 #[.agg #[.int .i64 24, .int .i64 6122955], .int .i64 r, .slice A xs.length c] w (Ret fun v w' => v = .int .i64 (crcF r xs) ∧ Ext w w') := by
  have Bhs := hs.1
  have X := Ext.refl w
  refine calls_of (args := [.agg #[.int .i64 24, .int .i64 6122955], .int .i64 r, .slice A xs.length c]) Try.func92 Try.ntmps92 rfl rfl ?_
  refine c_seqR ?_
  refine ops_cons rfl (ow_box rfl rfl ?_)
  intro gC w2 egC bC x1 zgC
  have lgC : w.heap.size ≤ gC := Nat.le_trans X.size (Nat.le_of_eq egC.symm)
  have pgChs := Nat.le_trans hs.1 (Nat.le_of_eq egC.symm)
  replace hs := hs.ext x1
  replace X := Ext.trans X x1; clear x1
  refine ops_cons rfl (ow_assign rfl ?_)
  refine ops_nil ?_
  refine c_seqR ?_
  refine ops_cons rfl (ow_fieldAddrB off116_0 rfl rfl ?_)
  refine ops_cons rfl (ow_loadB bC ti2 rfl rfl ?_)
  refine ops_cons rfl (ow_sub rfl rfl (show IntKind.i64.wrap (24 - 1) = 23 by decide) ?_)
  refine ops_cons rfl (ow_conv Try.underlying2 Try.underlying104 rfl (show IntKind.u64.wrap 23 = 23 by decide) ?_)
  refine ops_cons rfl (ow_shl rfl rfl (by omega) (show IntKind.i64.wrap (1 * 2 ^ (min ((23 : Int).toNat) IntKind.i64.bits)) = 8388608 by decide) ?_)
  refine ops_cons rfl (ow_assign rfl ?_)
  refine ops_nil ?_
  refine c_seq ?_
  refine c_seqR ?_
  refine ops_cons rfl (ow_assign rfl ?_)
  refine ops_nil ?_
  refine c_block ?_
  refine c_loop (G := Nat × Int) (fun ⟨k, r1⟩ => [(2, .slice A xs.length c), (3, .pointer (some ⟨gC, 0, none⟩)), (6, .int .i64 0), (7, .int .i64 8388608), (1, .int .i64 r1), (8, .int .i64 (k : Nat))]) (fun ⟨k, r1⟩ wr => k ≤ xs.length ∧ r1 = (crcF r (xs.take k)) ∧ Sl B wr A (xs.flatMap eI) ∧ Blk wr gC 116 [.int .i64 24, .int .i64 6122955] ∧ Ext w wr) (fun ⟨k, r1⟩ => xs.length - k) (0, r) (.cons rfl (.cons rfl (.cons rfl (.cons rfl (.cons rfl (.cons rfl (.nil _))))))) ?_ ?_
  · exact ⟨by omega, rfl, hs, bC, X⟩
  clear hs bC
  clear X
  rintro ⟨k, r1⟩ wr ⟨hk0, hr1, hs, bC, X⟩
  refine c_seq ?_
  refine c_seqR ?_
  refine ops_cons rfl (ow_move rfl ?_)
  refine ops_cons rfl (ow_move rfl ?_)
  refine ops_cons rfl (ow_len Try.underlying22 rfl ?_)
  refine ops_cons rfl (ow_lss2 rfl rfl (fun hk => ?_) (fun hk => ?_))
  obtain ⟨x, hx, dx⟩ := drop_at' hk
  have hri := crcF_in (xs.take k) hr
  rw [← hr1] at hri
  have hxb := hb x (List.mem_of_getElem? hx)
  refine ops_nil ?_
  refine c_true rfl ?_
  refine c_skip ?_
  refine tq_n ?_
  refine c_seq ?_
  refine c_block ?_
  refine c_seqD [false, false, false, false, false, false, false, false, false] mixed (by kernel_rfl) ?_
  refine f_q rfl (fun wq sq => ow_move rfl ⟨rfl, Ext.refl _⟩) ?_
  refine f_q rfl (fun wq sq => ow_move rfl ⟨rfl, Ext.refl _⟩) ?_
  refine f_q rfl (fun wq sq => ow_quo rfl rfl (by omega) (q64 (by omega)) ⟨rfl, Ext.refl _⟩) ?_
  refine f_q rfl (fun wq sq => ow_move rfl ⟨rfl, Ext.refl _⟩) ?_
  refine f_q rfl (fun wq sq => ow_move rfl ⟨rfl, Ext.refl _⟩) ?_
  refine f_q rfl (fun wq sq => ow_indexT (hs.ext sq) eI_len rfl el22 rfl rfl rfl hx rfl ⟨rfl, Ext.refl _⟩) ?_
  refine f_q rfl (fun wq sq => ow_loadT (hs.ext sq) eI_len hx ti2 rfl rfl rfl ⟨rfl, Ext.refl _⟩) ?_
  refine f_q rfl (fun wq sq => ow_xor rfl rfl ((xor01 (by omega) (by omega)).trans (show _ = (x + r1 / 8388608) % 2 by rw [Int.add_comm])) ⟨rfl, Ext.refl _⟩) ?_
  refine f_q rfl (fun wq sq => ow_assign rfl ⟨rfl, Ext.refl _⟩) ?_
  refine f_nil (fun w3 sq => ?_)
  have xq := sq
  replace hs := hs.ext xq
  replace bC := bC.ext xq
  replace X := Ext.trans X xq; clear xq sq
  refine ops_nil ?_
  refine c_seqR ?_
  refine ops_cons rfl (ow_move rfl ?_)
  refine ops_cons rfl (ow_move rfl ?_)
  refine ops_cons rfl (ow_rem rfl rfl (by omega) (m64 (by omega)) ?_)
  refine ops_cons rfl (ow_mul rfl rfl (show IntKind.i64.wrap _ = r1 * 2 % 16777216 from (w64 (by omega)).trans (by omega)) ?_)
  refine ops_cons rfl (ow_assign rfl ?_)
  refine ops_nil ?_
  refine c_seqR ?_
  refine ops_cons rfl (ow_move rfl ?_)
  refine ops_cons rfl (ow_eql2 rfl rfl (fun ht => ?_) (fun ht => ?_))
  refine ops_nil ?_
  refine c_true rfl ?_
  refine c_region ?_
  refine ops_cons rfl (ow_move rfl ?_)
  refine ops_cons rfl (ow_fieldAddrB off116_1 rfl rfl ?_)
  refine ops_cons rfl (ow_loadB bC ti2 rfl rfl ?_)
  refine ops_cons rfl (ow_xor rfl rfl (xorC_eq (by omega)) ?_)
  refine ops_cons rfl (ow_assign rfl ?_)
  refine ops_nil ?_
  refine bq_n ?_
  refine tq_n ?_
  refine c_region ?_
  refine ops_cons rfl (ow_move rfl ?_)
  refine ops_cons rfl (ow_add rfl rfl (w64 (by omega)) ?_)
  refine ops_cons rfl (ow_assign rfl ?_)
  refine ops_nil ?_
  refine tq_n ⟨(k + 1, xorC (r1 * 2 % 16777216)), (.cons rfl (.cons rfl (.cons rfl (.cons rfl (.cons rfl (.cons rfl (.nil _))))))), ?_, ?_⟩
  · exact ⟨by omega, (by rw [crcF_step hx, ← hr1, crc_eq hri, if_pos ht]), hs, bC, X⟩
  · first | omega | (dsimp only; omega)
  refine ops_nil ?_
  refine c_false rfl ?_
  refine c_skip ?_
  refine bq_n ?_
  refine tq_n ?_
  refine c_region ?_
  refine ops_cons rfl (ow_move rfl ?_)
  refine ops_cons rfl (ow_add rfl rfl (w64 (by omega)) ?_)
  refine ops_cons rfl (ow_assign rfl ?_)
  refine ops_nil ?_
  refine tq_n ⟨(k + 1, r1 * 2 % 16777216), (.cons rfl (.cons rfl (.cons rfl (.cons rfl (.cons rfl (.cons rfl (.nil _))))))), ?_, ?_⟩
  · exact ⟨by omega, (by rw [crcF_step hx, ← hr1, crc_eq hri, if_neg ht]), hs, bC, X⟩
  · first | omega | (dsimp only; omega)
  refine ops_nil ?_
  refine c_false rfl ?_
  refine c_exit ?_
  refine tq_e ?_
  refine tq_e ?_
  refine bq_e ?_
  refine tq_n ?_
  refine c_seqR ?_
  refine ops_cons rfl (ow_move rfl ?_)
  refine ops_cons rfl (ow_assign rfl ?_)
  refine ops_nil ?_
  refine c_ret ?_
  refine fin_ret1 rfl rfl ?_
  · skip
    refine ⟨congrArg (Value.int .i64) ?_, X⟩
    rw [hr1, show k = xs.length by omega, List.take_length]
end Go.Proofs.Ytdoibplhbdkapaa
