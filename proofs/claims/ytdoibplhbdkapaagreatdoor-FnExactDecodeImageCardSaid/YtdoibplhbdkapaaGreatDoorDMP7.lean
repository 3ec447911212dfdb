/- Texts of the seat that a law needs, put together. No condition. -/
import Derived.Test.YtdoibplhbdkapaaGreatDoorDMP6
import Derived.Lib.SlTrimSet
import Derived.Test.YtdoibplhbdkapaaGreatDoorDMP5
namespace Go.Proofs.YtdoibplhbdkapaaGreatDoor
open Go.RowKit
set_option linter.unusedVariables false
set_option linter.unusedSimpArgs false
set_option maxRecDepth 20000
theorem rises_len {n : Int} : ∀ (l : List Int) (y : Int), risesFrom n (some y) l = true → (l.length : Int) ≤ max 0 (n - 1 - y)
  | [], y, _ => by simp; omega
  | x :: r, y, h => by
    simp only [risesFrom, Bool.and_eq_true, decide_eq_true_eq] at h
    have h1 := inB_iff.1 h.1.1
    have h2 := rises_len r x h.2
    simp only [List.length_cons]; omega
theorem risesB_len {n : Int} {l : List Int} (h : risesB l n = true) : (l.length : Int) ≤ max 0 n := by
  unfold risesB at h
  cases l with
  | nil => simp; omega
  | cons x r =>
    simp only [risesFrom, Bool.and_eq_true] at h
    have h1 := inB_iff.1 h.1
    have h2 := rises_len r x h.2
    simp only [List.length_cons]; omega
end Go.Proofs.YtdoibplhbdkapaaGreatDoor
namespace Go.Proofs.YtdoibplhbdkapaaGreatDoor
open Go.RowKit
set_option linter.unusedVariables false
set_option linter.unusedSimpArgs false

structure Win (lo hi : Nat) (w w' : World) : Prop where
  os : w'.os = w.os
  tape : w'.tape = w.tape
  output : w'.output = w.output
  size : w.heap.size ≤ w'.heap.size
  block : ∀ k, k < w.heap.size → (k < lo ∨ hi ≤ k) → w'.heap[k]? = w.heap[k]?
section
variable {lo hi lo' n c s : Nat} {w w' w'' : World} {t : TypeId} {A : Option Addr} {cs : List Value} {xs : List ModeI}
theorem Win.refl (lo hi : Nat) (w : World) : Win lo hi w w := ⟨rfl, rfl, rfl, Nat.le_refl _, fun _ _ _ => rfl⟩
theorem Win.grown {row : Option Nat} (h : Win lo hi w w') (hg : w'.grownBy w'' row) (hr : ∀ g, row = some g → lo ≤ g ∧ g < hi) : Win lo hi w w'' :=
  ⟨hg.os.trans h.os, hg.tape.trans h.tape, hg.output.trans h.output, Nat.le_trans h.size hg.size, fun k hk ho => (hg.block k (Nat.lt_of_lt_of_le hk h.size) (fun e => by have := hr k e.symm; omega)).trans (h.block k hk ho)⟩
theorem Win.below (h : Win lo hi w w') (hlo : lo ≤ w.heap.size) : Below lo w w' := ⟨h.os, h.tape, h.output, h.size, fun k hk => h.block k (Nat.lt_of_lt_of_le hk hlo) (.inl hk)⟩
theorem Own.win (h : Own w lo' t s A n c cs) (x : Win lo hi w w') (hl : hi ≤ lo') : Own w' lo' t s A n c cs := by
  refine ⟨h.1, ?_⟩
  rcases h.2 with h2 | ⟨g, cap, cur, hv, hlo, hh, r⟩
  · exact .inl h2
  · exact .inr ⟨g, cap, cur, hv, hlo, (x.block g (Array.getElem?_eq_some_iff.1 hh).1 (.inr (by omega))).trans hh, r⟩

/-- the block of an entry's list -/
def ModeI.blk (x : ModeI) : Option Nat := (Value.slice x.A x.m.next.length x.c).ownBlock
/-- the lists of the entries lie in different blocks -/
def Disj (xs : List ModeI) : Prop := ∀ (i j : Nat) (x y : ModeI), xs[i]? = some x → xs[j]? = some y → i ≠ j → ∀ g, x.blk = some g → y.blk ≠ some g
theorem Disj.nil_ : Disj [] := fun i j x y h => by simp at h
theorem Disj.snoc {x : ModeI} (h : Disj xs) (hb : ∀ y ∈ xs, ∀ g, y.blk = some g → x.blk ≠ some g) : Disj (xs ++ [x]) := fun i j a b hi hj hij g ha hb' => by
  rw [List.getElem?_append] at hi hj
  split at hi <;> split at hj
  · exact h i j a b hi hj hij g ha hb'
  · rename_i h1 h2
    have h3 : j - xs.length = 0 := by
      rcases Nat.eq_zero_or_pos (j - xs.length) with h | h
      · exact h
      · rw [List.getElem?_eq_none (by simp only [List.length_cons, List.length_nil]; omega)] at hj; cases hj
    rw [h3] at hj; simp at hj; subst hj
    exact hb a (List.mem_of_getElem? hi) g ha hb'
  · rename_i h1 h2
    have h3 : i - xs.length = 0 := by
      rcases Nat.eq_zero_or_pos (i - xs.length) with h | h
      · exact h
      · rw [List.getElem?_eq_none (by simp only [List.length_cons, List.length_nil]; omega)] at hi; cases hi
    rw [h3] at hi; simp at hi; subst hi
    exact hb b (List.mem_of_getElem? hj) g hb' ha
  · rename_i h1 h2
    have h3 : i - xs.length = 0 := by
      rcases Nat.eq_zero_or_pos (i - xs.length) with h | h
      · exact h
      · rw [List.getElem?_eq_none (by simp only [List.length_cons, List.length_nil]; omega)] at hi; cases hi
    have h4 : j - xs.length = 0 := by
      rcases Nat.eq_zero_or_pos (j - xs.length) with h | h
      · exact h
      · rw [List.getElem?_eq_none (by simp only [List.length_cons, List.length_nil]; omega)] at hj; cases hj
    omega

/-- the lists from place k on are rows of the call's own, those before have been given away -/
def NFrom (w : World) (lo : Nat) (t : TypeId) (k : Nat) (xs : List ModeI) : Prop := ∀ i x, k ≤ i → xs[i]? = some x → Own w lo t 1 x.A x.m.next.length x.c (x.m.next.flatMap eI)
theorem NFrom.of (h : NOwn w lo t xs) (k : Nat) : NFrom w lo t k xs := fun i x _ hx => (h x (List.mem_of_getElem? hx)).1
theorem NFrom.grownO {t' : TypeId} {k : Nat} (h : NFrom w lo t k xs) (o : Own w lo' t' s A n c cs) (hg : w.grownBy w' (Value.slice A n c).ownBlock) (ht : t ≠ t') : NFrom w' lo t k xs := fun i x hi hx => (h i x hi hx).grown hg (Own.neO (h i x hi hx) o ht)
theorem NFrom.next {k : Nat} {x : ModeI} (h : NFrom w lo t k xs) (hd : Disj xs) (hx : xs[k]? = some x) (hg : w.grownBy w' x.blk) : NFrom w' lo t (k + 1) xs := fun i y hi hy =>
  (h i y (by omega) hy).grown hg fun g hgx hgy => hd k i x y hx hy (by omega) g hgx hgy
end
end Go.Proofs.YtdoibplhbdkapaaGreatDoor
namespace Go.Proofs.YtdoibplhbdkapaaGreatDoor
open Go.RowKit
set_option linter.unusedVariables false
set_option linter.unusedSimpArgs false

structure NodeI where
  id : Int
  name : ByteArray
  drift : Int
  passive : Bool
def NodeI.cells (n : NodeI) : List Value := [.int .i64 n.id, .string n.name, .int .i64 n.drift, .bool n.passive]
theorem NodeI.len (n : NodeI) : n.cells.length = 4 := rfl
structure StateI where
  time : Int
  mode : Int
  round : Int
  slot : Int
  members : Int
def StateI.cells (s : StateI) : List Value := [.int .i64 s.time, .int .i64 s.mode, .int .i64 s.round, .int .i64 s.slot, .int .i64 s.members]
theorem StateI.len (s : StateI) : s.cells.length = 5 := rfl
structure MedlD where
  id : Int
  ns : List NodeI
  ms : List Mode
  ss : List SlotI
structure MedlI where
  id : Int
  An : Option Addr
  ns : List NodeI
  cn : Nat
  Am : Option Addr
  ms : List ModeI
  cm : Nat
  As : Option Addr
  ss : List SlotI
  cs : Nat
def MedlI.d (m : MedlI) : MedlD := ⟨m.id, m.ns, m.ms.map (·.m), m.ss⟩
def MedlI.cells (m : MedlI) : List Value := [.int .i64 m.id, .slice m.An m.ns.length m.cn, .slice m.Am m.ms.length m.cm, .slice m.As m.ss.length m.cs]
theorem MedlI.len (m : MedlI) : m.cells.length = 4 := rfl
/-- it can be read -/
structure Med (B : Nat) (w : World) (m : MedlI) : Prop where
  hB : B ≤ w.heap.size
  sn : Sl B w m.An (m.ns.flatMap NodeI.cells)
  sm : Sl B w m.Am (m.ms.flatMap ModeI.cells)
  sx : Nexts B w m.ms
  ss : Sl B w m.As (m.ss.flatMap SlotI.cells)
  kn : m.ns.length ≤ m.cn
section
variable {B B' : Nat} {w w' : World} {m : MedlI}
theorem Med.below (h : Med B w m) (hb : Below B w w') : Med B w' m := ⟨Nat.le_trans h.1 hb.size, h.sn.below hb, h.sm.below hb, h.sx.below hb, h.ss.below hb, h.kn⟩
theorem Med.ext (h : Med B w m) (hb : Ext w w') : Med B w' m := h.below (Below.mono hb h.1)
theorem Med.grown {row : Option Nat} (h : Med B w m) (hg : w.grownBy w' row) (hr : ∀ g, row = some g → B ≤ g) : Med B w' m := ⟨Nat.le_trans h.1 hg.size, h.sn.grown hg hr, h.sm.grown hg hr, h.sx.grown hg hr, h.ss.grown hg hr, h.kn⟩
end
/-- its lists are not too long -/
structure MedlI.small (m : MedlI) : Prop where
  ln : m.ns.length ≤ 1048576
  lm : m.ms.length ≤ 1048576
  lx : ∀ x ∈ m.ms, x.m.next.length ≤ 1048576
  ls : m.ss.length ≤ 1048576
  lz : ∀ x ∈ m.ns, x.name.size ≤ 1048576
theorem MedlI.small_of {m m' : MedlI} (e : m'.d = m.d) (h : m.small) : m'.small := by
  obtain ⟨id, An, ns, cn, Am, ms, cm, As, ss, cs⟩ := m
  obtain ⟨id', An', ns', cn', Am', ms', cm', As', ss', cs'⟩ := m'
  simp only [MedlI.d, MedlD.mk.injEq] at e
  obtain ⟨e1, e2, e3, e4⟩ := e
  obtain ⟨h1, h2, h3, h4, h5⟩ := h
  simp only at h1 h2 h3 h4 h5
  refine ⟨by simp only; rw [e2]; exact h1, ?_, ?_, by simp only; rw [e4]; exact h4, by simp only; rw [e2]; exact h5⟩
  · have := congrArg List.length e3; simp at this; simp only; omega
  · intro x hx
    have : x.m ∈ ms'.map (·.m) := List.mem_map.2 ⟨x, hx, rfl⟩
    rw [e3] at this
    obtain ⟨y, hy, e5⟩ := List.mem_map.1 this
    have := h3 y hy
    rw [e5] at this; exact this

theorem ofInt_nat (n : Nat) : BitVec.ofInt 64 (n : Int) = BitVec.ofNat 64 n := by simp
theorem bits_or {a b : Nat} (ha : a < 9223372036854775808) (hb : b < 9223372036854775808) : bitsV .or .i64 (a : Int) (b : Int) = ((a ||| b : Nat) : Int) := by
  have h1 : a ||| b < 2 ^ 63 := Nat.or_lt_two_pow (by omega) (by omega)
  have h2 : a ||| b < 2 ^ 64 := Nat.or_lt_two_pow (by omega) (by omega)
  show IntKind.i64.wrap ((BitVec.ofInt 64 (a : Int) ||| BitVec.ofInt 64 (b : Int)).toNat : Int) = _
  rw [ofInt_nat, ofInt_nat, BitVec.toNat_or, BitVec.toNat_ofNat, BitVec.toNat_ofNat, Nat.mod_eq_of_lt (by omega), Nat.mod_eq_of_lt (by omega)]
  exact w64 (by omega)
theorem bits_and {a b : Nat} (ha : a < 9223372036854775808) (hb : b < 9223372036854775808) : bitsV .and .i64 (a : Int) (b : Int) = ((a &&& b : Nat) : Int) := by
  have h1 : a &&& b ≤ a := Nat.and_le_left
  show IntKind.i64.wrap ((BitVec.ofInt 64 (a : Int) &&& BitVec.ofInt 64 (b : Int)).toNat : Int) = _
  rw [ofInt_nat, ofInt_nat, BitVec.toNat_and, BitVec.toNat_ofNat, BitVec.toNat_ofNat, Nat.mod_eq_of_lt (by omega), Nat.mod_eq_of_lt (by omega)]
  exact w64 (by omega)
theorem bits_xor {a b : Nat} (ha : a < 9223372036854775808) (hb : b < 9223372036854775808) : bitsV .xor .i64 (a : Int) (b : Int) = ((a ^^^ b : Nat) : Int) := by
  have h1 : a ^^^ b < 2 ^ 63 := Nat.xor_lt_two_pow (by omega) (by omega)
  show IntKind.i64.wrap ((BitVec.ofInt 64 (a : Int) ^^^ BitVec.ofInt 64 (b : Int)).toNat : Int) = _
  rw [ofInt_nat, ofInt_nat, BitVec.toNat_xor, BitVec.toNat_ofNat, BitVec.toNat_ofNat, Nat.mod_eq_of_lt (by omega), Nat.mod_eq_of_lt (by omega)]
  exact w64 (by omega)
/-- the bits of a that b lacks -/
def lackN (a b : Nat) : Nat := a ^^^ (a &&& b)
theorem lack_bit (a b i : Nat) : (lackN a b).testBit i = (a.testBit i && !b.testBit i) := by
  unfold lackN
  rw [Nat.testBit_xor, Nat.testBit_and]
  cases a.testBit i <;> cases b.testBit i <;> rfl
theorem bits_andNot {a b : Nat} (ha : a < 9223372036854775808) (hb : b < 9223372036854775808) : bitsV .andNot .i64 (a : Int) (b : Int) = (lackN a b : Int) := by
  have h1 : lackN a b < 2 ^ 63 := Nat.xor_lt_two_pow (by omega) (Nat.lt_of_le_of_lt Nat.and_le_left (by omega))
  show IntKind.i64.wrap ((BitVec.ofInt 64 (a : Int) &&& ~~~BitVec.ofInt 64 (b : Int)).toNat : Int) = _
  have e : (BitVec.ofInt 64 (a : Int) &&& ~~~BitVec.ofInt 64 (b : Int)).toNat = lackN a b := by
    rw [ofInt_nat, ofInt_nat]
    apply Nat.eq_of_testBit_eq
    intro i
    rw [lack_bit, BitVec.testBit_toNat]
    by_cases hi : i < 64
    · rw [BitVec.getLsbD_and, BitVec.getLsbD_not, BitVec.getLsbD_ofNat, BitVec.getLsbD_ofNat]; simp [hi]
    · have : a.testBit i = false := Nat.testBit_lt_two_pow (Nat.lt_of_lt_of_le (by omega : a < 2 ^ 64) (Nat.pow_le_pow_right (by omega) (by omega)))
      rw [this]; simp [hi]
  rw [e]
  exact w64 (by omega)
/-- node n is a member of a -/
def hasN (a : Nat) (n : Int) : Bool := a.testBit n.toNat
theorem bit_get {a : Nat} {n : Int} (ha : a < 9223372036854775808) (hn : 0 ≤ n ∧ n ≤ 31) : bitsV .and .i64 ((a : Int).fdiv (2 ^ (min n.toNat 64))) 1 = if hasN a n = true then 1 else 0 := by
  have e1 : min n.toNat 64 = n.toNat := by omega
  have e2 : (a : Int).fdiv (2 ^ n.toNat) = ((a / 2 ^ n.toNat : Nat) : Int) := by
    rw [Int.fdiv_eq_ediv_of_nonneg _ (Int.pow_nonneg (by omega))]; simp
  have h3 : a / 2 ^ n.toNat ≤ a := Nat.div_le_self _ _
  rw [e1, e2, show (1 : Int) = ((1 : Nat) : Int) from rfl, bits_and (by omega) (by omega)]
  unfold hasN
  rw [Nat.testBit, Nat.shiftRight_eq_div_pow, Nat.one_and_eq_mod_two, Nat.and_one_is_mod]
  rcases Nat.mod_two_eq_zero_or_one (a / 2 ^ n.toNat) with h | h <;> rw [h] <;> rfl
theorem bit_has {a : Nat} {n : Int} (ha : a < 9223372036854775808) (hn : 0 ≤ n ∧ n ≤ 31) : decide (bitsV .and .i64 ((a : Int).fdiv (2 ^ (min n.toNat 64))) 1 = 1) = hasN a n := by
  rw [bit_get ha hn]
  cases hasN a n <;> rfl
theorem shl_bit {n : Int} (hn : 0 ≤ n ∧ n ≤ 31) : IntKind.i64.wrap ((1 : Int) * 2 ^ (min n.toNat 64)) = ((2 ^ n.toNat : Nat) : Int) := by
  have e1 : min n.toNat 64 = n.toNat := by omega
  have h2 : 2 ^ n.toNat ≤ 2 ^ 31 := Nat.pow_le_pow_right (by omega) (by omega)
  rw [e1, Int.one_mul, show (2 : Int) ^ n.toNat = ((2 ^ n.toNat : Nat) : Int) by simp]
  generalize 2 ^ n.toNat = z at h2
  exact w64 (by omega)
theorem pow_lt {n : Int} (hn : 0 ≤ n ∧ n ≤ 31) : 2 ^ n.toNat < 4294967296 := by
  have h2 : 2 ^ n.toNat ≤ 2 ^ 31 := Nat.pow_le_pow_right (by omega) (by omega)
  omega
/-- a with node n -/
def withN (a : Nat) (n : Int) : Nat := a ||| 2 ^ n.toNat
theorem withN_lt {a : Nat} {n : Int} (ha : a < 4294967296) (hn : 0 ≤ n ∧ n ≤ 31) : withN a n < 4294967296 :=
  Nat.or_lt_two_pow (n := 32) ha (pow_lt hn)
theorem withN_bit (a : Nat) (n : Int) (i : Nat) : (withN a n).testBit i = (a.testBit i || decide (i = n.toNat)) := by
  unfold withN
  rw [Nat.testBit_or, Nat.testBit_two_pow]
  congr 1
  by_cases h : i = n.toNat
  · subst h; simp
  · rw [decide_eq_false h, decide_eq_false (fun e => h e.symm)]
theorem bits_with {a : Nat} {n : Int} (ha : a < 4294967296) (hn : 0 ≤ n ∧ n ≤ 31) : bitsV .or .i64 (a : Int) (IntKind.i64.wrap ((1 : Int) * 2 ^ (min n.toNat 64))) = (withN a n : Int) := by
  have := pow_lt hn
  rw [shl_bit hn, bits_or (by omega) (by omega)]; rfl
theorem with_has {a : Nat} {n : Int} (h : hasN a n = true) : withN a n = a := by
  apply Nat.eq_of_testBit_eq
  intro i
  rw [withN_bit]
  by_cases e : i = n.toNat
  · subst e; unfold hasN at h; rw [h]; rfl
  · simp [e]
theorem with_xor {a : Nat} {n : Int} (h : hasN a n = false) : a ^^^ 2 ^ n.toNat = withN a n := by
  apply Nat.eq_of_testBit_eq
  intro i
  rw [withN_bit, Nat.testBit_xor, Nat.testBit_two_pow]
  by_cases e : i = n.toNat
  · subst e; unfold hasN at h; rw [h]; simp
  · rw [decide_eq_false e, decide_eq_false (fun e' => e e'.symm)]; simp
theorem lack_zero {a b : Nat} : lackN a b = 0 ↔ ∀ i, a.testBit i = true → b.testBit i = true := by
  constructor
  · intro h i hi
    have := lack_bit a b i
    rw [h, hi] at this
    cases hb : b.testBit i
    · rw [hb] at this; simp at this
    · rfl
  · intro h
    apply Nat.eq_of_testBit_eq
    intro i
    rw [lack_bit, Nat.zero_testBit]
    cases ha : a.testBit i
    · rfl
    · rw [h i ha]; rfl
/-- the vector of nodes that pass, joined to a -/
def vecF {α : Type} (p : α → Bool) (f : α → Int) : Nat → List α → Nat
  | a, [] => a
  | a, x :: r => if p x = true then vecF p f (withN a (f x)) r else vecF p f a r
theorem vecF_lt {α : Type} {p : α → Bool} {f : α → Int} : ∀ (l : List α) (a : Nat), a < 4294967296 → (∀ x ∈ l, 0 ≤ f x ∧ f x ≤ 31) → vecF p f a l < 4294967296
  | [], a, h, _ => h
  | x :: r, a, h, hf => by
    rw [vecF]
    split
    · exact vecF_lt r _ (withN_lt h (hf x (by simp))) (fun y hy => hf y (by simp [hy]))
    · exact vecF_lt r _ h (fun y hy => hf y (by simp [hy]))
theorem vecF_bit {α : Type} {p : α → Bool} {f : α → Int} (i : Nat) : ∀ (l : List α) (a : Nat), (vecF p f a l).testBit i = (a.testBit i || l.any fun x => p x && decide (i = (f x).toNat))
  | [], a => by simp [vecF]
  | x :: r, a => by
    rw [vecF]
    split
    · rename_i h
      rw [vecF_bit i r, withN_bit, List.any_cons, h]; simp [Bool.or_assoc]
    · rename_i h
      rw [vecF_bit i r, List.any_cons]; simp [h]

def nameB (b : UInt8) : Bool := (decide (97 ≤ b.toNat) && decide (b.toNat ≤ 122)) || (decide (48 ≤ b.toNat) && decide (b.toNat ≤ 57))
def nameOk (s : ByteArray) : Bool := (s.data.toList.all nameB) && decide (1 ≤ s.size) && decide (s.size ≤ 6)
def nodeOk (n : NodeI) : Bool := inB n.id 0 31 && nameOk n.name && inB n.drift 0 1000
def nameIn (s : ByteArray) (l : List NodeI) : Bool := l.any fun y => decide (y.name = s)
def ntFrom : Option NodeI → List NodeI → List NodeI → Bool
  | _, _, [] => true
  | none, q, x :: r => nodeOk x && !(nameIn x.name q) && ntFrom (some x) (q ++ [x]) r
  | some y, q, x :: r => nodeOk x && decide (y.id < x.id) && !(nameIn x.name q) && ntFrom (some x) (q ++ [x]) r
def isNT (l : List NodeI) : Bool := inB l.length 1 32 && ntFrom none [] l
theorem ntFrom_all : ∀ (l : List NodeI) (p : Option NodeI) (q : List NodeI), ntFrom p q l = true → ∀ x ∈ l, nodeOk x = true
  | [], _, _, _, x, hx => by simp at hx
  | y :: r, p, q, h, x, hx => by
    have h1 : nodeOk y = true ∧ ntFrom (some y) (q ++ [y]) r = true := by
      cases p <;> simp only [ntFrom, Bool.and_eq_true] at h
      · exact ⟨h.1.1, h.2⟩
      · exact ⟨h.1.1.1, h.2⟩
    rcases List.mem_cons.1 hx with rfl | hx
    · exact h1.1
    · exact ntFrom_all r _ _ h1.2 x hx
theorem isNT_all {l : List NodeI} (h : isNT l = true) : ∀ x ∈ l, nodeOk x = true := by
  simp only [isNT, Bool.and_eq_true] at h
  exact ntFrom_all l _ _ h.2
theorem isNT_len {l : List NodeI} (h : isNT l = true) : 1 ≤ l.length ∧ l.length ≤ 32 := by
  simp only [isNT, Bool.and_eq_true] at h
  have := inB_iff.1 h.1; omega
theorem nodeOk_in {x : NodeI} (h : nodeOk x = true) : (0 ≤ x.id ∧ x.id ≤ 31) ∧ (0 ≤ x.drift ∧ x.drift ≤ 1000) ∧ nameOk x.name = true := by
  simp only [nodeOk, Bool.and_eq_true] at h
  exact ⟨inB_iff.1 h.1.1, inB_iff.1 h.2, h.1.2⟩
def actV (l : List NodeI) : Nat := vecF (fun x => !x.passive) (·.id) 0 l
theorem actV_lt {l : List NodeI} (h : isNT l = true) : actV l < 4294967296 := vecF_lt l 0 (by omega) fun x hx => (nodeOk_in (isNT_all h x hx)).1
def setOf : List UInt8 := [97, 98, 99, 100, 101, 102, 103, 104, 105, 106, 107, 108, 109, 110, 111, 112, 113, 114, 115, 116, 117, 118, 119, 120, 121, 122, 48, 49, 50, 51, 52, 53, 54, 55, 56, 57]
theorem set_name : ∀ b : UInt8, setOf.contains b = nameB b := by
  intro b
  have h : ∀ k : Fin 256, setOf.contains (UInt8.ofNat k.val) = nameB (UInt8.ofNat k.val) := by decide +kernel
  have := h ⟨b.toNat, b.toNat_lt⟩
  simpa using this
theorem dropWhile_nil {α : Type} {p : α → Bool} : ∀ (l : List α), l.dropWhile p = [] ↔ l.all p = true
  | [] => by simp
  | x :: r => by
    rw [List.dropWhile_cons]
    split
    · rename_i h; rw [dropWhile_nil r]; simp [h]
    · rename_i h; simp [h]
theorem trim_nil (l : List UInt8) : Go.Lib.trimS l setOf = [] ↔ l.all nameB = true := by
  have e : (fun x => setOf.contains x) = nameB := funext set_name
  unfold Go.Lib.trimS Go.Lib.trimLeftS Go.Lib.trimRightS
  rw [dropWhile_nil]
  show ((l.reverse.dropWhile fun x => setOf.contains x).reverse.all fun x => setOf.contains x) = true ↔ _
  rw [e]
  constructor
  · intro h
    have h2 : (l.reverse.dropWhile nameB) = [] := by
      cases h3 : l.reverse.dropWhile nameB with
      | nil => rfl
      | cons x r =>
        have h4 : nameB x = false := by
          have := List.head?_dropWhile_not nameB l.reverse
          rw [h3] at this; simpa using this
        rw [h3] at h
        simp [h4] at h
    rw [dropWhile_nil] at h2
    simpa using h2
  · intro h
    have h2 : l.reverse.dropWhile nameB = [] := (dropWhile_nil _).2 (by simpa using h)
    rw [h2]; rfl
def trimV (s : ByteArray) : ByteArray := ⟨(Go.Lib.trimS s.data.toList setOf).toArray⟩
theorem trimV_nil (s : ByteArray) : trimV s = ⟨#[]⟩ ↔ s.data.toList.all nameB = true := by
  rw [← trim_nil]
  unfold trimV
  constructor
  · intro h
    have h1 := congrArg (fun b : ByteArray => b.data.toList) h
    simpa using h1
  · intro h; rw [h]
theorem wu64 {n : Int} (h : 0 ≤ n ∧ n ≤ 18446744073709551615) : IntKind.u64.wrap n = n := by
  simp only [IntKind.wrap, IntKind.bits, IntKind.signed]
  simp
  omega
theorem nameIn_take {l : List NodeI} {s : ByteArray} {j : Nat} {y : NodeI} (hy : l[j]? = some y) (h : y.name = s) : nameIn s l = true := by
  simp only [nameIn, List.any_eq_true, decide_eq_true_eq]
  exact ⟨y, List.mem_of_getElem? hy, h⟩
theorem nt_ok0 {q r : List NodeI} {x : NodeI} (h : nodeOk x = true) (hn : nameIn x.name q = false) : ntFrom none q (x :: r) = ntFrom (some x) (q ++ [x]) r := by simp [ntFrom, h, hn]
theorem nt_ok1 {q r : List NodeI} {x y : NodeI} (h : nodeOk x = true) (ho : y.id < x.id) (hn : nameIn x.name q = false) : ntFrom (some y) q (x :: r) = ntFrom (some x) (q ++ [x]) r := by simp [ntFrom, h, hn, ho]
theorem nt_badx {p : Option NodeI} {q r : List NodeI} {x : NodeI} (h : nodeOk x = false) : ntFrom p q (x :: r) = false := by cases p <;> simp [ntFrom, h]
theorem nt_badn {p : Option NodeI} {q r : List NodeI} {x : NodeI} (h : nameIn x.name q = true) : ntFrom p q (x :: r) = false := by cases p <;> simp [ntFrom, h]
theorem nt_bado {q r : List NodeI} {x y : NodeI} (h : ¬ y.id < x.id) : ntFrom (some y) q (x :: r) = false := by simp [ntFrom, h]
theorem nt_nil {p : Option NodeI} {q : List NodeI} : ntFrom p q [] = true := by cases p <;> rfl
end Go.Proofs.YtdoibplhbdkapaaGreatDoor
namespace Go.Proofs.YtdoibplhbdkapaaGreatDoor
open Go.RowKit
set_option linter.unusedVariables false
set_option linter.unusedSimpArgs false

def SlotI.key (x : SlotI) : Int × Int × Int := (x.mode, x.round, x.slot)
def keyS (mode : Int) (r n : Nat) : List (Int × Int × Int) := (List.range n).map fun (s : Nat) => (mode, (r : Int), (s : Int))
def keyM (mode : Int) (x : Mode) : List (Int × Int × Int) := (List.range x.rounds.toNat).flatMap fun r => keyS mode r x.slots.toNat
def keysM (i : Int) : List Mode → List (Int × Int × Int)
  | [] => []
  | x :: r => keyM i x ++ keysM (i + 1) r
def complete (d : MedlD) : Bool := decide (d.ss.map SlotI.key = keysM 0 d.ms)
def hitK (ss : List SlotI) (k : Int × Int × Int) : Bool := decide (0 ≤ findS (hitS k.1 k.2.1 k.2.2) 0 ss)
def completeS (ss : List SlotI) (keys : List (Int × Int × Int)) (n : Int) : Bool := keys.all (hitK ss) && decide (n + keys.length = ss.length)

theorem range_drop {n k : Nat} (h : k < n) : (List.range n).drop k = k :: (List.range n).drop (k + 1) := by
  rw [List.drop_eq_getElem_cons (by simpa using h)]; simp
theorem range_end {n k : Nat} (h : n ≤ k) : (List.range n).drop k = [] := List.drop_eq_nil_of_le (by simpa using h)
theorem flatMap_get {β : Type} {f : Nat → List β} {s : Nat} (hf : ∀ r, (f r).length = s) : ∀ (n i j : Nat), i < n → j < s → ((List.range n).flatMap f)[i * s + j]? = (f i)[j]? := by
  intro n
  induction n with
  | zero => intro i j h; omega
  | succ n ih =>
    intro i j hi hj
    have hl : ((List.range n).flatMap f).length = n * s := by
      clear ih hi hj i j
      induction n with
      | zero => simp
      | succ n ih => rw [List.range_succ, List.flatMap_append, List.length_append, ih]; simp [hf, Nat.add_mul]
    rw [List.range_succ, List.flatMap_append]
    by_cases h : i < n
    · have h2 : i * s + j < n * s := by
        have : (i + 1) * s ≤ n * s := Nat.mul_le_mul_right _ h
        rw [Nat.add_mul] at this; omega
      rw [List.getElem?_append_left (by rw [hl]; exact h2), ih i j h hj]
    · have e : i = n := by omega
      subst e
      rw [List.getElem?_append_right (by rw [hl]; omega), hl, show i * s + j - i * s = j by omega]; simp
theorem keyS_len (mode : Int) (r n : Nat) : (keyS mode r n).length = n := by simp [keyS]
theorem keyM_len (mode : Int) (x : Mode) : (keyM mode x).length = x.rounds.toNat * x.slots.toNat := by
  unfold keyM
  generalize x.rounds.toNat = n
  induction n with
  | zero => simp
  | succ n ih => rw [List.range_succ, List.flatMap_append, List.length_append, ih]; simp [keyS_len, Nat.add_mul]
theorem keyM_at {mode : Int} {x : Mode} {i : Nat} (h : i < x.rounds.toNat * x.slots.toNat) : (keyM mode x)[i]? = some (mode, ((i / x.slots.toNat : Nat) : Int), ((i % x.slots.toNat : Nat) : Int)) := by
  have hs : 0 < x.slots.toNat := by
    rcases Nat.eq_zero_or_pos x.slots.toNat with h1 | h1
    · rw [h1] at h; simp at h
    · exact h1
  have h1 := flatMap_get (f := fun r => keyS mode r x.slots.toNat) (fun r => keyS_len mode r _) x.rounds.toNat (i / x.slots.toNat) (i % x.slots.toNat) ((Nat.div_lt_iff_lt_mul hs).2 h) (Nat.mod_lt _ hs)
  rw [Nat.mul_comm, Nat.div_add_mod] at h1
  unfold keyM
  rw [h1]
  simp [keyS, List.getElem?_range (Nat.mod_lt _ hs)]
theorem keyM_drop {mode : Int} {x : Mode} {i : Nat} (h : i < x.rounds.toNat * x.slots.toNat) : (keyM mode x).drop i = (mode, ((i / x.slots.toNat : Nat) : Int), ((i % x.slots.toNat : Nat) : Int)) :: (keyM mode x).drop (i + 1) := by
  have h1 := keyM_at (mode := mode) h
  obtain ⟨h2, h3⟩ := List.getElem?_eq_some_iff.1 h1
  rw [List.drop_eq_getElem_cons h2, h3]
theorem cmpS_key {a b : SlotI} : cmpS a b = 0 ↔ a.key = b.key := by
  simp only [cmpS, cmpI, SlotI.key, Prod.mk.injEq]
  constructor
  · intro h
    repeat' split at h
    all_goals first | (exfalso; omega) | skip
    all_goals (refine ⟨by omega, by omega, by omega⟩)
  · rintro ⟨h1, h2, h3⟩
    simp [h1, h2, h3]
/-- a number that orders as entries do, where all is in range -/
def codeK (k : Int × Int × Int) : Int := k.1 * 256 + k.2.1 * 16 + k.2.2
def inK (k : Int × Int × Int) : Prop := (0 ≤ k.1 ∧ k.1 ≤ 15) ∧ (0 ≤ k.2.1 ∧ k.2.1 ≤ 7) ∧ (0 ≤ k.2.2 ∧ k.2.2 ≤ 15)
theorem codeK_inj {a b : Int × Int × Int} (ha : inK a) (hb : inK b) (h : codeK a = codeK b) : a = b := by
  obtain ⟨a1, a2, a3⟩ := a; obtain ⟨b1, b2, b3⟩ := b
  simp only [inK, codeK] at ha hb h
  simp only [Prod.mk.injEq]
  omega
theorem slotOk_key {x : SlotI} (h : slotOk x = true) : inK x.key := by
  simp only [slotOk, Bool.and_eq_true] at h
  exact ⟨inB_iff.1 h.1.1.1, inB_iff.1 h.1.1.2, inB_iff.1 h.1.2⟩
theorem cmpS_code {a b : SlotI} (ha : inK a.key) (hb : inK b.key) (h : cmpS a b < 0) : codeK a.key < codeK b.key := by
  simp only [cmpS, cmpI, SlotI.key, inK, codeK] at *
  repeat' split at h
  all_goals omega
theorem okFrom_sorted : ∀ (l : List SlotI) (p : Option SlotI), okFrom p l = true → (l.map fun x => codeK x.key).Pairwise (· < ·) ∧ (∀ y, p = some y → slotOk y = true → ∀ x ∈ l, codeK y.key < codeK x.key)
  | [], _, _ => ⟨List.Pairwise.nil, fun _ _ _ x hx => by simp at hx⟩
  | x :: r, p, h => by
    have h1 : slotOk x = true ∧ okFrom (some x) r = true := by
      cases p <;> simp only [okFrom, Bool.and_eq_true] at h
      · exact h
      · exact ⟨h.1.1, h.2⟩
    obtain ⟨h2, h3⟩ := okFrom_sorted r _ h1.2
    have h4 := h3 x rfl h1.1
    refine ⟨List.Pairwise.cons (fun c hc => ?_) h2, fun y hp hy z hz => ?_⟩
    · obtain ⟨z, hz, rfl⟩ := List.mem_map.1 hc
      exact h4 z hz
    · subst hp
      simp only [okFrom, Bool.and_eq_true, decide_eq_true_eq] at h
      have h5 := cmpS_code (slotOk_key hy) (slotOk_key h1.1) h.1.2
      rcases List.mem_cons.1 hz with rfl | hz
      · exact h5
      · have := h4 z hz; omega
theorem sub_sorted : ∀ (k l : List Int), k.Pairwise (· < ·) → l.Pairwise (· < ·) → (∀ x ∈ k, x ∈ l) → k.Sublist l
  | [], l, _, _, _ => List.nil_sublist l
  | x :: k, [], _, _, h => by have := h x (by simp); simp at this
  | x :: k, y :: l, hk, hl, h => by
    by_cases e : x = y
    · subst e
      refine List.Sublist.cons_cons _ (sub_sorted k l (List.Pairwise.of_cons hk) (List.Pairwise.of_cons hl) fun z hz => ?_)
      have h1 := h z (by simp [hz])
      have h2 := List.rel_of_pairwise_cons hk hz
      rcases List.mem_cons.1 h1 with h3 | h3
      · omega
      · exact h3
    · refine List.Sublist.cons _ (sub_sorted (x :: k) l hk (List.Pairwise.of_cons hl) fun z hz => ?_)
      have hx : x ∈ l := by
        rcases List.mem_cons.1 (h x (by simp)) with h3 | h3
        · exact absurd h3 e
        · exact h3
      have hxy := List.rel_of_pairwise_cons hl hx
      rcases List.mem_cons.1 (h z hz) with h3 | h3
      · rcases List.mem_cons.1 hz with h4 | h4
        · omega
        · have := List.rel_of_pairwise_cons hk h4; omega
      · exact h3
  termination_by k l => k.length + l.length
theorem mem_keyM {k : Int × Int × Int} {i : Int} {x : Mode} : k ∈ keyM i x ↔ k.1 = i ∧ (0 ≤ k.2.1 ∧ k.2.1 < x.rounds) ∧ (0 ≤ k.2.2 ∧ k.2.2 < x.slots) := by
  obtain ⟨a, b, c⟩ := k
  simp only [keyM, keyS, List.mem_flatMap, List.mem_map, List.mem_range, Prod.mk.injEq]
  constructor
  · rintro ⟨r, hr, s, hs, h1, h2, h3⟩; omega
  · rintro ⟨h1, h2, h3⟩; exact ⟨b.toNat, by omega, c.toNat, by omega, by omega, by omega, by omega⟩
theorem mem_keysM {k : Int × Int × Int} : ∀ (ms : List Mode) (i : Int), k ∈ keysM i ms ↔ ∃ (j : Nat) (x : Mode), ms[j]? = some x ∧ k ∈ keyM (i + j) x
  | [], i => by simp [keysM]
  | x :: r, i => by
    rw [keysM, List.mem_append, mem_keysM r (i + 1)]
    constructor
    · rintro (h | ⟨j, y, h1, h2⟩)
      · exact ⟨0, x, rfl, by simpa using h⟩
      · exact ⟨j + 1, y, by simpa using h1, by rwa [show i + ((j + 1 : Nat) : Int) = i + 1 + j by omega]⟩
    · rintro ⟨j, y, h1, h2⟩
      cases j with
      | zero => simp at h1; subst h1; exact .inl (by simpa using h2)
      | succ j => exact .inr ⟨j, y, by simpa using h1, by rwa [show i + 1 + (j : Int) = i + ((j + 1 : Nat) : Int) by omega]⟩
theorem keyS_sorted (i : Int) (r n : Nat) : ((keyS i r n).map codeK).Pairwise (· < ·) := by
  unfold keyS
  rw [List.map_map, List.pairwise_map]
  refine List.Pairwise.imp ?_ List.pairwise_lt_range
  intro a b h
  simp only [Function.comp, codeK]; omega
theorem keyM_sorted (i : Int) (x : Mode) (hs : x.slots ≤ 16) : ((keyM i x).map codeK).Pairwise (· < ·) := by
  unfold keyM
  generalize x.rounds.toNat = n
  induction n with
  | zero => simp
  | succ n ih =>
    rw [List.range_succ, List.flatMap_append, List.map_append, List.pairwise_append]
    refine ⟨ih, by simpa using keyS_sorted i n x.slots.toNat, ?_⟩
    intro a ha b hb
    simp only [List.mem_map, List.mem_flatMap, List.mem_range, keyS, List.flatMap_cons, List.flatMap_nil, List.append_nil] at ha hb
    obtain ⟨_, ⟨r, hr, s, hs1, rfl⟩, rfl⟩ := ha
    obtain ⟨_, ⟨t, ht, rfl⟩, rfl⟩ := hb
    simp only [codeK]; omega
theorem keysM_sorted : ∀ (ms : List Mode) (i : Int), (∀ x ∈ ms, x.rounds ≤ 8 ∧ x.slots ≤ 16) → ((keysM i ms).map codeK).Pairwise (· < ·)
  | [], _, _ => by simp [keysM]
  | x :: r, i, h => by
    rw [keysM, List.map_append, List.pairwise_append]
    refine ⟨keyM_sorted i x (h x (by simp)).2, keysM_sorted r (i + 1) (fun y hy => h y (by simp [hy])), ?_⟩
    intro a ha b hb
    obtain ⟨ka, h1, rfl⟩ := List.mem_map.1 ha
    obtain ⟨kb, h2, rfl⟩ := List.mem_map.1 hb
    have h3 := mem_keyM.1 h1
    obtain ⟨j, y, hy, h4⟩ := (mem_keysM r (i + 1)).1 h2
    have h5 := mem_keyM.1 h4
    have h6 := h x (by simp)
    have h7 := h y (by have := List.mem_of_getElem? hy; simp [this])
    simp only [codeK]; omega
theorem isMT_in {ms : List Mode} (h : isMT ms = true) : ∀ x ∈ ms, (1 ≤ x.rounds ∧ x.rounds ≤ 8) ∧ (1 ≤ x.slots ∧ x.slots ≤ 16) := fun x hx => by
  obtain ⟨k, hk⟩ := List.mem_iff_getElem?.1 hx
  have := modeOk_in (isMT_at h hk)
  exact ⟨this.1, this.2.1⟩
theorem keysM_in {ms : List Mode} (h : isMT ms = true) : ∀ k ∈ keysM 0 ms, inK k := fun k hk => by
  obtain ⟨j, y, hy, h4⟩ := (mem_keysM ms 0).1 hk
  have h5 := mem_keyM.1 h4
  have h6 := isMT_in h y (List.mem_of_getElem? hy)
  have h7 := isMT_len h
  have h8 : j < ms.length := (List.getElem?_eq_some_iff.1 hy).1
  refine ⟨by omega, by omega, by omega⟩
theorem hitS_key {k : Int × Int × Int} {x : SlotI} : hitS k.1 k.2.1 k.2.2 x = true ↔ x.key = k := by
  obtain ⟨a, b, c⟩ := k
  simp [hitS, SlotI.key, Prod.mk.injEq, and_assoc]
theorem findS_none {f : SlotI → Bool} : ∀ (l : List SlotI) (k : Nat), findS f k l < 0 ↔ ∀ x ∈ l, f x = false
  | [], k => by simp [findS]
  | x :: r, k => by
    rw [findS]
    split
    · rename_i h
      constructor
      · intro h1; omega
      · intro h1; have := h1 x (by simp); rw [h] at this; cases this
    · rename_i h
      have := findS_none (f := f) r (k + 1)
      rw [show ((k : Int) + 1) = ((k + 1 : Nat) : Int) by omega, this]
      simp [h]
theorem hitK_iff {ss : List SlotI} {k : Int × Int × Int} : hitK ss k = true ↔ ∃ x ∈ ss, x.key = k := by
  have h := findS_none (f := hitS k.1 k.2.1 k.2.2) ss 0
  simp only [hitK, decide_eq_true_eq]
  rw [show ((0 : Nat) : Int) = 0 from rfl] at h
  constructor
  · intro h1
    refine Classical.byContradiction fun hc => ?_
    have : findS (hitS k.1 k.2.1 k.2.2) 0 ss < 0 := h.2 fun x hx => by
      cases e : hitS k.1 k.2.1 k.2.2 x
      · rfl
      · exact absurd ⟨x, hx, hitS_key.1 e⟩ hc
    omega
  · rintro ⟨x, hx, hk⟩
    refine Int.not_lt.1 fun h1 => ?_
    have := h.1 h1 x hx
    rw [hitS_key.2 hk] at this; cases this
theorem map_code : ∀ (a b : List (Int × Int × Int)), (∀ k ∈ a, inK k) → (∀ k ∈ b, inK k) → a.map codeK = b.map codeK → a = b
  | [], b, _, _, h => by cases b <;> simp_all
  | x :: a, [], _, _, h => by simp at h
  | x :: a, y :: b, h1, h2, h => by
    simp only [List.map_cons, List.cons.injEq] at h
    rw [codeK_inj (h1 x (by simp)) (h2 y (by simp)) h.1, map_code a b (fun k hk => h1 k (by simp [hk])) (fun k hk => h2 k (by simp [hk])) h.2]
theorem complete_eq {d : MedlD} (hm : isMT d.ms = true) (hs : isST d.ss = true) : completeS d.ss (keysM 0 d.ms) 0 = complete d := by
  have hs1 : okFrom none d.ss = true := by simp only [isST, Bool.and_eq_true] at hs; exact hs.1
  have hsort := (okFrom_sorted d.ss none hs1).1
  have hk := keysM_sorted d.ms 0 (fun x hx => ⟨(isMT_in hm x hx).1.2, (isMT_in hm x hx).2.2⟩)
  rw [Bool.eq_iff_iff]
  simp only [completeS, complete, Bool.and_eq_true, List.all_eq_true, decide_eq_true_eq]
  constructor
  · rintro ⟨h1, h2⟩
    have hsub : ((keysM 0 d.ms).map codeK).Sublist (d.ss.map fun x => codeK x.key) := by
      refine sub_sorted _ _ hk hsort fun c hc => ?_
      obtain ⟨k, hk1, rfl⟩ := List.mem_map.1 hc
      obtain ⟨x, hx, hxk⟩ := hitK_iff.1 (h1 k hk1)
      exact List.mem_map.2 ⟨x, hx, by rw [hxk]⟩
    have heq := hsub.eq_of_length (by simp; omega)
    have h3 : (d.ss.map SlotI.key).map codeK = (keysM 0 d.ms).map codeK := by rw [heq, List.map_map]; rfl
    have hin1 : ∀ k ∈ d.ss.map SlotI.key, inK k := fun k hk1 => by
      obtain ⟨x, hx, rfl⟩ := List.mem_map.1 hk1
      exact slotOk_key (okFrom_all _ _ hs1 x hx)
    have hin2 := keysM_in hm
    generalize d.ss.map SlotI.key = a at h3 hin1
    generalize keysM 0 d.ms = b at h3 hin2
    exact map_code a b hin1 hin2 h3
  · intro h
    refine ⟨fun k hk1 => ?_, by rw [← h]; simp⟩
    rw [← h] at hk1
    obtain ⟨x, hx, hxk⟩ := List.mem_map.1 hk1
    exact hitK_iff.2 ⟨x, hx, hxk⟩

def durOk (x y : SlotI) : Bool := !(decide (x.mode = y.mode) && decide (x.slot = y.slot)) || decide (x.desc.duration = y.desc.duration)
def steady (ss : List SlotI) : Bool := ss.all fun x => ss.all fun y => durOk x y
def durS : List SlotI → List SlotI → Bool
  | _, [] => true
  | q, x :: r => q.all (durOk x) && durS (q ++ [x]) r
def firstS (ss : List SlotI) (x : SlotI) : Bool := match ss[(findS (hitS x.mode 0 x.slot) 0 ss).toNat]? with
  | some y => decide (x.desc.duration = y.desc.duration)
  | none => false
def steadyI (ss : List SlotI) : Bool := ss.all (firstS ss)
theorem durOk_symm (x y : SlotI) : durOk x y = durOk y x := by
  rw [Bool.eq_iff_iff]
  simp only [durOk, Bool.or_eq_true, Bool.not_eq_true', Bool.and_eq_false_iff, decide_eq_true_eq, decide_eq_false_iff_not]
  constructor <;> (intro h; omega)
theorem durOk_refl (x : SlotI) : durOk x x = true := by simp [durOk]
theorem durS_iff : ∀ (r q : List SlotI), (∀ x ∈ q, ∀ y ∈ q, durOk x y = true) → (durS q r = true ↔ ∀ x ∈ q ++ r, ∀ y ∈ q ++ r, durOk x y = true)
  | [], q, hq => by simp only [durS, List.append_nil, true_iff]; exact hq
  | x :: r, q, hq => by
    simp only [durS, Bool.and_eq_true, List.all_eq_true]
    constructor
    · rintro ⟨h1, h2⟩
      have h3 : ∀ a ∈ q ++ [x], ∀ b ∈ q ++ [x], durOk a b = true := by
        intro a ha b hb
        rcases List.mem_append.1 ha with ha | ha <;> rcases List.mem_append.1 hb with hb | hb
        · exact hq a ha b hb
        · have e : b = x := by simpa using hb
          rw [e, durOk_symm]; exact h1 a ha
        · have e : a = x := by simpa using ha
          rw [e]; exact h1 b hb
        · have e : a = x := by simpa using ha
          have e2 : b = x := by simpa using hb
          rw [e, e2]; exact durOk_refl _
      have := (durS_iff r (q ++ [x]) h3).1 h2
      simpa using this
    · intro h
      refine ⟨fun y hy => h x (by simp) y (by simp [hy]), ?_⟩
      have h3 : ∀ a ∈ q ++ [x], ∀ b ∈ q ++ [x], durOk a b = true := fun a ha b hb => h a (by simp at ha ⊢; rcases ha with ha | ha <;> simp [ha]) b (by simp at hb ⊢; rcases hb with hb | hb <;> simp [hb])
      exact (durS_iff r (q ++ [x]) h3).2 (by simpa using h)
theorem durS_eq (ss : List SlotI) : durS [] ss = steady ss := by
  rw [Bool.eq_iff_iff, durS_iff ss [] (by simp)]
  simp [steady, List.all_eq_true]
theorem first_at {d : MedlD} (hm : isMT d.ms = true) (hc : complete d = true) {x : SlotI} (hx : x ∈ d.ss) : ∃ (j : Nat) (y : SlotI), findS (hitS x.mode 0 x.slot) 0 d.ss = (j : Int) ∧ d.ss[j]? = some y ∧ y.mode = x.mode ∧ y.slot = x.slot := by
  simp only [complete, decide_eq_true_eq] at hc
  have h1 : x.key ∈ keysM 0 d.ms := by rw [← hc]; exact List.mem_map.2 ⟨x, hx, rfl⟩
  obtain ⟨j, m, hj, h2⟩ := (mem_keysM d.ms 0).1 h1
  have h3 := mem_keyM.1 h2
  have h4 := isMT_in hm m (List.mem_of_getElem? hj)
  have h5 : ((x.mode, 0, x.slot) : Int × Int × Int) ∈ keysM 0 d.ms := (mem_keysM d.ms 0).2 ⟨j, m, hj, mem_keyM.2 ⟨h3.1, by simp only; omega, h3.2.2⟩⟩
  rw [← hc] at h5
  have h6 := hitK_iff.2 (List.mem_map.1 h5)
  simp only [hitK, decide_eq_true_eq] at h6
  rcases findS_lt (f := hitS x.mode 0 x.slot) d.ss 0 with h7 | ⟨i, y, h7, h8, h9⟩
  · rw [show ((0 : Nat) : Int) = 0 from rfl] at h7; omega
  · have h10 := (hitS_key (k := (x.mode, 0, x.slot))).1 h9
    simp only [SlotI.key, Prod.mk.injEq] at h10
    exact ⟨i, y, by rw [show ((0 : Nat) : Int) = 0 from rfl] at h7; rw [h7]; congr 1; omega, h8, h10.1, h10.2.2⟩
theorem steadyI_eq {d : MedlD} (hm : isMT d.ms = true) (hc : complete d = true) : steadyI d.ss = steady d.ss := by
  rw [Bool.eq_iff_iff]
  simp only [steadyI, steady, List.all_eq_true]
  constructor
  · intro h x hx y hy
    obtain ⟨i, a, h1, h2, h3, h4⟩ := first_at hm hc hx
    obtain ⟨j, b, h5, h6, h7, h8⟩ := first_at hm hc hy
    have h9 := h x hx; have h10 := h y hy
    simp only [firstS, h1, Int.toNat_natCast, h2, decide_eq_true_eq] at h9
    simp only [firstS, h5, Int.toNat_natCast, h6, decide_eq_true_eq] at h10
    simp only [durOk, Bool.or_eq_true, Bool.not_eq_true', Bool.and_eq_false_iff, decide_eq_true_eq, decide_eq_false_iff_not]
    by_cases e1 : x.mode = y.mode
    · by_cases e2 : x.slot = y.slot
      · right
        rw [e1, e2, h5] at h1
        have : j = i := by omega
        subst this
        rw [h6] at h2; injection h2 with h2; subst h2
        omega
      · left; right; exact e2
    · left; left; exact e1
  · intro h x hx
    obtain ⟨i, a, h1, h2, h3, h4⟩ := first_at hm hc hx
    have h5 := h x hx a (List.mem_of_getElem? h2)
    simp only [firstS, h1, Int.toNat_natCast, h2, decide_eq_true_eq]
    simp only [durOk, Bool.or_eq_true, Bool.not_eq_true', Bool.and_eq_false_iff, decide_eq_true_eq, decide_eq_false_iff_not] at h5
    omega

def sumD : List SlotI → Int
  | [] => 0
  | x :: r => x.desc.duration + sumD r
def ofMode (mode : Int) (ss : List SlotI) : List SlotI := ss.filter fun x => decide (x.mode = mode)
def cyc (ss : List SlotI) (mode : Int) : Int := sumD (ofMode mode ss)
theorem ofMode_cons_t {mode : Int} {x : SlotI} {r : List SlotI} (h : x.mode = mode) : ofMode mode (x :: r) = x :: ofMode mode r := by simp [ofMode, h]
theorem ofMode_cons_f {mode : Int} {x : SlotI} {r : List SlotI} (h : ¬ x.mode = mode) : ofMode mode (x :: r) = ofMode mode r := by simp [ofMode, h]
theorem ofMode_sub (mode : Int) (ss : List SlotI) : ∀ x ∈ ofMode mode ss, x ∈ ss ∧ x.mode = mode := fun x hx => by
  have := List.mem_filter.1 hx; simpa using this
theorem ofMode_len (mode : Int) (ss : List SlotI) : (ofMode mode ss).length ≤ ss.length := List.length_filter_le _ _
def shortB (d : MedlD) : Bool := (List.range d.ms.length).all fun (i : Nat) => decide (cyc d.ss i ≤ 32000)

def sendersB (d : MedlD) : Bool := d.ss.all fun x => hasN (actV d.ns) x.desc.node
def sndV (ss : List SlotI) (mode round : Int) : Nat := vecF (fun x => decide (x.mode = mode) && decide (x.round = round)) (fun x => x.desc.node) 0 ss
def servS (act : Nat) (ss : List SlotI) (i : Int) : List Mode → Bool
  | [] => true
  | x :: r => ((List.range x.rounds.toNat).all fun (k : Nat) => decide (sndV ss i k = act)) && servS act ss (i + 1) r
def servI (act : Nat) (ss : List SlotI) (i : Int) : List Mode → Bool
  | [] => true
  | x :: r => ((List.range x.rounds.toNat).all fun (k : Nat) => decide (lackN act (sndV ss i k) = 0)) && servI act ss (i + 1) r
theorem snd_sub {act : Nat} {ss : List SlotI} {m r : Int} (h : (ss.all fun x => hasN act x.desc.node) = true) (i : Nat) (hi : (sndV ss m r).testBit i = true) : act.testBit i = true := by
  unfold sndV at hi
  rw [vecF_bit] at hi
  simp only [Nat.zero_testBit, Bool.false_or, List.any_eq_true, Bool.and_eq_true, decide_eq_true_eq] at hi
  obtain ⟨x, hx, _, e⟩ := hi
  have := List.all_eq_true.1 h x hx
  rw [e]; exact this
theorem serv_eq {act : Nat} {ss : List SlotI} (h : (ss.all fun x => hasN act x.desc.node) = true) : ∀ (ms : List Mode) (i : Int), servI act ss i ms = servS act ss i ms
  | [], i => rfl
  | x :: r, i => by
    rw [servI, servS, serv_eq h r (i + 1)]
    congr 1
    congr 1
    funext k
    rw [Bool.eq_iff_iff, decide_eq_true_eq, decide_eq_true_eq, lack_zero]
    constructor
    · intro h1
      apply Nat.eq_of_testBit_eq
      intro j
      rw [Bool.eq_iff_iff]
      exact ⟨snd_sub h j, h1 j⟩
    · intro h1 j hj
      rw [h1]; exact hj
def coldB (ss : List SlotI) : Bool := ss.any fun x => decide (x.desc.kind = 3) && decide (x.mode ≠ 0)

def ffault (d : MedlD) : Int :=
  if inB d.id 1 16777215 = false then 1
  else if isNT d.ns = false then 2
  else if isMT d.ms = false then 3
  else if isST d.ss = false then 4
  else if complete d = false then 5
  else if sendersB d = false then 6
  else if steady d.ss = false then 7
  else if shortB d = false then 8
  else if servS (actV d.ns) d.ss 0 d.ms = false then 9
  else if coldB d.ss = true then 10 else 0

theorem mulI {a b : Int} (h1 : 1 ≤ a ∧ a ≤ 8) (h2 : 1 ≤ b ∧ b ≤ 16) : 1 ≤ a * b ∧ a * b ≤ 128 := by
  have h3 : 1 * 1 ≤ a * b := Int.mul_le_mul h1.1 h2.1 (by omega) (by omega)
  have h4 : a * b ≤ 8 * 16 := Int.mul_le_mul h1.2 h2.2 (by omega) (by omega)
  omega
theorem mulN {a b : Int} (h1 : 1 ≤ a) (h2 : 1 ≤ b) : ((a.toNat * b.toNat : Nat) : Int) = a * b := by
  rw [Int.natCast_mul, Int.toNat_of_nonneg (by omega), Int.toNat_of_nonneg (by omega)]
theorem keyM_drop' {mode : Int} {x : Mode} {i : Nat} (h1 : 1 ≤ x.rounds) (h2 : 1 ≤ x.slots) (h : (i : Int) < x.rounds * x.slots) : (keyM mode x).drop i = (mode, (i : Int) / x.slots, (i : Int) % x.slots) :: (keyM mode x).drop (i + 1) := by
  have h3 := mulN h1 h2
  rw [keyM_drop (by omega), Int.natCast_ediv, Int.natCast_emod, Int.toNat_of_nonneg (by omega)]
theorem keyM_end {mode : Int} {x : Mode} {i : Nat} (h1 : 1 ≤ x.rounds) (h2 : 1 ≤ x.slots) (h : ¬ (i : Int) < x.rounds * x.slots) : (keyM mode x).drop i = [] := by
  have h3 := mulN h1 h2
  exact List.drop_eq_nil_of_le (by rw [keyM_len]; omega)
theorem comp_cons {a b : Int × Int × Int} {l1 l2 : List (Int × Int × Int)} (h : a = b) : decide (a :: l1 = b :: l2) = decide (l1 = l2) := by subst h; simp
theorem comp_ne {a b : Int × Int × Int} {l1 l2 : List (Int × Int × Int)} (h : a ≠ b) : decide (a :: l1 = b :: l2) = false := by simp [h]
theorem completeS_t {ss : List SlotI} {k : Int × Int × Int} {keys : List (Int × Int × Int)} {n : Int} (h : ¬ findS (hitS k.1 k.2.1 k.2.2) 0 ss < 0) : completeS ss (k :: keys) n = completeS ss keys (n + 1) := by
  have h1 : hitK ss k = true := decide_eq_true (by omega)
  have e : n + ((keys.length + 1 : Nat) : Int) = n + 1 + keys.length := by omega
  simp only [completeS, List.all_cons, h1, Bool.true_and, List.length_cons, e]
theorem completeS_f {ss : List SlotI} {k : Int × Int × Int} {keys : List (Int × Int × Int)} {n : Int} (h : findS (hitS k.1 k.2.1 k.2.2) 0 ss < 0) : completeS ss (k :: keys) n = false := by
  have h1 : hitK ss k = false := decide_eq_false (by omega)
  simp only [completeS, List.all_cons, h1, Bool.false_and]
theorem completeS_nil {ss : List SlotI} {n : Int} : completeS ss [] n = decide (n = ss.length) := by simp [completeS]
theorem keyS_step {k : Int} {r n s : Nat} (h : s < n) : (keyS k r n).drop s = (k, (r : Int), (s : Int)) :: (keyS k r n).drop (s + 1) := by
  unfold keyS
  rw [← List.map_drop, ← List.map_drop, range_drop h]; rfl
theorem keyS_end {k : Int} {r n s : Nat} (h : n ≤ s) : (keyS k r n).drop s = [] := List.drop_eq_nil_of_le (by rw [keyS_len]; omega)
def keyR (k : Int) (x : Mode) (r : Nat) : List (Int × Int × Int) := ((List.range x.rounds.toNat).drop r).flatMap fun r => keyS k r x.slots.toNat
theorem keyR_step {k : Int} {x : Mode} {r : Nat} (h : (r : Int) < x.rounds) : keyR k x r = keyS k r x.slots.toNat ++ keyR k x (r + 1) := by
  unfold keyR
  rw [range_drop (by omega)]; rfl
theorem keyR_end {k : Int} {x : Mode} {r : Nat} (h : ¬ (r : Int) < x.rounds) : keyR k x r = [] := by
  unfold keyR
  rw [range_end (by omega)]; rfl
theorem descI {d : Desc} (h : descOk d = true) : (0 ≤ d.node ∧ d.node ≤ 31) ∧ (0 ≤ d.kind ∧ d.kind ≤ 3) ∧ (0 ≤ d.size ∧ d.size ≤ 32) ∧ (1 ≤ d.duration ∧ d.duration ≤ 1000) := by
  simp only [descOk, Bool.and_eq_true] at h
  have h1 := inB_iff.1 h.1.1.1.1; have h2 := inB_iff.1 h.1.1.1.2; have h4 := inB_iff.1 h.2
  have h3 : 0 ≤ d.size ∧ d.size ≤ 32 := by
    have h5 := h.1.1.2
    unfold dataOk at h5
    split at h5
    · exact inB_iff.1 h5
    · split at h5
      · have := inB_iff.1 h5; omega
      · simp at h5; omega
  refine ⟨h1, h2, h3, ?_⟩
  have h6 : 1 ≤ bodyS d.kind d.size := by unfold bodyS; (repeat' split) <;> omega
  unfold cellsS at h4
  omega
theorem slotI {x : SlotI} (h : slotOk x = true) : inK x.key ∧ (0 ≤ x.desc.node ∧ x.desc.node ≤ 31) ∧ (1 ≤ x.desc.duration ∧ x.desc.duration ≤ 1000) := by
  have h1 := slotOk_key h
  simp only [slotOk, Bool.and_eq_true] at h
  have h2 := descI h.2
  exact ⟨h1, h2.1, h2.2.2.2⟩
theorem isST_all {xs : List SlotI} (h : isST xs = true) : ∀ x ∈ xs, slotOk x = true := by
  simp only [isST, Bool.and_eq_true] at h
  exact okFrom_all _ _ h.1
theorem isNT_ids {l : List NodeI} (h : isNT l = true) : ∀ x ∈ l, 0 ≤ x.id ∧ x.id ≤ 31 := fun x hx => (nodeOk_in (isNT_all h x hx)).1
theorem ff_eq (m : MedlI) : ffault m.d =
    if inB m.id 1 16777215 = false then 1
    else if isNT m.ns = false then 2
    else if isMT (m.ms.map (·.m)) = false then 3
    else if isST m.ss = false then 4
    else if complete m.d = false then 5
    else if sendersB m.d = false then 6
    else if steady m.ss = false then 7
    else if shortB m.d = false then 8
    else if servS (actV m.ns) m.ss 0 (m.ms.map (·.m)) = false then 9
    else if coldB m.ss = true then 10 else 0 := rfl
theorem short_step {m : MedlI} {k : Nat} (h : k < m.ms.length) : ((List.range m.ms.length).drop k).all (fun (i : Nat) => decide (cyc m.ss i ≤ 32000)) = (decide (cyc m.ss k ≤ 32000) && ((List.range m.ms.length).drop (k + 1)).all (fun (i : Nat) => decide (cyc m.ss i ≤ 32000))) := by
  rw [range_drop h, List.all_cons]
theorem short_eq {m : MedlI} : shortB m.d = ((List.range m.ms.length).drop 0).all (fun (i : Nat) => decide (cyc m.ss i ≤ 32000)) := by
  show (List.range (m.ms.map (·.m)).length).all _ = _
  rw [List.length_map, List.drop_zero]; rfl
theorem short_end {m : MedlI} {k : Nat} (h : ¬ (k : Int) < m.ms.length) : ((List.range m.ms.length).drop k).all (fun (i : Nat) => decide (cyc m.ss i ≤ 32000)) = true := by
  rw [range_end (by omega)]; rfl
def servR (p : Nat → Bool) (n r : Nat) : Bool := ((List.range n).drop r).all p
theorem servR_step {p : Nat → Bool} {n r : Nat} (h : r < n) : servR p n r = (p r && servR p n (r + 1)) := by
  unfold servR; rw [range_drop h, List.all_cons]
theorem servR_end {p : Nat → Bool} {n r : Nat} (h : n ≤ r) : servR p n r = true := by
  unfold servR; rw [range_end h]; rfl
theorem durOk_of {x y : SlotI} (h : x.mode ≠ y.mode ∨ x.slot ≠ y.slot ∨ x.desc.duration = y.desc.duration) : durOk x y = true := by
  simp only [durOk, Bool.or_eq_true, Bool.not_eq_true', Bool.and_eq_false_iff, decide_eq_true_eq, decide_eq_false_iff_not]; omega
theorem durOk_not {x y : SlotI} (h : x.mode = y.mode ∧ x.slot = y.slot ∧ x.desc.duration ≠ y.desc.duration) : durOk x y = false := by
  cases e : durOk x y
  · rfl
  · simp only [durOk, Bool.or_eq_true, Bool.not_eq_true', Bool.and_eq_false_iff, decide_eq_true_eq, decide_eq_false_iff_not] at e; omega
theorem all_split {α : Type} {p : α → Bool} {l r : List α} {q : List α} {x : α} {j : Nat} (h : q.all p = (q.drop j).all p) (hd : q.drop j = x :: r) (hx : p x = false) : q.all p = false := by rw [h, hd, List.all_cons, hx]; rfl
/-- what is kept while worlds only grow -/
structure Kept (S : World → Prop) (w : World) : Prop where
  up : Up S
  h : S w
theorem Kept.ext {S : World → Prop} {w w' : World} (h : Kept S w) (k : Ext w w') : Kept S w' := ⟨h.up, h.up w w' h.h k⟩
theorem findS_any (p : SlotI → Bool) : ∀ (xs : List SlotI) (k : Int), 0 ≤ k → decide (0 ≤ findS p k xs) = xs.any p
  | [], k, h => by simp [findS]
  | x :: r, k, h => by
    rw [findS, List.any_cons]
    by_cases e : p x = true
    · rw [if_pos e, e]; simp [h]
    · rw [if_neg e, findS_any p r (k + 1) (by omega)]; simp [e]
theorem any_not {α : Type} (p : α → Bool) : ∀ (xs : List α), (xs.any fun x => !p x) = !(xs.all p)
  | [] => rfl
  | x :: r => by rw [List.any_cons, List.all_cons, any_not p r]; cases p x <;> simp
theorem senders_any (m : MedlI) : (m.ss.any fun x => !hasN (actV m.ns) x.desc.node) = !sendersB m.d := any_not _ _
end Go.Proofs.YtdoibplhbdkapaaGreatDoor
namespace Go.Proofs.YtdoibplhbdkapaaGreatDoor
open Go.RowKit
set_option linter.unusedVariables false
set_option linter.unusedSimpArgs false

def szNs : List NodeI → Int → Int
  | [], left => left
  | x :: r, left => if szInt x.name.size left < 0 then -1 else szNs r (szInt x.name.size left)
def szN (xs : List NodeI) (left : Int) : Int := if left - xs.length < 0 then -1 else szNs xs (left - xs.length)
/-- the lists of a schedule are rows of the call's own -/
structure MOwn (w : World) (lo : Nat) (tN tM tI tS : TypeId) (m : MedlI) : Prop where
  on : Own w lo tN 4 m.An m.ns.length m.cn (m.ns.flatMap NodeI.cells)
  om : Own w lo tM 3 m.Am m.ms.length m.cm (m.ms.flatMap ModeI.cells)
  ox : NOwn w lo tI m.ms
  od : Disj m.ms
  os : Own w lo tS 8 m.As m.ss.length m.cs (m.ss.flatMap SlotI.cells)
section
variable {w w' : World} {lo lo' n c s g : Nat} {tN tM tI tS t' : TypeId} {m : MedlI} {A : Option Addr} {cs : List Value}
theorem MOwn.ext (h : MOwn w lo tN tM tI tS m) (hb : Ext w w') : MOwn w' lo tN tM tI tS m := ⟨h.on.ext hb, h.om.ext hb, h.ox.ext hb, h.od, h.os.ext hb⟩
theorem MOwn.low (h : MOwn w lo tN tM tI tS m) (hl : lo' ≤ lo) : MOwn w lo' tN tM tI tS m := ⟨h.on.low hl, h.om.low hl, h.ox.low hl, h.od, h.os.low hl⟩
theorem MOwn.med (h : MOwn w lo tN tM tI tS m) : Med w.heap.size w m := ⟨Nat.le_refl _, h.on.sl, h.om.sl, h.ox.nexts, h.os.sl, h.on.cap⟩
theorem MOwn.sn (h : MOwn w lo tN tM tI tS m) : Sl w.heap.size w m.An (m.ns.flatMap NodeI.cells) := h.on.sl
theorem MOwn.sm (h : MOwn w lo tN tM tI tS m) : Sl w.heap.size w m.Am (m.ms.flatMap ModeI.cells) := h.om.sl
theorem MOwn.sx (h : MOwn w lo tN tM tI tS m) : Nexts w.heap.size w m.ms := h.ox.nexts
theorem MOwn.ss (h : MOwn w lo tN tM tI tS m) : Sl w.heap.size w m.As (m.ss.flatMap SlotI.cells) := h.os.sl
theorem MOwn.grownB {t' : TypeId} {ds : List Value} (h : MOwn w lo tN tM tI tS m) (k : Blk w g t' ds) (hg : w.grownBy w' (some g)) (ht : tN ≠ t' ∧ tM ≠ t' ∧ tI ≠ t' ∧ tS ≠ t') : MOwn w' lo tN tM tI tS m :=
  ⟨h.on.grownBlk hg (Own.neT h.on k ht.1), h.om.grownBlk hg (Own.neT h.om k ht.2.1), h.ox.grownB k hg ht.2.2.1, h.od, h.os.grownBlk hg (Own.neT h.os k ht.2.2.2)⟩
end
end Go.Proofs.YtdoibplhbdkapaaGreatDoor
namespace Go.Proofs.YtdoibplhbdkapaaGreatDoor
open Go.RowKit
set_option linter.unusedVariables false
set_option linter.unusedSimpArgs false

def isMedl (d : MedlD) : Bool := decide (ffault d = 0)
structure WellF (d : MedlD) : Prop where
  id : inB d.id 1 16777215 = true
  nt : isNT d.ns = true
  mt : isMT d.ms = true
  st : isST d.ss = true
  co : complete d = true
  se : sendersB d = true
  sd : steady d.ss = true
  sh : shortB d = true
  sv : servS (actV d.ns) d.ss 0 d.ms = true
  cd : coldB d.ss = false
theorem isMedl_iff {d : MedlD} : isMedl d = true ↔ WellF d := by
  rw [isMedl, decide_eq_true_eq, ffault]
  constructor
  · intro h
    repeat' split at h
    all_goals first | (exfalso; omega) | skip
    rename_i h1 h2 h3 h4 h5 h6 h7 h8 h9 h10
    exact ⟨by simpa using h1, by simpa using h2, by simpa using h3, by simpa using h4, by simpa using h5, by simpa using h6, by simpa using h7, by simpa using h8, by simpa using h9, by simpa using h10⟩
  · intro h
    simp [h.id, h.nt, h.mt, h.st, h.co, h.se, h.sd, h.sh, h.sv, h.cd]
end Go.Proofs.YtdoibplhbdkapaaGreatDoor
namespace Go.Proofs.YtdoibplhbdkapaaGreatDoor
open Go.RowKit
set_option linter.unusedVariables false
set_option linter.unusedSimpArgs false
set_option maxRecDepth 20000
def nameI (x : NodeI) : List Int := x.name.data.toList.map fun b => (b.toNat : Int)
def nodeH (x : NodeI) : List Int := [x.id, x.drift / 256, x.drift % 256, if x.passive = true then 1 else 0, (x.name.size : Int)]
def nodeB (x : NodeI) : List Int := nodeH x ++ nameI x
def ntP (xs : List NodeI) (k : Nat) : List Int := (xs.length : Int) :: (xs.take k).flatMap nodeB
theorem nameI_len (x : NodeI) : (nameI x).length = x.name.size := by simp [nameI]
theorem nameI_at {x : NodeI} {j : Nat} (h : j < x.name.size) : (nameI x)[j]? = some ((x.name.data.toList.getD ((j : Int)).toNat 0).toNat : Int) := by
  have hj : j < x.name.data.toList.length := by simpa using h
  rw [nameI, List.getElem?_map, List.getD_eq_getElem?_getD, Int.toNat_natCast, List.getElem?_eq_getElem hj]; rfl
theorem ntP_step {xs : List NodeI} {k : Nat} {x : NodeI} (h : xs[k]? = some x) : ntP xs (k + 1) = ntP xs k ++ nodeH x ++ nameI x := by
  unfold ntP
  rw [List.take_add_one, h]
  simp [List.flatMap_append, nodeB]
theorem take_snoc {L : List Int} {j : Nat} {v : Int} (h : L[j]? = some v) : L.take (j + 1) = L.take j ++ [v] := by rw [List.take_add_one, h]; rfl
def ntB (xs : List NodeI) : List Int := ntP xs xs.length
theorem nodesB_le : ∀ (l : List NodeI), (∀ x ∈ l, x.name.size ≤ 6) → (l.flatMap nodeB).length ≤ 11 * l.length
  | [], _ => by simp
  | x :: r, h => by
    have h1 := h x (by simp)
    have h2 := nodesB_le r fun y hy => h y (by simp [hy])
    rw [List.flatMap_cons, List.length_append, List.length_cons, nodeB, List.length_append, nameI_len]
    simp only [nodeH, List.length_cons, List.length_nil]; omega
theorem nodeOk_size {x : NodeI} (h : nodeOk x = true) : x.name.size ≤ 6 := by
  have h1 := (nodeOk_in h).2.2
  simp only [nameOk, Bool.and_eq_true, decide_eq_true_eq] at h1
  exact h1.2
theorem ntB_le {xs : List NodeI} (h : isNT xs = true) : (ntB xs).length ≤ 353 := by
  have h1 := isNT_len h
  have h2 := nodesB_le xs fun x hx => nodeOk_size (isNT_all h x hx)
  unfold ntB ntP
  rw [List.take_length, List.length_cons]
  omega
/-- a row of rows: an entry is held as a mode with its list alone -/
def rowC (x : ModeI) : List Value := [.slice x.A x.m.next.length x.c]
theorem rowC_len (x : ModeI) : (rowC x).length = 1 := rfl
def rowI (A : Option Addr) (c : Nat) (xs : List Int) : ModeI := ⟨⟨0, 0, xs⟩, A, c⟩
end Go.Proofs.YtdoibplhbdkapaaGreatDoor
