/- Nodes and whole schedules: data, and what the functions on them compute, as plain functions. No condition. -/
import Derived.Test.YtdoibplhbdkapaaMod3
import Derived.Lib.SlTrimSet
namespace Go.Proofs.Ytdoibplhbdkapaa
open Go.RowKit
set_option linter.unusedVariables false
set_option linter.unusedSimpArgs false

structure NodeI where
  id : Int
  name : ByteArray
  drift : Int
  passive : Bool
def NodeI.cells (n : NodeI) : List Value := [.int .i64 n.id, .string n.name, .int .i64 n.drift, .bool n.passive]
theorem NodeI.len (n : NodeI) : n.cells.length = 4 := rfl
structure StateI where
  time : Int
  mode : Int
  round : Int
  slot : Int
  members : Int
def StateI.cells (s : StateI) : List Value := [.int .i64 s.time, .int .i64 s.mode, .int .i64 s.round, .int .i64 s.slot, .int .i64 s.members]
theorem StateI.len (s : StateI) : s.cells.length = 5 := rfl
structure MedlD where
  id : Int
  ns : List NodeI
  ms : List Mode
  ss : List SlotI
structure MedlI where
  id : Int
  An : Option Addr
  ns : List NodeI
  cn : Nat
  Am : Option Addr
  ms : List ModeI
  cm : Nat
  As : Option Addr
  ss : List SlotI
  cs : Nat
def MedlI.d (m : MedlI) : MedlD := ⟨m.id, m.ns, m.ms.map (·.m), m.ss⟩
def MedlI.cells (m : MedlI) : List Value := [.int .i64 m.id, .slice m.An m.ns.length m.cn, .slice m.Am m.ms.length m.cm, .slice m.As m.ss.length m.cs]
theorem MedlI.len (m : MedlI) : m.cells.length = 4 := rfl
/-- it can be read -/
structure Med (B : Nat) (w : World) (m : MedlI) : Prop where
  hB : B ≤ w.heap.size
  sn : Sl B w m.An (m.ns.flatMap NodeI.cells)
  sm : Sl B w m.Am (m.ms.flatMap ModeI.cells)
  sx : Nexts B w m.ms
  ss : Sl B w m.As (m.ss.flatMap SlotI.cells)
  kn : m.ns.length ≤ m.cn
section
variable {B B' : Nat} {w w' : World} {m : MedlI}
theorem Med.below (h : Med B w m) (hb : Below B w w') : Med B w' m := ⟨Nat.le_trans h.1 hb.size, h.sn.below hb, h.sm.below hb, h.sx.below hb, h.ss.below hb, h.kn⟩
theorem Med.ext (h : Med B w m) (hb : Ext w w') : Med B w' m := h.below (Below.mono hb h.1)
theorem Med.grown {row : Option Nat} (h : Med B w m) (hg : w.grownBy w' row) (hr : ∀ g, row = some g → B ≤ g) : Med B w' m := ⟨Nat.le_trans h.1 hg.size, h.sn.grown hg hr, h.sm.grown hg hr, h.sx.grown hg hr, h.ss.grown hg hr, h.kn⟩
theorem Med.more (h : Med B w m) (hB : B ≤ B') (hw : B' ≤ w.heap.size) : Med B' w m := ⟨hw, h.sn.more hB hw, h.sm.more hB hw, h.sx.more hB hw, h.ss.more hB hw, h.kn⟩
end
/-- its lists are not too long -/
structure MedlI.small (m : MedlI) : Prop where
  ln : m.ns.length ≤ 1048576
  lm : m.ms.length ≤ 1048576
  lx : ∀ x ∈ m.ms, x.m.next.length ≤ 1048576
  ls : m.ss.length ≤ 1048576
  lz : ∀ x ∈ m.ns, x.name.size ≤ 1048576
theorem MedlI.small_of {m m' : MedlI} (e : m'.d = m.d) (h : m.small) : m'.small := by
  obtain ⟨id, An, ns, cn, Am, ms, cm, As, ss, cs⟩ := m
  obtain ⟨id', An', ns', cn', Am', ms', cm', As', ss', cs'⟩ := m'
  simp only [MedlI.d, MedlD.mk.injEq] at e
  obtain ⟨e1, e2, e3, e4⟩ := e
  obtain ⟨h1, h2, h3, h4, h5⟩ := h
  simp only at h1 h2 h3 h4 h5
  refine ⟨by simp only; rw [e2]; exact h1, ?_, ?_, by simp only; rw [e4]; exact h4, by simp only; rw [e2]; exact h5⟩
  · have := congrArg List.length e3; simp at this; simp only; omega
  · intro x hx
    have : x.m ∈ ms'.map (·.m) := List.mem_map.2 ⟨x, hx, rfl⟩
    rw [e3] at this
    obtain ⟨y, hy, e5⟩ := List.mem_map.1 this
    have := h3 y hy
    rw [e5] at this; exact this

/-! ### bits -/
theorem ofInt_nat (n : Nat) : BitVec.ofInt 64 (n : Int) = BitVec.ofNat 64 n := by simp
theorem bits_or {a b : Nat} (ha : a < 9223372036854775808) (hb : b < 9223372036854775808) : bitsV .or .i64 (a : Int) (b : Int) = ((a ||| b : Nat) : Int) := by
  have h1 : a ||| b < 2 ^ 63 := Nat.or_lt_two_pow (by omega) (by omega)
  have h2 : a ||| b < 2 ^ 64 := Nat.or_lt_two_pow (by omega) (by omega)
  show IntKind.i64.wrap ((BitVec.ofInt 64 (a : Int) ||| BitVec.ofInt 64 (b : Int)).toNat : Int) = _
  rw [ofInt_nat, ofInt_nat, BitVec.toNat_or, BitVec.toNat_ofNat, BitVec.toNat_ofNat, Nat.mod_eq_of_lt (by omega), Nat.mod_eq_of_lt (by omega)]
  exact w64 (by omega)
theorem bits_and {a b : Nat} (ha : a < 9223372036854775808) (hb : b < 9223372036854775808) : bitsV .and .i64 (a : Int) (b : Int) = ((a &&& b : Nat) : Int) := by
  have h1 : a &&& b ≤ a := Nat.and_le_left
  show IntKind.i64.wrap ((BitVec.ofInt 64 (a : Int) &&& BitVec.ofInt 64 (b : Int)).toNat : Int) = _
  rw [ofInt_nat, ofInt_nat, BitVec.toNat_and, BitVec.toNat_ofNat, BitVec.toNat_ofNat, Nat.mod_eq_of_lt (by omega), Nat.mod_eq_of_lt (by omega)]
  exact w64 (by omega)
theorem bits_xor {a b : Nat} (ha : a < 9223372036854775808) (hb : b < 9223372036854775808) : bitsV .xor .i64 (a : Int) (b : Int) = ((a ^^^ b : Nat) : Int) := by
  have h1 : a ^^^ b < 2 ^ 63 := Nat.xor_lt_two_pow (by omega) (by omega)
  show IntKind.i64.wrap ((BitVec.ofInt 64 (a : Int) ^^^ BitVec.ofInt 64 (b : Int)).toNat : Int) = _
  rw [ofInt_nat, ofInt_nat, BitVec.toNat_xor, BitVec.toNat_ofNat, BitVec.toNat_ofNat, Nat.mod_eq_of_lt (by omega), Nat.mod_eq_of_lt (by omega)]
  exact w64 (by omega)
/-- the bits of a that b lacks -/
def lackN (a b : Nat) : Nat := a ^^^ (a &&& b)
theorem lack_bit (a b i : Nat) : (lackN a b).testBit i = (a.testBit i && !b.testBit i) := by
  unfold lackN
  rw [Nat.testBit_xor, Nat.testBit_and]
  cases a.testBit i <;> cases b.testBit i <;> rfl
theorem bits_andNot {a b : Nat} (ha : a < 9223372036854775808) (hb : b < 9223372036854775808) : bitsV .andNot .i64 (a : Int) (b : Int) = (lackN a b : Int) := by
  have h1 : lackN a b < 2 ^ 63 := Nat.xor_lt_two_pow (by omega) (Nat.lt_of_le_of_lt Nat.and_le_left (by omega))
  show IntKind.i64.wrap ((BitVec.ofInt 64 (a : Int) &&& ~~~BitVec.ofInt 64 (b : Int)).toNat : Int) = _
  have e : (BitVec.ofInt 64 (a : Int) &&& ~~~BitVec.ofInt 64 (b : Int)).toNat = lackN a b := by
    rw [ofInt_nat, ofInt_nat]
    apply Nat.eq_of_testBit_eq
    intro i
    rw [lack_bit, BitVec.testBit_toNat]
    by_cases hi : i < 64
    · rw [BitVec.getLsbD_and, BitVec.getLsbD_not, BitVec.getLsbD_ofNat, BitVec.getLsbD_ofNat]; simp [hi]
    · have : a.testBit i = false := Nat.testBit_lt_two_pow (Nat.lt_of_lt_of_le (by omega : a < 2 ^ 64) (Nat.pow_le_pow_right (by omega) (by omega)))
      rw [this]; simp [hi]
  rw [e]
  exact w64 (by omega)
/-- node n is a member of a -/
def hasN (a : Nat) (n : Int) : Bool := a.testBit n.toNat
theorem bit_get {a : Nat} {n : Int} (ha : a < 9223372036854775808) (hn : 0 ≤ n ∧ n ≤ 31) : bitsV .and .i64 ((a : Int).fdiv (2 ^ (min n.toNat 64))) 1 = if hasN a n = true then 1 else 0 := by
  have e1 : min n.toNat 64 = n.toNat := by omega
  have e2 : (a : Int).fdiv (2 ^ n.toNat) = ((a / 2 ^ n.toNat : Nat) : Int) := by
    rw [Int.fdiv_eq_ediv_of_nonneg _ (Int.pow_nonneg (by omega))]; simp
  have h3 : a / 2 ^ n.toNat ≤ a := Nat.div_le_self _ _
  rw [e1, e2, show (1 : Int) = ((1 : Nat) : Int) from rfl, bits_and (by omega) (by omega)]
  unfold hasN
  rw [Nat.testBit, Nat.shiftRight_eq_div_pow, Nat.one_and_eq_mod_two, Nat.and_one_is_mod]
  rcases Nat.mod_two_eq_zero_or_one (a / 2 ^ n.toNat) with h | h <;> rw [h] <;> rfl
theorem bit_has {a : Nat} {n : Int} (ha : a < 9223372036854775808) (hn : 0 ≤ n ∧ n ≤ 31) : decide (bitsV .and .i64 ((a : Int).fdiv (2 ^ (min n.toNat 64))) 1 = 1) = hasN a n := by
  rw [bit_get ha hn]
  cases hasN a n <;> rfl
theorem shl_bit {n : Int} (hn : 0 ≤ n ∧ n ≤ 31) : IntKind.i64.wrap ((1 : Int) * 2 ^ (min n.toNat 64)) = ((2 ^ n.toNat : Nat) : Int) := by
  have e1 : min n.toNat 64 = n.toNat := by omega
  have h2 : 2 ^ n.toNat ≤ 2 ^ 31 := Nat.pow_le_pow_right (by omega) (by omega)
  rw [e1, Int.one_mul, show (2 : Int) ^ n.toNat = ((2 ^ n.toNat : Nat) : Int) by simp]
  generalize 2 ^ n.toNat = z at h2
  exact w64 (by omega)
theorem pow_lt {n : Int} (hn : 0 ≤ n ∧ n ≤ 31) : 2 ^ n.toNat < 4294967296 := by
  have h2 : 2 ^ n.toNat ≤ 2 ^ 31 := Nat.pow_le_pow_right (by omega) (by omega)
  omega
/-- a with node n -/
def withN (a : Nat) (n : Int) : Nat := a ||| 2 ^ n.toNat
theorem withN_lt {a : Nat} {n : Int} (ha : a < 4294967296) (hn : 0 ≤ n ∧ n ≤ 31) : withN a n < 4294967296 :=
  Nat.or_lt_two_pow (n := 32) ha (pow_lt hn)
theorem withN_bit (a : Nat) (n : Int) (i : Nat) : (withN a n).testBit i = (a.testBit i || decide (i = n.toNat)) := by
  unfold withN
  rw [Nat.testBit_or, Nat.testBit_two_pow]
  congr 1
  by_cases h : i = n.toNat
  · subst h; simp
  · rw [decide_eq_false h, decide_eq_false (fun e => h e.symm)]
theorem bits_with {a : Nat} {n : Int} (ha : a < 4294967296) (hn : 0 ≤ n ∧ n ≤ 31) : bitsV .or .i64 (a : Int) (IntKind.i64.wrap ((1 : Int) * 2 ^ (min n.toNat 64))) = (withN a n : Int) := by
  have := pow_lt hn
  rw [shl_bit hn, bits_or (by omega) (by omega)]; rfl
theorem with_has {a : Nat} {n : Int} (h : hasN a n = true) : withN a n = a := by
  apply Nat.eq_of_testBit_eq
  intro i
  rw [withN_bit]
  by_cases e : i = n.toNat
  · subst e; unfold hasN at h; rw [h]; rfl
  · simp [e]
theorem with_xor {a : Nat} {n : Int} (h : hasN a n = false) : a ^^^ 2 ^ n.toNat = withN a n := by
  apply Nat.eq_of_testBit_eq
  intro i
  rw [withN_bit, Nat.testBit_xor, Nat.testBit_two_pow]
  by_cases e : i = n.toNat
  · subst e; unfold hasN at h; rw [h]; simp
  · rw [decide_eq_false e, decide_eq_false (fun e' => e e'.symm)]; simp
theorem lack_zero {a b : Nat} : lackN a b = 0 ↔ ∀ i, a.testBit i = true → b.testBit i = true := by
  constructor
  · intro h i hi
    have := lack_bit a b i
    rw [h, hi] at this
    cases hb : b.testBit i
    · rw [hb] at this; simp at this
    · rfl
  · intro h
    apply Nat.eq_of_testBit_eq
    intro i
    rw [lack_bit, Nat.zero_testBit]
    cases ha : a.testBit i
    · rfl
    · rw [h i ha]; rfl
/-- the vector of nodes that pass, joined to a -/
def vecF {α : Type} (p : α → Bool) (f : α → Int) : Nat → List α → Nat
  | a, [] => a
  | a, x :: r => if p x = true then vecF p f (withN a (f x)) r else vecF p f a r
theorem vecF_lt {α : Type} {p : α → Bool} {f : α → Int} : ∀ (l : List α) (a : Nat), a < 4294967296 → (∀ x ∈ l, 0 ≤ f x ∧ f x ≤ 31) → vecF p f a l < 4294967296
  | [], a, h, _ => h
  | x :: r, a, h, hf => by
    rw [vecF]
    split
    · exact vecF_lt r _ (withN_lt h (hf x (by simp))) (fun y hy => hf y (by simp [hy]))
    · exact vecF_lt r _ h (fun y hy => hf y (by simp [hy]))
theorem vecF_bit {α : Type} {p : α → Bool} {f : α → Int} (i : Nat) : ∀ (l : List α) (a : Nat), (vecF p f a l).testBit i = (a.testBit i || l.any fun x => p x && decide (i = (f x).toNat))
  | [], a => by simp [vecF]
  | x :: r, a => by
    rw [vecF]
    split
    · rename_i h
      rw [vecF_bit i r, withN_bit, List.any_cons, h]; simp [Bool.or_assoc]
    · rename_i h
      rw [vecF_bit i r, List.any_cons]; simp [h]

/-! ### nodes -/
def nameB (b : UInt8) : Bool := (decide (97 ≤ b.toNat) && decide (b.toNat ≤ 122)) || (decide (48 ≤ b.toNat) && decide (b.toNat ≤ 57))
def nameOk (s : ByteArray) : Bool := (s.data.toList.all nameB) && decide (1 ≤ s.size) && decide (s.size ≤ 6)
def nodeOk (n : NodeI) : Bool := inB n.id 0 31 && nameOk n.name && inB n.drift 0 1000
def nameIn (s : ByteArray) (l : List NodeI) : Bool := l.any fun y => decide (y.name = s)
def ntFrom : Option NodeI → List NodeI → List NodeI → Bool
  | _, _, [] => true
  | none, q, x :: r => nodeOk x && !(nameIn x.name q) && ntFrom (some x) (q ++ [x]) r
  | some y, q, x :: r => nodeOk x && decide (y.id < x.id) && !(nameIn x.name q) && ntFrom (some x) (q ++ [x]) r
def isNT (l : List NodeI) : Bool := inB l.length 1 32 && ntFrom none [] l
theorem ntFrom_all : ∀ (l : List NodeI) (p : Option NodeI) (q : List NodeI), ntFrom p q l = true → ∀ x ∈ l, nodeOk x = true
  | [], _, _, _, x, hx => by simp at hx
  | y :: r, p, q, h, x, hx => by
    have h1 : nodeOk y = true ∧ ntFrom (some y) (q ++ [y]) r = true := by
      cases p <;> simp only [ntFrom, Bool.and_eq_true] at h
      · exact ⟨h.1.1, h.2⟩
      · exact ⟨h.1.1.1, h.2⟩
    rcases List.mem_cons.1 hx with rfl | hx
    · exact h1.1
    · exact ntFrom_all r _ _ h1.2 x hx
theorem isNT_all {l : List NodeI} (h : isNT l = true) : ∀ x ∈ l, nodeOk x = true := by
  simp only [isNT, Bool.and_eq_true] at h
  exact ntFrom_all l _ _ h.2
theorem isNT_len {l : List NodeI} (h : isNT l = true) : 1 ≤ l.length ∧ l.length ≤ 32 := by
  simp only [isNT, Bool.and_eq_true] at h
  have := inB_iff.1 h.1; omega
theorem nodeOk_in {x : NodeI} (h : nodeOk x = true) : (0 ≤ x.id ∧ x.id ≤ 31) ∧ (0 ≤ x.drift ∧ x.drift ≤ 1000) ∧ nameOk x.name = true := by
  simp only [nodeOk, Bool.and_eq_true] at h
  exact ⟨inB_iff.1 h.1.1, inB_iff.1 h.2, h.1.2⟩
def actV (l : List NodeI) : Nat := vecF (fun x => !x.passive) (·.id) 0 l
theorem actV_lt {l : List NodeI} (h : isNT l = true) : actV l < 4294967296 := vecF_lt l 0 (by omega) fun x hx => (nodeOk_in (isNT_all h x hx)).1
def setOf : List UInt8 := [97, 98, 99, 100, 101, 102, 103, 104, 105, 106, 107, 108, 109, 110, 111, 112, 113, 114, 115, 116, 117, 118, 119, 120, 121, 122, 48, 49, 50, 51, 52, 53, 54, 55, 56, 57]
theorem set_name : ∀ b : UInt8, setOf.contains b = nameB b := by
  intro b
  have h : ∀ k : Fin 256, setOf.contains (UInt8.ofNat k.val) = nameB (UInt8.ofNat k.val) := by decide +kernel
  have := h ⟨b.toNat, b.toNat_lt⟩
  simpa using this
theorem dropWhile_nil {α : Type} {p : α → Bool} : ∀ (l : List α), l.dropWhile p = [] ↔ l.all p = true
  | [] => by simp
  | x :: r => by
    rw [List.dropWhile_cons]
    split
    · rename_i h; rw [dropWhile_nil r]; simp [h]
    · rename_i h; simp [h]
theorem trim_nil (l : List UInt8) : Go.Lib.trimS l setOf = [] ↔ l.all nameB = true := by
  have e : (fun x => setOf.contains x) = nameB := funext set_name
  unfold Go.Lib.trimS Go.Lib.trimLeftS Go.Lib.trimRightS
  rw [dropWhile_nil]
  show ((l.reverse.dropWhile fun x => setOf.contains x).reverse.all fun x => setOf.contains x) = true ↔ _
  rw [e]
  constructor
  · intro h
    have h2 : (l.reverse.dropWhile nameB) = [] := by
      cases h3 : l.reverse.dropWhile nameB with
      | nil => rfl
      | cons x r =>
        have h4 : nameB x = false := by
          have := List.head?_dropWhile_not nameB l.reverse
          rw [h3] at this; simpa using this
        rw [h3] at h
        simp [h4] at h
    rw [dropWhile_nil] at h2
    simpa using h2
  · intro h
    have h2 : l.reverse.dropWhile nameB = [] := (dropWhile_nil _).2 (by simpa using h)
    rw [h2]; rfl
def trimV (s : ByteArray) : ByteArray := ⟨(Go.Lib.trimS s.data.toList setOf).toArray⟩
theorem trimV_nil (s : ByteArray) : trimV s = ⟨#[]⟩ ↔ s.data.toList.all nameB = true := by
  rw [← trim_nil]
  unfold trimV
  constructor
  · intro h
    have h1 := congrArg (fun b : ByteArray => b.data.toList) h
    simpa using h1
  · intro h; rw [h]
theorem wu64 {n : Int} (h : 0 ≤ n ∧ n ≤ 18446744073709551615) : IntKind.u64.wrap n = n := by
  simp only [IntKind.wrap, IntKind.bits, IntKind.signed]
  simp
  omega
theorem nameIn_take {l : List NodeI} {s : ByteArray} {j : Nat} {y : NodeI} (hy : l[j]? = some y) (h : y.name = s) : nameIn s l = true := by
  simp only [nameIn, List.any_eq_true, decide_eq_true_eq]
  exact ⟨y, List.mem_of_getElem? hy, h⟩
theorem nt_ok0 {q r : List NodeI} {x : NodeI} (h : nodeOk x = true) (hn : nameIn x.name q = false) : ntFrom none q (x :: r) = ntFrom (some x) (q ++ [x]) r := by simp [ntFrom, h, hn]
theorem nt_ok1 {q r : List NodeI} {x y : NodeI} (h : nodeOk x = true) (ho : y.id < x.id) (hn : nameIn x.name q = false) : ntFrom (some y) q (x :: r) = ntFrom (some x) (q ++ [x]) r := by simp [ntFrom, h, hn, ho]
theorem nt_badx {p : Option NodeI} {q r : List NodeI} {x : NodeI} (h : nodeOk x = false) : ntFrom p q (x :: r) = false := by cases p <;> simp [ntFrom, h]
theorem nt_badn {p : Option NodeI} {q r : List NodeI} {x : NodeI} (h : nameIn x.name q = true) : ntFrom p q (x :: r) = false := by cases p <;> simp [ntFrom, h]
theorem nt_bado {q r : List NodeI} {x y : NodeI} (h : ¬ y.id < x.id) : ntFrom (some y) q (x :: r) = false := by simp [ntFrom, h]
theorem nt_nil {p : Option NodeI} {q : List NodeI} : ntFrom p q [] = true := by cases p <;> rfl
end Go.Proofs.Ytdoibplhbdkapaa
