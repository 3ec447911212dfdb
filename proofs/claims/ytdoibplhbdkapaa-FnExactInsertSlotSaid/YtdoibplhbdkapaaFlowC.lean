/- Flow, part C: the operations that look at no memory. -/
import Derived.Test.YtdoibplhbdkapaaFlowB
namespace Go.Proofs.Ytdoibplhbdkapaa
open Go.RowKit
set_option linter.unusedVariables false
set_option linter.unusedSimpArgs false

section
variable {P : Program} {e : List (Nat × Value)} {ty : TypeId} {w : World} {K : Value → World → Prop}

theorem ow_move {x : Operand} {v : Value} (hx : evO e x = some v) (h : K v w) : OpWp P e (.move x) ty w K := fun ρ d p a g hρ => by
  have h1 := hρ _ _ hx
  simp only [execOp, h1, Sem.run_pure, upto]; exact h
theorem ow_assign {x : Operand} {v : Value} (hx : evO e x = some v) (h : K v w) : OpWp P e (.assign x) ty w K := fun ρ d p a g hρ => by
  have h1 := hρ _ _ hx
  simp only [execOp, h1, Sem.run_pure, upto]; exact h
theorem ow_pick {c x y : Operand} {b : Bool} {v : Value} (hc : evO e c = some (.bool b)) (hv : (if b then evO e x else evO e y) = some v) (h : K v w) : OpWp P e (.pick c x y) ty w K := fun ρ d p a g hρ => by
  have h1 := hρ _ _ hc
  cases b
  · have h2 := hρ _ _ hv
    simp [execOp, h1, asBool, upto, h2]; exact h
  · have h2 := hρ _ _ hv
    simp [execOp, h1, asBool, upto, h2]; exact h

/-! integers -/
variable {x y : Operand} {t t' : TypeId} {k : IntKind} {m n r : Int}

theorem ow_lss (hx : evO e x = some (.int k m)) (hy : evO e y = some (.int k n)) (h : K (.bool (decide (m < n))) w) : OpWp P e (.binOp .lss t x y t') ty w K := fun ρ d p a g hρ => by
  have h1 := hρ _ _ hx; have h2 := hρ _ _ hy
  simp [execOp, h1, h2, eqGuard, binOp, Op.intCmp, upto]; exact h
theorem ow_leq (hx : evO e x = some (.int k m)) (hy : evO e y = some (.int k n)) (h : K (.bool (decide (m ≤ n))) w) : OpWp P e (.binOp .leq t x y t') ty w K := fun ρ d p a g hρ => by
  have h1 := hρ _ _ hx; have h2 := hρ _ _ hy
  simp [execOp, h1, h2, eqGuard, binOp, Op.intCmp, upto]; exact h
theorem ow_gtr (hx : evO e x = some (.int k m)) (hy : evO e y = some (.int k n)) (h : K (.bool (decide (n < m))) w) : OpWp P e (.binOp .gtr t x y t') ty w K := fun ρ d p a g hρ => by
  have h1 := hρ _ _ hx; have h2 := hρ _ _ hy
  simp [execOp, h1, h2, eqGuard, binOp, Op.intCmp, upto]; exact h
theorem ow_geq (hx : evO e x = some (.int k m)) (hy : evO e y = some (.int k n)) (h : K (.bool (decide (n ≤ m))) w) : OpWp P e (.binOp .geq t x y t') ty w K := fun ρ d p a g hρ => by
  have h1 := hρ _ _ hx; have h2 := hρ _ _ hy
  simp [execOp, h1, h2, eqGuard, binOp, Op.intCmp, upto]; exact h
theorem ow_eql (hx : evO e x = some (.int k m)) (hy : evO e y = some (.int k n)) (h : K (.bool (decide (m = n))) w) : OpWp P e (.binOp .eql t x y t') ty w K := fun ρ d p a g hρ => by
  have h1 := hρ _ _ hx; have h2 := hρ _ _ hy
  have h3 : (m == n) = decide (m = n) := by rw [Bool.eq_iff_iff]; simp
  simp [execOp, h1, h2, eqGuard, binOp, Op.intCmp, upto, h3]; exact h
theorem ow_neq (hx : evO e x = some (.int k m)) (hy : evO e y = some (.int k n)) (h : K (.bool (decide (m ≠ n))) w) : OpWp P e (.binOp .neq t x y t') ty w K := fun ρ d p a g hρ => by
  have h1 := hρ _ _ hx; have h2 := hρ _ _ hy
  have h3 : (m != n) = decide (m ≠ n) := by rw [Bool.eq_iff_iff]; simp
  simp only [execOp, h1, h2, eqGuard, binOp, Op.intCmp, h3]
  simp [upto]; simpa using h

theorem ow_add (hx : evO e x = some (.int k m)) (hy : evO e y = some (.int k n)) (hr : k.wrap (m + n) = r) (h : K (.int k r) w) : OpWp P e (.binOp .add t x y t') ty w K := fun ρ d p a g hρ => by
  have h1 := hρ _ _ hx; have h2 := hρ _ _ hy
  simp [execOp, h1, h2, eqGuard, binOp, Op.intArith, upto, hr]; exact h
theorem ow_sub (hx : evO e x = some (.int k m)) (hy : evO e y = some (.int k n)) (hr : k.wrap (m - n) = r) (h : K (.int k r) w) : OpWp P e (.binOp .sub t x y t') ty w K := fun ρ d p a g hρ => by
  have h1 := hρ _ _ hx; have h2 := hρ _ _ hy
  simp [execOp, h1, h2, eqGuard, binOp, Op.intArith, upto, hr]; exact h
theorem ow_mul (hx : evO e x = some (.int k m)) (hy : evO e y = some (.int k n)) (hr : k.wrap (m * n) = r) (h : K (.int k r) w) : OpWp P e (.binOp .mul t x y t') ty w K := fun ρ d p a g hρ => by
  have h1 := hρ _ _ hx; have h2 := hρ _ _ hy
  simp [execOp, h1, h2, eqGuard, binOp, Op.intArith, upto, hr]; exact h
theorem ow_quo (hx : evO e x = some (.int k m)) (hy : evO e y = some (.int k n)) (h0 : n ≠ 0) (hr : k.wrap (m.tdiv n) = r) (h : K (.int k r) w) : OpWp P e (.binOp .quo t x y t') ty w K := fun ρ d p a g hρ => by
  have h1 := hρ _ _ hx; have h2 := hρ _ _ hy
  simp [execOp, h1, h2, eqGuard, binOp, Op.intDiv, upto, hr, h0]; exact h
theorem ow_rem (hx : evO e x = some (.int k m)) (hy : evO e y = some (.int k n)) (h0 : n ≠ 0) (hr : m.tmod n = r) (h : K (.int k r) w) : OpWp P e (.binOp .rem t x y t') ty w K := fun ρ d p a g hρ => by
  have h1 := hρ _ _ hx; have h2 := hρ _ _ hy
  simp [execOp, h1, h2, eqGuard, binOp, Op.intDiv, upto, hr, h0]; exact h

/-- what a bit operation gives -/
def bitsV (op : BinOp) (k : IntKind) (x y : Int) : Int :=
  let a := BitVec.ofInt k.bits x
  let b := BitVec.ofInt k.bits y
  match op with
  | .and => k.wrap (a &&& b).toNat
  | .or => k.wrap (a ||| b).toNat
  | .xor => k.wrap (a ^^^ b).toNat
  | _ => k.wrap (a &&& ~~~b).toNat
theorem ow_and (hx : evO e x = some (.int k m)) (hy : evO e y = some (.int k n)) (hr : bitsV .and k m n = r) (h : K (.int k r) w) : OpWp P e (.binOp .and t x y t') ty w K := fun ρ d p a g hρ => by
  have h1 := hρ _ _ hx; have h2 := hρ _ _ hy
  subst hr
  simp only [execOp, h1, h2, eqGuard, binOp, Op.intBits]
  simp [upto]; exact h
theorem ow_or (hx : evO e x = some (.int k m)) (hy : evO e y = some (.int k n)) (hr : bitsV .or k m n = r) (h : K (.int k r) w) : OpWp P e (.binOp .or t x y t') ty w K := fun ρ d p a g hρ => by
  have h1 := hρ _ _ hx; have h2 := hρ _ _ hy
  subst hr
  simp only [execOp, h1, h2, eqGuard, binOp, Op.intBits]
  simp [upto]; exact h
theorem ow_xor (hx : evO e x = some (.int k m)) (hy : evO e y = some (.int k n)) (hr : bitsV .xor k m n = r) (h : K (.int k r) w) : OpWp P e (.binOp .xor t x y t') ty w K := fun ρ d p a g hρ => by
  have h1 := hρ _ _ hx; have h2 := hρ _ _ hy
  subst hr
  simp only [execOp, h1, h2, eqGuard, binOp, Op.intBits]
  simp [upto]; exact h
theorem ow_andNot (hx : evO e x = some (.int k m)) (hy : evO e y = some (.int k n)) (hr : bitsV .andNot k m n = r) (h : K (.int k r) w) : OpWp P e (.binOp .andNot t x y t') ty w K := fun ρ d p a g hρ => by
  have h1 := hρ _ _ hx; have h2 := hρ _ _ hy
  subst hr
  have h3 : (Op.intBits .andNot k m n).run P w = .ok (.int k (bitsV .andNot k m n)) w := rfl
  simp only [execOp, h1, h2, eqGuard, binOp]
  simp [upto, h3]; exact h
variable {k' : IntKind}
theorem ow_shl (hx : evO e x = some (.int k m)) (hy : evO e y = some (.int k' n)) (h0 : 0 ≤ n) (hr : k.wrap (m * 2 ^ (min n.toNat k.bits)) = r) (h : K (.int k r) w) : OpWp P e (.binOp .shl t x y t') ty w K := fun ρ d p a g hρ => by
  have h1 := hρ _ _ hx; have h2 := hρ _ _ hy
  have h3 : ¬ n < 0 := by omega
  simp [execOp, h1, h2, eqGuard, binOp, Op.shift, upto, hr, h3]; exact h
theorem ow_shr (hx : evO e x = some (.int k m)) (hy : evO e y = some (.int k' n)) (h0 : 0 ≤ n) (hr : m.fdiv (2 ^ (min n.toNat k.bits)) = r) (h : K (.int k r) w) : OpWp P e (.binOp .shr t x y t') ty w K := fun ρ d p a g hρ => by
  have h1 := hρ _ _ hx; have h2 := hρ _ _ hy
  have h3 : ¬ n < 0 := by omega
  simp [execOp, h1, h2, eqGuard, binOp, Op.shift, upto, hr, h3]; exact h
theorem ow_neg (hx : evO e x = some (.int k m)) (hr : k.wrap (0 - m) = r) (h : K (.int k r) w) : OpWp P e (.unOp .neg t x) ty w K := fun ρ d p a g hρ => by
  have h1 := hρ _ _ hx
  subst hr
  simp only [execOp, h1, Op.unary, Op.intArith]
  simp [upto]; simpa using h
theorem ow_not {b : Bool} (hx : evO e x = some (.bool b)) (h : K (.bool !b) w) : OpWp P e (.unOp .not t x) ty w K := fun ρ d p a g hρ => by
  have h1 := hρ _ _ hx
  simp [execOp, h1, Op.unary, upto]; exact h

/-! bools, strings -/
theorem run_equalB {b c : Bool} (ht : P.underlying t = some .bool) : (Op.equal t (.bool b) (.bool c)).run P w = .ok (b == c) w := by
  unfold Op.equal
  rw [show Op.maxDepth = 9999 + 1 from rfl, Op.equalIn]
  simp [run_underlying ht]
theorem ow_eqlB {b c : Bool} (ht : P.underlying t = some .bool) (hx : evO e x = some (.bool b)) (hy : evO e y = some (.bool c)) (h : K (.bool (b == c)) w) : OpWp P e (.binOp .eql t x y t') ty w K := fun ρ d p a g hρ => by
  have h1 := hρ _ _ hx; have h2 := hρ _ _ hy
  have h3 := run_equalB (P := P) (w := w) (b := b) (c := c) ht
  simp only [execOp, h1, h2, eqGuard, binOp]
  simp [h3, upto]; exact h
theorem ow_neqB {b c : Bool} (ht : P.underlying t = some .bool) (hx : evO e x = some (.bool b)) (hy : evO e y = some (.bool c)) (h : K (.bool !(b == c)) w) : OpWp P e (.binOp .neq t x y t') ty w K := fun ρ d p a g hρ => by
  have h1 := hρ _ _ hx; have h2 := hρ _ _ hy
  have h3 := run_equalB (P := P) (w := w) (b := b) (c := c) ht
  simp only [execOp, h1, h2, eqGuard, binOp]
  simp [h3, upto]; exact h
theorem ow_eqlS {s u : ByteArray} (hx : evO e x = some (.string s)) (hy : evO e y = some (.string u)) (h : K (.bool (decide (s = u))) w) : OpWp P e (.binOp .eql t x y t') ty w K := fun ρ d p a g hρ => by
  have h1 := hρ _ _ hx; have h2 := hρ _ _ hy
  have h3 : (s.toList == u.toList) = decide (s = u) := by
    rw [Bool.eq_iff_iff]
    simp only [beq_iff_eq, decide_eq_true_eq]
    constructor
    · intro h
      rw [ByteArray.toList_eq, ByteArray.toList_eq] at h
      cases s; cases u; simp_all
    · rintro rfl; rfl
  simp only [execOp, h1, h2, eqGuard, binOp, Op.stringOp, h3]
  simp [upto]; simpa using h
theorem ow_neqS {s u : ByteArray} (hx : evO e x = some (.string s)) (hy : evO e y = some (.string u)) (h : K (.bool (decide (s ≠ u))) w) : OpWp P e (.binOp .neq t x y t') ty w K := fun ρ d p a g hρ => by
  have h1 := hρ _ _ hx; have h2 := hρ _ _ hy
  have h3 : (!(s.toList == u.toList)) = decide (s ≠ u) := by
    rw [Bool.eq_iff_iff]
    simp only [Bool.not_eq_true', beq_eq_false_iff_ne, ne_eq, decide_eq_true_eq]
    refine not_congr ⟨fun h => ?_, fun h => h ▸ rfl⟩
    rw [ByteArray.toList_eq, ByteArray.toList_eq] at h
    cases s; cases u; simp_all
  simp only [execOp, h1, h2, eqGuard, binOp, Op.stringOp, h3]
  simp [upto]; simpa using h
theorem ow_addS {s u : ByteArray} (hx : evO e x = some (.string s)) (hy : evO e y = some (.string u)) (hs : s.size + u.size ≤ 9223372036854775807) (h : K (.string (s ++ u)) w) : OpWp P e (.binOp .add t x y t') ty w K := fun ρ d p a g hρ => by
  have h1 := hρ _ _ hx; have h2 := hρ _ _ hy
  have h3 : ¬ ((s.size + u.size : Nat) : Int) > IntKind.i64.max := by
    have : IntKind.i64.max = 9223372036854775807 := by decide
    rw [this]; omega
  simp only [execOp, h1, h2, eqGuard, binOp, Op.stringOp, h3]
  simp [upto]; simpa using h


/-! tests: two ways -/
theorem bsp {p : Prop} [Decidable p] {R : Bool → Prop} (h1 : p → R true) (h2 : ¬ p → R false) : R (decide p) := by
  by_cases hp : p
  · rw [decide_eq_true hp]; exact h1 hp
  · rw [decide_eq_false hp]; exact h2 hp
theorem ow_lss2 (hx : evO e x = some (.int k m)) (hy : evO e y = some (.int k n)) (h1 : m < n → K (.bool true) w) (h2 : ¬ (m < n) → K (.bool false) w) : OpWp P e (.binOp .lss t x y t') ty w K :=
  ow_lss hx hy (bsp (R := fun b => K (.bool b) w) h1 h2)
theorem ow_leq2 (hx : evO e x = some (.int k m)) (hy : evO e y = some (.int k n)) (h1 : m ≤ n → K (.bool true) w) (h2 : ¬ (m ≤ n) → K (.bool false) w) : OpWp P e (.binOp .leq t x y t') ty w K :=
  ow_leq hx hy (bsp (R := fun b => K (.bool b) w) h1 h2)
theorem ow_gtr2 (hx : evO e x = some (.int k m)) (hy : evO e y = some (.int k n)) (h1 : n < m → K (.bool true) w) (h2 : ¬ (n < m) → K (.bool false) w) : OpWp P e (.binOp .gtr t x y t') ty w K :=
  ow_gtr hx hy (bsp (R := fun b => K (.bool b) w) h1 h2)
theorem ow_geq2 (hx : evO e x = some (.int k m)) (hy : evO e y = some (.int k n)) (h1 : n ≤ m → K (.bool true) w) (h2 : ¬ (n ≤ m) → K (.bool false) w) : OpWp P e (.binOp .geq t x y t') ty w K :=
  ow_geq hx hy (bsp (R := fun b => K (.bool b) w) h1 h2)
theorem ow_eql2 (hx : evO e x = some (.int k m)) (hy : evO e y = some (.int k n)) (h1 : m = n → K (.bool true) w) (h2 : ¬ (m = n) → K (.bool false) w) : OpWp P e (.binOp .eql t x y t') ty w K :=
  ow_eql hx hy (bsp (R := fun b => K (.bool b) w) h1 h2)
theorem ow_neq2 (hx : evO e x = some (.int k m)) (hy : evO e y = some (.int k n)) (h1 : m ≠ n → K (.bool true) w) (h2 : ¬ (m ≠ n) → K (.bool false) w) : OpWp P e (.binOp .neq t x y t') ty w K :=
  ow_neq hx hy (bsp (R := fun b => K (.bool b) w) h1 h2)
theorem ow_eqlS2 {s u : ByteArray} (hx : evO e x = some (.string s)) (hy : evO e y = some (.string u)) (h1 : s = u → K (.bool true) w) (h2 : ¬ (s = u) → K (.bool false) w) : OpWp P e (.binOp .eql t x y t') ty w K :=
  ow_eqlS hx hy (bsp (R := fun b => K (.bool b) w) h1 h2)
theorem ow_neqS2 {s u : ByteArray} (hx : evO e x = some (.string s)) (hy : evO e y = some (.string u)) (h1 : s ≠ u → K (.bool true) w) (h2 : ¬ (s ≠ u) → K (.bool false) w) : OpWp P e (.binOp .neq t x y t') ty w K :=
  ow_neqS hx hy (bsp (R := fun b => K (.bool b) w) h1 h2)

/-! sums that stay in range; quotients of numbers that are not negative -/
theorem w64 {n : Int} (h : -9223372036854775808 ≤ n ∧ n ≤ 9223372036854775807) : IntKind.i64.wrap n = n := IntWalk.i64_in n h
theorem q64 {m n : Int} (h : 0 ≤ m ∧ m ≤ 9223372036854775807 ∧ 1 ≤ n) : IntKind.i64.wrap (m.tdiv n) = m / n := IntWalk.i64_quo m n h
theorem m64 {m n : Int} (h : 0 ≤ m) : m.tmod n = m % n := Int.tmod_eq_emod_of_nonneg h

/-! conversions between kinds of integers -/
theorem ow_conv {src dst : TypeId} {k1 k2 : IntKind} (hs : P.underlying src = some (.int k1)) (hd : P.underlying dst = some (.int k2)) (hx : evO e x = some (.int k m)) (hr : k2.wrap m = r) (h : K (.int k2 r) w) : OpWp P e (.convert src dst x) ty w K := fun ρ d p a g hρ => by
  have h1 := hρ _ _ hx
  simp [execOp, h1, convert, run_underlying hs, run_underlying hd, Conv.intToInt, upto, hr]; exact h

/-! tuples, functions -/
theorem ow_extract {vs : Array Value} {i : Nat} {v : Value} (hx : evO e x = some (.tuple vs)) (hv : vs[i]? = some v) (h : K v w) : OpWp P e (.extract x i) ty w K := fun ρ d p a g hρ => by
  have h1 := hρ _ _ hx
  simp [execOp, h1, Instr.extract, hv, upto]; exact h
theorem ow_nilCheck {a : Addr} (hx : evO e x = some (.pointer (some a))) (h : K (.pointer (some a)) w) : OpWp P e (.nilCheck x) ty w K := fun ρ d p af g hρ => by
  have h1 := hρ _ _ hx
  simp [execOp, h1, upto]; exact h

/-! len, cap -/
theorem ow_len {A : Option Addr} {l c : Nat} {el : TypeId} (ht : P.underlying t = some (.slice el)) (hx : evO e x = some (.slice A l c)) (h : K (.int .i64 l) w) : OpWp P e (.call ⟨.builtin .len, #[x], #[t]⟩) ty w K := fun ρ d p a g hρ => by
  have h1 := hρ _ _ hx
  simp [execOp, resolve, invoke, builtin, h1, Builtin.len_, run_underlying ht, upto, goInt]; exact h
theorem ow_lenS {s : ByteArray} (ht : P.underlying t = some .string) (hx : evO e x = some (.string s)) (h : K (.int .i64 s.size) w) : OpWp P e (.call ⟨.builtin .len, #[x], #[t]⟩) ty w K := fun ρ d p a g hρ => by
  have h1 := hρ _ _ hx
  simp [execOp, resolve, invoke, builtin, h1, Builtin.len_, run_underlying ht, upto, goInt]; exact h

/-! min, max of two integers -/
theorem ow_max (hx : evO e x = some (.int k m)) (hy : evO e y = some (.int k n)) (h : K (.int k (max m n)) w) {ts : Array TypeId} : OpWp P e (.call ⟨.builtin .max, #[x, y], ts⟩) ty w K := fun ρ d p a g hρ => by
  have h1 := hρ _ _ hx; have h2 := hρ _ _ hy
  have h3 : (if n > m then n else m) = max m n := by rw [Int.max_def]; split <;> split <;> omega
  simp only [execOp, resolve, invoke, builtin, Builtin.max_, List.map_toArray, List.map_cons, List.map_nil, h1, h2]
  simp [Builtin.max2, upto, h3]; exact h
theorem ow_min (hx : evO e x = some (.int k m)) (hy : evO e y = some (.int k n)) (h : K (.int k (min m n)) w) {ts : Array TypeId} : OpWp P e (.call ⟨.builtin .min, #[x, y], ts⟩) ty w K := fun ρ d p a g hρ => by
  have h1 := hρ _ _ hx; have h2 := hρ _ _ hy
  have h3 : (if n < m then n else m) = min m n := by rw [Int.min_def]; split <;> split <;> omega
  simp only [execOp, resolve, invoke, builtin, Builtin.min_, List.map_toArray, List.map_cons, List.map_nil, h1, h2]
  simp [Builtin.min2, upto, h3]; exact h

/-! a character of a string -/
theorem ow_indexS {s : ByteArray} (ht : P.underlying t = some .string) (hx : evO e x = some (.string s)) (hy : evO e y = some (.int k m)) (h0 : 0 ≤ m) (h1 : m < s.size) (h : K (.int .u8 ((s.data.toList.getD m.toNat 0).toNat : Nat)) w) : OpWp P e (.index t x y) ty w K := fun ρ d p a g hρ => by
  have g1 := hρ _ _ hx; have g2 := hρ _ _ hy
  have hlt : m.toNat < s.size := by omega
  have hb : (if 0 ≤ m then s[m.toNat]? else none) = some s[m.toNat] := by rw [if_pos h0]; simp [hlt]
  have hc : (s.data.toList.getD m.toNat 0) = s[m.toNat] := by
    simp only [List.getD_eq_getElem?_getD, Array.getElem?_toList]
    rw [Array.getElem?_eq_getElem (by simpa using hlt)]
    rfl
  rw [hc] at h
  simp only [execOp, g1, g2, Instr.index, asIntOf]
  simp [run_underlying ht, hb, upto]
  simpa [h0, hlt] using h

/-! calls of Go's functions -/
/-- the values of some operands -/
def argsO (e : List (Nat × Value)) : List Operand → Option (List Value)
  | [] => some []
  | x :: r => match evO e x with
    | some v => match argsO e r with
      | some vs => some (v :: vs)
      | none => none
    | none => none
theorem argsO_spec {ρ : Operand → Value} (hρ : Knows e ρ) : ∀ (l : List Operand) (us : List Value), argsO e l = some us → l.map ρ = us
  | [], us, h => by simp [argsO] at h; simp [h]
  | x :: r, us, h => by
    simp only [argsO] at h
    split at h
    · rename_i v hv
      split at h
      · rename_i vs hvs
        simp at h; subst h
        simp [hρ x v hv, argsO_spec hρ r vs hvs]
      · cases h
    · cases h
def partsO (e : List (Nat × Value)) : List (Nat × Operand) → Option (List (Nat × Value))
  | [] => some []
  | (i, x) :: r => match evO e x with
    | some v => match partsO e r with
      | some vs => some ((i, v) :: vs)
      | none => none
    | none => none
theorem partsO_spec {ρ : Operand → Value} (hρ : Knows e ρ) : ∀ (l : List (Nat × Operand)) (us : List (Nat × Value)), partsO e l = some us → l.map (fun (i, x) => (i, ρ x)) = us
  | [], us, h => by simp [partsO] at h; simp [h]
  | (i, x) :: r, us, h => by
    simp only [partsO] at h
    split at h
    · rename_i v hv
      split at h
      · rename_i vs hvs
        simp at h; subst h
        have := partsO_spec hρ r vs hvs
        simp only [List.map_cons, this, hρ x v hv]
      · cases h
    · cases h
theorem map_knows {ρ : Operand → Value} (hρ : Knows e ρ) : ∀ (l : List Operand) (us : List Value), l.map (evO e) = us.map some → l.map ρ = us := by
  intro l
  induction l with
  | nil => intro us h; cases us <;> simp_all
  | cons x l ih =>
    intro us h
    cases us with
    | nil => simp at h
    | cons u us =>
      simp only [List.map_cons, List.cons.injEq] at h
      simp only [List.map_cons, hρ x u h.1, ih us h.2]

/-- function f has a body: a call of it enters it -/
def Enters (P : Program) (f : FuncId) : Prop := ∀ args w, (callFunc f args).run P w = .ok (.enter f args) w

theorem enters_of {f : FuncId} {fn : Func} (hf : P.funcs[f]? = some fn) (hn : (fn.name == "runtime.NumGoroutine") = false) (hb : fn.body.isNone = false) : Enters P f := fun args w => by
  simp only [callFunc, Sem.run_bind, run_program, Result.andThen_ok, hf, hn, hb, Bool.false_eq_true, if_false, Sem.run_pure]

theorem ow_call {f : FuncId} {args : Array Operand} {ts : Array TypeId} {vs : List Value} (hf : Enters P f) (hx : argsO e args.toList = some vs)
    (hc : Calls P f vs.toArray w (Ret K)) : OpWp P e (.call ⟨.value (.func f), args, ts⟩) ty w K := fun ρ d p a g hρ => by
  have h1 : args.map ρ = vs.toArray := Array.ext' (by simpa using argsO_spec hρ _ _ hx)
  have h2 : ρ (.func f) = .func (.func f) #[] #[] := hρ (.func f) _ rfl
  simp only [execOp, resolve, h1, h2, Deferred.ofValue, invoke]
  simp only [Sem.run_bind, Sem.run_pure, Result.andThen_ok, Array.append_empty, Array.empty_append]
  rw [hf _ w]
  simp only [upto]
  exact Calls.mono hc fun e w'' he => by cases e <;> first | exact he | exact he.elim

/-- a call of a function value: what it has captured comes behind the arguments -/
theorem ow_callV {f : FuncId} {x : Operand} {first captured : Array Value} {args : Array Operand} {ts : Array TypeId} {vs : List Value} (hf : Enters P f) (hv : evO e x = some (.func (.func f) first captured)) (hx : argsO e args.toList = some vs)
    (hc : Calls P f (first ++ vs.toArray ++ captured) w (Ret K)) : OpWp P e (.call ⟨.value x, args, ts⟩) ty w K := fun ρ d p a g hρ => by
  have h1 : args.map ρ = vs.toArray := Array.ext' (by simpa using argsO_spec hρ _ _ hx)
  have h2 := hρ _ _ hv
  simp only [execOp, resolve, h1, h2, Deferred.ofValue, invoke]
  simp only [Sem.run_bind, Sem.run_pure, Result.andThen_ok]
  rw [hf _ w]
  simp only [upto]
  exact Calls.mono hc fun e w'' he => by cases e <;> first | exact he | exact he.elim

theorem ow_makeFunc {f : FuncId} {captured : Array Operand} {vs : List Value} (hx : argsO e captured.toList = some vs) (h : K (.func (.func f) #[] vs.toArray) w) : OpWp P e (.makeFunc (.func f) #[] captured) ty w K := fun ρ d p a g hρ => by
  have h1 : captured.map ρ = vs.toArray := Array.ext' (by simpa using argsO_spec hρ _ _ hx)
  simp [execOp, h1, Instr.makeFunc, upto]; exact h
end

end Go.Proofs.Ytdoibplhbdkapaa
