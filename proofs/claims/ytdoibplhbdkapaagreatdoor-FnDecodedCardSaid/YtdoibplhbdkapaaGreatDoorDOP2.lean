/- Parts. No condition. -/
import Derived.Test.YtdoibplhbdkapaaGreatDoorDOP1
import Derived.WalkSpells
import Derived.Maps.AppendAt
import Derived.Lib.ConvBytes
import Derived.Laws.ResultCell
namespace Go.Proofs.YtdoibplhbdkapaaGreatDoor
open Go.RowKit
set_option linter.unusedVariables false
set_option linter.unusedSimpArgs false
section
variable {P : Program} {e : List (Nat × Value)} {ty : TypeId} {w : World} {K : Value → World → Prop}
theorem aC {x : Operand} {v : Value} (hx : fV e x = some v) (h : K v w) : OpWp P e (.move x) ty w K := fun ρ d p a g hρ => by
 have h1 := hρ _ _ hx
 simp only [execOp, h1, Sem.run_pure, upto]; exact h
theorem aE {x : Operand} {v : Value} (hx : fV e x = some v) (h : K v w) : OpWp P e (.assign x) ty w K := fun ρ d p a g hρ => by
 have h1 := hρ _ _ hx
 simp only [execOp, h1, Sem.run_pure, upto]; exact h
theorem aK {c x y : Operand} {b : Bool} {v : Value} (hc : fV e c = some (.bool b)) (hv : (if b then fV e x else fV e y) = some v) (h : K v w) : OpWp P e (.pick c x y) ty w K := fun ρ d p a g hρ => by
 have h1 := hρ _ _ hc
 cases b
 · have h2 := hρ _ _ hv
   simp [execOp, h1, asBool, upto, h2]; exact h
 · have h2 := hρ _ _ hv
   simp [execOp, h1, asBool, upto, h2]; exact h
variable {x y : Operand} {t t' : TypeId} {k : IntKind} {m n r : Int}
theorem tF (hx : fV e x = some (.int k m)) (hy : fV e y = some (.int k n)) (h : K (.bool (decide (m < n))) w) : OpWp P e (.binOp .lss t x y t') ty w K := fun ρ d p a g hρ => by
 have h1 := hρ _ _ hx; have h2 := hρ _ _ hy
 simp [execOp, h1, h2, eqGuard, binOp, Op.intCmp, upto]; exact h
theorem qW (hx : fV e x = some (.int k m)) (hy : fV e y = some (.int k n)) (h : K (.bool (decide (m ≤ n))) w) : OpWp P e (.binOp .leq t x y t') ty w K := fun ρ d p a g hρ => by
 have h1 := hρ _ _ hx; have h2 := hρ _ _ hy
 simp [execOp, h1, h2, eqGuard, binOp, Op.intCmp, upto]; exact h
theorem rZ (hx : fV e x = some (.int k m)) (hy : fV e y = some (.int k n)) (h : K (.bool (decide (n < m))) w) : OpWp P e (.binOp .gtr t x y t') ty w K := fun ρ d p a g hρ => by
 have h1 := hρ _ _ hx; have h2 := hρ _ _ hy
 simp [execOp, h1, h2, eqGuard, binOp, Op.intCmp, upto]; exact h
theorem vX (hx : fV e x = some (.int k m)) (hy : fV e y = some (.int k n)) (h : K (.bool (decide (n ≤ m))) w) : OpWp P e (.binOp .geq t x y t') ty w K := fun ρ d p a g hρ => by
 have h1 := hρ _ _ hx; have h2 := hρ _ _ hy
 simp [execOp, h1, h2, eqGuard, binOp, Op.intCmp, upto]; exact h
theorem jJ (hx : fV e x = some (.int k m)) (hy : fV e y = some (.int k n)) (h : K (.bool (decide (m = n))) w) : OpWp P e (.binOp .eql t x y t') ty w K := fun ρ d p a g hρ => by
 have h1 := hρ _ _ hx; have h2 := hρ _ _ hy
 have h3 : (m == n) = decide (m = n) := by rw [Bool.eq_iff_iff]; simp
 simp [execOp, h1, h2, eqGuard, binOp, Op.intCmp, upto, h3]; exact h
theorem nE (hx : fV e x = some (.int k m)) (hy : fV e y = some (.int k n)) (h : K (.bool (decide (m ≠ n))) w) : OpWp P e (.binOp .neq t x y t') ty w K := fun ρ d p a g hρ => by
 have h1 := hρ _ _ hx; have h2 := hρ _ _ hy
 have h3 : (m != n) = decide (m ≠ n) := by rw [Bool.eq_iff_iff]; simp
 simp only [execOp, h1, h2, eqGuard, binOp, Op.intCmp, h3]
 simp [upto]; simpa using h
theorem aY (hx : fV e x = some (.int k m)) (hy : fV e y = some (.int k n)) (hr : k.wrap (m + n) = r) (h : K (.int k r) w) : OpWp P e (.binOp .add t x y t') ty w K := fun ρ d p a g hρ => by
 have h1 := hρ _ _ hx; have h2 := hρ _ _ hy
 simp [execOp, h1, h2, eqGuard, binOp, Op.intArith, upto, hr]; exact h
theorem fZ (hx : fV e x = some (.int k m)) (hy : fV e y = some (.int k n)) (hr : k.wrap (m - n) = r) (h : K (.int k r) w) : OpWp P e (.binOp .sub t x y t') ty w K := fun ρ d p a g hρ => by
 have h1 := hρ _ _ hx; have h2 := hρ _ _ hy
 simp [execOp, h1, h2, eqGuard, binOp, Op.intArith, upto, hr]; exact h
theorem fO (hx : fV e x = some (.int k m)) (hy : fV e y = some (.int k n)) (hr : k.wrap (m * n) = r) (h : K (.int k r) w) : OpWp P e (.binOp .mul t x y t') ty w K := fun ρ d p a g hρ => by
 have h1 := hρ _ _ hx; have h2 := hρ _ _ hy
 simp [execOp, h1, h2, eqGuard, binOp, Op.intArith, upto, hr]; exact h
theorem gK (hx : fV e x = some (.int k m)) (hy : fV e y = some (.int k n)) (h0 : n ≠ 0) (hr : k.wrap (m.tdiv n) = r) (h : K (.int k r) w) : OpWp P e (.binOp .quo t x y t') ty w K := fun ρ d p a g hρ => by
 have h1 := hρ _ _ hx; have h2 := hρ _ _ hy
 simp [execOp, h1, h2, eqGuard, binOp, Op.intDiv, upto, hr, h0]; exact h
theorem fK (hx : fV e x = some (.int k m)) (hy : fV e y = some (.int k n)) (h0 : n ≠ 0) (hr : m.tmod n = r) (h : K (.int k r) w) : OpWp P e (.binOp .rem t x y t') ty w K := fun ρ d p a g hρ => by
 have h1 := hρ _ _ hx; have h2 := hρ _ _ hy
 simp [execOp, h1, h2, eqGuard, binOp, Op.intDiv, upto, hr, h0]; exact h
def lN (op : BinOp) (k : IntKind) (x y : Int) : Int :=
 let a := BitVec.ofInt k.bits x
 let b := BitVec.ofInt k.bits y
 match op with
 | .and => k.wrap (a &&& b).toNat
 | .or => k.wrap (a ||| b).toNat
 | .xor => k.wrap (a ^^^ b).toNat
 | _ => k.wrap (a &&& ~~~b).toNat
theorem sA (hx : fV e x = some (.int k m)) (hy : fV e y = some (.int k n)) (hr : lN .and k m n = r) (h : K (.int k r) w) : OpWp P e (.binOp .and t x y t') ty w K := fun ρ d p a g hρ => by
 have h1 := hρ _ _ hx; have h2 := hρ _ _ hy
 subst hr
 simp only [execOp, h1, h2, eqGuard, binOp, Op.intBits]
 simp [upto]; exact h
theorem aIU (hx : fV e x = some (.int k m)) (hy : fV e y = some (.int k n)) (hr : lN .or k m n = r) (h : K (.int k r) w) : OpWp P e (.binOp .or t x y t') ty w K := fun ρ d p a g hρ => by
 have h1 := hρ _ _ hx; have h2 := hρ _ _ hy
 subst hr
 simp only [execOp, h1, h2, eqGuard, binOp, Op.intBits]
 simp [upto]; exact h
theorem aAB (hx : fV e x = some (.int k m)) (hy : fV e y = some (.int k n)) (hr : lN .xor k m n = r) (h : K (.int k r) w) : OpWp P e (.binOp .xor t x y t') ty w K := fun ρ d p a g hρ => by
 have h1 := hρ _ _ hx; have h2 := hρ _ _ hy
 subst hr
 simp only [execOp, h1, h2, eqGuard, binOp, Op.intBits]
 simp [upto]; exact h
theorem aFz (hx : fV e x = some (.int k m)) (hy : fV e y = some (.int k n)) (hr : lN .andNot k m n = r) (h : K (.int k r) w) : OpWp P e (.binOp .andNot t x y t') ty w K := fun ρ d p a g hρ => by
 have h1 := hρ _ _ hx; have h2 := hρ _ _ hy
 subst hr
 have h3 : (Op.intBits .andNot k m n).run P w = .ok (.int k (lN .andNot k m n)) w := rfl
 simp only [execOp, h1, h2, eqGuard, binOp]
 simp [upto, h3]; exact h
variable {k' : IntKind}
theorem tG (hx : fV e x = some (.int k m)) (hy : fV e y = some (.int k' n)) (h0 : 0 ≤ n) (hr : k.wrap (m * 2 ^ (min n.toNat k.bits)) = r) (h : K (.int k r) w) : OpWp P e (.binOp .shl t x y t') ty w K := fun ρ d p a g hρ => by
 have h1 := hρ _ _ hx; have h2 := hρ _ _ hy
 have h3 : ¬ n < 0 := by omega
 simp [execOp, h1, h2, eqGuard, binOp, Op.shift, upto, hr, h3]; exact h
theorem sB (hx : fV e x = some (.int k m)) (hy : fV e y = some (.int k' n)) (h0 : 0 ≤ n) (hr : m.fdiv (2 ^ (min n.toNat k.bits)) = r) (h : K (.int k r) w) : OpWp P e (.binOp .shr t x y t') ty w K := fun ρ d p a g hρ => by
 have h1 := hρ _ _ hx; have h2 := hρ _ _ hy
 have h3 : ¬ n < 0 := by omega
 simp [execOp, h1, h2, eqGuard, binOp, Op.shift, upto, hr, h3]; exact h
theorem bP {b : Bool} (hx : fV e x = some (.bool b)) (h : K (.bool !b) w) : OpWp P e (.unOp .not t x) ty w K := fun ρ d p a g hρ => by
 have h1 := hρ _ _ hx
 simp [execOp, h1, Op.unary, upto]; exact h
theorem aDW {b c : Bool} (ht : P.underlying t = some .bool) : (Op.equal t (.bool b) (.bool c)).run P w = .ok (b == c) w := by
 unfold Op.equal
 rw [show Op.maxDepth = 9999 + 1 from rfl, Op.equalIn]
 simp [run_underlying ht]
theorem aId {b c : Bool} (ht : P.underlying t = some .bool) (hx : fV e x = some (.bool b)) (hy : fV e y = some (.bool c)) (h : K (.bool (b == c)) w) : OpWp P e (.binOp .eql t x y t') ty w K := fun ρ d p a g hρ => by
 have h1 := hρ _ _ hx; have h2 := hρ _ _ hy
 have h3 := aDW (P := P) (w := w) (b := b) (c := c) ht
 simp only [execOp, h1, h2, eqGuard, binOp]
 simp [h3, upto]; exact h
theorem aAb {s u : ByteArray} (hx : fV e x = some (.string s)) (hy : fV e y = some (.string u)) (h : K (.bool (decide (s = u))) w) : OpWp P e (.binOp .eql t x y t') ty w K := fun ρ d p a g hρ => by
 have h1 := hρ _ _ hx; have h2 := hρ _ _ hy
 have h3 : (s.toList == u.toList) = decide (s = u) := by
   rw [Bool.eq_iff_iff]
   simp only [beq_iff_eq, decide_eq_true_eq]
   constructor
   · intro h
     rw [ByteArray.toList_eq, ByteArray.toList_eq] at h
     cases s; cases u; simp_all
   · rintro rfl; rfl
 simp only [execOp, h1, h2, eqGuard, binOp, Op.stringOp, h3]
 simp [upto]; simpa using h
theorem aB6 {s u : ByteArray} (hx : fV e x = some (.string s)) (hy : fV e y = some (.string u)) (hs : s.size + u.size ≤ 9223372036854775807) (h : K (.string (s ++ u)) w) : OpWp P e (.binOp .add t x y t') ty w K := fun ρ d p a g hρ => by
 have h1 := hρ _ _ hx; have h2 := hρ _ _ hy
 have h3 : ¬ ((s.size + u.size : Nat) : Int) > IntKind.i64.max := by
   have : IntKind.i64.max = 9223372036854775807 := by decide
   rw [this]; omega
 simp only [execOp, h1, h2, eqGuard, binOp, Op.stringOp, h3]
 simp [upto]; simpa using h
theorem bsp {p : Prop} [Decidable p] {R : Bool → Prop} (h1 : p → R true) (h2 : ¬ p → R false) : R (decide p) := by
 by_cases hp : p
 · rw [decide_eq_true hp]; exact h1 hp
 · rw [decide_eq_false hp]; exact h2 hp
theorem cU (hx : fV e x = some (.int k m)) (hy : fV e y = some (.int k n)) (h1 : m < n → K (.bool true) w) (h2 : ¬ (m < n) → K (.bool false) w) : OpWp P e (.binOp .lss t x y t') ty w K :=
 tF hx hy (bsp (R := fun b => K (.bool b) w) h1 h2)
theorem aAc (hx : fV e x = some (.int k m)) (hy : fV e y = some (.int k n)) (h1 : m ≤ n → K (.bool true) w) (h2 : ¬ (m ≤ n) → K (.bool false) w) : OpWp P e (.binOp .leq t x y t') ty w K :=
 qW hx hy (bsp (R := fun b => K (.bool b) w) h1 h2)
theorem fG (hx : fV e x = some (.int k m)) (hy : fV e y = some (.int k n)) (h1 : n < m → K (.bool true) w) (h2 : ¬ (n < m) → K (.bool false) w) : OpWp P e (.binOp .gtr t x y t') ty w K :=
 rZ hx hy (bsp (R := fun b => K (.bool b) w) h1 h2)
theorem lV (hx : fV e x = some (.int k m)) (hy : fV e y = some (.int k n)) (h1 : n ≤ m → K (.bool true) w) (h2 : ¬ (n ≤ m) → K (.bool false) w) : OpWp P e (.binOp .geq t x y t') ty w K :=
 vX hx hy (bsp (R := fun b => K (.bool b) w) h1 h2)
theorem dP (hx : fV e x = some (.int k m)) (hy : fV e y = some (.int k n)) (h1 : m = n → K (.bool true) w) (h2 : ¬ (m = n) → K (.bool false) w) : OpWp P e (.binOp .eql t x y t') ty w K :=
 jJ hx hy (bsp (R := fun b => K (.bool b) w) h1 h2)
theorem gH (hx : fV e x = some (.int k m)) (hy : fV e y = some (.int k n)) (h1 : m ≠ n → K (.bool true) w) (h2 : ¬ (m ≠ n) → K (.bool false) w) : OpWp P e (.binOp .neq t x y t') ty w K :=
 nE hx hy (bsp (R := fun b => K (.bool b) w) h1 h2)
theorem aGP {s u : ByteArray} (hx : fV e x = some (.string s)) (hy : fV e y = some (.string u)) (h1 : s = u → K (.bool true) w) (h2 : ¬ (s = u) → K (.bool false) w) : OpWp P e (.binOp .eql t x y t') ty w K :=
 aAb hx hy (bsp (R := fun b => K (.bool b) w) h1 h2)
theorem dM {n : Int} (h : -9223372036854775808 ≤ n ∧ n ≤ 9223372036854775807) : IntKind.i64.wrap n = n := IntWalk.i64_in n h
theorem vK {m n : Int} (h : 0 ≤ m ∧ m ≤ 9223372036854775807 ∧ 1 ≤ n) : IntKind.i64.wrap (m.tdiv n) = m / n := IntWalk.i64_quo m n h
theorem qZ {m n : Int} (h : 0 ≤ m) : m.tmod n = m % n := Int.tmod_eq_emod_of_nonneg h
theorem jC {src dst : TypeId} {k1 k2 : IntKind} (hs : P.underlying src = some (.int k1)) (hd : P.underlying dst = some (.int k2)) (hx : fV e x = some (.int k m)) (hr : k2.wrap m = r) (h : K (.int k2 r) w) : OpWp P e (.convert src dst x) ty w K := fun ρ d p a g hρ => by
 have h1 := hρ _ _ hx
 simp [execOp, h1, convert, run_underlying hs, run_underlying hd, Conv.intToInt, upto, hr]; exact h
theorem cX {vs : Array Value} {i : Nat} {v : Value} (hx : fV e x = some (.tuple vs)) (hv : vs[i]? = some v) (h : K v w) : OpWp P e (.extract x i) ty w K := fun ρ d p a g hρ => by
 have h1 := hρ _ _ hx
 simp [execOp, h1, Instr.extract, hv, upto]; exact h
theorem dJ {a : Addr} (hx : fV e x = some (.pointer (some a))) (h : K (.pointer (some a)) w) : OpWp P e (.nilCheck x) ty w K := fun ρ d p af g hρ => by
 have h1 := hρ _ _ hx
 simp [execOp, h1, upto]; exact h
theorem bO {A : Option Addr} {l c : Nat} {el : TypeId} (ht : P.underlying t = some (.slice el)) (hx : fV e x = some (.slice A l c)) (h : K (.int .i64 l) w) : OpWp P e (.call ⟨.builtin .len, #[x], #[t]⟩) ty w K := fun ρ d p a g hρ => by
 have h1 := hρ _ _ hx
 simp [execOp, resolve, invoke, builtin, h1, Builtin.len_, run_underlying ht, upto, goInt]; exact h
theorem jY {s : ByteArray} (ht : P.underlying t = some .string) (hx : fV e x = some (.string s)) (h : K (.int .i64 s.size) w) : OpWp P e (.call ⟨.builtin .len, #[x], #[t]⟩) ty w K := fun ρ d p a g hρ => by
 have h1 := hρ _ _ hx
 simp [execOp, resolve, invoke, builtin, h1, Builtin.len_, run_underlying ht, upto, goInt]; exact h
theorem aAC (hx : fV e x = some (.int k m)) (hy : fV e y = some (.int k n)) (h : K (.int k (min m n)) w) {ts : Array TypeId} : OpWp P e (.call ⟨.builtin .min, #[x, y], ts⟩) ty w K := fun ρ d p a g hρ => by
 have h1 := hρ _ _ hx; have h2 := hρ _ _ hy
 have h3 : (if n < m then n else m) = min m n := by rw [Int.min_def]; split <;> split <;> omega
 simp only [execOp, resolve, invoke, builtin, Builtin.min_, List.map_toArray, List.map_cons, List.map_nil, h1, h2]
 simp [Builtin.min2, upto, h3]; exact h
theorem jQ {s : ByteArray} (ht : P.underlying t = some .string) (hx : fV e x = some (.string s)) (hy : fV e y = some (.int k m)) (h0 : 0 ≤ m) (h1 : m < s.size) (h : K (.int .u8 ((s.data.toList.getD m.toNat 0).toNat : Nat)) w) : OpWp P e (.index t x y) ty w K := fun ρ d p a g hρ => by
 have g1 := hρ _ _ hx; have g2 := hρ _ _ hy
 have hlt : m.toNat < s.size := by omega
 have hb : (if 0 ≤ m then s[m.toNat]? else none) = some s[m.toNat] := by rw [if_pos h0]; simp [hlt]
 have hc : (s.data.toList.getD m.toNat 0) = s[m.toNat] := by
   simp only [List.getD_eq_getElem?_getD, Array.getElem?_toList]
   rw [Array.getElem?_eq_getElem (by simpa using hlt)]
   rfl
 rw [hc] at h
 simp only [execOp, g1, g2, Instr.index, asIntOf]
 simp [run_underlying ht, hb, upto]
 simpa [h0, hlt] using h
def tH (e : List (Nat × Value)) : List Operand → Option (List Value)
 | [] => some []
 | x :: r => match fV e x with
   | some v => match tH e r with
     | some vs => some (v :: vs)
     | none => none
   | none => none
theorem pU {ρ : Operand → Value} (hρ : aCJ e ρ) : ∀ (l : List Operand) (us : List Value), tH e l = some us → l.map ρ = us
 | [], us, h => by simp [tH] at h; simp [h]
 | x :: r, us, h => by
   simp only [tH] at h
   split at h
   · rename_i v hv
     split at h
     · rename_i vs hvs
       simp at h; subst h
       simp [hρ x v hv, pU hρ r vs hvs]
     · cases h
   · cases h
def vY (e : List (Nat × Value)) : List (Nat × Operand) → Option (List (Nat × Value))
 | [] => some []
 | (i, x) :: r => match fV e x with
   | some v => match vY e r with
     | some vs => some ((i, v) :: vs)
     | none => none
   | none => none
theorem tJ {ρ : Operand → Value} (hρ : aCJ e ρ) : ∀ (l : List (Nat × Operand)) (us : List (Nat × Value)), vY e l = some us → l.map (fun (i, x) => (i, ρ x)) = us
 | [], us, h => by simp [vY] at h; simp [h]
 | (i, x) :: r, us, h => by
   simp only [vY] at h
   split at h
   · rename_i v hv
     split at h
     · rename_i vs hvs
       simp at h; subst h
       have := tJ hρ r vs hvs
       simp only [List.map_cons, this, hρ x v hv]
     · cases h
   · cases h
def bQ (P : Program) (f : FuncId) : Prop := ∀ args w, (callFunc f args).run P w = .ok (.enter f args) w
theorem aZ {f : FuncId} {fn : Func} (hf : P.funcs[f]? = some fn) (hn : (fn.name == "runtime.NumGoroutine") = false) (hb : fn.body.isNone = false) : bQ P f := fun args w => by
 simp only [callFunc, Sem.run_bind, run_program, Result.andThen_ok, hf, hn, hb, Bool.false_eq_true, if_false, Sem.run_pure]
theorem aT {f : FuncId} {args : Array Operand} {ts : Array TypeId} {vs : List Value} (hf : bQ P f) (hx : tH e args.toList = some vs)
   (hc : Calls P f vs.toArray w (fF K)) : OpWp P e (.call ⟨.value (.func f), args, ts⟩) ty w K := fun ρ d p a g hρ => by
 have h1 : args.map ρ = vs.toArray := Array.ext' (by simpa using pU hρ _ _ hx)
 have h2 : ρ (.func f) = .func (.func f) #[] #[] := hρ (.func f) _ rfl
 simp only [execOp, resolve, h1, h2, Deferred.ofValue, invoke]
 simp only [Sem.run_bind, Sem.run_pure, Result.andThen_ok, Array.append_empty, Array.empty_append]
 rw [hf _ w]
 simp only [upto]
 exact Calls.mono hc fun e w'' he => by cases e <;> first | exact he | exact he.elim
theorem aGQ {f : FuncId} {x : Operand} {first captured : Array Value} {args : Array Operand} {ts : Array TypeId} {vs : List Value} (hf : bQ P f) (hv : fV e x = some (.func (.func f) first captured)) (hx : tH e args.toList = some vs)
   (hc : Calls P f (first ++ vs.toArray ++ captured) w (fF K)) : OpWp P e (.call ⟨.value x, args, ts⟩) ty w K := fun ρ d p a g hρ => by
 have h1 : args.map ρ = vs.toArray := Array.ext' (by simpa using pU hρ _ _ hx)
 have h2 := hρ _ _ hv
 simp only [execOp, resolve, h1, h2, Deferred.ofValue, invoke]
 simp only [Sem.run_bind, Sem.run_pure, Result.andThen_ok]
 rw [hf _ w]
 simp only [upto]
 exact Calls.mono hc fun e w'' he => by cases e <;> first | exact he | exact he.elim
theorem nR {f : FuncId} {captured : Array Operand} {vs : List Value} (hx : tH e captured.toList = some vs) (h : K (.func (.func f) #[] vs.toArray) w) : OpWp P e (.makeFunc (.func f) #[] captured) ty w K := fun ρ d p a g hρ => by
 have h1 : captured.map ρ = vs.toArray := Array.ext' (by simpa using pU hρ _ _ hx)
 simp [execOp, h1, Instr.makeFunc, upto]; exact h
end
def aJx : TypeDesc → Bool
 | .struct _ => true
 | .array _ _ => true
 | _ => false
def pN (P : Program) (t : TypeId) : Option (Bool × Nat × Nat × List Value) :=
 match P.underlying t, P.info? t with
 | some d, some i => match i.zero with
   | some z => some (aJx d, i.size, i.bytes, z.cells.toList)
   | none => none
 | _, _ => none
theorem kS {P : Program} {t : TypeId} {a : Bool} {s b : Nat} {z : List Value} (h : pN P t = some (a, s, b, z)) :
   ∃ d i zv, P.underlying t = some d ∧ P.info? t = some i ∧ i.zero = some zv ∧ aJx d = a ∧ i.size = s ∧ i.bytes = b ∧ zv.cells.toList = z := by
 unfold pN at h
 split at h
 · rename_i d i hd hi
   split at h
   · rename_i zv hz
     simp only [Option.some.injEq, Prod.mk.injEq] at h
     exact ⟨d, i, zv, hd, hi, hz, h.1, h.2.1, h.2.2.1, h.2.2.2⟩
   · cases h
 · cases h
theorem aBx {P : Program} {t : TypeId} {d : TypeDesc} (h : P.underlying t = some d) (w : World) : (isAgg t).run P w = .ok (aJx d) w := by
 simp only [isAgg, Sem.run_bind, run_underlying h, Result.andThen_ok]
 cases d <;> rfl
theorem kT {P : Program} {t : TypeId} {i : TypeInfo} (h : P.info? t = some i) (w : World) : (sizeOf t).run P w = .ok i.size w := by simp [sizeOf, typeInfo, h]
theorem aBy {P : Program} {t : TypeId} {i : TypeInfo} {z : Value} (h : P.info? t = some i) (hz : i.zero = some z) (w : World) : (zeroValue t).run P w = .ok z w := by simp [zeroValue, typeInfo, h, hz]
def Blk (w : World) (g : Nat) (t : TypeId) (cs : List Value) : Prop := w.heap[g]? = some (.cells cs.toArray t (0, 0))
section
variable {w w' : World} {g : Nat} {t : TypeId} {cs : List Value}
theorem Blk.lt (h : Blk w g t cs) : g < w.heap.size := (Array.getElem?_eq_some_iff.1 h).1
theorem Blk.cell (h : Blk w g t cs) (i : Nat) : w.cell? ⟨g, i, none⟩ = cs[i]? := by
 unfold Blk at h; simp [World.cell?, h]
theorem Blk.below {B : Nat} (h : Blk w g t cs) (hb : Below B w w') (hg : g < B) : Blk w' g t cs := (hb.block g hg).trans h
theorem Blk.ext (h : Blk w g t cs) (hb : Ext w w') : Blk w' g t cs := h.below hb h.lt
theorem Blk.grown {row : Option Nat} (h : Blk w g t cs) (hb : w.grownBy w' row) (hg : some g ≠ row) : Blk w' g t cs := (hb.block g h.lt hg).trans h
end
def pV (A : Option Addr) : Addr := A.getD ⟨0, 0, none⟩
def Sl (B : Nat) (w : World) (A : Option Addr) (cs : List Value) : Prop :=
 B ≤ w.heap.size ∧ ∀ j v, cs[j]? = some v → A.isSome = true ∧ (pV A).block < B ∧ w.cell? ((pV A).add j) = some v
theorem mO (a : Addr) (n : Nat) : (a.add n).block = a.block := by unfold Addr.add; split <;> rfl
theorem mQ (a : Addr) (i j : Nat) : (a.add i).add j = a.add (i + j) := by
 unfold Addr.add
 by_cases hi : i = 0 <;> by_cases hj : j = 0 <;> simp [hi, hj, Nat.add_assoc]
section
variable {w w' : World} {B B' : Nat} {A : Option Addr} {cs : List Value}
theorem Sl.nil_ (hB : B ≤ w.heap.size) (A : Option Addr) : Sl B w A [] := ⟨hB, fun j v h => by simp at h⟩
theorem Sl.below (h : Sl B w A cs) (hb : Below B w w') : Sl B w' A cs := ⟨Q7l h.1 hb.size, fun j v hj => by
 obtain ⟨h1, h2, h3⟩ := h.2 j v hj
 exact ⟨h1, h2, (hb.cell (p := (pV A).add j) (by rw [mO]; exact h2)).trans h3⟩⟩
theorem Sl.ext (h : Sl B w A cs) (hb : Ext w w') : Sl B w' A cs := h.below (Below.mono hb h.1)
theorem Sl.more (h : Sl B w A cs) (hB : B ≤ B') (hw : B' ≤ w.heap.size) : Sl B' w A cs := ⟨hw, fun j v hj => ⟨(h.2 j v hj).1, Nat.lt_of_lt_of_le (h.2 j v hj).2.1 hB, (h.2 j v hj).2.2⟩⟩
theorem Sl.at_ (h : Sl B w A cs) {j : Nat} {v : Value} (hj : cs[j]? = some v) : w.cell? ((pV A).add j) = some v := (h.2 j v hj).2.2
theorem Sl.grown {row : Option Nat} (h : Sl B w A cs) (hg : w.grownBy w' row) (hr : ∀ g, row = some g → B ≤ g) : Sl B w' A cs := ⟨Q7l h.1 hg.size, fun j v hj => by
 obtain ⟨h1, h2, h3⟩ := h.2 j v hj
 refine ⟨h1, h2, hg.cell h3 (fun e => ?_)⟩
 rw [mO] at e
 have := hr _ e.symm
 omega⟩
theorem Sl.up (B : Nat) (A : Option Addr) (cs : List Value) : Up (fun w => Sl B w A cs) := fun _ _ h k => h.ext k
theorem Sl.cut (h : Sl B w A cs) (i n : Nat) : Sl B w (if i = 0 then A else A.map (·.add i)) ((cs.drop i).take n) := ⟨h.1, fun j v hj => by
 have hj' : cs[i + j]? = some v := by
   rw [List.getElem?_take] at hj
   split at hj
   · rw [List.getElem?_drop] at hj; exact hj
   · cases hj
 obtain ⟨h1, h2, h3⟩ := h.2 (i + j) v hj'
 obtain ⟨a, rfl⟩ := Option.isSome_iff_exists.1 h1
 by_cases hi : i = 0
 · subst hi
   rw [Nat.zero_add] at h3
   exact ⟨rfl, h2, h3⟩
 · simp only [hi, if_false, Option.map_some, Option.isSome_some, true_and, pV, Option.getD_some]
   simp only [pV, Option.getD_some] at h2 h3
   exact ⟨by rw [mO]; exact h2, by rw [mQ]; exact h3⟩⟩
end
abbrev Own (w : World) (lo : Nat) (t : TypeId) (s : Nat) (A : Option Addr) (n c : Nat) (cs : List Value) : Prop := w.ownsRow lo t s (.slice A n c) n cs
section
variable {w w' : World} {lo : Nat} {t : TypeId} {s n c : Nat} {A : Option Addr} {cs : List Value}
theorem Own.len (h : Own w lo t s A n c cs) : cs.length = n * s := h.1
theorem Own.sl (h : Own w lo t s A n c cs) : Sl w.heap.size w A cs := ⟨Nat.le_refl _, fun j v hj => by
 rcases h.2 with ⟨h1, h2⟩ | ⟨g, cap, cur, hv, hlo, hg, _⟩
 · exfalso
   have := h.1
   subst h2
   have : cs = [] := List.eq_nil_of_length_eq_zero (by simpa using this)
   subst this
   simp at hj
 · have hA : A = some ⟨g, 0, none⟩ := by injection hv
   subst hA
   exact ⟨rfl, (Array.getElem?_eq_some_iff.1 hg).1, World.ownsRow.cells h (g := g) rfl j v hj⟩⟩
theorem Own.lt (h : Own w lo t s A n c cs) {g : Nat} (hg : (Value.slice A n c).ownBlock = some g) : lo ≤ g ∧ g < w.heap.size := World.ownsRow.lt h g hg
theorem Own.below {B : Nat} (h : Own w lo t s A n c cs) (hb : Below B w w') (hB : ∀ g, (Value.slice A n c).ownBlock = some g → g < B) : Own w' lo t s A n c cs := by
 refine ⟨h.1, ?_⟩
 rcases h.2 with h2 | ⟨g, cap, cur, hv, hlo, hg, r⟩
 · exact .inl h2
 · exact .inr ⟨g, cap, cur, hv, hlo, (hb.block g (hB g (by rw [hv]; rfl))).trans hg, r⟩
theorem Own.ext (h : Own w lo t s A n c cs) (hb : Ext w w') : Own w' lo t s A n c cs := h.below hb fun g hg => (h.lt hg).2
theorem Own.low {lo' : Nat} (h : Own w lo t s A n c cs) (hl : lo' ≤ lo) : Own w lo' t s A n c cs := by
 refine ⟨h.1, ?_⟩
 rcases h.2 with h2 | ⟨g, cap, cur, hv, hlo, r⟩
 · exact .inl h2
 · exact .inr ⟨g, cap, cur, hv, by omega, r⟩
theorem Own.nil_ (w : World) (lo : Nat) (t : TypeId) (s : Nat) : Own w lo t s none 0 0 [] := World.ownsRow_nil w lo t s
theorem Own.form (h : Own w lo t s A n c cs) (hn : 0 < n) : ∃ g cur, A = some ⟨g, 0, none⟩ ∧ lo ≤ g ∧ w.heap[g]? = some (.cells cur t (0, 0)) ∧ n ≤ c ∧ cur.size = c * s ∧ cur.toList.take (n * s) = cs := by
 rcases h.2 with ⟨h1, h2⟩ | ⟨g, cap, cur, hv, hlo, hg, h3, _, h4, h5⟩
 · omega
 · simp only [Value.slice.injEq] at hv
   obtain ⟨h6, _, h7⟩ := hv
   subst h7
   exact ⟨g, cur, h6, hlo, hg, h3, h4, h5⟩
theorem Own.up (lo : Nat) (t : TypeId) (s : Nat) (A : Option Addr) (n c : Nat) (cs : List Value) : Up (fun w => Own w lo t s A n c cs) := fun _ _ h k => Own.ext h k
end
def aAD : List Value → Nat → Option (List Value)
 | _, 0 => some []
 | [], _ + 1 => none
 | x :: l, k + 1 => match aAD l k with
   | some r => some (x :: r)
   | none => none
def aB7 : List Value → Nat → Nat → Option (List Value)
 | l, 0, k => aAD l k
 | [], _ + 1, _ => none
 | _ :: l, i + 1, k => aB7 l i k
def mS : List Value → Nat → List Value → Option (List Value)
 | l, 0, [] => some l
 | [], _, _ => none
 | _ :: l, 0, v :: vs => match mS l 0 vs with
   | some r => some (v :: r)
   | none => none
 | x :: l, i + 1, vs => match mS l i vs with
   | some r => some (x :: r)
   | none => none
theorem aDX {l r : List Value} {k : Nat} (h : aAD l k = some r) : r.length = k ∧ ∀ (j : Nat) (v : Value), r[j]? = some v → l[j]? = some v := by
 induction k generalizing l r with
 | zero => cases l <;> simp [aAD] at h <;> subst h <;> simp
 | succ k ih =>
   cases l with
   | nil => simp [aAD] at h
   | cons x l =>
     simp only [aAD] at h
     split at h
     · rename_i r' hr
       simp at h; subst h
       obtain ⟨h1, h2⟩ := ih hr
       refine ⟨by simp [h1], fun j v hj => ?_⟩
       cases j with
       | zero => simpa using hj
       | succ j => simp at hj ⊢; exact h2 j v hj
     · cases h
theorem mF {l r : List Value} {i k : Nat} (h : aB7 l i k = some r) : r.length = k ∧ ∀ (j : Nat) (v : Value), r[j]? = some v → l[i + j]? = some v := by
 induction i generalizing l with
 | zero =>
   have : aB7 l 0 k = aAD l k := by cases l <;> rfl
   rw [this] at h
   simpa using aDX h
 | succ i ih =>
   cases l with
   | nil => simp [aB7] at h
   | cons x l =>
     simp only [aB7] at h
     obtain ⟨h1, h2⟩ := ih h
     refine ⟨h1, fun j v hj => ?_⟩
     have := h2 j v hj
     rw [show i + 1 + j = (i + j) + 1 by omega]
     simpa using this
theorem pI {l r vs : List Value} {i : Nat} (h : mS l i vs = some r) : i + vs.length ≤ l.length ∧ r = l.take i ++ vs ++ l.drop (i + vs.length) := by
 induction l generalizing i vs r with
 | nil =>
   cases i with
   | zero => cases vs <;> simp_all [mS]
   | succ i => simp [mS] at h
 | cons x l ih =>
   cases i with
   | zero =>
     cases vs with
     | nil => simp [mS] at h; subst h; simp
     | cons v vs =>
       simp only [mS] at h
       split at h
       · rename_i r' hr
         simp at h; subst h
         obtain ⟨h1, h2⟩ := ih hr
         refine ⟨by simp at h1 ⊢; omega, ?_⟩
         rw [h2]; simp
       · cases h
   | succ i =>
     simp only [mS] at h
     split at h
     · rename_i r' hr
       simp at h; subst h
       obtain ⟨h1, h2⟩ := ih hr
       refine ⟨by simp at h1 ⊢; omega, ?_⟩
       rw [h2, show i + 1 + vs.length = (i + vs.length) + 1 by omega]
       simp
     · cases h
section
variable {P : Program} {e : List (Nat × Value)} {ty : TypeId} {w : World} {K : Value → World → Prop} {x y : Operand} {t : TypeId} {s b : Nat} {z : List Value}
theorem aB8 {a : Addr} {v : Value} (ht : pN P t = some (false, s, b, z)) (hc : w.cell? a = some v) : (loadVar t a).run P w = .ok v w := by
 obtain ⟨d, i, zv, hd, hi, hz, ha, hs, hb, hzv⟩ := kS ht
 simp [loadVar, aBx hd, ha, hc]
theorem sC {a : Addr} {cs : List Value} (ht : pN P t = some (true, s, b, z)) (hl : cs.length = s) (hc : ∀ j v, cs[j]? = some v → w.cell? (a.add j) = some v) : (loadVar t a).run P w = .ok (.agg cs.toArray) w := by
 obtain ⟨d, i, zv, hd, hi, hz, ha, hs, hb, hzv⟩ := kS ht
 have h1 := run_loadCells_list (P := P) w a cs hc
 rw [hl, ← hs] at h1
 simp [loadVar, aBx hd, ha, kT hi, h1]
theorem aAd {a : Addr} {v : Value} (ht : pN P t = some (false, s, b, z)) (hx : fV e x = some (.pointer (some a))) (hc : w.cell? a = some v) (h : K v w) : OpWp P e (.load t x) ty w K := fun ρ d p af g hρ => by
 have h1 := hρ _ _ hx
 simp [execOp, h1, Instr.loadAt, Instr.sureAddr, aB8 ht hc, upto]; exact h
theorem aAE {a : Addr} {cs : List Value} (ht : pN P t = some (true, s, b, z)) (hx : fV e x = some (.pointer (some a))) (hl : cs.length = s) (hc : ∀ j v, cs[j]? = some v → w.cell? (a.add j) = some v) (h : K (.agg cs.toArray) w) : OpWp P e (.load t x) ty w K := fun ρ d p af g hρ => by
 have h1 := hρ _ _ hx
 simp [execOp, h1, Instr.loadAt, Instr.sureAddr, sC ht hl hc, upto]; exact h
theorem aJ {g i : Nat} {T : TypeId} {cs : List Value} {v : Value} (hb : Blk w g T cs) (ht : pN P t = some (false, s, b, z)) (hx : fV e x = some (.pointer (some ⟨g, i, none⟩))) (hv : cs[i]? = some v) (h : K v w) : OpWp P e (.load t x) ty w K :=
 aAd ht hx (by rw [hb.cell]; exact hv) h
theorem wR (g i j : Nat) : (⟨g, i, none⟩ : Addr).add j = ⟨g, i + j, none⟩ := by unfold Addr.add; split <;> simp_all
theorem dE {g i : Nat} {T : TypeId} {cs vs : List Value} (hb : Blk w g T cs) (ht : pN P t = some (true, s, b, z)) (hx : fV e x = some (.pointer (some ⟨g, i, none⟩))) (hv : aB7 cs i s = some vs) (h : K (.agg vs.toArray) w) : OpWp P e (.load t x) ty w K :=
 aAE ht hx (mF hv).1 (fun j v hj => by rw [wR, hb.cell]; exact (mF hv).2 j v hj) h
theorem aGR {B m : Nat} {A : Option Addr} {cs : List Value} {v : Value} (hs : Sl B w A cs) (ht : pN P t = some (false, s, b, z)) (hx : fV e x = some (.pointer (some ((pV A).add m)))) (hv : cs[m]? = some v) (h : K v w) : OpWp P e (.load t x) ty w K :=
 aAd ht hx (hs.at_ hv) h
theorem aFA {B m f : Nat} {A : Option Addr} {cs : List Value} {v : Value} (hs : Sl B w A cs) (ht : pN P t = some (false, s, b, z)) (hx : fV e x = some (.pointer (some (((pV A).add m).add f)))) (hv : cs[m + f]? = some v) (h : K v w) : OpWp P e (.load t x) ty w K :=
 aAd ht hx (by rw [mQ]; exact hs.at_ hv) h
theorem aFB {B m : Nat} {A : Option Addr} {cs vs : List Value} (hs : Sl B w A cs) (ht : pN P t = some (true, s, b, z)) (hx : fV e x = some (.pointer (some ((pV A).add m)))) (hl : vs.length = s) (hv : ∀ j v, vs[j]? = some v → cs[m + j]? = some v) (h : K (.agg vs.toArray) w) : OpWp P e (.load t x) ty w K :=
 aAE ht hx hl (fun j v hj => by rw [mQ]; exact hs.at_ (hv j v hj)) h
theorem aDY {B m f : Nat} {A : Option Addr} {cs vs : List Value} (hs : Sl B w A cs) (ht : pN P t = some (true, s, b, z)) (hx : fV e x = some (.pointer (some (((pV A).add m).add f)))) (hl : vs.length = s) (hv : ∀ j v, vs[j]? = some v → cs[m + f + j]? = some v) (h : K (.agg vs.toArray) w) : OpWp P e (.load t x) ty w K :=
 aAE ht hx hl (fun j v hj => by rw [mQ, mQ, ← Nat.add_assoc]; exact hs.at_ (hv j v hj)) h
theorem eX {v : Value} {cs : List Value} (hx : fV e x = some v) (hcs : v.cells = cs.toArray) (h : ∀ g w', g = w.heap.size → Blk w' g t cs → Ext w w' → w'.heap.size = g + 1 → K (.pointer (some ⟨g, 0, none⟩)) w') : OpWp P e (.box t x) ty w K := fun ρ d p af g hρ => by
 have h1 := hρ _ _ hx
 simp [execOp, h1, Instr.box, newVar, newRow, upto, hcs]
 exact h _ _ rfl (heap_alloc_new w _) (Ext.alloc w _) (by simp)
theorem dT {a : Bool} (ht : pN P t = some (a, s, b, z)) (h : ∀ g w', g = w.heap.size → Blk w' g t z → Ext w w' → w'.heap.size = g + 1 → K (.pointer (some ⟨g, 0, none⟩)) w') : OpWp P e (.alloc t) ty w K := fun ρ d p af g hρ => by
 obtain ⟨d', i, zv, hd, hi, hz, ha, hs, hb, hzv⟩ := kS ht
 have hc : zv.cells = z.toArray := by rw [← hzv]
 simp [execOp, Instr.alloc, aBy hi hz, newVar, newRow, upto, hc]
 exact h _ _ rfl (heap_alloc_new w _) (Ext.alloc w _) (by simp)
theorem bK {g i : Nat} {T : TypeId} {cs vs cs' : List Value} {a : Bool} {v : Value} (hb : Blk w g T cs) (ht : pN P t = some (a, s, b, z)) (hx : fV e x = some (.pointer (some ⟨g, i, none⟩))) (hv : fV e y = some v) (hc : v.cells = vs.toArray) (hl : vs.length = s)
   (h1 : vs.all (·.oneCell') = true) (hs : mS cs i vs = some cs') (h : ∀ w', Blk w' g T cs' → w.grownBy w' (some g) → w'.heap.size = w.heap.size → K undef w') : OpWp P e (.store t x y) ty w K := fun ρ d p af gd hρ => by
 obtain ⟨d', ti, zv, hd, hi, hz, ha, hsz, hby, hzv⟩ := kS ht
 have hx' := hρ _ _ hx
 have hv' := hρ _ _ hv
 obtain ⟨h2, h3⟩ := pI hs
 have hst := run_storeCells_at (P := P) g i T vs 0 cs.toArray w hb (by simpa using h2) (fun u hu => List.all_eq_true.1 h1 u hu)
 simp only [Nat.add_zero] at hst
 have : (storeVar t ⟨g, i, none⟩ v).run P w = .ok () (w.setRow g (cs.take i ++ vs ++ cs.drop (i + vs.length)).toArray) := by
   simp only [storeVar, hc, Sem.run_bind, kT hi, Result.andThen_ok]
   rw [if_neg (by simp [hl, hsz])]
   simpa using hst
 simp only [execOp, hx', hv', Instr.storeAt, Instr.sureAddr]
 simp only [Sem.run_bind, Sem.run_pure, Result.andThen_ok, this, upto]
 rw [← h3]
 refine h _ ?_ ⟨rfl, rfl, rfl, by simp, fun k _ hk => setRow_other w g k _ (fun e => hk (by rw [e]))⟩ (by simp)
 exact setRow_heap w g cs.toArray _ T _ hb
def lZ (P : Program) (t : TypeId) (f : Nat) : Option Nat :=
 match P.underlying t with
 | some (.struct fields) => match fields[f]? with
   | some fd => match P.info? fd.type with
     | some i => if i.size = 0 then none else some fd.offset
     | none => none
   | none => none
 | _ => none
theorem dF {f off : Nat} {a : Addr} (ho : lZ P t f = some off) (hx : fV e x = some (.pointer (some a))) (h : K (.pointer (some (a.add off))) w) : OpWp P e (.fieldAddr t x f) ty w K := fun ρ d p af g hρ => by
 have h1 := hρ _ _ hx
 unfold lZ at ho
 split at ho
 · rename_i fields hu
   split at ho
   · rename_i fd hf
     split at ho
     · rename_i i hi
       split at ho
       · cases ho
       · rename_i hs
         simp only [Option.some.injEq] at ho
         subst ho
         simp [execOp, h1, Instr.fieldAt, run_underlying hu, hf, Instr.sureAddr, fieldPlace, kT hi, hs, upto]
         exact h
     · cases ho
   · cases ho
 · cases ho
theorem aG {f off g i j : Nat} (ho : lZ P t f = some off) (hx : fV e x = some (.pointer (some ⟨g, i, none⟩))) (hj : (some (i + off) : Option Nat) = some j) (h : K (.pointer (some ⟨g, j, none⟩)) w) : OpWp P e (.fieldAddr t x f) ty w K :=
 dF ho hx (by rw [wR]; simp only [Option.some.injEq] at hj; rw [hj]; exact h)
def elO (P : Program) (t : TypeId) : Option (TypeId × Nat) :=
 match P.underlying t with
 | some (.slice el) => match P.info? el with
   | some i => some (el, i.size)
   | none => none
 | _ => none
theorem pW {el : TypeId} (h : elO P t = some (el, s)) : ∃ i, P.underlying t = some (.slice el) ∧ P.info? el = some i ∧ i.size = s := by
 unfold elO at h
 split at h
 · rename_i el' hu
   split at h
   · rename_i i hi
     simp only [Option.some.injEq, Prod.mk.injEq] at h
     obtain ⟨rfl, h2⟩ := h
     exact ⟨i, hu, hi, h2⟩
   · cases h
 · cases h
theorem aGS {el : TypeId} {A : Option Addr} {n c : Nat} {k : IntKind} {m : Int} (ht : elO P t = some (el, s)) (hx : fV e x = some (.slice A n c)) (hy : fV e y = some (.int k m)) (hA : A.isSome = true) (h0 : 0 ≤ m) (h1 : m < n) (h : K (.pointer (some ((pV A).add (m.toNat * s)))) w) : OpWp P e (.indexAddr t x y) ty w K := fun ρ d p af g hρ => by
 have g1 := hρ _ _ hx; have g2 := hρ _ _ hy
 obtain ⟨i, hu, hi, hs⟩ := pW ht
 obtain ⟨a, rfl⟩ := Option.isSome_iff_exists.1 hA
 simp [execOp, g1, g2, Instr.indexAt, asIntOf, run_underlying hu, h0, h1, kT hi, hs, upto]
 exact h
theorem aFC {el : TypeId} {B : Nat} {A : Option Addr} {cs : List Value} {n c : Nat} {k : IntKind} {m : Int} {j : Nat} (hs : Sl B w A cs) (ht : elO P t = some (el, s)) (hx : fV e x = some (.slice A n c)) (hy : fV e y = some (.int k m)) (hm : m = (j : Int)) (h1 : j < n) (hl : j * s < cs.length) (h : K (.pointer (some ((pV A).add (j * s)))) w) : OpWp P e (.indexAddr t x y) ty w K := by
 subst hm
 exact aGS ht hx hy (hs.2 _ _ (List.getElem?_eq_getElem hl)).1 (by omega) (by omega) (by simpa using h)
theorem aGT {parts : Array (Nat × Operand)} {vs : List (Nat × Value)} {cs : List Value} (hp : vY e parts.toList = some vs) (hb : (P.built t vs).map (·.toList) = some cs) (h : K (.agg cs.toArray) w) : OpWp P e (.build t parts) ty w K := fun ρ d p af g hρ => by
 have h1 : parts.map (fun (i, x) => (i, ρ x)) = vs.toArray := by
   apply Array.ext'
   simp only [Array.toList_map]
   exact tJ hρ _ _ hp
 cases hq : P.built t vs with
 | none => simp [hq] at hb
 | some cells =>
   simp only [hq, Option.map_some, Option.some.injEq] at hb
   have hr := run_build (P := P) w t vs.toArray cells (by simpa using hq)
   simp only [execOp, h1, Sem.run_bind, hr, Result.andThen_ok, Sem.run_pure, upto]
   rw [show cells = cs.toArray by rw [← hb]]
   exact h
end
theorem eW {α : Type} {enc : α → List Value} {s : Nat} (he : ∀ x, (enc x).length = s) : ∀ (xs : List α), (xs.flatMap enc).length = xs.length * s
 | [] => by simp
 | x :: xs => by simp [eW he xs, he x, Nat.add_mul, Nat.add_comm]
theorem pX {α : Type} {enc : α → List Value} {s : Nat} (he : ∀ x, (enc x).length = s) : ∀ (xs : List α) (j : Nat) (x : α) (i : Nat), xs[j]? = some x → i < s → (xs.flatMap enc)[j * s + i]? = (enc x)[i]?
 | [], j, x, i, h, _ => by simp at h
 | y :: xs, 0, x, i, h, hi => by
   simp at h; subst h
   simp only [List.flatMap_cons, Nat.zero_mul, Nat.zero_add]
   rw [List.getElem?_append_left (by rw [he]; exact hi)]
 | y :: xs, j + 1, x, i, h, hi => by
   simp only [List.getElem?_cons_succ] at h
   simp only [List.flatMap_cons]
   rw [List.getElem?_append_right (by rw [he, Nat.add_mul]; omega), he, show (j + 1) * s + i - s = j * s + i by rw [Nat.add_mul]; omega]
   exact pX he xs j x i h hi
theorem aFD {α : Type} {enc : α → List Value} {s : Nat} (he : ∀ x, (enc x).length = s) (xs : List α) (m : Nat) (v : Value) (h : (xs.flatMap enc)[m]? = some v) (hs : 0 < s) : ∃ j x i, m = j * s + i ∧ i < s ∧ xs[j]? = some x ∧ (enc x)[i]? = some v := by
 have hm : m < xs.length * s := by rw [← eW he xs]; exact (List.getElem?_eq_some_iff.1 h).1
 have hj : m / s < xs.length := by rw [Nat.div_lt_iff_lt_mul hs]; exact hm
 refine ⟨m / s, xs[m / s], m % s, by rw [Nat.mul_comm]; exact (Nat.div_add_mod m s).symm, Nat.mod_lt _ hs, List.getElem?_eq_getElem hj, ?_⟩
 rw [← pX he xs (m / s) _ (m % s) (List.getElem?_eq_getElem hj) (Nat.mod_lt _ hs), Nat.mul_comm, Nat.div_add_mod]
 exact h
def eI (z : Int) : List Value := [.int .i64 z]
theorem bI (z : Int) : (eI z).length = 1 := rfl
def eB (z : UInt8) : List Value := [.int .u8 z.toNat]
theorem tK (z : UInt8) : (eB z).length = 1 := rfl
section
variable {P : Program} {e : List (Nat × Value)} {ty : TypeId} {w : World} {K : Value → World → Prop} {x y : Operand} {t el : TypeId} {s b : Nat} {z : List Value}
variable {α : Type} {enc : α → List Value} {xs : List α} {B : Nat} {A : Option Addr} {j : Nat} {el' : α}
theorem aU {n c : Nat} {k : IntKind} {m : Int} (hs : Sl B w A (xs.flatMap enc)) (he : ∀ x, (enc x).length = s) (h0 : (Nat.blt 0 s) = true) (ht : elO P t = some (el, s)) (hx : fV e x = some (.slice A n c)) (hn : n = xs.length) (hy : fV e y = some (.int k m)) (hz : xs[j]? = some el') (hm : m = (j : Int))
   (h : K (.pointer (some ((pV A).add (j * s)))) w) : OpWp P e (.indexAddr t x y) ty w K := by
 have hj : j < xs.length := (List.getElem?_eq_some_iff.1 hz).1
 have h0' : 0 < s := by simpa using h0
 refine aFC hs ht hx hy hm (by omega) ?_ h
 rw [eW he]
 exact (Nat.mul_lt_mul_right h0').2 hj
theorem bS {v : Value} (hs : Sl B w A (xs.flatMap enc)) (he : ∀ x, (enc x).length = s) (hz : xs[j]? = some el') (ht : pN P t = some (false, s, b, z)) (hx : fV e x = some (.pointer (some ((pV A).add (j * s))))) (h0 : (Nat.blt 0 s) = true) (hv : (enc el')[0]? = some v) (h : K v w) : OpWp P e (.load t x) ty w K :=
 aGR hs ht hx (by have := pX he xs j el' 0 hz (by simpa using h0); rw [Nat.add_zero] at this; rw [this]; exact hv) h
theorem eE (hs : Sl B w A (xs.flatMap enc)) (he : ∀ x, (enc x).length = s) (hz : xs[j]? = some el') (ht : pN P t = some (true, s, b, z)) (hx : fV e x = some (.pointer (some ((pV A).add (j * s))))) (h : K (.agg (enc el').toArray) w) : OpWp P e (.load t x) ty w K :=
 aFB hs ht hx (he _) (fun i v hi => by
   have hlt : i < s := by rw [← he el']; exact (List.getElem?_eq_some_iff.1 hi).1
   rw [pX he xs j el' i hz hlt]; exact hi) h
theorem eF {v : Value} {f s' : Nat} (hs : Sl B w A (xs.flatMap enc)) (he : ∀ x, (enc x).length = s) (hz : xs[j]? = some el') (ht : pN P t = some (false, s', b, z)) (hx : fV e x = some (.pointer (some (((pV A).add (j * s)).add f)))) (h0 : (Nat.blt f s) = true) (hv : (enc el')[f]? = some v) (h : K v w) : OpWp P e (.load t x) ty w K :=
 aFA hs ht hx (by rw [pX he xs j el' f hz (by simpa using h0)]; exact hv) h
theorem sE {v : Value} {f f' s' : Nat} (hs : Sl B w A (xs.flatMap enc)) (he : ∀ x, (enc x).length = s) (hz : xs[j]? = some el') (ht : pN P t = some (false, s', b, z)) (hx : fV e x = some (.pointer (some ((((pV A).add (j * s)).add f).add f')))) (h0 : (Nat.blt (f + f') s) = true) (hv : (enc el')[f + f']? = some v) (h : K v w) : OpWp P e (.load t x) ty w K :=
 aAd ht hx (by rw [mQ, mQ]; exact hs.at_ (by rw [pX he xs j el' (f + f') hz (by simpa using h0)]; exact hv)) h
theorem aDZ {vs : List Value} {f s' : Nat} (hs : Sl B w A (xs.flatMap enc)) (he : ∀ x, (enc x).length = s) (hz : xs[j]? = some el') (ht : pN P t = some (true, s', b, z)) (hx : fV e x = some (.pointer (some (((pV A).add (j * s)).add f)))) (hv : aB7 (enc el') f s' = some vs) (h : K (.agg vs.toArray) w) : OpWp P e (.load t x) ty w K :=
 aDY hs ht hx (mF hv).1 (fun i v hi => by
   have h1 := (mF hv).2 i v hi
   have hlt : f + i < s := by rw [← he el']; exact (List.getElem?_eq_some_iff.1 h1).1
   rw [Nat.add_assoc, pX he xs j el' (f + i) hz hlt]; exact h1) h
end
def tA : Nat → List Value → List Value
 | 0, _ => []
 | n + 1, z => z ++ tA n z
def yU (s : Nat) : List Value → List (Nat × Value) → Option (List Value)
 | cs, [] => some cs
 | cs, (i, v) :: r => bif Nat.beq v.cells.size s then (match mS cs (i * s) v.cells.toList with
   | some cs' => yU s cs' r
   | none => none) else none
theorem xQ (off : Nat) : ∀ (vs : List Value) (k : Nat) (cells : Array Value), off + k + vs.length ≤ cells.size →
   ((vs.zipIdx k).foldl (fun cs (p : Value × Nat) => cs.setIfInBounds (off + p.2) p.1) cells).toList = cells.toList.take (off + k) ++ vs ++ cells.toList.drop (off + k + vs.length)
 | [], k, cells, h => by simp
 | v :: vs, k, cells, h => by
   simp only [List.zipIdx_cons, List.foldl_cons]
   have hlt : off + k < cells.size := by simp at h; omega
   rw [xQ off vs (k + 1) _ (by simp at h ⊢; omega)]
   simp only [Array.toList_setIfInBounds]
   have := list_seg_step cells.toList (off + k) v vs (by simp at h ⊢; omega)
   simpa [Nat.add_assoc] using this
theorem aE1 {s : Nat} : ∀ (vs : List (Nat × Value)) (cells : Array Value) (cs : List Value), yU s cells.toList vs = some cs → Instr.fill (fun i => some (i * s, s)) cells vs = some cs.toArray
 | [], cells, cs, h => by simp [yU] at h; simp [Instr.fill, ← h]
 | (i, v) :: r, cells, cs, h => by
   simp only [yU] at h
   cases hb : Nat.beq v.cells.size s with
   | false => simp [hb] at h
   | true =>
     simp only [hb, cond_true] at h
     have hs : v.cells.size = s := Nat.eq_of_beq_eq_true hb
     split at h
     · rename_i cs' hcs
       obtain ⟨h1, h2⟩ := pI hcs
       simp only [Array.length_toList] at h1 h2
       have h3 : ¬ (v.cells.size ≠ s ∨ i * s + v.cells.size > cells.size) := by omega
       simp only [Instr.fill]
       rw [if_neg (by simpa using h3)]
       have h4 : (v.cells.zipIdx.foldl (fun cs (p : Value × Nat) => cs.setIfInBounds (i * s + p.2) p.1) cells) = cs'.toArray := by
         apply Array.ext'
         have := xQ (i * s) v.cells.toList 0 cells (by simpa using h1)
         rw [← Array.foldl_toList, Array.toList_zipIdx]
         rw [this, h2]
         simp
       have h5 := aE1 r cs'.toArray cs (by simpa using h)
       rw [← h4] at h5
       exact h5
     · cases h
theorem aAG (z : List Value) : ∀ n, (tA n z).length = n * z.length
 | 0 => by simp [tA]
 | n + 1 => by simp [tA, aAG z n, Nat.add_mul, Nat.add_comm]
theorem aC3 (z : List Value) (hz : 0 < z.length) : ∀ n i, i < n * z.length → (tA n z)[i]? = z[i % z.length]?
 | 0, i, h => by simp at h
 | n + 1, i, h => by
   simp only [tA]
   by_cases hi : i < z.length
   · rw [List.getElem?_append_left hi, Nat.mod_eq_of_lt hi]
   · rw [List.getElem?_append_right (by omega), aC3 z hz n (i - z.length) (by rw [Nat.add_mul] at h; omega)]
     congr 1
     exact (Nat.mod_eq_sub_mod (by omega)).symm
theorem aAH (z : List Value) (n : Nat) (hz : 0 < z.length) : ((Array.range (n * z.length)).map (z.toArray[· % z.toArray.size]!)).toList = tA n z := by
 apply List.ext_getElem?
 intro i
 by_cases hi : i < n * z.length
 · rw [aC3 z hz n i hi]
   have hm : i % z.length < z.length := Nat.mod_lt _ hz
   simp [hi, hm, List.getElem?_eq_getElem hm]
 · rw [List.getElem?_eq_none (by simpa using hi), List.getElem?_eq_none (by rw [aAG]; omega)]
section
variable {P : Program} {e : List (Nat × Value)} {ty : TypeId} {w : World} {K : Value → World → Prop} {x y : Operand} {t el : TypeId} {s b : Nat} {z : List Value} {a : Bool}
theorem Own.of_blk {w : World} {lo g : Nat} {t : TypeId} {s n : Nat} {cs : List Value} (h : Blk w g t cs) (hlo : lo ≤ g) (hl : cs.length = n * s) (hn : n ≤ maxLen) : Own w lo t s (some ⟨g, 0, none⟩) n n cs :=
 ⟨hl, .inr ⟨g, n, cs.toArray, rfl, hlo, h, Nat.le_refl _, hn, by simpa using hl, by simp [← hl]⟩⟩
theorem aO {parts : Array (Nat × Operand)} {vs : List (Nat × Value)} {len : Nat} {cs : List Value} (ht : elO P t = some (el, s)) (hi : pN P el = some (a, s, b, z)) (hzl : Nat.beq z.length s = true) (h0 : Nat.blt 0 s = true) (hlen : Nat.ble (len * s) 16777216 = true)
   (hp : vY e parts.toList = some vs) (hf : yU s (tA len z) vs = some cs)
   (h : ∀ g w', g = w.heap.size → Own w' w.heap.size el s (some ⟨g, 0, none⟩) len len cs → Blk w' g el cs → Ext w w' → w'.heap.size = g + 1 → K (.slice (some ⟨g, 0, none⟩) len len) w') : OpWp P e (.buildSlice t len parts) ty w K := fun ρ d p af g hρ => by
 have h1 : parts.map (fun (i, x) => (i, ρ x)) = vs.toArray := by
   apply Array.ext'
   simp only [Array.toList_map]
   exact tJ hρ _ _ hp
 obtain ⟨ti, hu, hti, hts⟩ := pW ht
 obtain ⟨d', i', zv, hd, hi', hz, ha, hs, hb, hzv⟩ := kS hi
 obtain rfl : ti = i' := by rw [hti] at hi'; injection hi'
 have hzl' : z.length = s := Nat.eq_of_beq_eq_true hzl
 have h0' : 0 < s := by simpa using h0
 have hle : len * s ≤ 16777216 := Nat.le_of_ble_eq_true hlen
 have hzc : zv.cells = z.toArray := by rw [← hzv]
 have hlen' : cs.length = len * s := by
   have : ∀ (vs : List (Nat × Value)) (c0 : List Value), yU s c0 vs = some cs → cs.length = c0.length := by
     intro vs
     induction vs with
     | nil => intro c0 h; simp [yU] at h; rw [h]
     | cons q r ih =>
       intro c0 h
       obtain ⟨i, v⟩ := q
       simp only [yU] at h
       cases hb : Nat.beq v.cells.size s with
       | false => simp [hb] at h
       | true =>
         simp only [hb, cond_true] at h
         split at h
         · rename_i cs' hcs
           obtain ⟨h1, h2⟩ := pI hcs
           rw [ih _ h, h2]
           simp at h1 ⊢; omega
         · cases h
   rw [this vs _ hf, aAG, hzl']
 have hfill : Instr.fill (fun i => some (i * s, s)) ((Array.range (len * s)).map (z.toArray[· % z.toArray.size]!)) vs = some cs.toArray := by
   refine aE1 vs _ cs ?_
   have := aAH z len (by omega)
   rw [hzl'] at this
   rw [this]; exact hf
 have hrun : (Instr.buildSlice t len vs.toArray).run P w = .ok (.slice (some ⟨w.heap.size, 0, none⟩) len len) (w.alloc (.cells cs.toArray el)) := by
   simp only [Instr.buildSlice, Sem.run_bind, run_underlying hu, Result.andThen_ok, kT hti, hts]
   rw [if_neg (by omega)]
   by_cases hl0 : len * s = 0
   · have e0 : ∀ f : Nat → Value, Array.map f (Array.range 0) = #[] := fun f => by simp
     rw [hl0, e0] at hfill
     rw [if_pos hl0]
     simp only [Sem.run_pure, Result.andThen_ok, hl0, e0, hfill]
     simp [newRow]
   · simp only [hl0, if_false, Sem.run_bind, aBy hti hz, Result.andThen_ok, Sem.run_pure, hzc, hfill]
     simp [newRow]
 simp only [execOp, h1, Sem.run_bind, hrun, Result.andThen_ok, Sem.run_pure, upto]
 have hB : Blk (w.alloc (.cells cs.toArray el)) w.heap.size el cs := heap_alloc_new w _
 exact h _ _ rfl (Own.of_blk hB (Nat.le_refl _) hlen' (by unfold maxLen; have : len * 1 ≤ len * s := Nat.mul_le_mul_left _ h0'; omega)) hB (Ext.alloc w _) (by simp)
theorem cH {ts : Array TypeId} {lo B n c n' c' : Nat} {A A' : Option Addr} {cs ds : List Value} (hown : Own w lo el s A n c cs) (hlo : lo ≤ w.heap.size) (hsrc : Sl B w A' ds) (hdl : ds.length = n' * s) (hd1 : ∀ u ∈ ds, u.oneCell' = true)
   (ht : elO P t = some (el, s)) (hi : pN P el = some (a, s, b, z)) (hzl : Nat.beq z.length s = true) (h0 : Nat.blt 0 s = true) (hx : fV e x = some (.slice A n c)) (hy : fV e y = some (.slice A' n' c'))
   (hb : (n + n') * b ≤ 140737488355328) (hm : n + n' ≤ 9223372036854775807)
   (h : ∀ A1 c1 w', Own w' lo el s A1 (n + n') c1 (cs ++ ds) → w.grownBy w' ((Value.slice A n c).ownBlock) → K (.slice A1 (n + n') c1) w') : OpWp P e (.call ⟨.builtin .append, #[x, y], #[t, t]⟩) ty w K := fun ρ d p af g hρ => by
 have g1 := hρ _ _ hx; have g2 := hρ _ _ hy
 obtain ⟨ti, hu, hti, hts⟩ := pW ht
 obtain ⟨d', i', zv, hd, hi', hz, ha, hs, hb', hzv⟩ := kS hi
 obtain rfl : ti = i' := by rw [hti] at hi'; injection hi'
 have hzl' : z.length = s := Nat.eq_of_beq_eq_true hzl
 have h0' : 0 < s := by simpa using h0
 have hzc : zv.cells.size = s := by rw [← hzl', ← hzv]; simp
 have hfin : ∃ v' w', (Builtin.append_ #[t, t] ty #[.slice A n c, .slice A' n' c']).run P w = .ok v' w' ∧ w'.ownsRow lo el s v' (n + n') (cs ++ ds) ∧ w.grownBy w' ((Value.slice A n c).ownBlock) := by
   cases A' with
   | none =>
     have hds : ds = [] := by
       cases ds with
       | nil => rfl
       | cons u r => have := (hsrc.2 0 u rfl).1; simp at this
     subst hds
     have hn' : n' = 0 := by
       simp only [List.length_nil] at hdl
       rcases Nat.eq_zero_or_pos n' with h | h
       · exact h
       · have := Nat.mul_pos h h0'; omega
     subst hn'
     refine ⟨.slice A n c, w, ?_, by simpa using hown, ⟨rfl, rfl, rfl, Nat.le_refl _, fun _ _ _ => rfl⟩⟩
     rcases hown.2 with ⟨h1, h2⟩ | ⟨g, cap, cur, h1, _, hg, hnc, _⟩
     · simp only [Value.slice.injEq] at h1
       obtain ⟨rfl, rfl, rfl⟩ := h1
       simp [Builtin.append_, run_underlying hu, sizeOf, typeInfo, hti, Builtin.lenOf, Builtin.firstCells]
     · simp only [Value.slice.injEq] at h1
       obtain ⟨rfl, _, rfl⟩ := h1
       simp [Builtin.append_, run_underlying hu, sizeOf, typeInfo, hti, Builtin.lenOf, Builtin.firstCells, hnc, storeCells]
   | some ad =>
     obtain ⟨v', w', hr, h2, h3, _⟩ := run_append_own_at (P := P) w lo t ty el ti zv s b hu hti hz hts hb' hzc h0' (.slice A n c) n cs hown ad n' c' ds hdl (fun j u hj => (hsrc.2 j u hj).2.2) hd1 (by unfold maxLen; omega) hb hlo
     exact ⟨v', w', hr, h2, h3⟩
 obtain ⟨v', w', hr, h2, h3⟩ := hfin
 simp only [execOp, resolve, invoke, builtin, Sem.run_bind, Sem.run_pure, Result.andThen_ok, List.map_toArray, List.map_cons, List.map_nil, g1, g2, hr, upto]
 have hform : ∃ A1 c1, v' = .slice A1 (n + n') c1 := by
   rcases h2.2 with ⟨h4, h5⟩ | ⟨g, cap, cur, h4, _⟩
   · exact ⟨none, 0, by rw [h4, h5]⟩
   · exact ⟨_, _, h4⟩
 obtain ⟨A1, c1, rfl⟩ := hform
 exact h A1 c1 w' h2 h3
theorem aE2 {n : Nat} {k1 k2 : IntKind} {m1 m2 : Int} (ht : elO P t = some (el, s)) (hi : pN P el = some (a, s, b, z)) (hzl : Nat.beq z.length s = true) (h0 : Nat.blt 0 s = true) (hx : fV e x = some (.int k1 m1)) (hy : fV e y = some (.int k2 m2)) (h1 : m1 = (n : Int)) (h2 : m2 = (n : Int))
   (hb : b * n ≤ 281474976710656) (hm : n ≤ 9223372036854775807)
   (h : ∀ g w', g = w.heap.size → Own w' w.heap.size el s (some ⟨g, 0, none⟩) n n (tA n z) → Ext w w' → K (.slice (some ⟨g, 0, none⟩) n n) w') : OpWp P e (.makeSlice t x y) ty w K := fun ρ d p af g hρ => by
 have g1 := hρ _ _ hx; have g2 := hρ _ _ hy
 subst h1; subst h2
 obtain ⟨ti, hu, hti, hts⟩ := pW ht
 obtain ⟨d', i', zv, hd, hi', hz, ha, hs, hb', hzv⟩ := kS hi
 obtain rfl : ti = i' := by rw [hti] at hi'; injection hi'
 have hzl' : z.length = s := Nat.eq_of_beq_eq_true hzl
 have h0' : 0 < s := by simpa using h0
 obtain ⟨w', hr, h2, h3⟩ := run_make_full (P := P) w w.heap.size t el ti zv s hu hti hz hts k1 k2 n (by rw [hb']; exact hb) (by unfold maxLen; omega) (Nat.le_refl _)
 have hmc : (madeCells zv.cells (n * s)).toList = tA n z := by
   have := aAH z n (by omega)
   rw [hzl'] at this
   rw [show zv.cells = z.toArray by rw [← hzv]]
   exact this
 rw [hmc] at h2
 simp only [execOp, g1, g2, Sem.run_bind, hr, Result.andThen_ok, Sem.run_pure, upto]
 exact h _ _ rfl h2 (by
   have := (Below.refl w.heap.size w).grown h3 (Nat.le_refl _) (by simp)
   exact this)
theorem pO {lo n c j s' : Nat} {A : Option Addr} {cs vs : List Value} {v : Value} (hown : Own w lo el s A n c cs) (ht : pN P t = some (a, s', b, z)) (hx : fV e x = some (.pointer (some ((pV A).add j)))) (hv : fV e y = some v) (hc : v.cells = vs.toArray) (hl : vs.length = s') (hj : j + s' ≤ n * s) (h0 : 0 < n * s)
   (h1 : vs.all (·.oneCell') = true) (h : ∀ w', Own w' lo el s A n c (cs.take j ++ vs ++ cs.drop (j + s')) → w.grownBy w' ((Value.slice A n c).ownBlock) → w'.heap.size = w.heap.size → K undef w') : OpWp P e (.store t x y) ty w K := fun ρ d p af gd hρ => by
 have hn : 0 < n := by
   rcases Nat.eq_zero_or_pos n with h | h
   · subst h; simp at h0
   · exact h
 obtain ⟨g, cur, rfl, hlo, hg, hnc, hsz, htk⟩ := hown.form hn
 obtain ⟨d', ti, zv, hd, hi, hz, ha, hts, hby, hzv⟩ := kS ht
 have hx' := hρ _ _ hx
 have hv' := hρ _ _ hv
 have hbase : (pV (some ⟨g, 0, none⟩)).add j = ⟨g, j, none⟩ := by
   show (⟨g, 0, none⟩ : Addr).add j = _
   rw [wR, Nat.zero_add]
 rw [hbase] at hx'
 have hns : n * s ≤ cur.size := by rw [hsz]; exact Nat.mul_le_mul_right _ hnc
 have hst := run_storeCells_at (P := P) g j el vs 0 cur w hg (by omega) (fun u hu => List.all_eq_true.1 h1 u hu)
 simp only [Nat.add_zero] at hst
 have hrun : (storeVar t ⟨g, j, none⟩ v).run P w = .ok () (w.setRow g (cur.toList.take j ++ vs ++ cur.toList.drop (j + vs.length)).toArray) := by
   simp only [storeVar, hc, Sem.run_bind, kT hi, Result.andThen_ok]
   rw [if_neg (by simp [hl, hts])]
   simpa using hst
 simp only [execOp, hx', hv', Instr.storeAt, Instr.sureAddr]
 simp only [Sem.run_bind, Sem.run_pure, Result.andThen_ok, hrun, upto]
 refine h _ ?_ ⟨rfl, rfl, rfl, by simp, fun k _ hk => setRow_other w g k _ (fun e => hk (by rw [e]; rfl))⟩ (by simp)
 have hlen := hown.len
 refine ⟨by simp [hl, hlen]; omega, .inr ⟨g, c, _, rfl, hlo, setRow_heap w g cur _ el _ hg, hnc, ?_, ?_, ?_⟩⟩
 · rcases hown.2 with ⟨h5, _⟩ | ⟨g', cap', cur', h5, _, _, _, h6, _⟩
   · simp at h5
   · simp only [Value.slice.injEq] at h5
     obtain ⟨_, _, rfl⟩ := h5
     exact h6
 · simp [hl]; omega
 · rw [← htk, hl]
   simp only []
   apply List.ext_getElem?
   intro i
   simp only [List.getElem?_take, List.getElem?_append, List.length_append, List.length_take, List.getElem?_drop, Array.length_toList, hl]
   repeat' split
   all_goals (try omega)
   all_goals (try rfl)
   all_goals (try (congr 1; omega))
   all_goals (symm; first | (apply List.getElem?_eq_none; omega) | skip)
end
def plO (P : Program) (t : TypeId) : Option (List (Nat × Nat)) :=
 match P.underlying t with
 | some (.struct fields) => fields.toList.mapM (fun f => (P.info? f.type).map fun i => (f.offset, i.size))
 | _ => none
def atL : List (Nat × Nat) → Nat → Option (Nat × Nat)
 | [], _ => none
 | x :: _, 0 => some x
 | _ :: l, i + 1 => atL l i
theorem aE3 : ∀ (l : List (Nat × Nat)) (i : Nat), atL l i = l[i]?
 | [], i => by simp [atL]
 | x :: l, 0 => by simp [atL]
 | x :: l, i + 1 => by simp [atL, aE3 l i]
def aC4 (pl : List (Nat × Nat)) : List Value → List (Nat × Value) → Option (List Value)
 | cs, [] => some cs
 | cs, (i, v) :: r => match atL pl i with
   | some (off, s) => bif Nat.beq v.cells.size s then (match mS cs off v.cells.toList with
     | some cs' => aC4 pl cs' r
     | none => none) else none
   | none => none
theorem aC5 {pl : List (Nat × Nat)} : ∀ (vs : List (Nat × Value)) (cells : Array Value) (cs : List Value), aC4 pl cells.toList vs = some cs → Instr.fill (pl.toArray[·]?) cells vs = some cs.toArray
 | [], cells, cs, h => by simp [aC4] at h; simp [Instr.fill, ← h]
 | (i, v) :: r, cells, cs, h => by
   simp only [aC4] at h
   split at h
   · rename_i off s ha
     rw [aE3] at ha
     cases hb : Nat.beq v.cells.size s with
     | false => simp [hb] at h
     | true =>
       simp only [hb, cond_true] at h
       have hs : v.cells.size = s := Nat.eq_of_beq_eq_true hb
       split at h
       · rename_i cs' hcs
         obtain ⟨h1, h2⟩ := pI hcs
         simp only [Array.length_toList] at h1 h2
         have h3 : ¬ (v.cells.size ≠ s ∨ off + v.cells.size > cells.size) := by omega
         have ha2 : pl.toArray[i]? = some (off, s) := by simpa using ha
         simp only [Instr.fill, ha2]
         rw [if_neg (by simpa using h3)]
         have h4 : (v.cells.zipIdx.foldl (fun cs (p : Value × Nat) => cs.setIfInBounds (off + p.2) p.1) cells) = cs'.toArray := by
           apply Array.ext'
           have := xQ off v.cells.toList 0 cells (by simpa using h1)
           rw [← Array.foldl_toList, Array.toList_zipIdx]
           rw [this, h2]
           simp
         have h5 := aC5 r cs'.toArray cs (by simpa using h)
         rw [← h4] at h5
         exact h5
       · cases h
   · cases h
theorem dA {P : Program} {e : List (Nat × Value)} {ty : TypeId} {w : World} {K : Value → World → Prop} {t : TypeId} {a : Bool} {s b : Nat} {z : List Value} {pl : List (Nat × Nat)} {parts : Array (Nat × Operand)} {vs : List (Nat × Value)} {cs : List Value}
   (hpl : plO P t = some pl) (ht : pN P t = some (a, s, b, z)) (hp : vY e parts.toList = some vs) (hf : aC4 pl z vs = some cs) (h : K (.agg cs.toArray) w) : OpWp P e (.build t parts) ty w K := by
 refine aGT (vs := vs) (cs := cs) hp ?_ h
 obtain ⟨d', i, zv, hd, hi, hz, ha, hs, hb, hzv⟩ := kS ht
 unfold plO at hpl
 split at hpl
 · rename_i fields hu
   have h1 := aC5 vs zv.cells cs (by rw [hzv]; exact hf)
   simp only [Program.built, hi, hu, hz, hpl, h1, Option.map_some]
 · cases hpl
section
variable {P : Program} {n : Nat} {fn : Func} {e : List (Nat × Value)} {w : World} {R : Value → World → Prop} {s b : Nat} {z cs vs : List Value} {g i : Nat} {T T' : TypeId} {t u : Tmp} {v : Value}
theorem kG (hr : fn.results = #[.cell t T]) (hv : lk e t = some (.pointer (some ⟨g, i, none⟩))) (hb : Blk w g T' cs) (ht : pN P T = some (true, s, b, z)) (hs : aB7 cs i s = some vs) (h : R (.agg vs.toArray) w) : fin P n fn R .ret e w := fun a ha => by
 have h1 := ha.2.2 t _ hv
 have h2 : (loadVar T ⟨g, i, none⟩).run P w = .ok (.agg vs.toArray) w := sC ht (mF hs).1 (fun j v hj => by rw [wR, hb.cell]; exact (mF hs).2 j v hj)
 simp only [Array.getD_eq_getD_getElem?] at h1
 refine ⟨_, ?_, h⟩
 simp only [results, hr]
 simp [asAddr, h1, h2]
theorem eJ (hr : fn.results = #[.cell t T, .tmp u]) (hv : lk e t = some (.pointer (some ⟨g, i, none⟩))) (hb : Blk w g T' cs) (ht : pN P T = some (true, s, b, z)) (hs : aB7 cs i s = some vs) (hu : lk e u = some v) (h : R (.tuple #[.agg vs.toArray, v]) w) : fin P n fn R .ret e w := fun a ha => by
 have h1 := ha.2.2 t _ hv
 have h3 := ha.2.2 u _ hu
 have h2 : (loadVar T ⟨g, i, none⟩).run P w = .ok (.agg vs.toArray) w := sC ht (mF hs).1 (fun j v hj => by rw [wR, hb.cell]; exact (mF hs).2 j v hj)
 refine ⟨_, ?_, h⟩
 rw [results_cell_tmp hr, h1, h3]
 simp [asAddr, h2]
end
structure Desc where
 node : Int
 kind : Int
 size : Int
 duration : Int
 change : Bool
def Desc.cells (d : Desc) : List Value := [.int .i64 d.node, .int .i64 d.kind, .int .i64 d.size, .int .i64 d.duration, .bool d.change]
theorem Desc.len (d : Desc) : d.cells.length = 5 := rfl
structure SlotI where
 mode : Int
 round : Int
 slot : Int
 desc : Desc
def SlotI.cells (s : SlotI) : List Value := [.int .i64 s.mode, .int .i64 s.round, .int .i64 s.slot, .int .i64 s.desc.node, .int .i64 s.desc.kind, .int .i64 s.desc.size, .int .i64 s.desc.duration, .bool s.desc.change]
theorem SlotI.len (s : SlotI) : s.cells.length = 8 := rfl
structure Dem where
 node : Int
 every : Int
 size : Int
def Dem.cells (d : Dem) : List Value := [.int .i64 d.node, .int .i64 d.every, .int .i64 d.size]
theorem Dem.len (d : Dem) : d.cells.length = 3 := rfl
def vC (a b : Int) : Int := if a < b then -1 else if b < a then 1 else 0
def rC (a b : SlotI) : Int := if a.mode ≠ b.mode then vC a.mode b.mode else if a.round ≠ b.round then vC a.round b.round else vC a.slot b.slot
theorem uK {a b : SlotI} {k : Nat} (h : ∀ i : Nat, i < k → [a.mode, a.round, a.slot][i]? = [b.mode, b.round, b.slot][i]?) (hk : 3 ≤ k) : 0 = rC a b := by
 have h0 := h 0 (by omega); have h1 := h 1 (by omega); have h2 := h 2 (by omega)
 simp at h0 h1 h2
 simp [rC, h0, h1, h2, vC]
theorem uL {a b : SlotI} {k : Nat} {x y : Int} (h : ∀ i : Nat, i < k → [a.mode, a.round, a.slot][i]? = [b.mode, b.round, b.slot][i]?) (hx : [a.mode, a.round, a.slot][k]? = some x) (hy : [b.mode, b.round, b.slot][k]? = some y) (hlt : x < y) : -1 = rC a b := by
 match k, h, hx, hy with
 | 0, h, hx, hy => simp at hx hy; subst hx; subst hy; simp [rC, vC, hlt, Int.ne_of_lt hlt]
 | 1, h, hx, hy =>
   have h0 := h 0 (by omega)
   simp at hx hy h0; subst hx; subst hy; simp [rC, vC, hlt, Int.ne_of_lt hlt, h0]
 | 2, h, hx, hy =>
   have h0 := h 0 (by omega); have h1 := h 1 (by omega)
   simp at hx hy h0 h1; subst hx; subst hy; simp [rC, vC, hlt, h0, h1]
 | k + 3, h, hx, hy => simp at hx
theorem uM {a b : SlotI} {k : Nat} {x y : Int} (h : ∀ i : Nat, i < k → [a.mode, a.round, a.slot][i]? = [b.mode, b.round, b.slot][i]?) (hx : [a.mode, a.round, a.slot][k]? = some x) (hy : [b.mode, b.round, b.slot][k]? = some y) (hlt : y < x) : 1 = rC a b := by
 have hn : ¬ x < y := by omega
 match k, h, hx, hy with
 | 0, h, hx, hy => simp at hx hy; subst hx; subst hy; simp [rC, vC, hlt, hn, (Int.ne_of_lt hlt).symm]
 | 1, h, hx, hy =>
   have h0 := h 0 (by omega)
   simp at hx hy h0; subst hx; subst hy; simp [rC, vC, hlt, hn, (Int.ne_of_lt hlt).symm, h0]
 | 2, h, hx, hy =>
   have h0 := h 0 (by omega); have h1 := h 1 (by omega)
   simp at hx hy h0 h1; subst hx; subst hy; simp [rC, vC, hlt, hn, h0, h1]
 | k + 3, h, hx, hy => simp at hx
end Go.Proofs.YtdoibplhbdkapaaGreatDoor
