/- Flow, part D: memory: blocks that the call made itself, rows that are read, rows that are owned. -/
import Derived.Test.YtdoibplhbdkapaaFlowC
import Derived.WalkSpells
import Derived.Maps.AppendAt
import Derived.Lib.ConvBytes
namespace Go.Proofs.Ytdoibplhbdkapaa
open Go.RowKit
set_option linter.unusedVariables false
set_option linter.unusedSimpArgs false

/-! ### what a type's row says -/
def aggB : TypeDesc → Bool
  | .struct _ => true
  | .array _ _ => true
  | _ => false

/-- is it an aggregate, how many cells, how many bytes, its zero's cells -/
def tiO (P : Program) (t : TypeId) : Option (Bool × Nat × Nat × List Value) :=
  match P.underlying t, P.info? t with
  | some d, some i => match i.zero with
    | some z => some (aggB d, i.size, i.bytes, z.cells.toList)
    | none => none
  | _, _ => none

theorem tiO_spec {P : Program} {t : TypeId} {a : Bool} {s b : Nat} {z : List Value} (h : tiO P t = some (a, s, b, z)) :
    ∃ d i zv, P.underlying t = some d ∧ P.info? t = some i ∧ i.zero = some zv ∧ aggB d = a ∧ i.size = s ∧ i.bytes = b ∧ zv.cells.toList = z := by
  unfold tiO at h
  split at h
  · rename_i d i hd hi
    split at h
    · rename_i zv hz
      simp only [Option.some.injEq, Prod.mk.injEq] at h
      exact ⟨d, i, zv, hd, hi, hz, h.1, h.2.1, h.2.2.1, h.2.2.2⟩
    · cases h
  · cases h

theorem run_isAgg {P : Program} {t : TypeId} {d : TypeDesc} (h : P.underlying t = some d) (w : World) : (isAgg t).run P w = .ok (aggB d) w := by
  simp only [isAgg, Sem.run_bind, run_underlying h, Result.andThen_ok]
  cases d <;> rfl

theorem run_sizeOf' {P : Program} {t : TypeId} {i : TypeInfo} (h : P.info? t = some i) (w : World) : (sizeOf t).run P w = .ok i.size w := by simp [sizeOf, typeInfo, h]
theorem run_zero' {P : Program} {t : TypeId} {i : TypeInfo} {z : Value} (h : P.info? t = some i) (hz : i.zero = some z) (w : World) : (zeroValue t).run P w = .ok z w := by simp [zeroValue, typeInfo, h, hz]

/-! ### a block of the call's own -/
def Blk (w : World) (g : Nat) (t : TypeId) (cs : List Value) : Prop := w.heap[g]? = some (.cells cs.toArray t (0, 0))

section
variable {w w' : World} {g : Nat} {t : TypeId} {cs : List Value}
theorem Blk.lt (h : Blk w g t cs) : g < w.heap.size := (Array.getElem?_eq_some_iff.1 h).1
theorem Blk.cell (h : Blk w g t cs) (i : Nat) : w.cell? ⟨g, i, none⟩ = cs[i]? := by
  unfold Blk at h; simp [World.cell?, h]
theorem Blk.frozen (h : Blk w g t cs) (i : Nat) : w.frozen? ⟨g, i, none⟩ = false := by
  unfold Blk at h; simp [World.frozen?, h]
theorem Blk.below {B : Nat} (h : Blk w g t cs) (hb : Below B w w') (hg : g < B) : Blk w' g t cs := (hb.block g hg).trans h
theorem Blk.ext (h : Blk w g t cs) (hb : Ext w w') : Blk w' g t cs := h.below hb h.lt
theorem Blk.grown {row : Option Nat} (h : Blk w g t cs) (hb : w.grownBy w' row) (hg : some g ≠ row) : Blk w' g t cs := (hb.block g h.lt hg).trans h
end

/-! ### a row that is read: 'A' its address, 'cs' its cells, all below block B -/
def base (A : Option Addr) : Addr := A.getD ⟨0, 0, none⟩

def Sl (B : Nat) (w : World) (A : Option Addr) (cs : List Value) : Prop :=
  B ≤ w.heap.size ∧ ∀ j v, cs[j]? = some v → A.isSome = true ∧ (base A).block < B ∧ w.cell? ((base A).add j) = some v

theorem block_of_add (a : Addr) (n : Nat) : (a.add n).block = a.block := by unfold Addr.add; split <;> rfl
theorem add_add' (a : Addr) (i j : Nat) : (a.add i).add j = a.add (i + j) := by
  unfold Addr.add
  by_cases hi : i = 0 <;> by_cases hj : j = 0 <;> simp [hi, hj, Nat.add_assoc]
theorem add_zero' (a : Addr) : a.add 0 = a := rfl

section
variable {w w' : World} {B B' : Nat} {A : Option Addr} {cs : List Value}
theorem Sl.nil_ (hB : B ≤ w.heap.size) (A : Option Addr) : Sl B w A [] := ⟨hB, fun j v h => by simp at h⟩
theorem Sl.below (h : Sl B w A cs) (hb : Below B w w') : Sl B w' A cs := ⟨Nat.le_trans h.1 hb.size, fun j v hj => by
  obtain ⟨h1, h2, h3⟩ := h.2 j v hj
  exact ⟨h1, h2, (hb.cell (p := (base A).add j) (by rw [block_of_add]; exact h2)).trans h3⟩⟩
theorem Sl.ext (h : Sl B w A cs) (hb : Ext w w') : Sl B w' A cs := h.below (Below.mono hb h.1)
theorem Sl.more (h : Sl B w A cs) (hB : B ≤ B') (hw : B' ≤ w.heap.size) : Sl B' w A cs := ⟨hw, fun j v hj => ⟨(h.2 j v hj).1, Nat.lt_of_lt_of_le (h.2 j v hj).2.1 hB, (h.2 j v hj).2.2⟩⟩
theorem Sl.at_ (h : Sl B w A cs) {j : Nat} {v : Value} (hj : cs[j]? = some v) : w.cell? ((base A).add j) = some v := (h.2 j v hj).2.2
theorem Sl.grown {row : Option Nat} (h : Sl B w A cs) (hg : w.grownBy w' row) (hr : ∀ g, row = some g → B ≤ g) : Sl B w' A cs := ⟨Nat.le_trans h.1 hg.size, fun j v hj => by
  obtain ⟨h1, h2, h3⟩ := h.2 j v hj
  refine ⟨h1, h2, hg.cell h3 (fun e => ?_)⟩
  rw [block_of_add] at e
  have := hr _ e.symm
  omega⟩
theorem Sl.up (B : Nat) (A : Option Addr) (cs : List Value) : Up (fun w => Sl B w A cs) := fun _ _ h k => h.ext k
/-- a part of it -/
theorem Sl.cut (h : Sl B w A cs) (i n : Nat) : Sl B w (if i = 0 then A else A.map (·.add i)) ((cs.drop i).take n) := ⟨h.1, fun j v hj => by
  have hj' : cs[i + j]? = some v := by
    rw [List.getElem?_take] at hj
    split at hj
    · rw [List.getElem?_drop] at hj; exact hj
    · cases hj
  obtain ⟨h1, h2, h3⟩ := h.2 (i + j) v hj'
  obtain ⟨a, rfl⟩ := Option.isSome_iff_exists.1 h1
  by_cases hi : i = 0
  · subst hi
    rw [Nat.zero_add] at h3
    exact ⟨rfl, h2, h3⟩
  · simp only [hi, if_false, Option.map_some, Option.isSome_some, true_and, base, Option.getD_some]
    simp only [base, Option.getD_some] at h2 h3
    exact ⟨by rw [block_of_add]; exact h2, by rw [add_add']; exact h3⟩⟩
end

/-! ### a row that the call owns -/
abbrev Own (w : World) (lo : Nat) (t : TypeId) (s : Nat) (A : Option Addr) (n c : Nat) (cs : List Value) : Prop := w.ownsRow lo t s (.slice A n c) n cs

section
variable {w w' : World} {lo : Nat} {t : TypeId} {s n c : Nat} {A : Option Addr} {cs : List Value}
theorem Own.len (h : Own w lo t s A n c cs) : cs.length = n * s := h.1
theorem Own.sl (h : Own w lo t s A n c cs) : Sl w.heap.size w A cs := ⟨Nat.le_refl _, fun j v hj => by
  rcases h.2 with ⟨h1, h2⟩ | ⟨g, cap, cur, hv, hlo, hg, _⟩
  · exfalso
    have := h.1
    subst h2
    have : cs = [] := List.eq_nil_of_length_eq_zero (by simpa using this)
    subst this
    simp at hj
  · have hA : A = some ⟨g, 0, none⟩ := by injection hv
    subst hA
    exact ⟨rfl, (Array.getElem?_eq_some_iff.1 hg).1, World.ownsRow.cells h (g := g) rfl j v hj⟩⟩
theorem Own.lt (h : Own w lo t s A n c cs) {g : Nat} (hg : (Value.slice A n c).ownBlock = some g) : lo ≤ g ∧ g < w.heap.size := World.ownsRow.lt h g hg
theorem Own.below {B : Nat} (h : Own w lo t s A n c cs) (hb : Below B w w') (hB : ∀ g, (Value.slice A n c).ownBlock = some g → g < B) : Own w' lo t s A n c cs := by
  refine ⟨h.1, ?_⟩
  rcases h.2 with h2 | ⟨g, cap, cur, hv, hlo, hg, r⟩
  · exact .inl h2
  · exact .inr ⟨g, cap, cur, hv, hlo, (hb.block g (hB g (by rw [hv]; rfl))).trans hg, r⟩
theorem Own.ext (h : Own w lo t s A n c cs) (hb : Ext w w') : Own w' lo t s A n c cs := h.below hb fun g hg => (h.lt hg).2
theorem Own.low {lo' : Nat} (h : Own w lo t s A n c cs) (hl : lo' ≤ lo) : Own w lo' t s A n c cs := by
  refine ⟨h.1, ?_⟩
  rcases h.2 with h2 | ⟨g, cap, cur, hv, hlo, r⟩
  · exact .inl h2
  · exact .inr ⟨g, cap, cur, hv, by omega, r⟩
theorem Own.nil_ (w : World) (lo : Nat) (t : TypeId) (s : Nat) : Own w lo t s none 0 0 [] := World.ownsRow_nil w lo t s
/-- how it lies -/
theorem Own.form (h : Own w lo t s A n c cs) (hn : 0 < n) : ∃ g cur, A = some ⟨g, 0, none⟩ ∧ lo ≤ g ∧ w.heap[g]? = some (.cells cur t (0, 0)) ∧ n ≤ c ∧ cur.size = c * s ∧ cur.toList.take (n * s) = cs := by
  rcases h.2 with ⟨h1, h2⟩ | ⟨g, cap, cur, hv, hlo, hg, h3, _, h4, h5⟩
  · omega
  · simp only [Value.slice.injEq] at hv
    obtain ⟨h6, _, h7⟩ := hv
    subst h7
    exact ⟨g, cur, h6, hlo, hg, h3, h4, h5⟩
theorem Own.up (lo : Nat) (t : TypeId) (s : Nat) (A : Option Addr) (n c : Nat) (cs : List Value) : Up (fun w => Own w lo t s A n c cs) := fun _ _ h k => Own.ext h k
end

/-! ### small readers of lists that are written out -/
/-- so many values from place i on, all written out -/
def takeO : List Value → Nat → Option (List Value)
  | _, 0 => some []
  | [], _ + 1 => none
  | x :: l, k + 1 => match takeO l k with
    | some r => some (x :: r)
    | none => none
def subL : List Value → Nat → Nat → Option (List Value)
  | l, 0, k => takeO l k
  | [], _ + 1, _ => none
  | _ :: l, i + 1, k => subL l i k
def spliceO : List Value → Nat → List Value → Option (List Value)
  | l, 0, [] => some l
  | [], _, _ => none
  | _ :: l, 0, v :: vs => match spliceO l 0 vs with
    | some r => some (v :: r)
    | none => none
  | x :: l, i + 1, vs => match spliceO l i vs with
    | some r => some (x :: r)
    | none => none

theorem takeO_spec {l r : List Value} {k : Nat} (h : takeO l k = some r) : r.length = k ∧ ∀ (j : Nat) (v : Value), r[j]? = some v → l[j]? = some v := by
  induction k generalizing l r with
  | zero => cases l <;> simp [takeO] at h <;> subst h <;> simp
  | succ k ih =>
    cases l with
    | nil => simp [takeO] at h
    | cons x l =>
      simp only [takeO] at h
      split at h
      · rename_i r' hr
        simp at h; subst h
        obtain ⟨h1, h2⟩ := ih hr
        refine ⟨by simp [h1], fun j v hj => ?_⟩
        cases j with
        | zero => simpa using hj
        | succ j => simp at hj ⊢; exact h2 j v hj
      · cases h
theorem subL_spec {l r : List Value} {i k : Nat} (h : subL l i k = some r) : r.length = k ∧ ∀ (j : Nat) (v : Value), r[j]? = some v → l[i + j]? = some v := by
  induction i generalizing l with
  | zero =>
    have : subL l 0 k = takeO l k := by cases l <;> rfl
    rw [this] at h
    simpa using takeO_spec h
  | succ i ih =>
    cases l with
    | nil => simp [subL] at h
    | cons x l =>
      simp only [subL] at h
      obtain ⟨h1, h2⟩ := ih h
      refine ⟨h1, fun j v hj => ?_⟩
      have := h2 j v hj
      rw [show i + 1 + j = (i + j) + 1 by omega]
      simpa using this
theorem spliceO_spec {l r vs : List Value} {i : Nat} (h : spliceO l i vs = some r) : i + vs.length ≤ l.length ∧ r = l.take i ++ vs ++ l.drop (i + vs.length) := by
  induction l generalizing i vs r with
  | nil =>
    cases i with
    | zero => cases vs <;> simp_all [spliceO]
    | succ i => simp [spliceO] at h
  | cons x l ih =>
    cases i with
    | zero =>
      cases vs with
      | nil => simp [spliceO] at h; subst h; simp
      | cons v vs =>
        simp only [spliceO] at h
        split at h
        · rename_i r' hr
          simp at h; subst h
          obtain ⟨h1, h2⟩ := ih hr
          refine ⟨by simp at h1 ⊢; omega, ?_⟩
          rw [h2]; simp
        · cases h
    | succ i =>
      simp only [spliceO] at h
      split at h
      · rename_i r' hr
        simp at h; subst h
        obtain ⟨h1, h2⟩ := ih hr
        refine ⟨by simp at h1 ⊢; omega, ?_⟩
        rw [h2, show i + 1 + vs.length = (i + vs.length) + 1 by omega]
        simp
      · cases h

/-! ### the operations -/
section
variable {P : Program} {e : List (Nat × Value)} {ty : TypeId} {w : World} {K : Value → World → Prop} {x y : Operand} {t : TypeId} {s b : Nat} {z : List Value}

theorem run_loadVar1 {a : Addr} {v : Value} (ht : tiO P t = some (false, s, b, z)) (hc : w.cell? a = some v) : (loadVar t a).run P w = .ok v w := by
  obtain ⟨d, i, zv, hd, hi, hz, ha, hs, hb, hzv⟩ := tiO_spec ht
  simp [loadVar, run_isAgg hd, ha, hc]
theorem run_loadVarA {a : Addr} {cs : List Value} (ht : tiO P t = some (true, s, b, z)) (hl : cs.length = s) (hc : ∀ j v, cs[j]? = some v → w.cell? (a.add j) = some v) : (loadVar t a).run P w = .ok (.agg cs.toArray) w := by
  obtain ⟨d, i, zv, hd, hi, hz, ha, hs, hb, hzv⟩ := tiO_spec ht
  have h1 := run_loadCells_list (P := P) w a cs hc
  rw [hl, ← hs] at h1
  simp [loadVar, run_isAgg hd, ha, run_sizeOf' hi, h1]

/-- a cell is read -/
theorem ow_load {a : Addr} {v : Value} (ht : tiO P t = some (false, s, b, z)) (hx : evO e x = some (.pointer (some a))) (hc : w.cell? a = some v) (h : K v w) : OpWp P e (.load t x) ty w K := fun ρ d p af g hρ => by
  have h1 := hρ _ _ hx
  simp [execOp, h1, Instr.loadAt, Instr.sureAddr, run_loadVar1 ht hc, upto]; exact h
theorem ow_loadA {a : Addr} {cs : List Value} (ht : tiO P t = some (true, s, b, z)) (hx : evO e x = some (.pointer (some a))) (hl : cs.length = s) (hc : ∀ j v, cs[j]? = some v → w.cell? (a.add j) = some v) (h : K (.agg cs.toArray) w) : OpWp P e (.load t x) ty w K := fun ρ d p af g hρ => by
  have h1 := hρ _ _ hx
  simp [execOp, h1, Instr.loadAt, Instr.sureAddr, run_loadVarA ht hl hc, upto]; exact h

/-- from a block of its own -/
theorem ow_loadB {g i : Nat} {T : TypeId} {cs : List Value} {v : Value} (hb : Blk w g T cs) (ht : tiO P t = some (false, s, b, z)) (hx : evO e x = some (.pointer (some ⟨g, i, none⟩))) (hv : cs[i]? = some v) (h : K v w) : OpWp P e (.load t x) ty w K :=
  ow_load ht hx (by rw [hb.cell]; exact hv) h
theorem add_blk (g i j : Nat) : (⟨g, i, none⟩ : Addr).add j = ⟨g, i + j, none⟩ := by unfold Addr.add; split <;> simp_all
theorem ow_loadAB {g i : Nat} {T : TypeId} {cs vs : List Value} (hb : Blk w g T cs) (ht : tiO P t = some (true, s, b, z)) (hx : evO e x = some (.pointer (some ⟨g, i, none⟩))) (hv : subL cs i s = some vs) (h : K (.agg vs.toArray) w) : OpWp P e (.load t x) ty w K :=
  ow_loadA ht hx (subL_spec hv).1 (fun j v hj => by rw [add_blk, hb.cell]; exact (subL_spec hv).2 j v hj) h

/-- from a row that is read -/
theorem ow_loadS {B m : Nat} {A : Option Addr} {cs : List Value} {v : Value} (hs : Sl B w A cs) (ht : tiO P t = some (false, s, b, z)) (hx : evO e x = some (.pointer (some ((base A).add m)))) (hv : cs[m]? = some v) (h : K v w) : OpWp P e (.load t x) ty w K :=
  ow_load ht hx (hs.at_ hv) h
theorem ow_loadSF {B m f : Nat} {A : Option Addr} {cs : List Value} {v : Value} (hs : Sl B w A cs) (ht : tiO P t = some (false, s, b, z)) (hx : evO e x = some (.pointer (some (((base A).add m).add f)))) (hv : cs[m + f]? = some v) (h : K v w) : OpWp P e (.load t x) ty w K :=
  ow_load ht hx (by rw [add_add']; exact hs.at_ hv) h
theorem ow_loadAS {B m : Nat} {A : Option Addr} {cs vs : List Value} (hs : Sl B w A cs) (ht : tiO P t = some (true, s, b, z)) (hx : evO e x = some (.pointer (some ((base A).add m)))) (hl : vs.length = s) (hv : ∀ j v, vs[j]? = some v → cs[m + j]? = some v) (h : K (.agg vs.toArray) w) : OpWp P e (.load t x) ty w K :=
  ow_loadA ht hx hl (fun j v hj => by rw [add_add']; exact hs.at_ (hv j v hj)) h
theorem ow_loadASF {B m f : Nat} {A : Option Addr} {cs vs : List Value} (hs : Sl B w A cs) (ht : tiO P t = some (true, s, b, z)) (hx : evO e x = some (.pointer (some (((base A).add m).add f)))) (hl : vs.length = s) (hv : ∀ j v, vs[j]? = some v → cs[m + f + j]? = some v) (h : K (.agg vs.toArray) w) : OpWp P e (.load t x) ty w K :=
  ow_loadA ht hx hl (fun j v hj => by rw [add_add', add_add', ← Nat.add_assoc]; exact hs.at_ (hv j v hj)) h

/-- a new block -/
theorem ow_box {v : Value} {cs : List Value} (hx : evO e x = some v) (hcs : v.cells = cs.toArray) (h : ∀ g w', g = w.heap.size → Blk w' g t cs → Ext w w' → w'.heap.size = g + 1 → K (.pointer (some ⟨g, 0, none⟩)) w') : OpWp P e (.box t x) ty w K := fun ρ d p af g hρ => by
  have h1 := hρ _ _ hx
  simp [execOp, h1, Instr.box, newVar, newRow, upto, hcs]
  exact h _ _ rfl (heap_alloc_new w _) (Ext.alloc w _) (by simp)
theorem ow_alloc {a : Bool} (ht : tiO P t = some (a, s, b, z)) (h : ∀ g w', g = w.heap.size → Blk w' g t z → Ext w w' → w'.heap.size = g + 1 → K (.pointer (some ⟨g, 0, none⟩)) w') : OpWp P e (.alloc t) ty w K := fun ρ d p af g hρ => by
  obtain ⟨d', i, zv, hd, hi, hz, ha, hs, hb, hzv⟩ := tiO_spec ht
  have hc : zv.cells = z.toArray := by rw [← hzv]
  simp [execOp, Instr.alloc, run_zero' hi hz, newVar, newRow, upto, hc]
  exact h _ _ rfl (heap_alloc_new w _) (Ext.alloc w _) (by simp)

/-- a store into a block of its own -/
theorem ow_storeB {g i : Nat} {T : TypeId} {cs vs cs' : List Value} {a : Bool} {v : Value} (hb : Blk w g T cs) (ht : tiO P t = some (a, s, b, z)) (hx : evO e x = some (.pointer (some ⟨g, i, none⟩))) (hv : evO e y = some v) (hc : v.cells = vs.toArray) (hl : vs.length = s)
    (h1 : vs.all (·.oneCell') = true) (hs : spliceO cs i vs = some cs') (h : ∀ w', Blk w' g T cs' → w.grownBy w' (some g) → w'.heap.size = w.heap.size → K undef w') : OpWp P e (.store t x y) ty w K := fun ρ d p af gd hρ => by
  obtain ⟨d', ti, zv, hd, hi, hz, ha, hsz, hby, hzv⟩ := tiO_spec ht
  have hx' := hρ _ _ hx
  have hv' := hρ _ _ hv
  obtain ⟨h2, h3⟩ := spliceO_spec hs
  have hst := run_storeCells_at (P := P) g i T vs 0 cs.toArray w hb (by simpa using h2) (fun u hu => List.all_eq_true.1 h1 u hu)
  simp only [Nat.add_zero] at hst
  have : (storeVar t ⟨g, i, none⟩ v).run P w = .ok () (w.setRow g (cs.take i ++ vs ++ cs.drop (i + vs.length)).toArray) := by
    simp only [storeVar, hc, Sem.run_bind, run_sizeOf' hi, Result.andThen_ok]
    rw [if_neg (by simp [hl, hsz])]
    simpa using hst
  simp only [execOp, hx', hv', Instr.storeAt, Instr.sureAddr]
  simp only [Sem.run_bind, Sem.run_pure, Result.andThen_ok, this, upto]
  rw [← h3]
  refine h _ ?_ ⟨rfl, rfl, rfl, by simp, fun k _ hk => setRow_other w g k _ (fun e => hk (by rw [e]))⟩ (by simp)
  exact setRow_heap w g cs.toArray _ T _ hb

/-- a field's address -/
def offO (P : Program) (t : TypeId) (f : Nat) : Option Nat :=
  match P.underlying t with
  | some (.struct fields) => match fields[f]? with
    | some fd => match P.info? fd.type with
      | some i => if i.size = 0 then none else some fd.offset
      | none => none
    | none => none
  | _ => none
theorem ow_fieldAddr {f off : Nat} {a : Addr} (ho : offO P t f = some off) (hx : evO e x = some (.pointer (some a))) (h : K (.pointer (some (a.add off))) w) : OpWp P e (.fieldAddr t x f) ty w K := fun ρ d p af g hρ => by
  have h1 := hρ _ _ hx
  unfold offO at ho
  split at ho
  · rename_i fields hu
    split at ho
    · rename_i fd hf
      split at ho
      · rename_i i hi
        split at ho
        · cases ho
        · rename_i hs
          simp only [Option.some.injEq] at ho
          subst ho
          simp [execOp, h1, Instr.fieldAt, run_underlying hu, hf, Instr.sureAddr, fieldPlace, run_sizeOf' hi, hs, upto]
          exact h
      · cases ho
    · cases ho
  · cases ho
/-- in a block of its own -/
theorem ow_fieldAddrB {f off g i j : Nat} (ho : offO P t f = some off) (hx : evO e x = some (.pointer (some ⟨g, i, none⟩))) (hj : (some (i + off) : Option Nat) = some j) (h : K (.pointer (some ⟨g, j, none⟩)) w) : OpWp P e (.fieldAddr t x f) ty w K :=
  ow_fieldAddr ho hx (by rw [add_blk]; simp only [Option.some.injEq] at hj; rw [hj]; exact h)

/-- a field of a value -/
def partO (P : Program) (t : TypeId) (f : Nat) (cs : List Value) : Option Value :=
  match P.underlying t with
  | some (.struct fields) => match fields[f]? with
    | some fd => match tiO P fd.type with
      | some (true, s, _) => match subL cs fd.offset s with
        | some r => some (.agg r.toArray)
        | none => none
      | some (false, _) => cs[fd.offset]?
      | none => none
    | none => none
  | _ => none

theorem ow_field {f : Nat} {cs : List Value} {v : Value} (hx : evO e x = some (.agg cs.toArray)) (hp : partO P t f cs = some v) (h : K v w) : OpWp P e (.field t x f) ty w K := fun ρ d p af g hρ => by
  have h1 := hρ _ _ hx
  unfold partO at hp
  split at hp
  · rename_i fields hu
    split at hp
    · rename_i fd hf
      split at hp
      · rename_i s b hti
        obtain ⟨d', ti, zv, hd, hi, hz, ha, hsz, hby, hzv⟩ := tiO_spec (P := P) (t := fd.type) (a := true) (s := s) (b := b.1) (z := b.2) hti
        split at hp
        · rename_i r hr
          simp only [Option.some.injEq] at hp
          subst hp
          obtain ⟨hl, hc⟩ := subL_spec hr
          have : cs.toArray.extract fd.offset (fd.offset + ti.size) = r.toArray := by
            rw [hsz]
            apply Array.ext'
            simp only [Array.toList_extract, List.extract_eq_take_drop]
            apply List.ext_getElem?
            intro j
            rw [show fd.offset + s - fd.offset = s by omega]
            rw [List.getElem?_take]
            by_cases hj : j < s
            · rw [if_pos hj, List.getElem?_drop]
              have hj' : j < r.length := by omega
              have := hc j r[j] (List.getElem?_eq_getElem hj')
              rw [this, List.getElem?_eq_getElem hj']
            · rw [if_neg hj, List.getElem?_eq_none (by omega)]
          simp [execOp, h1, Instr.field, run_underlying hu, hf, part, run_isAgg hd, ha, asAgg, run_sizeOf' hi, upto]
          simp at this
          rw [this]
          exact h
        · cases hp
      · rename_i b hti
        obtain ⟨d', ti, zv, hd, hi, hz, ha, hsz, hby, hzv⟩ := tiO_spec (P := P) (t := fd.type) (a := false) (s := b.1) (b := b.2.1) (z := b.2.2) hti
        simp [execOp, h1, Instr.field, run_underlying hu, hf, part, run_isAgg hd, ha, asAgg, hp, upto]
        exact h
      · cases hp
    · cases hp
  · cases hp

/-- an element's address -/
def elO (P : Program) (t : TypeId) : Option (TypeId × Nat) :=
  match P.underlying t with
  | some (.slice el) => match P.info? el with
    | some i => some (el, i.size)
    | none => none
  | _ => none
theorem elO_spec {el : TypeId} (h : elO P t = some (el, s)) : ∃ i, P.underlying t = some (.slice el) ∧ P.info? el = some i ∧ i.size = s := by
  unfold elO at h
  split at h
  · rename_i el' hu
    split at h
    · rename_i i hi
      simp only [Option.some.injEq, Prod.mk.injEq] at h
      obtain ⟨rfl, h2⟩ := h
      exact ⟨i, hu, hi, h2⟩
    · cases h
  · cases h
theorem ow_index {el : TypeId} {A : Option Addr} {n c : Nat} {k : IntKind} {m : Int} (ht : elO P t = some (el, s)) (hx : evO e x = some (.slice A n c)) (hy : evO e y = some (.int k m)) (hA : A.isSome = true) (h0 : 0 ≤ m) (h1 : m < n) (h : K (.pointer (some ((base A).add (m.toNat * s)))) w) : OpWp P e (.indexAddr t x y) ty w K := fun ρ d p af g hρ => by
  have g1 := hρ _ _ hx; have g2 := hρ _ _ hy
  obtain ⟨i, hu, hi, hs⟩ := elO_spec ht
  obtain ⟨a, rfl⟩ := Option.isSome_iff_exists.1 hA
  simp [execOp, g1, g2, Instr.indexAt, asIntOf, run_underlying hu, h0, h1, run_sizeOf' hi, hs, upto]
  exact h
/-- in a row that is read: element number k -/
theorem ow_indexR {el : TypeId} {B : Nat} {A : Option Addr} {cs : List Value} {n c : Nat} {k : IntKind} {m : Int} {j : Nat} (hs : Sl B w A cs) (ht : elO P t = some (el, s)) (hx : evO e x = some (.slice A n c)) (hy : evO e y = some (.int k m)) (hm : m = (j : Int)) (h1 : j < n) (hl : j * s < cs.length) (h : K (.pointer (some ((base A).add (j * s)))) w) : OpWp P e (.indexAddr t x y) ty w K := by
  subst hm
  exact ow_index ht hx hy (hs.2 _ _ (List.getElem?_eq_getElem hl)).1 (by omega) (by omega) (by simpa using h)

/-- a struct that is built -/
theorem ow_build {parts : Array (Nat × Operand)} {vs : List (Nat × Value)} {cs : List Value} (hp : partsO e parts.toList = some vs) (hb : (P.built t vs).map (·.toList) = some cs) (h : K (.agg cs.toArray) w) : OpWp P e (.build t parts) ty w K := fun ρ d p af g hρ => by
  have h1 : parts.map (fun (i, x) => (i, ρ x)) = vs.toArray := by
    apply Array.ext'
    simp only [Array.toList_map]
    exact partsO_spec hρ _ _ hp
  cases hq : P.built t vs with
  | none => simp [hq] at hb
  | some cells =>
    simp only [hq, Option.map_some, Option.some.injEq] at hb
    have hr := run_build (P := P) w t vs.toArray cells (by simpa using hq)
    simp only [execOp, h1, Sem.run_bind, hr, Result.andThen_ok, Sem.run_pure, upto]
    rw [show cells = cs.toArray by rw [← hb]]
    exact h
end

end Go.Proofs.Ytdoibplhbdkapaa
