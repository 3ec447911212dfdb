/- Texts of the seat that a law needs, put together. No condition. -/
import Derived.Test.YtdoibplhbdkapaaCJP1
import Derived.WalkSpells
import Derived.Maps.AppendAt
import Derived.Lib.ConvBytes
import Derived.Laws.ResultCell
import Derived.Laws.BytesArg
import Derived.Lib.SlTrimSet
namespace Go.Proofs.Ytdoibplhbdkapaa
open Go.RowKit
set_option linter.unusedVariables false
set_option linter.unusedSimpArgs false

def aggB : TypeDesc → Bool
  | .struct _ => true
  | .array _ _ => true
  | _ => false

/-- is it an aggregate, how many cells, how many bytes, its zero's cells -/
def tiO (P : Program) (t : TypeId) : Option (Bool × Nat × Nat × List Value) :=
  match P.underlying t, P.info? t with
  | some d, some i => match i.zero with
    | some z => some (aggB d, i.size, i.bytes, z.cells.toList)
    | none => none
  | _, _ => none

theorem tiO_spec {P : Program} {t : TypeId} {a : Bool} {s b : Nat} {z : List Value} (h : tiO P t = some (a, s, b, z)) :
    ∃ d i zv, P.underlying t = some d ∧ P.info? t = some i ∧ i.zero = some zv ∧ aggB d = a ∧ i.size = s ∧ i.bytes = b ∧ zv.cells.toList = z := by
  unfold tiO at h
  split at h
  · rename_i d i hd hi
    split at h
    · rename_i zv hz
      simp only [Option.some.injEq, Prod.mk.injEq] at h
      exact ⟨d, i, zv, hd, hi, hz, h.1, h.2.1, h.2.2.1, h.2.2.2⟩
    · cases h
  · cases h

theorem run_isAgg {P : Program} {t : TypeId} {d : TypeDesc} (h : P.underlying t = some d) (w : World) : (isAgg t).run P w = .ok (aggB d) w := by
  simp only [isAgg, Sem.run_bind, run_underlying h, Result.andThen_ok]
  cases d <;> rfl

theorem run_sizeOf' {P : Program} {t : TypeId} {i : TypeInfo} (h : P.info? t = some i) (w : World) : (sizeOf t).run P w = .ok i.size w := by simp [sizeOf, typeInfo, h]
theorem run_zero' {P : Program} {t : TypeId} {i : TypeInfo} {z : Value} (h : P.info? t = some i) (hz : i.zero = some z) (w : World) : (zeroValue t).run P w = .ok z w := by simp [zeroValue, typeInfo, h, hz]

def Blk (w : World) (g : Nat) (t : TypeId) (cs : List Value) : Prop := w.heap[g]? = some (.cells cs.toArray t (0, 0))

section
variable {w w' : World} {g : Nat} {t : TypeId} {cs : List Value}
theorem Blk.lt (h : Blk w g t cs) : g < w.heap.size := (Array.getElem?_eq_some_iff.1 h).1
theorem Blk.cell (h : Blk w g t cs) (i : Nat) : w.cell? ⟨g, i, none⟩ = cs[i]? := by
  unfold Blk at h; simp [World.cell?, h]
theorem Blk.below {B : Nat} (h : Blk w g t cs) (hb : Below B w w') (hg : g < B) : Blk w' g t cs := (hb.block g hg).trans h
theorem Blk.ext (h : Blk w g t cs) (hb : Ext w w') : Blk w' g t cs := h.below hb h.lt
theorem Blk.grown {row : Option Nat} (h : Blk w g t cs) (hb : w.grownBy w' row) (hg : some g ≠ row) : Blk w' g t cs := (hb.block g h.lt hg).trans h
end

def base (A : Option Addr) : Addr := A.getD ⟨0, 0, none⟩

def Sl (B : Nat) (w : World) (A : Option Addr) (cs : List Value) : Prop :=
  B ≤ w.heap.size ∧ ∀ j v, cs[j]? = some v → A.isSome = true ∧ (base A).block < B ∧ w.cell? ((base A).add j) = some v

theorem block_of_add (a : Addr) (n : Nat) : (a.add n).block = a.block := by unfold Addr.add; split <;> rfl
theorem add_add' (a : Addr) (i j : Nat) : (a.add i).add j = a.add (i + j) := by
  unfold Addr.add
  by_cases hi : i = 0 <;> by_cases hj : j = 0 <;> simp [hi, hj, Nat.add_assoc]
section
variable {w w' : World} {B B' : Nat} {A : Option Addr} {cs : List Value}
theorem Sl.nil_ (hB : B ≤ w.heap.size) (A : Option Addr) : Sl B w A [] := ⟨hB, fun j v h => by simp at h⟩
theorem Sl.below (h : Sl B w A cs) (hb : Below B w w') : Sl B w' A cs := ⟨Nat.le_trans h.1 hb.size, fun j v hj => by
  obtain ⟨h1, h2, h3⟩ := h.2 j v hj
  exact ⟨h1, h2, (hb.cell (p := (base A).add j) (by rw [block_of_add]; exact h2)).trans h3⟩⟩
theorem Sl.ext (h : Sl B w A cs) (hb : Ext w w') : Sl B w' A cs := h.below (Below.mono hb h.1)
theorem Sl.at_ (h : Sl B w A cs) {j : Nat} {v : Value} (hj : cs[j]? = some v) : w.cell? ((base A).add j) = some v := (h.2 j v hj).2.2
theorem Sl.grown {row : Option Nat} (h : Sl B w A cs) (hg : w.grownBy w' row) (hr : ∀ g, row = some g → B ≤ g) : Sl B w' A cs := ⟨Nat.le_trans h.1 hg.size, fun j v hj => by
  obtain ⟨h1, h2, h3⟩ := h.2 j v hj
  refine ⟨h1, h2, hg.cell h3 (fun e => ?_)⟩
  rw [block_of_add] at e
  have := hr _ e.symm
  omega⟩
/-- a part of it -/
theorem Sl.cut (h : Sl B w A cs) (i n : Nat) : Sl B w (if i = 0 then A else A.map (·.add i)) ((cs.drop i).take n) := ⟨h.1, fun j v hj => by
  have hj' : cs[i + j]? = some v := by
    rw [List.getElem?_take] at hj
    split at hj
    · rw [List.getElem?_drop] at hj; exact hj
    · cases hj
  obtain ⟨h1, h2, h3⟩ := h.2 (i + j) v hj'
  obtain ⟨a, rfl⟩ := Option.isSome_iff_exists.1 h1
  by_cases hi : i = 0
  · subst hi
    rw [Nat.zero_add] at h3
    exact ⟨rfl, h2, h3⟩
  · simp only [hi, if_false, Option.map_some, Option.isSome_some, true_and, base, Option.getD_some]
    simp only [base, Option.getD_some] at h2 h3
    exact ⟨by rw [block_of_add]; exact h2, by rw [add_add']; exact h3⟩⟩
end

abbrev Own (w : World) (lo : Nat) (t : TypeId) (s : Nat) (A : Option Addr) (n c : Nat) (cs : List Value) : Prop := w.ownsRow lo t s (.slice A n c) n cs

section
variable {w w' : World} {lo : Nat} {t : TypeId} {s n c : Nat} {A : Option Addr} {cs : List Value}
theorem Own.len (h : Own w lo t s A n c cs) : cs.length = n * s := h.1
theorem Own.sl (h : Own w lo t s A n c cs) : Sl w.heap.size w A cs := ⟨Nat.le_refl _, fun j v hj => by
  rcases h.2 with ⟨h1, h2⟩ | ⟨g, cap, cur, hv, hlo, hg, _⟩
  · exfalso
    have := h.1
    subst h2
    have : cs = [] := List.eq_nil_of_length_eq_zero (by simpa using this)
    subst this
    simp at hj
  · have hA : A = some ⟨g, 0, none⟩ := by injection hv
    subst hA
    exact ⟨rfl, (Array.getElem?_eq_some_iff.1 hg).1, World.ownsRow.cells h (g := g) rfl j v hj⟩⟩
theorem Own.lt (h : Own w lo t s A n c cs) {g : Nat} (hg : (Value.slice A n c).ownBlock = some g) : lo ≤ g ∧ g < w.heap.size := World.ownsRow.lt h g hg
theorem Own.below {B : Nat} (h : Own w lo t s A n c cs) (hb : Below B w w') (hB : ∀ g, (Value.slice A n c).ownBlock = some g → g < B) : Own w' lo t s A n c cs := by
  refine ⟨h.1, ?_⟩
  rcases h.2 with h2 | ⟨g, cap, cur, hv, hlo, hg, r⟩
  · exact .inl h2
  · exact .inr ⟨g, cap, cur, hv, hlo, (hb.block g (hB g (by rw [hv]; rfl))).trans hg, r⟩
theorem Own.ext (h : Own w lo t s A n c cs) (hb : Ext w w') : Own w' lo t s A n c cs := h.below hb fun g hg => (h.lt hg).2
theorem Own.low {lo' : Nat} (h : Own w lo t s A n c cs) (hl : lo' ≤ lo) : Own w lo' t s A n c cs := by
  refine ⟨h.1, ?_⟩
  rcases h.2 with h2 | ⟨g, cap, cur, hv, hlo, r⟩
  · exact .inl h2
  · exact .inr ⟨g, cap, cur, hv, by omega, r⟩
theorem Own.nil_ (w : World) (lo : Nat) (t : TypeId) (s : Nat) : Own w lo t s none 0 0 [] := World.ownsRow_nil w lo t s
/-- how it lies -/
theorem Own.form (h : Own w lo t s A n c cs) (hn : 0 < n) : ∃ g cur, A = some ⟨g, 0, none⟩ ∧ lo ≤ g ∧ w.heap[g]? = some (.cells cur t (0, 0)) ∧ n ≤ c ∧ cur.size = c * s ∧ cur.toList.take (n * s) = cs := by
  rcases h.2 with ⟨h1, h2⟩ | ⟨g, cap, cur, hv, hlo, hg, h3, _, h4, h5⟩
  · omega
  · simp only [Value.slice.injEq] at hv
    obtain ⟨h6, _, h7⟩ := hv
    subst h7
    exact ⟨g, cur, h6, hlo, hg, h3, h4, h5⟩
end

/-- so many values from place i on, all written out -/
def takeO : List Value → Nat → Option (List Value)
  | _, 0 => some []
  | [], _ + 1 => none
  | x :: l, k + 1 => match takeO l k with
    | some r => some (x :: r)
    | none => none
def subL : List Value → Nat → Nat → Option (List Value)
  | l, 0, k => takeO l k
  | [], _ + 1, _ => none
  | _ :: l, i + 1, k => subL l i k
def spliceO : List Value → Nat → List Value → Option (List Value)
  | l, 0, [] => some l
  | [], _, _ => none
  | _ :: l, 0, v :: vs => match spliceO l 0 vs with
    | some r => some (v :: r)
    | none => none
  | x :: l, i + 1, vs => match spliceO l i vs with
    | some r => some (x :: r)
    | none => none

theorem takeO_spec {l r : List Value} {k : Nat} (h : takeO l k = some r) : r.length = k ∧ ∀ (j : Nat) (v : Value), r[j]? = some v → l[j]? = some v := by
  induction k generalizing l r with
  | zero => cases l <;> simp [takeO] at h <;> subst h <;> simp
  | succ k ih =>
    cases l with
    | nil => simp [takeO] at h
    | cons x l =>
      simp only [takeO] at h
      split at h
      · rename_i r' hr
        simp at h; subst h
        obtain ⟨h1, h2⟩ := ih hr
        refine ⟨by simp [h1], fun j v hj => ?_⟩
        cases j with
        | zero => simpa using hj
        | succ j => simp at hj ⊢; exact h2 j v hj
      · cases h
theorem subL_spec {l r : List Value} {i k : Nat} (h : subL l i k = some r) : r.length = k ∧ ∀ (j : Nat) (v : Value), r[j]? = some v → l[i + j]? = some v := by
  induction i generalizing l with
  | zero =>
    have : subL l 0 k = takeO l k := by cases l <;> rfl
    rw [this] at h
    simpa using takeO_spec h
  | succ i ih =>
    cases l with
    | nil => simp [subL] at h
    | cons x l =>
      simp only [subL] at h
      obtain ⟨h1, h2⟩ := ih h
      refine ⟨h1, fun j v hj => ?_⟩
      have := h2 j v hj
      rw [show i + 1 + j = (i + j) + 1 by omega]
      simpa using this
theorem spliceO_spec {l r vs : List Value} {i : Nat} (h : spliceO l i vs = some r) : i + vs.length ≤ l.length ∧ r = l.take i ++ vs ++ l.drop (i + vs.length) := by
  induction l generalizing i vs r with
  | nil =>
    cases i with
    | zero => cases vs <;> simp_all [spliceO]
    | succ i => simp [spliceO] at h
  | cons x l ih =>
    cases i with
    | zero =>
      cases vs with
      | nil => simp [spliceO] at h; subst h; simp
      | cons v vs =>
        simp only [spliceO] at h
        split at h
        · rename_i r' hr
          simp at h; subst h
          obtain ⟨h1, h2⟩ := ih hr
          refine ⟨by simp at h1 ⊢; omega, ?_⟩
          rw [h2]; simp
        · cases h
    | succ i =>
      simp only [spliceO] at h
      split at h
      · rename_i r' hr
        simp at h; subst h
        obtain ⟨h1, h2⟩ := ih hr
        refine ⟨by simp at h1 ⊢; omega, ?_⟩
        rw [h2, show i + 1 + vs.length = (i + vs.length) + 1 by omega]
        simp
      · cases h

section
variable {P : Program} {e : List (Nat × Value)} {ty : TypeId} {w : World} {K : Value → World → Prop} {x y : Operand} {t : TypeId} {s b : Nat} {z : List Value}

theorem run_loadVar1 {a : Addr} {v : Value} (ht : tiO P t = some (false, s, b, z)) (hc : w.cell? a = some v) : (loadVar t a).run P w = .ok v w := by
  obtain ⟨d, i, zv, hd, hi, hz, ha, hs, hb, hzv⟩ := tiO_spec ht
  simp [loadVar, run_isAgg hd, ha, hc]
theorem run_loadVarA {a : Addr} {cs : List Value} (ht : tiO P t = some (true, s, b, z)) (hl : cs.length = s) (hc : ∀ j v, cs[j]? = some v → w.cell? (a.add j) = some v) : (loadVar t a).run P w = .ok (.agg cs.toArray) w := by
  obtain ⟨d, i, zv, hd, hi, hz, ha, hs, hb, hzv⟩ := tiO_spec ht
  have h1 := run_loadCells_list (P := P) w a cs hc
  rw [hl, ← hs] at h1
  simp [loadVar, run_isAgg hd, ha, run_sizeOf' hi, h1]

/-- a cell is read -/
theorem ow_load {a : Addr} {v : Value} (ht : tiO P t = some (false, s, b, z)) (hx : evO e x = some (.pointer (some a))) (hc : w.cell? a = some v) (h : K v w) : OpWp P e (.load t x) ty w K := fun ρ d p af g hρ => by
  have h1 := hρ _ _ hx
  simp [execOp, h1, Instr.loadAt, Instr.sureAddr, run_loadVar1 ht hc, upto]; exact h
/-- from a block of its own -/
theorem ow_loadB {g i : Nat} {T : TypeId} {cs : List Value} {v : Value} (hb : Blk w g T cs) (ht : tiO P t = some (false, s, b, z)) (hx : evO e x = some (.pointer (some ⟨g, i, none⟩))) (hv : cs[i]? = some v) (h : K v w) : OpWp P e (.load t x) ty w K :=
  ow_load ht hx (by rw [hb.cell]; exact hv) h
theorem add_blk (g i j : Nat) : (⟨g, i, none⟩ : Addr).add j = ⟨g, i + j, none⟩ := by unfold Addr.add; split <;> simp_all
/-- from a row that is read -/
theorem ow_loadS {B m : Nat} {A : Option Addr} {cs : List Value} {v : Value} (hs : Sl B w A cs) (ht : tiO P t = some (false, s, b, z)) (hx : evO e x = some (.pointer (some ((base A).add m)))) (hv : cs[m]? = some v) (h : K v w) : OpWp P e (.load t x) ty w K :=
  ow_load ht hx (hs.at_ hv) h
/-- a new block -/
theorem ow_box {v : Value} {cs : List Value} (hx : evO e x = some v) (hcs : v.cells = cs.toArray) (h : ∀ g w', g = w.heap.size → Blk w' g t cs → Ext w w' → w'.heap.size = g + 1 → K (.pointer (some ⟨g, 0, none⟩)) w') : OpWp P e (.box t x) ty w K := fun ρ d p af g hρ => by
  have h1 := hρ _ _ hx
  simp [execOp, h1, Instr.box, newVar, newRow, upto, hcs]
  exact h _ _ rfl (heap_alloc_new w _) (Ext.alloc w _) (by simp)
theorem ow_alloc {a : Bool} (ht : tiO P t = some (a, s, b, z)) (h : ∀ g w', g = w.heap.size → Blk w' g t z → Ext w w' → w'.heap.size = g + 1 → K (.pointer (some ⟨g, 0, none⟩)) w') : OpWp P e (.alloc t) ty w K := fun ρ d p af g hρ => by
  obtain ⟨d', i, zv, hd, hi, hz, ha, hs, hb, hzv⟩ := tiO_spec ht
  have hc : zv.cells = z.toArray := by rw [← hzv]
  simp [execOp, Instr.alloc, run_zero' hi hz, newVar, newRow, upto, hc]
  exact h _ _ rfl (heap_alloc_new w _) (Ext.alloc w _) (by simp)

/-- a store into a block of its own -/
theorem ow_storeB {g i : Nat} {T : TypeId} {cs vs cs' : List Value} {a : Bool} {v : Value} (hb : Blk w g T cs) (ht : tiO P t = some (a, s, b, z)) (hx : evO e x = some (.pointer (some ⟨g, i, none⟩))) (hv : evO e y = some v) (hc : v.cells = vs.toArray) (hl : vs.length = s)
    (h1 : vs.all (·.oneCell') = true) (hs : spliceO cs i vs = some cs') (h : ∀ w', Blk w' g T cs' → w.grownBy w' (some g) → w'.heap.size = w.heap.size → K undef w') : OpWp P e (.store t x y) ty w K := fun ρ d p af gd hρ => by
  obtain ⟨d', ti, zv, hd, hi, hz, ha, hsz, hby, hzv⟩ := tiO_spec ht
  have hx' := hρ _ _ hx
  have hv' := hρ _ _ hv
  obtain ⟨h2, h3⟩ := spliceO_spec hs
  have hst := run_storeCells_at (P := P) g i T vs 0 cs.toArray w hb (by simpa using h2) (fun u hu => List.all_eq_true.1 h1 u hu)
  simp only [Nat.add_zero] at hst
  have : (storeVar t ⟨g, i, none⟩ v).run P w = .ok () (w.setRow g (cs.take i ++ vs ++ cs.drop (i + vs.length)).toArray) := by
    simp only [storeVar, hc, Sem.run_bind, run_sizeOf' hi, Result.andThen_ok]
    rw [if_neg (by simp [hl, hsz])]
    simpa using hst
  simp only [execOp, hx', hv', Instr.storeAt, Instr.sureAddr]
  simp only [Sem.run_bind, Sem.run_pure, Result.andThen_ok, this, upto]
  rw [← h3]
  refine h _ ?_ ⟨rfl, rfl, rfl, by simp, fun k _ hk => setRow_other w g k _ (fun e => hk (by rw [e]))⟩ (by simp)
  exact setRow_heap w g cs.toArray _ T _ hb

/-- a field's address -/
def offO (P : Program) (t : TypeId) (f : Nat) : Option Nat :=
  match P.underlying t with
  | some (.struct fields) => match fields[f]? with
    | some fd => match P.info? fd.type with
      | some i => if i.size = 0 then none else some fd.offset
      | none => none
    | none => none
  | _ => none
theorem ow_fieldAddr {f off : Nat} {a : Addr} (ho : offO P t f = some off) (hx : evO e x = some (.pointer (some a))) (h : K (.pointer (some (a.add off))) w) : OpWp P e (.fieldAddr t x f) ty w K := fun ρ d p af g hρ => by
  have h1 := hρ _ _ hx
  unfold offO at ho
  split at ho
  · rename_i fields hu
    split at ho
    · rename_i fd hf
      split at ho
      · rename_i i hi
        split at ho
        · cases ho
        · rename_i hs
          simp only [Option.some.injEq] at ho
          subst ho
          simp [execOp, h1, Instr.fieldAt, run_underlying hu, hf, Instr.sureAddr, fieldPlace, run_sizeOf' hi, hs, upto]
          exact h
      · cases ho
    · cases ho
  · cases ho
/-- in a block of its own -/
theorem ow_fieldAddrB {f off g i j : Nat} (ho : offO P t f = some off) (hx : evO e x = some (.pointer (some ⟨g, i, none⟩))) (hj : (some (i + off) : Option Nat) = some j) (h : K (.pointer (some ⟨g, j, none⟩)) w) : OpWp P e (.fieldAddr t x f) ty w K :=
  ow_fieldAddr ho hx (by rw [add_blk]; simp only [Option.some.injEq] at hj; rw [hj]; exact h)

/-- an element's address -/
def elO (P : Program) (t : TypeId) : Option (TypeId × Nat) :=
  match P.underlying t with
  | some (.slice el) => match P.info? el with
    | some i => some (el, i.size)
    | none => none
  | _ => none
theorem elO_spec {el : TypeId} (h : elO P t = some (el, s)) : ∃ i, P.underlying t = some (.slice el) ∧ P.info? el = some i ∧ i.size = s := by
  unfold elO at h
  split at h
  · rename_i el' hu
    split at h
    · rename_i i hi
      simp only [Option.some.injEq, Prod.mk.injEq] at h
      obtain ⟨rfl, h2⟩ := h
      exact ⟨i, hu, hi, h2⟩
    · cases h
  · cases h
theorem ow_index {el : TypeId} {A : Option Addr} {n c : Nat} {k : IntKind} {m : Int} (ht : elO P t = some (el, s)) (hx : evO e x = some (.slice A n c)) (hy : evO e y = some (.int k m)) (hA : A.isSome = true) (h0 : 0 ≤ m) (h1 : m < n) (h : K (.pointer (some ((base A).add (m.toNat * s)))) w) : OpWp P e (.indexAddr t x y) ty w K := fun ρ d p af g hρ => by
  have g1 := hρ _ _ hx; have g2 := hρ _ _ hy
  obtain ⟨i, hu, hi, hs⟩ := elO_spec ht
  obtain ⟨a, rfl⟩ := Option.isSome_iff_exists.1 hA
  simp [execOp, g1, g2, Instr.indexAt, asIntOf, run_underlying hu, h0, h1, run_sizeOf' hi, hs, upto]
  exact h
/-- in a row that is read: element number k -/
theorem ow_indexR {el : TypeId} {B : Nat} {A : Option Addr} {cs : List Value} {n c : Nat} {k : IntKind} {m : Int} {j : Nat} (hs : Sl B w A cs) (ht : elO P t = some (el, s)) (hx : evO e x = some (.slice A n c)) (hy : evO e y = some (.int k m)) (hm : m = (j : Int)) (h1 : j < n) (hl : j * s < cs.length) (h : K (.pointer (some ((base A).add (j * s)))) w) : OpWp P e (.indexAddr t x y) ty w K := by
  subst hm
  exact ow_index ht hx hy (hs.2 _ _ (List.getElem?_eq_getElem hl)).1 (by omega) (by omega) (by simpa using h)

/-- a struct that is built -/
theorem ow_build {parts : Array (Nat × Operand)} {vs : List (Nat × Value)} {cs : List Value} (hp : partsO e parts.toList = some vs) (hb : (P.built t vs).map (·.toList) = some cs) (h : K (.agg cs.toArray) w) : OpWp P e (.build t parts) ty w K := fun ρ d p af g hρ => by
  have h1 : parts.map (fun (i, x) => (i, ρ x)) = vs.toArray := by
    apply Array.ext'
    simp only [Array.toList_map]
    exact partsO_spec hρ _ _ hp
  cases hq : P.built t vs with
  | none => simp [hq] at hb
  | some cells =>
    simp only [hq, Option.map_some, Option.some.injEq] at hb
    have hr := run_build (P := P) w t vs.toArray cells (by simpa using hq)
    simp only [execOp, h1, Sem.run_bind, hr, Result.andThen_ok, Sem.run_pure, upto]
    rw [show cells = cs.toArray by rw [← hb]]
    exact h
end

end Go.Proofs.Ytdoibplhbdkapaa
namespace Go.Proofs.Ytdoibplhbdkapaa
open Go.RowKit
set_option linter.unusedVariables false
set_option linter.unusedSimpArgs false

theorem flat_len {α : Type} {enc : α → List Value} {s : Nat} (he : ∀ x, (enc x).length = s) : ∀ (xs : List α), (xs.flatMap enc).length = xs.length * s
  | [] => by simp
  | x :: xs => by simp [flat_len he xs, he x, Nat.add_mul, Nat.add_comm]
theorem flat_get {α : Type} {enc : α → List Value} {s : Nat} (he : ∀ x, (enc x).length = s) : ∀ (xs : List α) (j : Nat) (x : α) (i : Nat), xs[j]? = some x → i < s → (xs.flatMap enc)[j * s + i]? = (enc x)[i]?
  | [], j, x, i, h, _ => by simp at h
  | y :: xs, 0, x, i, h, hi => by
    simp at h; subst h
    simp only [List.flatMap_cons, Nat.zero_mul, Nat.zero_add]
    rw [List.getElem?_append_left (by rw [he]; exact hi)]
  | y :: xs, j + 1, x, i, h, hi => by
    simp only [List.getElem?_cons_succ] at h
    simp only [List.flatMap_cons]
    rw [List.getElem?_append_right (by rw [he, Nat.add_mul]; omega), he, show (j + 1) * s + i - s = j * s + i by rw [Nat.add_mul]; omega]
    exact flat_get he xs j x i h hi
theorem flat_none {α : Type} {enc : α → List Value} {s : Nat} (he : ∀ x, (enc x).length = s) (xs : List α) (m : Nat) (v : Value) (h : (xs.flatMap enc)[m]? = some v) (hs : 0 < s) : ∃ j x i, m = j * s + i ∧ i < s ∧ xs[j]? = some x ∧ (enc x)[i]? = some v := by
  have hm : m < xs.length * s := by rw [← flat_len he xs]; exact (List.getElem?_eq_some_iff.1 h).1
  have hj : m / s < xs.length := by rw [Nat.div_lt_iff_lt_mul hs]; exact hm
  refine ⟨m / s, xs[m / s], m % s, by rw [Nat.mul_comm]; exact (Nat.div_add_mod m s).symm, Nat.mod_lt _ hs, List.getElem?_eq_getElem hj, ?_⟩
  rw [← flat_get he xs (m / s) _ (m % s) (List.getElem?_eq_getElem hj) (Nat.mod_lt _ hs), Nat.mul_comm, Nat.div_add_mod]
  exact h

def eI (z : Int) : List Value := [.int .i64 z]
theorem eI_len (z : Int) : (eI z).length = 1 := rfl
section
variable {P : Program} {e : List (Nat × Value)} {ty : TypeId} {w : World} {K : Value → World → Prop} {x y : Operand} {t el : TypeId} {s b : Nat} {z : List Value}
variable {α : Type} {enc : α → List Value} {xs : List α} {B : Nat} {A : Option Addr} {j : Nat} {el' : α}

/-- the address of element j of a row that is read -/
theorem ow_indexT {n c : Nat} {k : IntKind} {m : Int} (hs : Sl B w A (xs.flatMap enc)) (he : ∀ x, (enc x).length = s) (h0 : (Nat.blt 0 s) = true) (ht : elO P t = some (el, s)) (hx : evO e x = some (.slice A n c)) (hn : n = xs.length) (hy : evO e y = some (.int k m)) (hz : xs[j]? = some el') (hm : m = (j : Int))
    (h : K (.pointer (some ((base A).add (j * s)))) w) : OpWp P e (.indexAddr t x y) ty w K := by
  have hj : j < xs.length := (List.getElem?_eq_some_iff.1 hz).1
  have h0' : 0 < s := by simpa using h0
  refine ow_indexR hs ht hx hy hm (by omega) ?_ h
  rw [flat_len he]
  exact (Nat.mul_lt_mul_right h0').2 hj
theorem ow_loadT {v : Value} (hs : Sl B w A (xs.flatMap enc)) (he : ∀ x, (enc x).length = s) (hz : xs[j]? = some el') (ht : tiO P t = some (false, s, b, z)) (hx : evO e x = some (.pointer (some ((base A).add (j * s))))) (h0 : (Nat.blt 0 s) = true) (hv : (enc el')[0]? = some v) (h : K v w) : OpWp P e (.load t x) ty w K :=
  ow_loadS hs ht hx (by have := flat_get he xs j el' 0 hz (by simpa using h0); rw [Nat.add_zero] at this; rw [this]; exact hv) h
end

def repL : Nat → List Value → List Value
  | 0, _ => []
  | n + 1, z => z ++ repL n z
def fillO (s : Nat) : List Value → List (Nat × Value) → Option (List Value)
  | cs, [] => some cs
  | cs, (i, v) :: r => bif Nat.beq v.cells.size s then (match spliceO cs (i * s) v.cells.toList with
    | some cs' => fillO s cs' r
    | none => none) else none

theorem foldl_set (off : Nat) : ∀ (vs : List Value) (k : Nat) (cells : Array Value), off + k + vs.length ≤ cells.size →
    ((vs.zipIdx k).foldl (fun cs (p : Value × Nat) => cs.setIfInBounds (off + p.2) p.1) cells).toList = cells.toList.take (off + k) ++ vs ++ cells.toList.drop (off + k + vs.length)
  | [], k, cells, h => by simp
  | v :: vs, k, cells, h => by
    simp only [List.zipIdx_cons, List.foldl_cons]
    have hlt : off + k < cells.size := by simp at h; omega
    rw [foldl_set off vs (k + 1) _ (by simp at h ⊢; omega)]
    simp only [Array.toList_setIfInBounds]
    have := list_seg_step cells.toList (off + k) v vs (by simp at h ⊢; omega)
    simpa [Nat.add_assoc] using this

theorem fill_of {s : Nat} : ∀ (vs : List (Nat × Value)) (cells : Array Value) (cs : List Value), fillO s cells.toList vs = some cs → Instr.fill (fun i => some (i * s, s)) cells vs = some cs.toArray
  | [], cells, cs, h => by simp [fillO] at h; simp [Instr.fill, ← h]
  | (i, v) :: r, cells, cs, h => by
    simp only [fillO] at h
    cases hb : Nat.beq v.cells.size s with
    | false => simp [hb] at h
    | true =>
      simp only [hb, cond_true] at h
      have hs : v.cells.size = s := Nat.eq_of_beq_eq_true hb
      split at h
      · rename_i cs' hcs
        obtain ⟨h1, h2⟩ := spliceO_spec hcs
        simp only [Array.length_toList] at h1 h2
        have h3 : ¬ (v.cells.size ≠ s ∨ i * s + v.cells.size > cells.size) := by omega
        simp only [Instr.fill]
        rw [if_neg (by simpa using h3)]
        have h4 : (v.cells.zipIdx.foldl (fun cs (p : Value × Nat) => cs.setIfInBounds (i * s + p.2) p.1) cells) = cs'.toArray := by
          apply Array.ext'
          have := foldl_set (i * s) v.cells.toList 0 cells (by simpa using h1)
          rw [← Array.foldl_toList, Array.toList_zipIdx]
          rw [this, h2]
          simp
        have h5 := fill_of r cs'.toArray cs (by simpa using h)
        rw [← h4] at h5
        exact h5
      · cases h

theorem repL_len (z : List Value) : ∀ n, (repL n z).length = n * z.length
  | 0 => by simp [repL]
  | n + 1 => by simp [repL, repL_len z n, Nat.add_mul, Nat.add_comm]
theorem repL_get (z : List Value) (hz : 0 < z.length) : ∀ n i, i < n * z.length → (repL n z)[i]? = z[i % z.length]?
  | 0, i, h => by simp at h
  | n + 1, i, h => by
    simp only [repL]
    by_cases hi : i < z.length
    · rw [List.getElem?_append_left hi, Nat.mod_eq_of_lt hi]
    · rw [List.getElem?_append_right (by omega), repL_get z hz n (i - z.length) (by rw [Nat.add_mul] at h; omega)]
      congr 1
      exact (Nat.mod_eq_sub_mod (by omega)).symm
theorem range_zero (z : List Value) (n : Nat) (hz : 0 < z.length) : ((Array.range (n * z.length)).map (z.toArray[· % z.toArray.size]!)).toList = repL n z := by
  apply List.ext_getElem?
  intro i
  by_cases hi : i < n * z.length
  · rw [repL_get z hz n i hi]
    have hm : i % z.length < z.length := Nat.mod_lt _ hz
    simp [hi, hm, List.getElem?_eq_getElem hm]
  · rw [List.getElem?_eq_none (by simpa using hi), List.getElem?_eq_none (by rw [repL_len]; omega)]

section
variable {P : Program} {e : List (Nat × Value)} {ty : TypeId} {w : World} {K : Value → World → Prop} {x y : Operand} {t el : TypeId} {s b : Nat} {z : List Value} {a : Bool}

theorem Own.of_blk {w : World} {lo g : Nat} {t : TypeId} {s n : Nat} {cs : List Value} (h : Blk w g t cs) (hlo : lo ≤ g) (hl : cs.length = n * s) (hn : n ≤ maxLen) : Own w lo t s (some ⟨g, 0, none⟩) n n cs :=
  ⟨hl, .inr ⟨g, n, cs.toArray, rfl, hlo, h, Nat.le_refl _, hn, by simpa using hl, by simp [← hl]⟩⟩

theorem ow_buildSlice {parts : Array (Nat × Operand)} {vs : List (Nat × Value)} {len : Nat} {cs : List Value} (ht : elO P t = some (el, s)) (hi : tiO P el = some (a, s, b, z)) (hzl : Nat.beq z.length s = true) (h0 : Nat.blt 0 s = true) (hlen : Nat.ble (len * s) 16777216 = true)
    (hp : partsO e parts.toList = some vs) (hf : fillO s (repL len z) vs = some cs)
    (h : ∀ g w', g = w.heap.size → Own w' w.heap.size el s (some ⟨g, 0, none⟩) len len cs → Blk w' g el cs → Ext w w' → w'.heap.size = g + 1 → K (.slice (some ⟨g, 0, none⟩) len len) w') : OpWp P e (.buildSlice t len parts) ty w K := fun ρ d p af g hρ => by
  have h1 : parts.map (fun (i, x) => (i, ρ x)) = vs.toArray := by
    apply Array.ext'
    simp only [Array.toList_map]
    exact partsO_spec hρ _ _ hp
  obtain ⟨ti, hu, hti, hts⟩ := elO_spec ht
  obtain ⟨d', i', zv, hd, hi', hz, ha, hs, hb, hzv⟩ := tiO_spec hi
  obtain rfl : ti = i' := by rw [hti] at hi'; injection hi'
  have hzl' : z.length = s := Nat.eq_of_beq_eq_true hzl
  have h0' : 0 < s := by simpa using h0
  have hle : len * s ≤ 16777216 := Nat.le_of_ble_eq_true hlen
  have hzc : zv.cells = z.toArray := by rw [← hzv]
  have hlen' : cs.length = len * s := by
    have : ∀ (vs : List (Nat × Value)) (c0 : List Value), fillO s c0 vs = some cs → cs.length = c0.length := by
      intro vs
      induction vs with
      | nil => intro c0 h; simp [fillO] at h; rw [h]
      | cons q r ih =>
        intro c0 h
        obtain ⟨i, v⟩ := q
        simp only [fillO] at h
        cases hb : Nat.beq v.cells.size s with
        | false => simp [hb] at h
        | true =>
          simp only [hb, cond_true] at h
          split at h
          · rename_i cs' hcs
            obtain ⟨h1, h2⟩ := spliceO_spec hcs
            rw [ih _ h, h2]
            simp at h1 ⊢; omega
          · cases h
    rw [this vs _ hf, repL_len, hzl']
  have hfill : Instr.fill (fun i => some (i * s, s)) ((Array.range (len * s)).map (z.toArray[· % z.toArray.size]!)) vs = some cs.toArray := by
    refine fill_of vs _ cs ?_
    have := range_zero z len (by omega)
    rw [hzl'] at this
    rw [this]; exact hf
  have hrun : (Instr.buildSlice t len vs.toArray).run P w = .ok (.slice (some ⟨w.heap.size, 0, none⟩) len len) (w.alloc (.cells cs.toArray el)) := by
    simp only [Instr.buildSlice, Sem.run_bind, run_underlying hu, Result.andThen_ok, run_sizeOf' hti, hts]
    rw [if_neg (by omega)]
    by_cases hl0 : len * s = 0
    · have e0 : ∀ f : Nat → Value, Array.map f (Array.range 0) = #[] := fun f => by simp
      rw [hl0, e0] at hfill
      rw [if_pos hl0]
      simp only [Sem.run_pure, Result.andThen_ok, hl0, e0, hfill]
      simp [newRow]
    · simp only [hl0, if_false, Sem.run_bind, run_zero' hti hz, Result.andThen_ok, Sem.run_pure, hzc, hfill]
      simp [newRow]
  simp only [execOp, h1, Sem.run_bind, hrun, Result.andThen_ok, Sem.run_pure, upto]
  have hB : Blk (w.alloc (.cells cs.toArray el)) w.heap.size el cs := heap_alloc_new w _
  exact h _ _ rfl (Own.of_blk hB (Nat.le_refl _) hlen' (by unfold maxLen; have : len * 1 ≤ len * s := Nat.mul_le_mul_left _ h0'; omega)) hB (Ext.alloc w _) (by simp)

/-- an append to a row of the call's own -/
theorem ow_append {ts : Array TypeId} {lo B n c n' c' : Nat} {A A' : Option Addr} {cs ds : List Value} (hown : Own w lo el s A n c cs) (hlo : lo ≤ w.heap.size) (hsrc : Sl B w A' ds) (hdl : ds.length = n' * s) (hd1 : ∀ u ∈ ds, u.oneCell' = true)
    (ht : elO P t = some (el, s)) (hi : tiO P el = some (a, s, b, z)) (hzl : Nat.beq z.length s = true) (h0 : Nat.blt 0 s = true) (hx : evO e x = some (.slice A n c)) (hy : evO e y = some (.slice A' n' c'))
    (hb : (n + n') * b ≤ 140737488355328) (hm : n + n' ≤ 9223372036854775807)
    (h : ∀ A1 c1 w', Own w' lo el s A1 (n + n') c1 (cs ++ ds) → w.grownBy w' ((Value.slice A n c).ownBlock) → K (.slice A1 (n + n') c1) w') : OpWp P e (.call ⟨.builtin .append, #[x, y], #[t, t]⟩) ty w K := fun ρ d p af g hρ => by
  have g1 := hρ _ _ hx; have g2 := hρ _ _ hy
  obtain ⟨ti, hu, hti, hts⟩ := elO_spec ht
  obtain ⟨d', i', zv, hd, hi', hz, ha, hs, hb', hzv⟩ := tiO_spec hi
  obtain rfl : ti = i' := by rw [hti] at hi'; injection hi'
  have hzl' : z.length = s := Nat.eq_of_beq_eq_true hzl
  have h0' : 0 < s := by simpa using h0
  have hzc : zv.cells.size = s := by rw [← hzl', ← hzv]; simp
  have hfin : ∃ v' w', (Builtin.append_ #[t, t] ty #[.slice A n c, .slice A' n' c']).run P w = .ok v' w' ∧ w'.ownsRow lo el s v' (n + n') (cs ++ ds) ∧ w.grownBy w' ((Value.slice A n c).ownBlock) := by
    cases A' with
    | none =>
      have hds : ds = [] := by
        cases ds with
        | nil => rfl
        | cons u r => have := (hsrc.2 0 u rfl).1; simp at this
      subst hds
      have hn' : n' = 0 := by
        simp only [List.length_nil] at hdl
        rcases Nat.eq_zero_or_pos n' with h | h
        · exact h
        · have := Nat.mul_pos h h0'; omega
      subst hn'
      refine ⟨.slice A n c, w, ?_, by simpa using hown, ⟨rfl, rfl, rfl, Nat.le_refl _, fun _ _ _ => rfl⟩⟩
      rcases hown.2 with ⟨h1, h2⟩ | ⟨g, cap, cur, h1, _, hg, hnc, _⟩
      · simp only [Value.slice.injEq] at h1
        obtain ⟨rfl, rfl, rfl⟩ := h1
        simp [Builtin.append_, run_underlying hu, sizeOf, typeInfo, hti, Builtin.lenOf, Builtin.firstCells]
      · simp only [Value.slice.injEq] at h1
        obtain ⟨rfl, _, rfl⟩ := h1
        simp [Builtin.append_, run_underlying hu, sizeOf, typeInfo, hti, Builtin.lenOf, Builtin.firstCells, hnc, storeCells]
    | some ad =>
      obtain ⟨v', w', hr, h2, h3, _⟩ := run_append_own_at (P := P) w lo t ty el ti zv s b hu hti hz hts hb' hzc h0' (.slice A n c) n cs hown ad n' c' ds hdl (fun j u hj => (hsrc.2 j u hj).2.2) hd1 (by unfold maxLen; omega) hb hlo
      exact ⟨v', w', hr, h2, h3⟩
  obtain ⟨v', w', hr, h2, h3⟩ := hfin
  simp only [execOp, resolve, invoke, builtin, Sem.run_bind, Sem.run_pure, Result.andThen_ok, List.map_toArray, List.map_cons, List.map_nil, g1, g2, hr, upto]
  have hform : ∃ A1 c1, v' = .slice A1 (n + n') c1 := by
    rcases h2.2 with ⟨h4, h5⟩ | ⟨g, cap, cur, h4, _⟩
    · exact ⟨none, 0, by rw [h4, h5]⟩
    · exact ⟨_, _, h4⟩
  obtain ⟨A1, c1, rfl⟩ := hform
  exact h A1 c1 w' h2 h3

/-- make([]T, n) -/
theorem ow_make {n : Nat} {k1 k2 : IntKind} {m1 m2 : Int} (ht : elO P t = some (el, s)) (hi : tiO P el = some (a, s, b, z)) (hzl : Nat.beq z.length s = true) (h0 : Nat.blt 0 s = true) (hx : evO e x = some (.int k1 m1)) (hy : evO e y = some (.int k2 m2)) (h1 : m1 = (n : Int)) (h2 : m2 = (n : Int))
    (hb : b * n ≤ 281474976710656) (hm : n ≤ 9223372036854775807)
    (h : ∀ g w', g = w.heap.size → Own w' w.heap.size el s (some ⟨g, 0, none⟩) n n (repL n z) → Ext w w' → K (.slice (some ⟨g, 0, none⟩) n n) w') : OpWp P e (.makeSlice t x y) ty w K := fun ρ d p af g hρ => by
  have g1 := hρ _ _ hx; have g2 := hρ _ _ hy
  subst h1; subst h2
  obtain ⟨ti, hu, hti, hts⟩ := elO_spec ht
  obtain ⟨d', i', zv, hd, hi', hz, ha, hs, hb', hzv⟩ := tiO_spec hi
  obtain rfl : ti = i' := by rw [hti] at hi'; injection hi'
  have hzl' : z.length = s := Nat.eq_of_beq_eq_true hzl
  have h0' : 0 < s := by simpa using h0
  obtain ⟨w', hr, h2, h3⟩ := run_make_full (P := P) w w.heap.size t el ti zv s hu hti hz hts k1 k2 n (by rw [hb']; exact hb) (by unfold maxLen; omega) (Nat.le_refl _)
  have hmc : (madeCells zv.cells (n * s)).toList = repL n z := by
    have := range_zero z n (by omega)
    rw [hzl'] at this
    rw [show zv.cells = z.toArray by rw [← hzv]]
    exact this
  rw [hmc] at h2
  simp only [execOp, g1, g2, Sem.run_bind, hr, Result.andThen_ok, Sem.run_pure, upto]
  exact h _ _ rfl h2 (by
    have := (Below.refl w.heap.size w).grown h3 (Nat.le_refl _) (by simp)
    exact this)

/-- a store into element j of a row of the call's own -/
theorem ow_storeR {lo n c j s' : Nat} {A : Option Addr} {cs vs : List Value} {v : Value} (hown : Own w lo el s A n c cs) (ht : tiO P t = some (a, s', b, z)) (hx : evO e x = some (.pointer (some ((base A).add j)))) (hv : evO e y = some v) (hc : v.cells = vs.toArray) (hl : vs.length = s') (hj : j + s' ≤ n * s) (h0 : 0 < n * s)
    (h1 : vs.all (·.oneCell') = true) (h : ∀ w', Own w' lo el s A n c (cs.take j ++ vs ++ cs.drop (j + s')) → w.grownBy w' ((Value.slice A n c).ownBlock) → w'.heap.size = w.heap.size → K undef w') : OpWp P e (.store t x y) ty w K := fun ρ d p af gd hρ => by
  have hn : 0 < n := by
    rcases Nat.eq_zero_or_pos n with h | h
    · subst h; simp at h0
    · exact h
  obtain ⟨g, cur, rfl, hlo, hg, hnc, hsz, htk⟩ := hown.form hn
  obtain ⟨d', ti, zv, hd, hi, hz, ha, hts, hby, hzv⟩ := tiO_spec ht
  have hx' := hρ _ _ hx
  have hv' := hρ _ _ hv
  have hbase : (base (some ⟨g, 0, none⟩)).add j = ⟨g, j, none⟩ := by
    show (⟨g, 0, none⟩ : Addr).add j = _
    rw [add_blk, Nat.zero_add]
  rw [hbase] at hx'
  have hns : n * s ≤ cur.size := by rw [hsz]; exact Nat.mul_le_mul_right _ hnc
  have hst := run_storeCells_at (P := P) g j el vs 0 cur w hg (by omega) (fun u hu => List.all_eq_true.1 h1 u hu)
  simp only [Nat.add_zero] at hst
  have hrun : (storeVar t ⟨g, j, none⟩ v).run P w = .ok () (w.setRow g (cur.toList.take j ++ vs ++ cur.toList.drop (j + vs.length)).toArray) := by
    simp only [storeVar, hc, Sem.run_bind, run_sizeOf' hi, Result.andThen_ok]
    rw [if_neg (by simp [hl, hts])]
    simpa using hst
  simp only [execOp, hx', hv', Instr.storeAt, Instr.sureAddr]
  simp only [Sem.run_bind, Sem.run_pure, Result.andThen_ok, hrun, upto]
  refine h _ ?_ ⟨rfl, rfl, rfl, by simp, fun k _ hk => setRow_other w g k _ (fun e => hk (by rw [e]; rfl))⟩ (by simp)
  have hlen := hown.len
  refine ⟨by simp [hl, hlen]; omega, .inr ⟨g, c, _, rfl, hlo, setRow_heap w g cur _ el _ hg, hnc, ?_, ?_, ?_⟩⟩
  · rcases hown.2 with ⟨h5, _⟩ | ⟨g', cap', cur', h5, _, _, _, h6, _⟩
    · simp at h5
    · simp only [Value.slice.injEq] at h5
      obtain ⟨_, _, rfl⟩ := h5
      exact h6
  · simp [hl]; omega
  · rw [← htk, hl]
    simp only []
    apply List.ext_getElem?
    intro i
    simp only [List.getElem?_take, List.getElem?_append, List.length_append, List.length_take, List.getElem?_drop, Array.length_toList, hl]
    repeat' split
    all_goals (try omega)
    all_goals (try rfl)
    all_goals (try (congr 1; omega))
    all_goals (symm; first | (apply List.getElem?_eq_none; omega) | skip)
end

def plO (P : Program) (t : TypeId) : Option (List (Nat × Nat)) :=
  match P.underlying t with
  | some (.struct fields) => fields.toList.mapM (fun f => (P.info? f.type).map fun i => (f.offset, i.size))
  | _ => none
def atL : List (Nat × Nat) → Nat → Option (Nat × Nat)
  | [], _ => none
  | x :: _, 0 => some x
  | _ :: l, i + 1 => atL l i
theorem atL_get : ∀ (l : List (Nat × Nat)) (i : Nat), atL l i = l[i]?
  | [], i => by simp [atL]
  | x :: l, 0 => by simp [atL]
  | x :: l, i + 1 => by simp [atL, atL_get l i]
def fillP (pl : List (Nat × Nat)) : List Value → List (Nat × Value) → Option (List Value)
  | cs, [] => some cs
  | cs, (i, v) :: r => match atL pl i with
    | some (off, s) => bif Nat.beq v.cells.size s then (match spliceO cs off v.cells.toList with
      | some cs' => fillP pl cs' r
      | none => none) else none
    | none => none
theorem fillP_of {pl : List (Nat × Nat)} : ∀ (vs : List (Nat × Value)) (cells : Array Value) (cs : List Value), fillP pl cells.toList vs = some cs → Instr.fill (pl.toArray[·]?) cells vs = some cs.toArray
  | [], cells, cs, h => by simp [fillP] at h; simp [Instr.fill, ← h]
  | (i, v) :: r, cells, cs, h => by
    simp only [fillP] at h
    split at h
    · rename_i off s ha
      rw [atL_get] at ha
      cases hb : Nat.beq v.cells.size s with
      | false => simp [hb] at h
      | true =>
        simp only [hb, cond_true] at h
        have hs : v.cells.size = s := Nat.eq_of_beq_eq_true hb
        split at h
        · rename_i cs' hcs
          obtain ⟨h1, h2⟩ := spliceO_spec hcs
          simp only [Array.length_toList] at h1 h2
          have h3 : ¬ (v.cells.size ≠ s ∨ off + v.cells.size > cells.size) := by omega
          have ha2 : pl.toArray[i]? = some (off, s) := by simpa using ha
          simp only [Instr.fill, ha2]
          rw [if_neg (by simpa using h3)]
          have h4 : (v.cells.zipIdx.foldl (fun cs (p : Value × Nat) => cs.setIfInBounds (off + p.2) p.1) cells) = cs'.toArray := by
            apply Array.ext'
            have := foldl_set off v.cells.toList 0 cells (by simpa using h1)
            rw [← Array.foldl_toList, Array.toList_zipIdx]
            rw [this, h2]
            simp
          have h5 := fillP_of r cs'.toArray cs (by simpa using h)
          rw [← h4] at h5
          exact h5
        · cases h
    · cases h
theorem ow_buildP {P : Program} {e : List (Nat × Value)} {ty : TypeId} {w : World} {K : Value → World → Prop} {t : TypeId} {a : Bool} {s b : Nat} {z : List Value} {pl : List (Nat × Nat)} {parts : Array (Nat × Operand)} {vs : List (Nat × Value)} {cs : List Value}
    (hpl : plO P t = some pl) (ht : tiO P t = some (a, s, b, z)) (hp : partsO e parts.toList = some vs) (hf : fillP pl z vs = some cs) (h : K (.agg cs.toArray) w) : OpWp P e (.build t parts) ty w K := by
  refine ow_build (vs := vs) (cs := cs) hp ?_ h
  obtain ⟨d', i, zv, hd, hi, hz, ha, hs, hb, hzv⟩ := tiO_spec ht
  unfold plO at hpl
  split at hpl
  · rename_i fields hu
    have h1 := fillP_of vs zv.cells cs (by rw [hzv]; exact hf)
    simp only [Program.built, hi, hu, hz, hpl, h1, Option.map_some]
  · cases hpl
end Go.Proofs.Ytdoibplhbdkapaa
namespace Go.Proofs.Ytdoibplhbdkapaa
open Go.RowKit
set_option linter.unusedVariables false
set_option linter.unusedSimpArgs false

section
variable {P : Program} {n : Nat} {fn : Func} {e : List (Nat × Value)} {w : World} {R : Value → World → Prop} {s b : Nat} {z cs vs : List Value} {g i : Nat} {T T' : TypeId} {t u : Tmp} {v : Value}
theorem fin_cell1 (hr : fn.results = #[.cell t T]) (hv : lk e t = some (.pointer (some ⟨g, i, none⟩))) (hb : Blk w g T' cs) (ht : tiO P T = some (true, s, b, z)) (hs : subL cs i s = some vs) (h : R (.agg vs.toArray) w) : fin P n fn R .ret e w := fun a ha => by
  have h1 := ha.2.2 t _ hv
  have h2 : (loadVar T ⟨g, i, none⟩).run P w = .ok (.agg vs.toArray) w := run_loadVarA ht (subL_spec hs).1 (fun j v hj => by rw [add_blk, hb.cell]; exact (subL_spec hs).2 j v hj)
  simp only [Array.getD_eq_getD_getElem?] at h1
  refine ⟨_, ?_, h⟩
  simp only [results, hr]
  simp [asAddr, h1, h2]
end

structure Desc where
  node : Int
  kind : Int
  size : Int
  duration : Int
  change : Bool
def Desc.cells (d : Desc) : List Value := [.int .i64 d.node, .int .i64 d.kind, .int .i64 d.size, .int .i64 d.duration, .bool d.change]
theorem Desc.len (d : Desc) : d.cells.length = 5 := rfl
structure SlotI where
  mode : Int
  round : Int
  slot : Int
  desc : Desc
def SlotI.cells (s : SlotI) : List Value := [.int .i64 s.mode, .int .i64 s.round, .int .i64 s.slot, .int .i64 s.desc.node, .int .i64 s.desc.kind, .int .i64 s.desc.size, .int .i64 s.desc.duration, .bool s.desc.change]
theorem SlotI.len (s : SlotI) : s.cells.length = 8 := rfl
structure Dem where
  node : Int
  every : Int
  size : Int
def Dem.cells (d : Dem) : List Value := [.int .i64 d.node, .int .i64 d.every, .int .i64 d.size]
theorem Dem.len (d : Dem) : d.cells.length = 3 := rfl

end Go.Proofs.Ytdoibplhbdkapaa
namespace Go.Proofs.Ytdoibplhbdkapaa
open Go.RowKit
set_option linter.unusedVariables false

section
variable {P : Program} {e : List (Nat × Value)} {w : World} {K : Value → World → Prop} {ty : TypeId} {m : Bool}
theorem ow_callB {f : FuncId} {args : Array Operand} {ts : Array TypeId} {vs : List Value} (hf : Enters P f) (hx : argsO e args.toList = some vs)
    (hc : Calls P f vs.toArray w (Ret fun v w' => v = .bool m ∧ Ext w w')) (h1 : ∀ w', m = true → Ext w w' → K (.bool true) w') (h2 : ∀ w', m = false → Ext w w' → K (.bool false) w') : OpWp P e (.call ⟨.value (.func f), args, ts⟩) ty w K :=
  ow_call hf hx (ret_mono hc fun v w' h => by
    obtain ⟨rfl, hx⟩ := h
    cases hm : m
    · exact h2 w' hm hx
    · exact h1 w' hm hx)
end

section
variable {P : Program} {n : Nat} {ops : Array Oper} {K : List (Nat × Value) → World → Prop} {l : List Oper} {fl : List Bool} {e : List (Nat × Value)} {S : World → Prop} {dst : Option Tmp} {op : Op} {ty : TypeId} {pos : String} {af : Array Edge} {m : Bool}
end

theorem drop_at {α : Type} {xs : List α} {k : Nat} (h : k < xs.length) : ∃ x, xs[k]? = some x ∧ xs.drop k = x :: xs.drop (k + 1) :=
  ⟨xs[k], List.getElem?_eq_getElem h, List.drop_eq_getElem_cons h⟩
theorem drop_end {α : Type} {xs : List α} {k : Nat} (h : ¬ (k : Int) < (xs.length : Int)) : xs.drop k = [] :=
  List.drop_eq_nil_of_le (by omega)
theorem drop_at' {α : Type} {xs : List α} {k : Nat} (h : (k : Int) < (xs.length : Int)) : ∃ x, xs[k]? = some x ∧ xs.drop k = x :: xs.drop (k + 1) := drop_at (by omega)

theorem repL_flat {α : Type} {enc : α → List Value} (y : α) : ∀ n, repL n (enc y) = (List.replicate n y).flatMap enc
  | 0 => rfl
  | n + 1 => by rw [List.replicate_succ, List.flatMap_cons, ← repL_flat y n]; rfl
/-- a store into one place of a row of typed elements -/
theorem set_flat {α : Type} {enc : α → List Value} {s : Nat} (he : ∀ x, (enc x).length = s) (x : α) : ∀ (xs : List α) (k : Nat), k < xs.length →
    (xs.flatMap enc).take (k * s) ++ enc x ++ (xs.flatMap enc).drop (k * s + s) = (xs.set k x).flatMap enc
  | [], k, h => by simp at h
  | y :: ys, 0, h => by
    simp only [Nat.zero_mul, List.take_zero, List.nil_append, Nat.zero_add, List.flatMap_cons, List.set_cons_zero]
    rw [List.drop_append, List.drop_of_length_le (by rw [he]; omega), he]; simp
  | y :: ys, k + 1, h => by
    have ih := set_flat he x ys k (by simp at h; omega)
    have e1 : (k + 1) * s = s + k * s := by rw [Nat.add_mul, Nat.one_mul, Nat.add_comm]
    simp only [List.flatMap_cons, List.set_cons_succ, e1, ← ih]
    rw [List.take_append, List.take_of_length_le (by rw [he]; omega), List.drop_append, List.drop_of_length_le (by rw [he]; omega), he,
      show s + k * s - s = k * s by omega, show s + k * s + s - s = k * s + s by omega]
    simp
theorem set_fill {α : Type} {xs : List α} {k : Nat} {x y : α} (h : xs[k]? = some x) : (xs.take k ++ List.replicate (xs.length - k) y).set k x = xs.take (k + 1) ++ List.replicate (xs.length - (k + 1)) y := by
  obtain ⟨hk, hx⟩ := List.getElem?_eq_some_iff.1 h
  have e1 : (xs.take k).length = k := by simp; omega
  rw [List.set_append, if_neg (by omega), e1, Nat.sub_self, show xs.length - k = (xs.length - (k + 1)) + 1 by omega, List.replicate_succ, List.set_cons_zero, List.take_add_one, h]
  simp
theorem at_fill {α : Type} {xs : List α} {k : Nat} {y : α} (hk : k < xs.length) : (xs.take k ++ List.replicate (xs.length - k) y)[k]? = some y := by
  have e1 : (xs.take k).length = k := by simp; omega
  rw [List.getElem?_append_right (by omega), e1, Nat.sub_self, List.getElem?_replicate, if_pos (by omega)]
theorem end_fill {α : Type} {xs : List α} {k : Nat} {y : α} (hk : ¬ (k : Int) < (xs.length : Int)) : xs.take k ++ List.replicate (xs.length - k) y = xs := by
  rw [List.take_of_length_le (by omega), show xs.length - k = 0 by omega]; simp
theorem Own.to {w : World} {lo : Nat} {t : TypeId} {s n c : Nat} {A : Option Addr} {cs cs' : List Value} (h : Own w lo t s A n c cs) (e : cs = cs') : Own w lo t s A n c cs' := e ▸ h
end Go.Proofs.Ytdoibplhbdkapaa
namespace Go.Proofs.Ytdoibplhbdkapaa
open Go.RowKit
set_option linter.unusedVariables false

section
variable {P : Program} {e : List (Nat × Value)} {w : World} {K : Value → World → Prop} {ty : TypeId} {x : Operand}
end

section
variable {P : Program} {e : List (Nat × Value)} {w : World} {K : Value → World → Prop} {ty t el : TypeId} {x y : Operand} {s b : Nat} {a : Bool} {z : List Value}
end
section
variable {P : Program} {e : List (Nat × Value)} {w : World} {K : Value → World → Prop} {ty t t' : TypeId} {x y : Operand} {b c : Bool}
end
section
variable {P : Program} {e : List (Nat × Value)} {w : World} {K : Value → World → Prop} {ty : TypeId} {m : Bool}
end
section
variable {w w' : World} {lo lo' n c s n' c' s' g : Nat} {t t' : TypeId} {A A' : Option Addr} {cs cs' ds : List Value}
theorem Own.grown {row : Option Nat} (h : Own w lo t s A n c cs) (hg : w.grownBy w' row) (hr : ∀ g, row = some g → (Value.slice A n c).ownBlock ≠ some g) : Own w' lo t s A n c cs := by
  refine ⟨h.1, ?_⟩
  rcases h.2 with h2 | ⟨g, cap, cur, hv, hlo, hh, r⟩
  · exact .inl h2
  · exact .inr ⟨g, cap, cur, hv, hlo, (hg.block g (Array.getElem?_eq_some_iff.1 hh).1 (fun e => hr g e.symm (by rw [hv]; rfl))).trans hh, r⟩
theorem Own.at_ (h : Own w lo t s A n c cs) (hg : (Value.slice A n c).ownBlock = some g) : ∃ cur, w.heap[g]? = some (.cells cur t (0, 0)) := by
  rcases h.2 with ⟨h1, h2⟩ | ⟨g', cap, cur, hv, hlo, hh, r⟩
  · rw [h1] at hg; simp [Value.ownBlock] at hg
  · rw [hv] at hg
    have e : g' = g := by simpa [Value.ownBlock] using hg
    subst e; exact ⟨cur, hh⟩
/-- rows and blocks of different types are different blocks -/
theorem Own.neT (h : Own w lo t s A n c cs) (hb : Blk w g t' ds) (ht : t ≠ t') : (Value.slice A n c).ownBlock ≠ some g := fun e => by
  obtain ⟨cur, h1⟩ := h.at_ e
  unfold Blk at hb
  rw [h1] at hb
  injection hb with hb; injection hb with _ h2; exact ht h2
theorem Own.neO (h : Own w lo t s A n c cs) (k : Own w lo' t' s' A' n' c' ds) (ht : t ≠ t') : ∀ g, (Value.slice A' n' c').ownBlock = some g → (Value.slice A n c).ownBlock ≠ some g := fun g hg e => by
  obtain ⟨cur, h1⟩ := h.at_ e
  obtain ⟨cur', h2⟩ := k.at_ hg
  rw [h1] at h2
  injection h2 with h2; injection h2 with _ h3; exact ht h3
end
end Go.Proofs.Ytdoibplhbdkapaa
namespace Go.Proofs.Ytdoibplhbdkapaa
open Go.RowKit
set_option linter.unusedVariables false
set_option linter.unusedSimpArgs false

def inB (a b c : Int) : Bool := decide (b ≤ a) && decide (a ≤ c)
def isB (xs : List Int) : Bool := decide ((xs.length : Int) ≤ 1024) && xs.all fun x => inB x 0 255
theorem isB_at {xs : List Int} {k : Nat} {x : Int} (h : isB xs = true) (hx : xs[k]? = some x) : 0 ≤ x ∧ x ≤ 255 := by
  have h1 := List.all_eq_true.1 (by simp only [isB, Bool.and_eq_true] at h; exact h.2) x (List.mem_of_getElem? hx)
  simpa [inB] using h1
theorem isB_len {xs : List Int} (h : isB xs = true) : xs.length ≤ 1024 := by
  simp only [isB, Bool.and_eq_true, decide_eq_true_eq] at h; omega

end Go.Proofs.Ytdoibplhbdkapaa
namespace Go.Proofs.Ytdoibplhbdkapaa
open Go.RowKit
set_option linter.unusedVariables false
set_option linter.unusedSimpArgs false

def WI (P : Program) (ops : Array Oper) (I : World → Prop) (K : Act → World → Prop) : Nat → Array Bool → Act → World → Prop
  | 0, listed, a, w => listed = finOf ops ops.size ∧ I w ∧ K a w
  | fuel + 1, listed, a, w => I w ∧ rdy ops ops.size listed ≠ [] ∧ ∀ i ∈ rdy ops ops.size listed, ∀ o, ops[i]? = some o →
      OpX P ops o a w fun u w' => WI P ops I K fuel (listed.setIfInBounds i true) (a.put o.dst u) w'

section
variable {P : Program} {ops : Array Oper} {I : World → Prop} {K : Act → World → Prop}
theorem WI.inv : ∀ {fuel : Nat} {listed : Array Bool} {a : Act} {w : World}, WI P ops I K fuel listed a w → I w
  | 0, _, _, _, h => h.2.1
  | _ + 1, _, _, _, h => h.1

theorem WI_first {i : Nat} {oi : Oper} {v : Value} (hi : ops[i]? = some oi) (hsel : ∀ (j : Nat) (o : Oper) cs b, ops[j]? = some o → o.op ≠ .select cs b) :
    ∀ (fuel : Nat) (listed : Array Bool) (a : Act) (w : World),
      (∀ j oj, ops[j]? = some oj → j ≠ i → listed.getD j true = false → (∀ e ∈ oj.after, Region.binds .any e = true → e.on ≠ i) → oi.apart ops oj = true) →
      i ∈ rdy ops ops.size listed → (∀ w, I w → OpX P ops oi a w fun u w' => u = v ∧ w' = w) →
      WI P ops I K fuel (listed.setIfInBounds i true) (a.put oi.dst v) w → WI P ops I K (fuel + 1) listed a w := by
  have here : ∀ (fuel : Nat) (listed : Array Bool) (a : Act) (w : World), (∀ w, I w → OpX P ops oi a w fun u w' => u = v ∧ w' = w) →
      WI P ops I K fuel (listed.setIfInBounds i true) (a.put oi.dst v) w →
      OpX P ops oi a w fun u w' => WI P ops I K fuel (listed.setIfInBounds i true) (a.put oi.dst u) w' := by
    intro fuel listed a w hy H
    refine OpX.mono (hy w H.inv) fun u w' ⟨h1, h2⟩ => ?_
    subst h1; subst h2; exact H
  intro fuel
  induction fuel with
  | zero =>
    intro listed a w _ hr hy H
    refine ⟨H.inv, fun h => (by rw [h] at hr; cases hr), fun j hj o ho => ?_⟩
    by_cases hji : j = i
    · subst hji
      obtain rfl : o = oi := by rw [hi] at ho; injection ho with ho; exact ho.symm
      exact here 0 listed a w hy H
    · exfalso
      obtain ⟨hj1, hj2⟩ := mem_rdy.1 hj
      have h1 := (mem_ready.1 (ready_mono hj1 hji)).1
      rw [H.1, finOf_spec j hj2] at h1
      cases h1
  | succ fuel ih =>
    intro listed a w hfree hr hy H
    refine ⟨H.inv, fun h => (by rw [h] at hr; cases hr), fun j hj oj hoj => ?_⟩
    by_cases hji : j = i
    · subst hji
      obtain rfl : oj = oi := by rw [hi] at hoj; injection hoj with ho; exact ho.symm
      exact here _ listed a w hy H
    · obtain ⟨hj1, hj2⟩ := mem_rdy.1 hj
      obtain ⟨hi1, hi2⟩ := mem_rdy.1 hr
      have hex := H.2.2 j (mem_rdy.2 ⟨ready_mono hj1 hji, hj2⟩) oj hoj
      obtain ⟨hjun, oj', hoj', hall⟩ := mem_ready.1 hj1
      obtain rfl : oj' = oj := by rw [hoj] at hoj'; injection hoj' with ho; exact ho.symm
      have hnot : ∀ e ∈ oj'.after, Region.binds .any e = true → e.on ≠ i := fun e he hb heq => by
        have h1 := hall e he hb
        have h0 := (mem_ready.1 hi1).1
        rw [heq] at h1
        rcases Nat.lt_or_ge i listed.size with h' | h'
        · simp [h'] at h0 h1; rw [h0] at h1; cases h1
        · simp [Array.getElem?_eq_none h'] at h1
      have hap := hfree j oj' hoj hji hjun hnot
      obtain ⟨ha1, ha2, ha3⟩ := Oper.apart_spec hap
      refine OpX.mono ((OpX.put (fun cs b => hsel j oj' cs b hoj) ha1).1 hex) fun u w' hu => ?_
      refine ih _ _ _ ?_ (mem_rdy.2 ⟨ready_mono hi1 (Ne.symm hji), hi2⟩) (fun w hw => (OpX.put (fun cs b => hsel i oi cs b hi) ha3).2 (hy w hw)) ?_
      · intro k ok hk hki hun hno
        refine hfree k ok hk hki ?_ hno
        by_cases hjk : j = k
        · subst hjk; exact hjun
        · rw [getD_set_ne true hjk] at hun; exact hun
      · rw [Array.setIfInBounds_comm _ _ hji, ← Act.put_comm a v u ha2]
        exact hu

theorem WI_any {Q : Exit → Act → World → Prop} (hK : ∀ a w, K a w → wpAny P .any ops Q 0 (finOf ops ops.size) a w) :
    ∀ (fuel : Nat) (listed : Array Bool) (a : Act) (w : World), WI P ops I K fuel listed a w → wpAny P .any ops Q fuel listed a w := by
  intro fuel
  induction fuel with
  | zero => intro listed a w h; obtain ⟨rfl, _, h2⟩ := h; exact hK _ _ h2
  | succ fuel ih =>
    intro listed a w h
    obtain ⟨_, hne, hall⟩ := h
    obtain ⟨k, hk⟩ := List.exists_mem_of_ne_nil _ hne
    refine ⟨fun h0 => (by have := (mem_rdy.1 hk).1; rw [h0] at this; cases this), fun i hi => ?_⟩
    obtain ⟨hiun, oi, hoi, hedge⟩ := mem_ready.1 hi
    have him : i < ops.size := (Array.getElem?_eq_some_iff.1 hoi).1
    exact OpX.wpOp hoi (hall i (mem_rdy.2 ⟨hi, him⟩) oi hoi) fun v w' hv => ih _ _ _ hv
end

theorem ready_fin (ops : Array Oper) : Region.ready .any ops (finOf ops ops.size) = [] := by
  apply List.eq_nil_iff_forall_not_mem.2
  intro i hi
  obtain ⟨h1, o, ho, _⟩ := mem_ready.1 hi
  have hlt : i < ops.size := (Array.getElem?_eq_some_iff.1 ho).1
  rw [finOf_spec i hlt] at h1
  cases h1
def WE (P : Program) (n : Nat) (ops : Array Oper) (I : World → Prop) (K : Act → World → Prop) (fuel : Nat) (listed : Array Bool) (e : List (Nat × Value)) (w : World) : Prop :=
  ∀ a, Fits n e a → WI P ops I K fuel listed a w

section
variable {P : Program} {n : Nat} {ops : Array Oper} {I : World → Prop} {K : Act → World → Prop} {fuel : Nat} {listed listed' : Array Bool} {e : List (Nat × Value)} {w : World}
/-- a quiet one is taken first -/
theorem wi_take (i : Nat) {dst : Option Tmp} {op : Op} {ty : TypeId} {pos : String} {af : Array Edge} {v : Value} (hi : ops[i]? = some ⟨dst, op, ty, pos, af, none⟩) (hs : Region.noSelect ops = true) (hd : dstOk n dst = true)
    (ht : takeB ops ops.size listed i = true) (hl : listed.setIfInBounds i true = listed') (hy : ∀ w, I w → OpWp P e op ty w fun u w' => u = v ∧ w' = w)
    (h : WE P n ops I K fuel listed' (updO e dst v) w) : WE P n ops I K (fuel + 1) listed e w := fun a ha => by
  simp only [takeB, Bool.and_eq_true] at ht
  refine WI_first hi (Region.noSelect_spec hs) fuel listed a w (Region.free_spec hi ht.1) (by simpa using ht.2) (fun w hw => (hy w hw).opX ha) ?_
  rw [hl]
  exact h _ (ha.put dst v hd)
/-- all are done -/
theorem wi_done (hl : listed = finOf ops ops.size) (hI : I w) (h : ∀ a, Fits n e a → K a w) : WE P n ops I K 0 listed e w := fun a ha => ⟨hl, hI, h a ha⟩
end

theorem c_seqI {P : Program} {n : Nat} {id : Nat} {l : List Oper} {e : List (Nat × Value)} {w : World} {Q : Exit → List (Nat × Value) → World → Prop} {y : Code} (I : World → Prop)
    (hx : P.follows .mixedOrders = true)
    (h : WE P n l.toArray I (fun a w => ∃ e', Fits n e' a ∧ CWp P n y e' w Q) l.toArray.size (Array.replicate l.toArray.size false) e w.drew) : CWp P n (.seq (.region id l.toArray true) y) e w Q := c_seq fun a ha => by
  refine wp_region_any hx ?_
  exact WI_any (K := fun a w => ∃ e', Fits n e' a ∧ CWp P n y e' w Q) (Q := fun x a' w' => ∃ e', Fits n e' a' ∧ thenQ (fun e' w' => CWp P n y e' w' Q) Q x e' w') (fun a w ⟨e', hf, hk⟩ => ⟨ready_fin _, e', hf, hk⟩) _ _ _ _ (h a ha)
end Go.Proofs.Ytdoibplhbdkapaa
namespace Go.Proofs.Ytdoibplhbdkapaa
open Go.RowKit
set_option linter.unusedVariables false
set_option linter.unusedSimpArgs false

structure Mode where
  rounds : Int
  slots : Int
  next : List Int
structure ModeI where
  m : Mode
  A : Option Addr
  c : Nat
def ModeI.cells (x : ModeI) : List Value := [.int .i64 x.m.rounds, .int .i64 x.m.slots, .slice x.A x.m.next.length x.c]
theorem ModeI.len (x : ModeI) : x.cells.length = 3 := rfl

/-- the list of each entry can be read -/
def Nexts (B : Nat) (w : World) (xs : List ModeI) : Prop := B ≤ w.heap.size ∧ ∀ x ∈ xs, Sl B w x.A (x.m.next.flatMap eI) ∧ x.m.next.length ≤ 9223372036854775807
section
variable {B B' : Nat} {w w' : World} {xs ys : List ModeI}
theorem Nexts.at_ {k : Nat} {x : ModeI} (h : Nexts B w xs) (hx : xs[k]? = some x) : Sl B w x.A (x.m.next.flatMap eI) := (h.2 x (List.mem_of_getElem? hx)).1
theorem Nexts.len {k : Nat} {x : ModeI} (h : Nexts B w xs) (hx : xs[k]? = some x) : x.m.next.length ≤ 9223372036854775807 := (h.2 x (List.mem_of_getElem? hx)).2
theorem Nexts.below (h : Nexts B w xs) (hb : Below B w w') : Nexts B w' xs := ⟨Nat.le_trans h.1 hb.size, fun x hx => ⟨(h.2 x hx).1.below hb, (h.2 x hx).2⟩⟩
theorem Nexts.ext (h : Nexts B w xs) (hb : Ext w w') : Nexts B w' xs := h.below (Below.mono hb h.1)
theorem Nexts.grown {row : Option Nat} (h : Nexts B w xs) (hg : w.grownBy w' row) (hr : ∀ g, row = some g → B ≤ g) : Nexts B w' xs := ⟨Nat.le_trans h.1 hg.size, fun x hx => ⟨(h.2 x hx).1.grown hg hr, (h.2 x hx).2⟩⟩
theorem Nexts.nil_ (hB : B ≤ w.heap.size) : Nexts B w [] := ⟨hB, fun x hx => by simp at hx⟩
end

/-- the list of each entry is a row of the call's own -/
def NOwn (w : World) (lo : Nat) (t : TypeId) (xs : List ModeI) : Prop := ∀ x ∈ xs, Own w lo t 1 x.A x.m.next.length x.c (x.m.next.flatMap eI) ∧ x.m.next.length ≤ 9223372036854775807
section
variable {w w' : World} {lo lo' n c s g : Nat} {t t' : TypeId} {A : Option Addr} {cs : List Value} {xs : List ModeI}
theorem NOwn.nil_ : NOwn w lo t [] := fun x hx => by simp at hx
theorem NOwn.ext (h : NOwn w lo t xs) (hb : Ext w w') : NOwn w' lo t xs := fun x hx => ⟨(h x hx).1.ext hb, (h x hx).2⟩
theorem NOwn.low (h : NOwn w lo t xs) (hl : lo' ≤ lo) : NOwn w lo' t xs := fun x hx => ⟨(h x hx).1.low hl, (h x hx).2⟩
theorem NOwn.nexts (h : NOwn w lo t xs) : Nexts w.heap.size w xs := ⟨Nat.le_refl _, fun x hx => ⟨(h x hx).1.sl, (h x hx).2⟩⟩
end

def hasB (xs : List Int) (v : Int) : Bool := xs.any fun x => decide (x = v)
def idxI (v : Int) (k : Int) : List Int → Int
  | [] => -1
  | x :: r => if x = v then k else idxI v (k + 1) r
theorem idxI_has (v : Int) : ∀ (xs : List Int) (k : Int), 0 ≤ k → decide (0 ≤ idxI v k xs) = hasB xs v
  | [], k, h => by simp [idxI, hasB]
  | x :: r, k, h => by
    rw [idxI]
    by_cases e : x = v
    · rw [if_pos e]; simp [hasB, e, h]
    · rw [if_neg e, idxI_has v r (k + 1) (by omega)]; simp [hasB, e]
end Go.Proofs.Ytdoibplhbdkapaa
namespace Go.Proofs.Ytdoibplhbdkapaa
open Go.RowKit
set_option linter.unusedVariables false
set_option linter.unusedSimpArgs false

structure Win (lo hi : Nat) (w w' : World) : Prop where
  os : w'.os = w.os
  tape : w'.tape = w.tape
  output : w'.output = w.output
  size : w.heap.size ≤ w'.heap.size
  block : ∀ k, k < w.heap.size → (k < lo ∨ hi ≤ k) → w'.heap[k]? = w.heap[k]?
section
variable {lo hi lo' n c s : Nat} {w w' w'' : World} {t : TypeId} {A : Option Addr} {cs : List Value} {xs : List ModeI}
theorem Win.refl (lo hi : Nat) (w : World) : Win lo hi w w := ⟨rfl, rfl, rfl, Nat.le_refl _, fun _ _ _ => rfl⟩
theorem Win.grown {row : Option Nat} (h : Win lo hi w w') (hg : w'.grownBy w'' row) (hr : ∀ g, row = some g → lo ≤ g ∧ g < hi) : Win lo hi w w'' :=
  ⟨hg.os.trans h.os, hg.tape.trans h.tape, hg.output.trans h.output, Nat.le_trans h.size hg.size, fun k hk ho => (hg.block k (Nat.lt_of_lt_of_le hk h.size) (fun e => by have := hr k e.symm; omega)).trans (h.block k hk ho)⟩
theorem Win.below (h : Win lo hi w w') (hlo : lo ≤ w.heap.size) : Below lo w w' := ⟨h.os, h.tape, h.output, h.size, fun k hk => h.block k (Nat.lt_of_lt_of_le hk hlo) (.inl hk)⟩
theorem Own.win (h : Own w lo' t s A n c cs) (x : Win lo hi w w') (hl : hi ≤ lo') : Own w' lo' t s A n c cs := by
  refine ⟨h.1, ?_⟩
  rcases h.2 with h2 | ⟨g, cap, cur, hv, hlo, hh, r⟩
  · exact .inl h2
  · exact .inr ⟨g, cap, cur, hv, hlo, (x.block g (Array.getElem?_eq_some_iff.1 hh).1 (.inr (by omega))).trans hh, r⟩

/-- the block of an entry's list -/
def ModeI.blk (x : ModeI) : Option Nat := (Value.slice x.A x.m.next.length x.c).ownBlock
/-- the lists of the entries lie in different blocks -/
def Disj (xs : List ModeI) : Prop := ∀ (i j : Nat) (x y : ModeI), xs[i]? = some x → xs[j]? = some y → i ≠ j → ∀ g, x.blk = some g → y.blk ≠ some g
theorem Disj.nil_ : Disj [] := fun i j x y h => by simp at h
/-- the lists from place k on are rows of the call's own, those before have been given away -/
def NFrom (w : World) (lo : Nat) (t : TypeId) (k : Nat) (xs : List ModeI) : Prop := ∀ i x, k ≤ i → xs[i]? = some x → Own w lo t 1 x.A x.m.next.length x.c (x.m.next.flatMap eI)
theorem NFrom.next {k : Nat} {x : ModeI} (h : NFrom w lo t k xs) (hd : Disj xs) (hx : xs[k]? = some x) (hg : w.grownBy w' x.blk) : NFrom w' lo t (k + 1) xs := fun i y hi hy =>
  (h i y (by omega) hy).grown hg fun g hgx hgy => hd k i x y hx hy (by omega) g hgx hgy
end
end Go.Proofs.Ytdoibplhbdkapaa
namespace Go.Proofs.Ytdoibplhbdkapaa
open Go.RowKit
set_option linter.unusedVariables false
set_option linter.unusedSimpArgs false

structure NodeI where
  id : Int
  name : ByteArray
  drift : Int
  passive : Bool
def NodeI.cells (n : NodeI) : List Value := [.int .i64 n.id, .string n.name, .int .i64 n.drift, .bool n.passive]
theorem NodeI.len (n : NodeI) : n.cells.length = 4 := rfl
structure StateI where
  time : Int
  mode : Int
  round : Int
  slot : Int
  members : Int
def StateI.cells (s : StateI) : List Value := [.int .i64 s.time, .int .i64 s.mode, .int .i64 s.round, .int .i64 s.slot, .int .i64 s.members]
theorem StateI.len (s : StateI) : s.cells.length = 5 := rfl
structure MedlD where
  id : Int
  ns : List NodeI
  ms : List Mode
  ss : List SlotI
structure MedlI where
  id : Int
  An : Option Addr
  ns : List NodeI
  cn : Nat
  Am : Option Addr
  ms : List ModeI
  cm : Nat
  As : Option Addr
  ss : List SlotI
  cs : Nat
def MedlI.d (m : MedlI) : MedlD := ⟨m.id, m.ns, m.ms.map (·.m), m.ss⟩
def MedlI.cells (m : MedlI) : List Value := [.int .i64 m.id, .slice m.An m.ns.length m.cn, .slice m.Am m.ms.length m.cm, .slice m.As m.ss.length m.cs]
theorem MedlI.len (m : MedlI) : m.cells.length = 4 := rfl
/-- it can be read -/
structure Med (B : Nat) (w : World) (m : MedlI) : Prop where
  hB : B ≤ w.heap.size
  sn : Sl B w m.An (m.ns.flatMap NodeI.cells)
  sm : Sl B w m.Am (m.ms.flatMap ModeI.cells)
  sx : Nexts B w m.ms
  ss : Sl B w m.As (m.ss.flatMap SlotI.cells)
  kn : m.ns.length ≤ m.cn
section
variable {B B' : Nat} {w w' : World} {m : MedlI}
theorem Med.below (h : Med B w m) (hb : Below B w w') : Med B w' m := ⟨Nat.le_trans h.1 hb.size, h.sn.below hb, h.sm.below hb, h.sx.below hb, h.ss.below hb, h.kn⟩
theorem Med.ext (h : Med B w m) (hb : Ext w w') : Med B w' m := h.below (Below.mono hb h.1)
theorem Med.grown {row : Option Nat} (h : Med B w m) (hg : w.grownBy w' row) (hr : ∀ g, row = some g → B ≤ g) : Med B w' m := ⟨Nat.le_trans h.1 hg.size, h.sn.grown hg hr, h.sm.grown hg hr, h.sx.grown hg hr, h.ss.grown hg hr, h.kn⟩
end
theorem ofInt_nat (n : Nat) : BitVec.ofInt 64 (n : Int) = BitVec.ofNat 64 n := by simp
theorem bits_and {a b : Nat} (ha : a < 9223372036854775808) (hb : b < 9223372036854775808) : bitsV .and .i64 (a : Int) (b : Int) = ((a &&& b : Nat) : Int) := by
  have h1 : a &&& b ≤ a := Nat.and_le_left
  show IntKind.i64.wrap ((BitVec.ofInt 64 (a : Int) &&& BitVec.ofInt 64 (b : Int)).toNat : Int) = _
  rw [ofInt_nat, ofInt_nat, BitVec.toNat_and, BitVec.toNat_ofNat, BitVec.toNat_ofNat, Nat.mod_eq_of_lt (by omega), Nat.mod_eq_of_lt (by omega)]
  exact w64 (by omega)
theorem bits_xor {a b : Nat} (ha : a < 9223372036854775808) (hb : b < 9223372036854775808) : bitsV .xor .i64 (a : Int) (b : Int) = ((a ^^^ b : Nat) : Int) := by
  have h1 : a ^^^ b < 2 ^ 63 := Nat.xor_lt_two_pow (by omega) (by omega)
  show IntKind.i64.wrap ((BitVec.ofInt 64 (a : Int) ^^^ BitVec.ofInt 64 (b : Int)).toNat : Int) = _
  rw [ofInt_nat, ofInt_nat, BitVec.toNat_xor, BitVec.toNat_ofNat, BitVec.toNat_ofNat, Nat.mod_eq_of_lt (by omega), Nat.mod_eq_of_lt (by omega)]
  exact w64 (by omega)
end Go.Proofs.Ytdoibplhbdkapaa
