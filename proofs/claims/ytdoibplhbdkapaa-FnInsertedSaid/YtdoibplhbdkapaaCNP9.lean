/- Texts of the seat that a law needs, put together. No condition. -/
import Derived.Test.YtdoibplhbdkapaaCNP7
import Derived.Lib.SlTrimSet
import Derived.Test.YtdoibplhbdkapaaCNP5
import Derived.Test.YtdoibplhbdkapaaCNP8
import Derived.Test.YtdoibplhbdkapaaCNP2
namespace Go.Proofs.Ytdoibplhbdkapaa
open Go.RowKit
set_option linter.unusedVariables false
set_option linter.unusedSimpArgs false

structure Win (lo hi : Nat) (w w' : World) : Prop where
  os : w'.os = w.os
  tape : w'.tape = w.tape
  output : w'.output = w.output
  size : w.heap.size ≤ w'.heap.size
  block : ∀ k, k < w.heap.size → (k < lo ∨ hi ≤ k) → w'.heap[k]? = w.heap[k]?
section
variable {lo hi lo' n c s : Nat} {w w' w'' : World} {t : TypeId} {A : Option Addr} {cs : List Value} {xs : List ModeI}
theorem Win.refl (lo hi : Nat) (w : World) : Win lo hi w w := ⟨rfl, rfl, rfl, Nat.le_refl _, fun _ _ _ => rfl⟩
theorem Win.grown {row : Option Nat} (h : Win lo hi w w') (hg : w'.grownBy w'' row) (hr : ∀ g, row = some g → lo ≤ g ∧ g < hi) : Win lo hi w w'' :=
  ⟨hg.os.trans h.os, hg.tape.trans h.tape, hg.output.trans h.output, Nat.le_trans h.size hg.size, fun k hk ho => (hg.block k (Nat.lt_of_lt_of_le hk h.size) (fun e => by have := hr k e.symm; omega)).trans (h.block k hk ho)⟩
theorem Win.below (h : Win lo hi w w') (hlo : lo ≤ w.heap.size) : Below lo w w' := ⟨h.os, h.tape, h.output, h.size, fun k hk => h.block k (Nat.lt_of_lt_of_le hk hlo) (.inl hk)⟩
/-- the block of an entry's list -/
def ModeI.blk (x : ModeI) : Option Nat := (Value.slice x.A x.m.next.length x.c).ownBlock
/-- the lists of the entries lie in different blocks -/
def Disj (xs : List ModeI) : Prop := ∀ (i j : Nat) (x y : ModeI), xs[i]? = some x → xs[j]? = some y → i ≠ j → ∀ g, x.blk = some g → y.blk ≠ some g
theorem Disj.nil_ : Disj [] := fun i j x y h => by simp at h
theorem Disj.snoc {x : ModeI} (h : Disj xs) (hb : ∀ y ∈ xs, ∀ g, y.blk = some g → x.blk ≠ some g) : Disj (xs ++ [x]) := fun i j a b hi hj hij g ha hb' => by
  rw [List.getElem?_append] at hi hj
  split at hi <;> split at hj
  · exact h i j a b hi hj hij g ha hb'
  · rename_i h1 h2
    have h3 : j - xs.length = 0 := by
      rcases Nat.eq_zero_or_pos (j - xs.length) with h | h
      · exact h
      · rw [List.getElem?_eq_none (by simp only [List.length_cons, List.length_nil]; omega)] at hj; cases hj
    rw [h3] at hj; simp at hj; subst hj
    exact hb a (List.mem_of_getElem? hi) g ha hb'
  · rename_i h1 h2
    have h3 : i - xs.length = 0 := by
      rcases Nat.eq_zero_or_pos (i - xs.length) with h | h
      · exact h
      · rw [List.getElem?_eq_none (by simp only [List.length_cons, List.length_nil]; omega)] at hi; cases hi
    rw [h3] at hi; simp at hi; subst hi
    exact hb b (List.mem_of_getElem? hj) g hb' ha
  · rename_i h1 h2
    have h3 : i - xs.length = 0 := by
      rcases Nat.eq_zero_or_pos (i - xs.length) with h | h
      · exact h
      · rw [List.getElem?_eq_none (by simp only [List.length_cons, List.length_nil]; omega)] at hi; cases hi
    have h4 : j - xs.length = 0 := by
      rcases Nat.eq_zero_or_pos (j - xs.length) with h | h
      · exact h
      · rw [List.getElem?_eq_none (by simp only [List.length_cons, List.length_nil]; omega)] at hj; cases hj
    omega

/-- the lists from place k on are rows of the call's own, those before have been given away -/
def NFrom (w : World) (lo : Nat) (t : TypeId) (k : Nat) (xs : List ModeI) : Prop := ∀ i x, k ≤ i → xs[i]? = some x → Own w lo t 1 x.A x.m.next.length x.c (x.m.next.flatMap eI)
theorem NFrom.next {k : Nat} {x : ModeI} (h : NFrom w lo t k xs) (hd : Disj xs) (hx : xs[k]? = some x) (hg : w.grownBy w' x.blk) : NFrom w' lo t (k + 1) xs := fun i y hi hy =>
  (h i y (by omega) hy).grown hg fun g hgx hgy => hd k i x y hx hy (by omega) g hgx hgy
end
end Go.Proofs.Ytdoibplhbdkapaa
namespace Go.Proofs.Ytdoibplhbdkapaa
open Go.RowKit
set_option linter.unusedVariables false
set_option linter.unusedSimpArgs false

structure NodeI where
  id : Int
  name : ByteArray
  drift : Int
  passive : Bool
def NodeI.cells (n : NodeI) : List Value := [.int .i64 n.id, .string n.name, .int .i64 n.drift, .bool n.passive]
theorem NodeI.len (n : NodeI) : n.cells.length = 4 := rfl
structure StateI where
  time : Int
  mode : Int
  round : Int
  slot : Int
  members : Int
def StateI.cells (s : StateI) : List Value := [.int .i64 s.time, .int .i64 s.mode, .int .i64 s.round, .int .i64 s.slot, .int .i64 s.members]
theorem StateI.len (s : StateI) : s.cells.length = 5 := rfl
structure MedlD where
  id : Int
  ns : List NodeI
  ms : List Mode
  ss : List SlotI
structure MedlI where
  id : Int
  An : Option Addr
  ns : List NodeI
  cn : Nat
  Am : Option Addr
  ms : List ModeI
  cm : Nat
  As : Option Addr
  ss : List SlotI
  cs : Nat
def MedlI.d (m : MedlI) : MedlD := ⟨m.id, m.ns, m.ms.map (·.m), m.ss⟩
def MedlI.cells (m : MedlI) : List Value := [.int .i64 m.id, .slice m.An m.ns.length m.cn, .slice m.Am m.ms.length m.cm, .slice m.As m.ss.length m.cs]
theorem MedlI.len (m : MedlI) : m.cells.length = 4 := rfl
/-- it can be read -/
structure Med (B : Nat) (w : World) (m : MedlI) : Prop where
  hB : B ≤ w.heap.size
  sn : Sl B w m.An (m.ns.flatMap NodeI.cells)
  sm : Sl B w m.Am (m.ms.flatMap ModeI.cells)
  sx : Nexts B w m.ms
  ss : Sl B w m.As (m.ss.flatMap SlotI.cells)
  kn : m.ns.length ≤ m.cn
section
variable {B B' : Nat} {w w' : World} {m : MedlI}
theorem Med.below (h : Med B w m) (hb : Below B w w') : Med B w' m := ⟨Nat.le_trans h.1 hb.size, h.sn.below hb, h.sm.below hb, h.sx.below hb, h.ss.below hb, h.kn⟩
theorem Med.ext (h : Med B w m) (hb : Ext w w') : Med B w' m := h.below (Below.mono hb h.1)
theorem Med.grown {row : Option Nat} (h : Med B w m) (hg : w.grownBy w' row) (hr : ∀ g, row = some g → B ≤ g) : Med B w' m := ⟨Nat.le_trans h.1 hg.size, h.sn.grown hg hr, h.sm.grown hg hr, h.sx.grown hg hr, h.ss.grown hg hr, h.kn⟩
end
end Go.Proofs.Ytdoibplhbdkapaa
namespace Go.Proofs.Ytdoibplhbdkapaa
open Go.RowKit
set_option linter.unusedVariables false
set_option linter.unusedSimpArgs false

/-- the lists of a schedule are rows of the call's own -/
structure MOwn (w : World) (lo : Nat) (tN tM tI tS : TypeId) (m : MedlI) : Prop where
  on : Own w lo tN 4 m.An m.ns.length m.cn (m.ns.flatMap NodeI.cells)
  om : Own w lo tM 3 m.Am m.ms.length m.cm (m.ms.flatMap ModeI.cells)
  ox : NOwn w lo tI m.ms
  od : Disj m.ms
  os : Own w lo tS 8 m.As m.ss.length m.cs (m.ss.flatMap SlotI.cells)
section
variable {w w' : World} {lo lo' n c s g : Nat} {tN tM tI tS t' : TypeId} {m : MedlI} {A : Option Addr} {cs : List Value}
theorem MOwn.ext (h : MOwn w lo tN tM tI tS m) (hb : Ext w w') : MOwn w' lo tN tM tI tS m := ⟨h.on.ext hb, h.om.ext hb, h.ox.ext hb, h.od, h.os.ext hb⟩
theorem MOwn.low (h : MOwn w lo tN tM tI tS m) (hl : lo' ≤ lo) : MOwn w lo' tN tM tI tS m := ⟨h.on.low hl, h.om.low hl, h.ox.low hl, h.od, h.os.low hl⟩
theorem MOwn.sn (h : MOwn w lo tN tM tI tS m) : Sl w.heap.size w m.An (m.ns.flatMap NodeI.cells) := h.on.sl
theorem MOwn.sm (h : MOwn w lo tN tM tI tS m) : Sl w.heap.size w m.Am (m.ms.flatMap ModeI.cells) := h.om.sl
theorem MOwn.sx (h : MOwn w lo tN tM tI tS m) : Nexts w.heap.size w m.ms := h.ox.nexts
theorem MOwn.ss (h : MOwn w lo tN tM tI tS m) : Sl w.heap.size w m.As (m.ss.flatMap SlotI.cells) := h.os.sl
end
end Go.Proofs.Ytdoibplhbdkapaa
namespace Go.Proofs.Ytdoibplhbdkapaa
open Go.ChangeShapes Go.WideShapes Go.ChangeAt Go.RowKit
set_option linter.unusedVariables false
set_option linter.unusedSimpArgs false
set_option maxRecDepth 100000
def Desc.ok (d : Desc) : Prop := In64 d.node ∧ In64 d.kind ∧ In64 d.size ∧ In64 d.duration
def SlotI.ok (d : SlotI) : Prop := In64 d.mode ∧ In64 d.round ∧ In64 d.slot ∧ Desc.ok d.desc
theorem law_own : ownKnob Try.prog.godebug = none := by kernel_rfl
theorem law_laid : laidOutB Try.prog = true := by kernel_rfl
end Go.Proofs.Ytdoibplhbdkapaa
