/- Marks in schedules: plain functions. No condition. -/
import Derived.Test.YtojgfbbdjobdnaaGreatDoorMod6
import Derived.Test.YtojgfbbdjobdnaaGreatDoorFlowH
namespace Go.Proofs.YtojgfbbdjobdnaaGreatDoor
open Go.RowKit
set_option linter.unusedVariables false
set_option linter.unusedSimpArgs false

/-! ### the text of a mark -/
def digF : Nat → Nat → ByteArray → ByteArray
  | 0, _, out => out
  | f + 1, k, out => if k = 0 then out else digF f (k / 10) (strOf [UInt8.ofNat (48 + k % 10)] ++ out)
def markT (k : Int) : ByteArray := if k ≤ 0 then ⟨#[109, 48]⟩ else ⟨#[109]⟩ ++ digF k.toNat k.toNat ⟨#[]⟩
theorem dig_size (b : UInt8) (out : ByteArray) : (strOf [b] ++ out).size = out.size + 1 := by
  rw [ByteArray.size_append]
  show 1 + out.size = _
  omega
theorem u8dig {k : Nat} : ((UInt8.ofNat (48 + k % 10)).toNat : Int) = 48 + (k : Int) % 10 := by
  have : k % 10 < 10 := Nat.mod_lt _ (by omega)
  rw [UInt8.toNat_ofNat']
  omega
theorem wu8 {n : Int} (h : 0 ≤ n ∧ n ≤ 255) : IntKind.u8.wrap n = n := by
  simp only [IntKind.wrap, IntKind.bits, IntKind.signed]
  simp
  omega

def seqI (m : Int) (n : Nat) : List Int := (List.range n).map fun (i : Nat) => m + i
theorem seqI_len (m : Int) (n : Nat) : (seqI m n).length = n := by simp [seqI]
theorem seqI_set {m : Int} {k : Nat} {xs : List Int} (hk : k < xs.length) : (seqI m k ++ xs.drop k).set k (m + k) = seqI m (k + 1) ++ xs.drop (k + 1) := by
  rw [List.set_append, if_neg (by simp [seqI_len]), seqI_len, Nat.sub_self, List.drop_eq_getElem_cons hk, List.set_cons_zero]
  simp [seqI, List.range_succ]
theorem seqI_at {m : Int} {k n : Nat} (h : k < n) : (seqI m n)[k]? = some (m + k) := by simp [seqI, h]
theorem seqI_at' {m : Int} {k : Nat} {xs : List Int} (hk : k < xs.length) : (seqI m k ++ xs.drop k)[k]? = some (xs[k]) := by
  rw [List.getElem?_append_right (by simp [seqI_len]), seqI_len, Nat.sub_self, List.getElem?_drop, Nat.add_zero, List.getElem?_eq_getElem hk]
theorem seqI_end {m : Int} {k : Nat} {xs : List Int} (h0 : k ≤ xs.length) (hk : ¬ (k : Int) < (xs.length : Int)) : seqI m k ++ xs.drop k = seqI m xs.length := by
  rw [drop_end hk, List.append_nil, show k = xs.length by omega]
/-! ### modes that are marked -/
def mkMode (a : Int) (x : ModeI) : ModeI := ⟨⟨a, a + 1, seqI (a + 1 + 1) x.m.next.length⟩, x.A, x.c⟩
def endMode (a : Int) (x : ModeI) : Int := a + 1 + 1 + x.m.next.length
def mkModes (a : Int) : List ModeI → List ModeI
  | [] => []
  | x :: r => mkMode a x :: mkModes (endMode a x) r
def endModes (a : Int) : List ModeI → Int
  | [] => a
  | x :: r => endModes (endMode a x) r
theorem mkModes_len : ∀ (l : List ModeI) (a : Int), (mkModes a l).length = l.length
  | [], _ => rfl
  | x :: r, a => by rw [mkModes, List.length_cons, mkModes_len r, List.length_cons]
theorem mkModes_snoc : ∀ (l : List ModeI) (a : Int) (x : ModeI), mkModes a (l ++ [x]) = mkModes a l ++ [mkMode (endModes a l) x]
  | [], a, x => rfl
  | y :: r, a, x => by rw [List.cons_append, mkModes, mkModes_snoc r, mkModes, List.cons_append, endModes]
theorem endModes_snoc : ∀ (l : List ModeI) (a : Int) (x : ModeI), endModes a (l ++ [x]) = endMode (endModes a l) x
  | [], a, x => rfl
  | y :: r, a, x => by rw [List.cons_append, endModes, endModes_snoc r, endModes]
theorem mkMode_blk (a : Int) (x : ModeI) : (mkMode a x).blk = x.blk := by
  unfold ModeI.blk mkMode
  simp only [seqI_len]
theorem mkModes_mem : ∀ (l : List ModeI) (a : Int) (y : ModeI), y ∈ mkModes a l → ∃ (i : Nat) (x : ModeI), l[i]? = some x ∧ y.blk = x.blk
  | [], a, y, h => by simp [mkModes] at h
  | x :: r, a, y, h => by
    rw [mkModes] at h
    rcases List.mem_cons.1 h with rfl | h
    · exact ⟨0, x, rfl, mkMode_blk a x⟩
    · obtain ⟨i, z, h1, h2⟩ := mkModes_mem r _ y h
      exact ⟨i + 1, z, by simpa using h1, h2⟩
theorem mkModes_drop : ∀ (l : List ModeI) (a : Int) (k : Nat), (mkModes a l).drop k = mkModes (endModes a (l.take k)) (l.drop k)
  | l, a, 0 => by simp [endModes]
  | [], a, k + 1 => by simp [mkModes]
  | x :: r, a, k + 1 => by simp only [mkModes, List.drop_succ_cons, List.take_succ_cons, endModes]; exact mkModes_drop r _ k
theorem mkMode_cells (a : Int) (x : ModeI) : (mkMode a x).cells = (⟨⟨a, a + 1, x.m.next⟩, x.A, x.c⟩ : ModeI).cells := by
  simp only [mkMode, ModeI.cells, seqI_len]
/-- the marks in all lists of a schedule -/
structure MSeen (w : World) (lo : Nat) (tN tM tI tS : TypeId) (m : MedlI) (a : Int) (ns : List NodeI) (ms : List ModeI) (ss : List SlotI) : Prop where
  on : Own w lo tN 4 m.An m.ns.length m.cn (ns.flatMap NodeI.cells)
  om : Own w lo tM 3 m.Am m.ms.length m.cm (ms.flatMap ModeI.cells)
  ox : NOwn w lo tI ms
  os : Own w lo tS 8 m.As m.ss.length m.cs (ss.flatMap SlotI.cells)
theorem Win.trans {lo hi : Nat} {a b c : World} (h : Win lo hi a b) (k : Win lo hi b c) : Win lo hi a c :=
  ⟨k.os.trans h.os, k.tape.trans h.tape, k.output.trans h.output, Nat.le_trans h.size k.size, fun i hi' ho => (k.block i (Nat.lt_of_lt_of_le hi' h.size) ho).trans (h.block i hi' ho)⟩
theorem Win.ofExt {lo hi : Nat} {a b : World} (h : Ext a b) : Win lo hi a b := ⟨h.os, h.tape, h.output, h.size, fun i hi' _ => h.block i hi'⟩
theorem Win.ofGrown {lo hi : Nat} {a b : World} {row : Option Nat} (h : a.grownBy b row) (hr : ∀ g, row = some g → lo ≤ g ∧ g < hi) : Win lo hi a b :=
  ⟨h.os, h.tape, h.output, h.size, fun k hk ho => h.block k hk (fun e => by have := hr k e.symm; omega)⟩
theorem NOwn.grownX {w w' : World} {lo : Nat} {t : TypeId} {xs : List ModeI} {row : Option Nat} (h : NOwn w lo t xs) (hg : w.grownBy w' row) (hr : ∀ x ∈ xs, ∀ g, row = some g → x.blk ≠ some g) : NOwn w' lo t xs :=
  fun x hx => ⟨(h x hx).1.grown hg (hr x hx), (h x hx).2⟩
theorem Disj.not {xs : List ModeI} (h : Disj xs) {i k : Nat} {x y : ModeI} (hx : xs[i]? = some x) (hy : xs[k]? = some y) (hik : i ≠ k) (g : Nat) (hg : y.blk = some g) : x.blk ≠ some g := fun e => h k i y x hy hx (fun e => hik e.symm) g hg e
theorem take_get {α : Type} {xs : List α} {k i : Nat} {x : α} (h : (xs.take k)[i]? = some x) : i < k ∧ xs[i]? = some x := by
  rw [List.getElem?_take] at h
  split at h
  · rename_i h1; exact ⟨h1, h⟩
  · cases h
/-! ### what is kept by types -/
def Kep (ts : List TypeId) (w w' : World) : Prop := w.heap.size ≤ w'.heap.size ∧ ∀ (k : Nat) (cur : Array Value) (t : TypeId) (e : Nat × Nat), w.heap[k]? = some (Obj.cells cur t e) → t ∉ ts → w'.heap[k]? = some (Obj.cells cur t e)
section
variable {ts : List TypeId} {w w' w'' : World} {lo hi lo' n c s g : Nat} {t : TypeId} {A : Option Addr} {cs : List Value} {xs : List ModeI}
theorem Kep.refl : Kep ts w w := ⟨Nat.le_refl _, fun _ _ _ _ h _ => h⟩
theorem Kep.trans (h : Kep ts w w') (k : Kep ts w' w'') : Kep ts w w'' := ⟨Nat.le_trans h.1 k.1, fun i cur t e hi ht => k.2 i cur t e (h.2 i cur t e hi ht) ht⟩
theorem Kep.ofGrown (hg : w.grownBy w' (Value.slice A n c).ownBlock) (o : Own w lo t s A n c cs) (ht : t ∈ ts) : Kep ts w w' := ⟨hg.size, fun i cur t' e hi ht' => by
  have hlt := (Array.getElem?_eq_some_iff.1 hi).1
  refine (hg.block i hlt (fun e' => ?_)).trans hi
  obtain ⟨cur2, h2⟩ := o.at_ e'.symm
  rw [hi] at h2
  injection h2 with h2
  injection h2 with _ h3
  rw [h3] at ht'; exact ht' ht⟩
theorem Own.kep (h : Own w lo t s A n c cs) (k : Kep ts w w') (ht : t ∉ ts) : Own w' lo t s A n c cs := by
  refine ⟨h.1, ?_⟩
  rcases h.2 with h2 | ⟨g, cap, cur, hv, hlo, hh, r⟩
  · exact .inl h2
  · exact .inr ⟨g, cap, cur, hv, hlo, k.2 _ _ _ _ hh ht, r⟩
theorem Blk.kep (h : Blk w g t cs) (k : Kep ts w w') (ht : t ∉ ts) : Blk w' g t cs := k.2 _ _ _ _ h ht
theorem NOwn.kep (h : NOwn w lo t xs) (k : Kep ts w w') (ht : t ∉ ts) : NOwn w' lo t xs := fun x hx => ⟨(h x hx).1.kep k ht, (h x hx).2⟩
structure WinK (lo hi : Nat) (ts : List TypeId) (w w' : World) : Prop where
  win : Win lo hi w w'
  kep : Kep ts w w'
theorem WinK.refl (lo hi : Nat) (ts : List TypeId) (w : World) : WinK lo hi ts w w := ⟨Win.refl lo hi w, Kep.refl⟩
theorem WinK.grownK (h : WinK lo hi ts w w') (hg : w'.grownBy w'' (Value.slice A n c).ownBlock) (o : Own w' lo' t s A n c cs) (ht : t ∈ ts) (hr : ∀ g, (Value.slice A n c).ownBlock = some g → lo ≤ g ∧ g < hi) : WinK lo hi ts w w'' :=
  ⟨h.win.grown hg hr, h.kep.trans (Kep.ofGrown hg o ht)⟩
end
/-- the lists of a marked schedule -/
def nsM (a : Int) (m : MedlI) (mk : Int → NodeI) : List NodeI := seqG (fun i => mk (a + 4 * (i : Nat))) m.ns.length
def a1M (a : Int) (m : MedlI) : Int := a + 4 * m.ns.length
def a2M (a : Int) (m : MedlI) : Int := endModes (a1M a m) m.ms
def endMedl (a : Int) (m : MedlI) : Int := a2M a m + 8 * m.ss.length
def ssM (a : Int) (m : MedlI) (mk : Int → SlotI) : List SlotI := seqG (fun i => mk (a2M a m + 8 * (i : Nat))) m.ss.length
theorem endModes_in : ∀ (l : List ModeI) (a : Int), (∀ x ∈ l, x.m.next.length ≤ 1048576) → a ≤ endModes a l ∧ endModes a l ≤ a + 1048578 * l.length
  | [], a, _ => by simp [endModes]
  | x :: r, a, h => by
    have h1 := h x (by simp)
    have h2 := endModes_in r (endMode a x) fun y hy => h y (by simp [hy])
    rw [endModes, List.length_cons]
    unfold endMode at *
    omega
theorem endMedl_pos {a : Int} {m : MedlI} (hz : m.small) (ha : 0 ≤ a) : 0 ≤ endMedl a m := by
  have h1 := endModes_in m.ms (a1M a m) hz.lx
  unfold endMedl a2M
  unfold a1M at *
  omega
end Go.Proofs.YtojgfbbdjobdnaaGreatDoor
