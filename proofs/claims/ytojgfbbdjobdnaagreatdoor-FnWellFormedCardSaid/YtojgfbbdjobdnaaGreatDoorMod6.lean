/- Whole schedules: sizes, and schedules whose lists the call made itself. No condition. -/
import Derived.Test.YtojgfbbdjobdnaaGreatDoorMod4
import Derived.Test.YtojgfbbdjobdnaaGreatDoorFlowJ
namespace Go.Proofs.YtojgfbbdjobdnaaGreatDoor
open Go.RowKit
set_option linter.unusedVariables false
set_option linter.unusedSimpArgs false

theorem szInt_le {n : Nat} {left : Int} (h : ¬ szInt n left < 0) : szInt n left = left - n ∧ (n : Int) ≤ left := by
  unfold szInt at *
  split
  · rename_i h1; rw [if_pos h1] at h; omega
  · exact ⟨rfl, by omega⟩
def szNs : List NodeI → Int → Int
  | [], left => left
  | x :: r, left => if szInt x.name.size left < 0 then -1 else szNs r (szInt x.name.size left)
def szN (xs : List NodeI) (left : Int) : Int := if left - xs.length < 0 then -1 else szNs xs (left - xs.length)
theorem szNs_le : ∀ (xs : List NodeI) (left : Int), ¬ szNs xs left < 0 → szNs xs left ≤ left
  | [], left, h => by rw [szNs]; omega
  | y :: r, left, h => by
    rw [szNs] at h ⊢
    split at h
    · omega
    · rename_i h1
      rw [if_neg h1]
      have h2 := szInt_le h1
      have h3 := szNs_le r _ h
      omega
theorem szNs_each : ∀ (xs : List NodeI) (left : Int), ¬ szNs xs left < 0 → ∀ x ∈ xs, (x.name.size : Int) ≤ left
  | [], left, h, x, hx => by simp at hx
  | y :: r, left, h, x, hx => by
    rw [szNs] at h
    split at h
    · omega
    · rename_i h1
      have h2 := szInt_le h1
      rcases List.mem_cons.1 hx with rfl | hx
      · omega
      · have := szNs_each r _ h x hx; omega
theorem szN_le {xs : List NodeI} {left : Int} (h : ¬ szN xs left < 0) : szN xs left ≤ left ∧ (xs.length : Int) ≤ left ∧ ∀ x ∈ xs, (x.name.size : Int) ≤ left := by
  unfold szN at *
  split at h
  · omega
  · rename_i h1
    rw [if_neg h1]
    have := szNs_le xs _ h
    refine ⟨by omega, by omega, fun x hx => ?_⟩
    have := szNs_each xs _ h x hx
    omega
theorem szMs_le2 : ∀ (xs : List ModeI) (left : Int), ¬ szMs xs left < 0 → szMs xs left ≤ left
  | [], left, h => by rw [szMs]; omega
  | y :: r, left, h => by
    rw [szMs] at h ⊢
    split at h
    · omega
    · rename_i h1
      rw [if_neg h1]
      have h2 := szInt_le h1
      have h3 := szMs_le2 r _ h
      omega
theorem szM_le2 {xs : List ModeI} {left : Int} (h : ¬ szM xs left < 0) : szM xs left ≤ left ∧ (xs.length : Int) ≤ left ∧ ∀ x ∈ xs, (x.m.next.length : Int) ≤ left := by
  unfold szM at *
  split at h
  · omega
  · rename_i h1
    rw [if_neg h1]
    have h2 := szMs_le2 xs _ h
    refine ⟨by omega, by omega, fun x hx => ?_⟩
    have := szMs_le xs _ h x hx
    omega
def szMedlF (m : MedlI) (left : Int) : Int :=
  if szN m.ns left < 0 then -1 else if szM m.ms (szN m.ns left) < 0 then -1 else if szInt m.ss.length (szM m.ms (szN m.ns left)) < 0 then -1 else szInt m.ss.length (szM m.ms (szN m.ns left))
theorem szMedl_small {m : MedlI} {left : Int} (hl : left ≤ 1048576) (h : ¬ szMedlF m left < 0) : m.small := by
  unfold szMedlF at h
  split at h
  · omega
  · rename_i h1
    split at h
    · omega
    · rename_i h2
      split at h
      · omega
      · rename_i h3
        have h4 := szN_le h1
        have h5 := szM_le2 h2
        have h6 := szInt_le h3
        exact ⟨by omega, by omega, fun x hx => by have := h5.2.2 x hx; omega, by omega, fun x hx => by have := h4.2.2 x hx; omega⟩

/-- the lists of a schedule are rows of the call's own -/
structure MOwn (w : World) (lo : Nat) (tN tM tI tS : TypeId) (m : MedlI) : Prop where
  on : Own w lo tN 4 m.An m.ns.length m.cn (m.ns.flatMap NodeI.cells)
  om : Own w lo tM 3 m.Am m.ms.length m.cm (m.ms.flatMap ModeI.cells)
  ox : NOwn w lo tI m.ms
  od : Disj m.ms
  os : Own w lo tS 8 m.As m.ss.length m.cs (m.ss.flatMap SlotI.cells)
section
variable {w w' : World} {lo lo' n c s g : Nat} {tN tM tI tS t' : TypeId} {m : MedlI} {A : Option Addr} {cs : List Value}
theorem MOwn.ext (h : MOwn w lo tN tM tI tS m) (hb : Ext w w') : MOwn w' lo tN tM tI tS m := ⟨h.on.ext hb, h.om.ext hb, h.ox.ext hb, h.od, h.os.ext hb⟩
theorem MOwn.low (h : MOwn w lo tN tM tI tS m) (hl : lo' ≤ lo) : MOwn w lo' tN tM tI tS m := ⟨h.on.low hl, h.om.low hl, h.ox.low hl, h.od, h.os.low hl⟩
theorem MOwn.med (h : MOwn w lo tN tM tI tS m) : Med w.heap.size w m := ⟨Nat.le_refl _, h.on.sl, h.om.sl, h.ox.nexts, h.os.sl, h.on.cap⟩
theorem MOwn.sn (h : MOwn w lo tN tM tI tS m) : Sl w.heap.size w m.An (m.ns.flatMap NodeI.cells) := h.on.sl
theorem MOwn.sm (h : MOwn w lo tN tM tI tS m) : Sl w.heap.size w m.Am (m.ms.flatMap ModeI.cells) := h.om.sl
theorem MOwn.sx (h : MOwn w lo tN tM tI tS m) : Nexts w.heap.size w m.ms := h.ox.nexts
theorem MOwn.ss (h : MOwn w lo tN tM tI tS m) : Sl w.heap.size w m.As (m.ss.flatMap SlotI.cells) := h.os.sl
theorem MOwn.grownB {t' : TypeId} {ds : List Value} (h : MOwn w lo tN tM tI tS m) (k : Blk w g t' ds) (hg : w.grownBy w' (some g)) (ht : tN ≠ t' ∧ tM ≠ t' ∧ tI ≠ t' ∧ tS ≠ t') : MOwn w' lo tN tM tI tS m :=
  ⟨h.on.grownBlk hg (Own.neT h.on k ht.1), h.om.grownBlk hg (Own.neT h.om k ht.2.1), h.ox.grownB k hg ht.2.2.1, h.od, h.os.grownBlk hg (Own.neT h.os k ht.2.2.2)⟩
end
/-- what holds of every schedule that a call is given -/
def MedlI.fit (m : MedlI) : Prop := m.ns.length ≤ 9223372036854775807 ∧ m.ms.length ≤ 9223372036854775807 ∧ m.ss.length ≤ 9223372036854775807 ∧ ∀ x ∈ m.ns, x.name.size ≤ 9223372036854775807
end Go.Proofs.YtojgfbbdjobdnaaGreatDoor
