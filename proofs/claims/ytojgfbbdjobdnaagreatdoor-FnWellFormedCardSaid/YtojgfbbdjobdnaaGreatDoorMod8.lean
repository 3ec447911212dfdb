/- Changes of the mode: plain lemmas. No condition. -/
import Derived.Test.YtojgfbbdjobdnaaGreatDoorMod7
namespace Go.Proofs.YtojgfbbdjobdnaaGreatDoor
open Go.RowKit
set_option linter.unusedVariables false
set_option linter.unusedSimpArgs false
theorem change_c {m : MedlI} {s : StateI} {to : Int} (h : ¬ lookC m.d s = 0) : changeF m.d s to = (zeroS, lookC m.d s) := by rw [changeF, if_neg h]
theorem change_2 {m : MedlI} {s : StateI} {to : Int} (h : lookC m.d s = 0) (hM : inB to 0 ((m.ms.length : Int) - 1) = false) : changeF m.d s to = (zeroS, 2) := by
  rw [changeF, if_pos h, show m.d.ms.length = m.ms.length from List.length_map .., if_neg (by rw [hM]; simp)]
theorem change_5 {m : MedlI} {s : StateI} {to : Int} {next : List Int} (h : lookC m.d s = 0) (hM : inB to 0 ((m.ms.length : Int) - 1) = true) (hn : nextOf m.d s.mode = next) (hN : hasB next to = false) : changeF m.d s to = (zeroS, 5) := by
  rw [changeF, if_pos h, show m.d.ms.length = m.ms.length from List.length_map .., if_pos hM, hn, if_neg (by rw [hN]; simp)]
theorem change_0 {m : MedlI} {s : StateI} {to : Int} {next : List Int} (h : lookC m.d s = 0) (hM : inB to 0 ((m.ms.length : Int) - 1) = true) (hn : nextOf m.d s.mode = next) (hN : hasB next to = true) :
    changeF m.d s to = (⟨(s.time + (cyc m.ss s.mode - startD m.ss s.mode s.round s.slot)) % 65536, to, 0, 0, s.members⟩, 0) := by
  rw [changeF, if_pos h, show m.d.ms.length = m.ms.length from List.length_map .., if_pos hM, hn, if_pos hN]; rfl
/-! ### the states of a cycle -/
theorem bel_next {m : MedlI} {s : StateI} (hW : WellF m.d) (hB : belongsB m.d s = true) : belongsB m.d (nextS m.d s) = true := by
  obtain ⟨k, x, j, y, bl, hx, hxi, hj, hy, hda, hso, hro, hno, hyd⟩ := bel_get hW hB
  have hst := stateOk_in bl.ok
  have h1 := bl.rd
  have h2 := bl.sl
  refine belongs_iff.2 ⟨k, x.m, ?_⟩
  unfold nextS
  rw [hso, hro]
  show Bel m.d (advS s (descAt m.ss s.mode s.round s.slot).duration x.m.slots x.m.rounds) k x.m
  rw [hda]
  have h3 : 0 ≤ (s.round + 1) % x.m.rounds ∧ (s.round + 1) % x.m.rounds < x.m.rounds := ⟨Int.emod_nonneg _ (by omega), Int.emod_lt_of_pos _ (by omega)⟩
  unfold advS
  split
  · refine ⟨?_, bl.md, bl.at_, h3, ⟨by simp only; omega, by simp only; omega⟩, bl.mb⟩
    simp only [stateOk, inB_iff.2 (show 0 ≤ (s.time + y.desc.duration) % 65536 ∧ (s.time + y.desc.duration) % 65536 ≤ 65535 by omega), inB_iff.2 hst.2.1, inB_iff.2 (show 0 ≤ (s.round + 1) % x.m.rounds ∧ (s.round + 1) % x.m.rounds ≤ 15 by omega), inB_iff.2 hst.2.2.2.2]
    rfl
  · refine ⟨?_, bl.md, bl.at_, h1, ⟨by simp only; omega, by simp only; omega⟩, bl.mb⟩
    simp only [stateOk, inB_iff.2 (show 0 ≤ (s.time + y.desc.duration) % 65536 ∧ (s.time + y.desc.duration) % 65536 ≤ 65535 by omega), inB_iff.2 hst.2.1, inB_iff.2 hst.2.2.1, inB_iff.2 hst.2.2.2.2, inB_iff.2 (show 0 ≤ s.slot + 1 ∧ s.slot + 1 ≤ 255 by omega)]
    rfl
def iterS (d : MedlD) : Nat → StateI → List StateI
  | 0, _ => []
  | n + 1, s => s :: iterS d n (nextS d s)
theorem iterS_len (d : MedlD) : ∀ (n : Nat) (s : StateI), (iterS d n s).length = n
  | 0, _ => rfl
  | n + 1, s => by rw [iterS, List.length_cons, iterS_len d n]
def statesF (d : MedlD) (s : StateI) : List StateI × Int := if lookC d s = 0 then (iterS d (roundsOf d s.mode * slotsOf d s.mode).toNat s, 0) else ([], lookC d s)
theorem statesF_len (m : MedlI) (s : StateI) : (statesF m.d s).1.length ≤ 1048576 := by
  unfold statesF
  split
  · rename_i h
    have hm := lookC_zero.1 h
    obtain ⟨k, x, j, y, bl, hx, hxi, hj, hy, hda, hso, hro, hno, hyd⟩ := bel_get (isMedl_iff.1 hm.1) hm.2
    have := mulI hxi.1 hxi.2
    simp only [iterS_len, hso, hro]
    omega
  · simp
end Go.Proofs.YtojgfbbdjobdnaaGreatDoor
