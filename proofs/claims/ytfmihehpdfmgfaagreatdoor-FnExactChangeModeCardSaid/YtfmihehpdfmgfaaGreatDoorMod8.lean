/- Changes of the mode: plain lemmas. No condition. -/
import Derived.Test.YtfmihehpdfmgfaaGreatDoorMod7
namespace Go.Proofs.YtfmihehpdfmgfaaGreatDoor
open Go.RowKit
set_option linter.unusedVariables false
set_option linter.unusedSimpArgs false
theorem change_c {m : MedlI} {s : StateI} {to : Int} (h : ¬ lookC m.d s = 0) : changeF m.d s to = (zeroS, lookC m.d s) := by rw [changeF, if_neg h]
theorem change_2 {m : MedlI} {s : StateI} {to : Int} (h : lookC m.d s = 0) (hM : inB to 0 ((m.ms.length : Int) - 1) = false) : changeF m.d s to = (zeroS, 2) := by
  rw [changeF, if_pos h, show m.d.ms.length = m.ms.length from List.length_map .., if_neg (by rw [hM]; simp)]
theorem change_5 {m : MedlI} {s : StateI} {to : Int} {next : List Int} (h : lookC m.d s = 0) (hM : inB to 0 ((m.ms.length : Int) - 1) = true) (hn : nextOf m.d s.mode = next) (hN : hasB next to = false) : changeF m.d s to = (zeroS, 5) := by
  rw [changeF, if_pos h, show m.d.ms.length = m.ms.length from List.length_map .., if_pos hM, hn, if_neg (by rw [hN]; simp)]
theorem change_0 {m : MedlI} {s : StateI} {to : Int} {next : List Int} (h : lookC m.d s = 0) (hM : inB to 0 ((m.ms.length : Int) - 1) = true) (hn : nextOf m.d s.mode = next) (hN : hasB next to = true) :
    changeF m.d s to = (⟨(s.time + (cyc m.ss s.mode - startD m.ss s.mode s.round s.slot)) % 65536, to, 0, 0, s.members⟩, 0) := by
  rw [changeF, if_pos h, show m.d.ms.length = m.ms.length from List.length_map .., if_pos hM, hn, if_pos hN]; rfl
end Go.Proofs.YtfmihehpdfmgfaaGreatDoor
