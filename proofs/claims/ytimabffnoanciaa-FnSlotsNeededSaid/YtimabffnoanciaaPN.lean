/- The slots that are needed: a plain fact. No condition. -/
import Derived.Test.YtimabffnoanciaaPV
import Derived.Test.YtimabffnoanciaaGD
namespace Go.Proofs.Ytimabffnoanciaa
open Go.RowKit
set_option linter.unusedVariables false
set_option linter.unusedSimpArgs false
set_option maxRecDepth 20000
theorem need_back {xs : List Dem} {rounds : Int} (h : ¬ (needF xs rounds).2 ≠ 0) : (planF xs rounds (needF xs rounds).1).2 = 0 ∧ ((needF xs rounds).1 = 1 ∨ (planF xs rounds ((needF xs rounds).1 - 1)).2 = 4) ∧ 1 ≤ (needF xs rounds).1 ∧ (needF xs rounds).1 ≤ 16 := by
  by_cases hc : codeP xs rounds 1 ≠ 0
  · rw [needF_code hc] at h; exact absurd hc h
  · obtain ⟨hD, hr, _⟩ := codeP_ok hc
    obtain ⟨R, rfl⟩ : ∃ R : Nat, rounds = R := ⟨rounds.toNat, by omega⟩
    have hcs : ∀ s : Nat, 1 ≤ s → s ≤ 16 → ¬ codeP xs R s ≠ 0 := fun s h1 h2 => by
      unfold codeP at hc ⊢
      rw [if_pos hD] at hc ⊢
      have h3 : evB R = true := by
        cases h4 : evB (R : Int) with
        | true => rfl
        | false => rw [h4] at hc; exact absurd (by simp) hc
      have h5 : inB (s : Int) 1 16 = true := inB_iff.2 (by omega)
      rw [h3, h5]; simp
    cases hf : firstF (needP xs R) 16 1 with
    | none => rw [needF_none hc hf] at h; exact absurd (by decide) h
    | some s =>
      obtain ⟨h1, h2, h3, h4⟩ := firstF_spec _ _ _ hf
      rw [needF_some hc hf]
      refine ⟨by rw [planF_some (hcs s (by omega) (by omega)) h3], ?_, by show (1 : Int) ≤ s; omega, by show (s : Int) ≤ 16; omega⟩
      by_cases e : s = 1
      · left; show (s : Int) = 1; omega
      · right
        have h5 := h4 (s - 1) (by omega) (by omega)
        show (planF xs R ((s : Int) - 1)).2 = 4
        rw [show (s : Int) - 1 = ((s - 1 : Nat) : Int) by omega, planF_none (hcs (s - 1) (by omega) (by omega)) h5]
end Go.Proofs.Ytimabffnoanciaa
