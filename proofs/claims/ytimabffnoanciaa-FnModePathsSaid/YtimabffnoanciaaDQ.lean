/- Ways between modes: plain facts. No condition. -/
import Derived.Test.YtimabffnoanciaaDP
namespace Go.Proofs.Ytimabffnoanciaa
open Go.RowKit
set_option linter.unusedVariables false
set_option linter.unusedSimpArgs false
set_option maxRecDepth 20000
def mayF (ms : List Mode) (fr to : Int) : Bool := isMT ms && inB fr 0 ((ms.length : Int) - 1) && hasB (nextAt ms fr.toNat) to
theorem mayF_of {ms : List Mode} {a z : Int} {x : Mode} (hT : isMT ms = true) (ha : 0 ≤ a ∧ a < ms.length) (hx : ms[a.toNat]? = some x) (hz : z ∈ x.next) : mayF ms a z = true := by
  have h1 : inB a 0 ((ms.length : Int) - 1) = true := inB_iff.2 (by omega)
  have h2 : hasB (nextAt ms a.toNat) z = true := by unfold nextAt; rw [hx]; exact hasB_mem.2 hz
  unfold mayF; rw [hT, h1, h2]; rfl
theorem way_chain {ms : List Mode} {to : Nat} {r : Int} {D : List Int} (hT : isMT ms = true) (hD : Dst ms to r D) : ∀ (f : Nat) (a : Int), 0 ≤ a ∧ a < ms.length → D[a.toNat]? = some (f : Int) →
    (wayN ms D f a).length = f ∧ (a :: wayN ms D f a)[f]? = some (to : Int) ∧ ∀ (i : Nat) (x y : Int), (a :: wayN ms D f a)[i]? = some x → (a :: wayN ms D f a)[i + 1]? = some y → mayF ms x y = true
  | 0, a, ha, hf => by
    have h1 : a = to := by
      have := (hD.z a.toNat).1 (by simpa using hf)
      omega
    refine ⟨rfl, by rw [h1]; rfl, fun i x y _ hy => ?_⟩
    simp [wayN] at hy
  | f + 1, a, ha, hf => by
    have hx : ms[a.toNat]? = some (ms[a.toNat]'(by omega)) := List.getElem?_eq_getElem _
    obtain ⟨z, _, hw, hzm, hzf, hz⟩ := way_step hT hD hx hf
    obtain ⟨h1, h2, h3⟩ := way_chain hT hD f z hz hzf
    rw [hw]
    refine ⟨by simp [h1], by simpa using h2, fun i x y hxi hyi => ?_⟩
    cases i with
    | zero =>
      simp at hxi hyi
      subst hxi; subst hyi
      exact mayF_of hT ha hx hzm
    | succ i => exact h3 i x y (by simpa using hxi) (by simpa using hyi)
theorem stp_keep {ms : List Mode} {d : Int} {j i : Nat} {out : List Int} {v : Int} (h : out[i]? = some v) (hv : 0 ≤ v) : (stp ms d j out)[i]? = some v := by
  unfold stp
  split
  · rename_i h1
    rw [List.getElem?_set]
    split
    · rename_i e; subst e
      rw [getD_at h] at h1; omega
    · exact h
  · exact h
theorem swp_keep {ms : List Mode} {d : Int} {i : Nat} {v : Int} (hv : 0 ≤ v) : ∀ (n j : Nat) (out : List Int), out[i]? = some v → (swp ms d n j out)[i]? = some v
  | 0, _, _, h => h
  | n + 1, j, out, h => by rw [swp]; exact swp_keep hv n (j + 1) _ (stp_keep h hv)
theorem itS_keep {ms : List Mode} {i : Nat} {v : Int} (hv : 0 ≤ v) : ∀ (n d : Nat) (out : List Int), out[i]? = some v → (itS ms n d out)[i]? = some v
  | 0, _, _, h => h
  | n + 1, d, out, h => by rw [itS]; exact itS_keep hv n (d + 1) _ (swp_keep hv _ _ _ h)
theorem swp_one {ms : List Mode} {fr to : Nat} (hne : to ≠ fr) (hto : (to : Int) ∈ nextAt ms fr) : ∀ (n j : Nat) (out : List Int), j ≤ fr → fr < j + n → out[to]? = some 0 → out[fr]? = some (-1) → (swp ms 0 n j out)[fr]? = some 1
  | 0, j, out, h1, h2, _, _ => by omega
  | n + 1, j, out, h1, h2, h3, h4 => by
    rw [swp]
    by_cases e : j = fr
    · subst e
      refine swp_keep (by omega) n _ _ ?_
      have ha : anyAt out (nextAt ms j) 0 = true := List.any_eq_true.2 ⟨to, hto, by simp [h3]⟩
      unfold stp
      rw [if_pos ⟨by rw [getD_at h4]; omega, ha⟩, List.getElem?_set_self (List.getElem?_eq_some_iff.1 h4).1]; rfl
    · refine swp_one hne hto n (j + 1) _ (by omega) (by omega) (stp_keep h3 (by omega)) ?_
      unfold stp
      split
      · rw [List.getElem?_set_ne (fun h => e h)]; exact h4
      · exact h4
theorem dst_one {ms : List Mode} {fr to : Nat} (hf : fr < ms.length) (ht : to < ms.length) (hne : to ≠ fr) (hto : (to : Int) ∈ nextAt ms fr) : (dst ms to)[fr]? = some 1 := by
  unfold dst
  obtain ⟨n, hn⟩ : ∃ n, ms.length = n + 1 := ⟨ms.length - 1, by omega⟩
  have h0 : (dst0 ms.length to)[to]? = some 0 := by unfold dst0; rw [List.getElem?_set_self (by simpa using ht)]
  have h1 : (dst0 ms.length to)[fr]? = some (-1) := by unfold dst0; rw [List.getElem?_set_ne hne]; simp [hf]
  have h2 : itS ms ms.length 0 (dst0 ms.length to) = itS ms n 1 (swp ms 0 ms.length 0 (dst0 ms.length to)) := by
    conv => lhs; arg 2; rw [hn]
    rfl
  rw [h2]
  exact itS_keep (by omega) _ _ _ (swp_one hne hto _ 0 _ (Nat.zero_le _) (by omega) h0 h1)
theorem not_self {ms : List Mode} (hT : isMT ms = true) {i : Nat} (h : (i : Int) ∈ nextAt ms i) : False := by
  unfold nextAt at h
  split at h
  · rename_i x hx
    have h1 := isMT_at hT hx
    simp only [modeOk, Bool.and_eq_true] at h1
    have h2 : hasB x.next i = true := hasB_mem.2 h
    rw [h2] at h1; simp at h1
  · simp at h
theorem resR_has {ms : List Mode} {fr to : Int} (hT : isMT ms = true) (hF : inB fr 0 ((ms.length : Int) - 1) = true) (ht : inB to 0 ((ms.length : Int) - 1) = true) : hasB (resR ms fr).1 to = decide (0 ≤ (dst ms to.toNat).getD fr.toNat (-1)) := by
  have h2 := inB_iff.1 ht
  rw [resR, if_pos hT, if_pos hF]
  show hasB (reachG ms fr ms.length) to = _
  have : to ∈ reachG ms fr ms.length ↔ 0 ≤ (dst ms to.toNat).getD fr.toNat (-1) := by
    unfold reachG
    simp only [List.mem_map, List.mem_filter, List.mem_range, decide_eq_true_eq]
    constructor
    · rintro ⟨t, ⟨_, h3⟩, e⟩
      have : to.toNat = t := by rw [← e]; rfl
      rw [this]; exact h3
    · intro h3
      exact ⟨to.toNat, ⟨by omega, h3⟩, by show (to.toNat : Int) = to; omega⟩
  cases hb : hasB (reachG ms fr ms.length) to with
  | true => exact (decide_eq_true (this.1 (hasB_mem.1 hb))).symm
  | false =>
    refine (decide_eq_false fun h => ?_).symm
    rw [hasB_mem.2 (this.2 h)] at hb; cases hb
theorem resP_in {ms : List Mode} {fr to : Int} (h : (resP ms fr to).2 = 0 ∨ (resP ms fr to).2 = 4) : isMT ms = true ∧ inB fr 0 ((ms.length : Int) - 1) = true ∧ inB to 0 ((ms.length : Int) - 1) = true ∧ ∃ v, (dst ms to.toNat)[fr.toNat]? = some v ∧ -1 ≤ v ∧
    resP ms fr to = (if v < 0 then ([], 4) else (fr :: wayN ms (dst ms to.toNat) v.toNat fr, 0)) := by
  unfold resP at h
  split at h
  · rename_i hT
    split at h
    · rename_i hI
      have h1 := inB_iff.1 hI.1
      have h2 := inB_iff.1 hI.2
      have hD := dst_Dst (ms := ms) (to := to.toNat) (by omega)
      obtain ⟨v, hv⟩ : ∃ v, (dst ms to.toNat)[fr.toNat]? = some v := ⟨_, List.getElem?_eq_getElem (by rw [hD.len]; omega)⟩
      refine ⟨hT, hI.1, hI.2, v, hv, hD.lo v (List.mem_of_getElem? hv), ?_⟩
      rw [resP, if_pos hT, if_pos hI]
      split
      · rename_i p hp
        unfold wayF at hp; rw [hv] at hp; simp only at hp
        split at hp
        · cases hp
        · rename_i h3; injection hp with hp; rw [if_neg h3, hp]
      · rename_i hp
        unfold wayF at hp; rw [hv] at hp; simp only at hp
        split at hp
        · rename_i h3; rw [if_pos h3]
        · cases hp
    · exfalso; revert h; simp
  · exfalso; revert h; simp
theorem resP_no {ms : List Mode} {fr to : Int} (h : (resP ms fr to).2 = 4) : hasB (resR ms fr).1 to = false := by
  obtain ⟨hT, hF, hI, v, hv, _, e⟩ := resP_in (.inr h)
  rw [e] at h
  have h0 : v < 0 := by
    by_cases h1 : v < 0
    · exact h1
    · rw [if_neg h1] at h; exact absurd (show (0 : Int) = 4 from h) (by decide)
  rw [resR_has hT hF hI, List.getD_eq_getElem?_getD, hv]
  exact decide_eq_false (by show ¬ 0 ≤ v; omega)
theorem resP_ok {ms : List Mode} {fr to : Int} (h : ¬ (resP ms fr to).2 ≠ 0) :
    1 ≤ (resP ms fr to).1.length ∧ (resP ms fr to).1[0]? = some fr ∧ (resP ms fr to).1[(resP ms fr to).1.length - 1]? = some to ∧
    (∀ (i : Nat) (x y : Int), (resP ms fr to).1[i]? = some x → (resP ms fr to).1[i + 1]? = some y → mayF ms x y = true) ∧ hasB (resR ms fr).1 to = true ∧ decide (((resP ms fr to).1.length : Int) = 2) = mayF ms fr to := by
  have h0 : (resP ms fr to).2 = 0 := by omega
  obtain ⟨hT, hF, hI, v, hv, _, e⟩ := resP_in (.inl h0)
  have h1 := inB_iff.1 hF
  have h2 := inB_iff.1 hI
  have hv0 : ¬ v < 0 := fun h3 => by rw [e, if_pos h3] at h0; exact absurd (show (4 : Int) = 0 from h0) (by decide)
  rw [e, if_neg hv0]
  have hD := dst_Dst (ms := ms) (to := to.toNat) (by omega)
  obtain ⟨c1, c2, c3⟩ := way_chain hT hD v.toNat fr (by omega) (by rw [hv]; congr 1; omega)
  have et : ((to.toNat : Nat) : Int) = to := by omega
  rw [et] at c2
  refine ⟨by simp, rfl, ?_, c3, ?_, ?_⟩
  · show (fr :: wayN ms (dst ms to.toNat) v.toNat fr)[(fr :: wayN ms (dst ms to.toNat) v.toNat fr).length - 1]? = _
    rw [List.length_cons, c1, Nat.add_sub_cancel]; exact c2
  · rw [resR_has hT hF hI, List.getD_eq_getElem?_getD, hv]
    exact decide_eq_true (by show 0 ≤ v; omega)
  · show decide (((fr :: wayN ms (dst ms to.toNat) v.toNat fr).length : Int) = 2) = _
    rw [List.length_cons, c1]
    cases hm : mayF ms fr to with
    | true =>
      simp only [mayF, Bool.and_eq_true] at hm
      have h4 := hasB_mem.1 hm.2
      have hne : to.toNat ≠ fr.toNat := fun h5 => not_self hT (i := fr.toNat) (by rw [← h5, et]; rw [← h5] at h4; exact h4)
      have h6 := dst_one (ms := ms) (fr := fr.toNat) (to := to.toNat) (by omega) (by omega) hne (by rw [et]; exact h4)
      rw [hv] at h6; injection h6 with h6
      exact decide_eq_true (by omega)
    | false =>
      refine decide_eq_false fun h5 => ?_
      have h6 : v.toNat = 1 := by omega
      rw [h6] at c2 c3
      have := c3 0 fr to rfl c2
      rw [hm] at this; cases this
end Go.Proofs.Ytimabffnoanciaa
