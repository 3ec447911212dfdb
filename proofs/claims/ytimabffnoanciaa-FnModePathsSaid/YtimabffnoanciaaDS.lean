/- Distances between modes and ways along them: plain facts. No condition. -/
import Derived.Test.YtimabffnoanciaaE4
import Derived.Test.YtimabffnoanciaaMod13
import Derived.Test.YtimabffnoanciaaFlowH
namespace Go.Proofs.Ytimabffnoanciaa
open Go.RowKit
set_option linter.unusedVariables false
set_option linter.unusedSimpArgs false
set_option maxRecDepth 20000
def stpL (next : List Int) (d : Int) (i : Nat) (out : List Int) : List Int := if out.getD i 0 < 0 ∧ anyAt out next d = true then out.set i (d + 1) else out
theorem stp_L {ms : List Mode} {d : Int} {i : Nat} {out : List Int} {x : Mode} (hx : ms[i]? = some x) : stp ms d i out = stpL x.next d i out := by unfold stp stpL nextAt; rw [hx]
theorem stpL_nil (d : Int) (i : Nat) (out : List Int) : stpL [] d i out = out := by simp [stpL, anyAt]
theorem stpL_pos {next : List Int} {d : Int} {i : Nat} {out : List Int} (h : 0 ≤ out.getD i 0) : stpL next d i out = out := by rw [stpL, if_neg (by omega)]
theorem stpL_miss {z : Int} {r : List Int} {d : Int} {i : Nat} {out : List Int} (h : out[z.toNat]? ≠ some d) : stpL (z :: r) d i out = stpL r d i out := by simp [stpL, anyAt, h]
theorem stpL_hit {z : Int} {r : List Int} {d : Int} {i : Nat} {out : List Int} (h0 : out.getD i 0 < 0) (hd : 0 ≤ d) (h : out[z.toNat]? = some d) : stpL (z :: r) d i out = stpL r d i (out.set i (d + 1)) := by
  have hi : i < out.length := by
    rcases Nat.lt_or_ge i out.length with h1 | h1
    · exact h1
    · rw [List.getD_eq_getElem?_getD, List.getElem?_eq_none h1] at h0; simp at h0
  rw [stpL_pos (out := out.set i (d + 1)) (by rw [List.getD_eq_getElem?_getD, List.getElem?_set_self hi]; simp; omega)]
  rw [stpL, if_pos ⟨h0, by simp [anyAt, h]⟩]
theorem getD_at {out : List Int} {i : Nat} {v : Int} (h : out[i]? = some v) : out.getD i 0 = v := by rw [List.getD_eq_getElem?_getD, h]; rfl
theorem stp_len (ms : List Mode) (d : Int) (i : Nat) (out : List Int) : (stp ms d i out).length = out.length := by unfold stp; split <;> simp
theorem swp_len (ms : List Mode) (d : Int) : ∀ (n i : Nat) (out : List Int), (swp ms d n i out).length = out.length
  | 0, _, _ => rfl
  | n + 1, i, out => by rw [swp, swp_len ms d n, stp_len]
theorem swp_step {ms : List Mode} {d : Int} {i : Nat} {out r : List Int} {x : Mode} (h : swp ms d (ms.length - i) i out = r) (hx : ms[i]? = some x) : swp ms d (ms.length - (i + 1)) (i + 1) (stpL x.next d i out) = r := by
  have hi := (List.getElem?_eq_some_iff.1 hx).1
  rw [show ms.length - i = (ms.length - (i + 1)) + 1 by omega, swp, stp_L hx] at h
  exact h
theorem swp_step2 {ms : List Mode} {n : Nat} {d : Int} {i : Nat} {out r : List Int} {x : Mode} (e : ms.length = n) (h : swp ms d (n - i) i out = r) (hx : ms[i]? = some x) : swp ms d (n - (i + 1)) (i + 1) (stpL x.next d i out) = r := by
  subst e; exact swp_step h hx
theorem stp_no {next : List Int} {d : Int} {i : Nat} {out : List Int} (h : anyAt out next d = false) : stpL next d i out = out := by rw [stpL, h, if_neg (by simp)]
theorem stp_yes {next : List Int} {d : Int} {i : Nat} {out : List Int} (h0 : out.getD i 0 < 0) (h : anyAt out next d = true) : stpL next d i out = out.set i (d + 1) := by rw [stpL, if_pos ⟨h0, h⟩]
theorem rep_snoc2 (k : Nat) (z : Int) : (List.replicate (k + 1) z).flatMap eI = (List.replicate k z).flatMap eI ++ eI z := by rw [List.replicate_succ', List.flatMap_append, List.flatMap_singleton]
theorem dst_len {ms : List Mode} {to : Nat} (ht : to < ms.length) : (dst ms to).length = ms.length := (dst_Dst ht).len
def findZ (p : Int → Bool) (k : Int) : List Int → Int
  | [] => -1
  | x :: r => if p x = true then k else findZ p (k + 1) r
theorem findZ_any (p : Int → Bool) : ∀ (xs : List Int) (k : Int), 0 ≤ k → decide (0 ≤ findZ p k xs) = xs.any p
  | [], k, h => by simp [findZ]
  | x :: r, k, h => by
    rw [findZ, List.any_cons]
    cases hp : p x
    · rw [if_neg (by simp), findZ_any p r (k + 1) (by omega)]; simp
    · rw [if_pos rfl, decide_eq_true h]; rfl
theorem findZ_find (p : Int → Bool) {z : Int} : ∀ (xs : List Int) (k : Nat), xs.find? p = some z → ∃ j : Nat, findZ p k xs = ((k + j : Nat) : Int) ∧ xs[j]? = some z
  | [], k, h => by simp at h
  | x :: r, k, h => by
    rw [findZ]
    cases hp : p x
    · rw [List.find?_cons_of_neg (by simp [hp])] at h
      obtain ⟨j, h1, h2⟩ := findZ_find p r (k + 1) h
      exact ⟨j + 1, by rw [if_neg (by simp)]; rw [show ((k : Int) + 1) = ((k + 1 : Nat) : Int) by omega, h1]; omega, by simpa using h2⟩
    · rw [List.find?_cons_of_pos hp] at h
      injection h with h; subst h
      exact ⟨0, by rw [if_pos rfl]; omega, rfl⟩
/-- a step of a way -/
theorem way_step {ms : List Mode} {to : Nat} {ds : List Int} {r : Int} (hT : isMT ms = true) (hD : Dst ms to r ds) {at_ : Int} {f : Nat} {x : Mode} (hx : ms[at_.toNat]? = some x) (hv : ds[at_.toNat]? = some ((f + 1 : Nat) : Int)) :
    ∃ z, x.next.find? (hitD ds f) = some z ∧ wayN ms ds (f + 1) at_ = z :: wayN ms ds f z ∧ z ∈ x.next ∧ ds[z.toNat]? = some (f : Int) ∧ 0 ≤ z ∧ z < ms.length := by
  obtain ⟨y, hy, hyv⟩ := hD.nx _ _ x hv hx (by omega)
  have hyv2 : ds[y.toNat]? = some (f : Int) := by rw [hyv]; congr 1; omega
  cases hf : x.next.find? (hitD ds f) with
  | none =>
    exfalso
    have := List.find?_eq_none.1 hf y hy
    simp [hitD, hyv2] at this
  | some z =>
    have hz := List.mem_of_find?_eq_some hf
    have hp := List.find?_some hf
    have hb := nextAt_in hT hx z hz
    refine ⟨z, rfl, ?_, hz, by simpa [hitD] using hp, hb⟩
    rw [wayN, nextAt, hx]
    simp only [hf]
theorem wayN_len {ms : List Mode} {ds : List Int} : ∀ (f : Nat) (a : Int), (wayN ms ds f a).length ≤ f
  | 0, _ => Nat.le_refl _
  | f + 1, a => by
    rw [wayN]
    split
    · rename_i z _
      have := wayN_len (ms := ms) (ds := ds) f z
      simp only [List.length_cons]; omega
    · exact Nat.zero_le _
/-- the modes to which there is a way -/
def reachG (ms : List Mode) (fr : Int) (k : Nat) : List Int := ((List.range k).filter fun t => decide (0 ≤ (dst ms t).getD fr.toNat (-1))).map Int.ofNat
theorem reachG_yes {ms : List Mode} {fr : Int} {k : Nat} (h : 0 ≤ (dst ms k).getD fr.toNat (-1)) : reachG ms fr (k + 1) = reachG ms fr k ++ [(k : Int)] := by
  unfold reachG
  rw [List.range_succ, List.filter_append, List.map_append, List.filter_cons_of_pos (by simpa using h)]; rfl
theorem reachG_no {ms : List Mode} {fr : Int} {k : Nat} (h : (dst ms k).getD fr.toNat (-1) < 0) : reachG ms fr (k + 1) = reachG ms fr k := by
  unfold reachG
  rw [List.range_succ, List.filter_append, List.map_append, List.filter_cons_of_neg (by simp only [decide_eq_true_eq]; omega)]; simp
theorem reachG_len (ms : List Mode) (fr : Int) (k : Nat) : (reachG ms fr k).length ≤ k := by
  unfold reachG
  rw [List.length_map]
  have := List.length_filter_le (fun t => decide (0 ≤ (dst ms t).getD fr.toNat (-1))) (List.range k)
  rw [List.length_range] at this; exact this
def resR (ms : List Mode) (fr : Int) : List Int × Int := if isMT ms = true then (if inB fr 0 ((ms.length : Int) - 1) = true then (reachG ms fr ms.length, 0) else ([], 2)) else ([], 1)
def resP (ms : List Mode) (fr to : Int) : List Int × Int := if isMT ms = true then (if inB fr 0 ((ms.length : Int) - 1) = true ∧ inB to 0 ((ms.length : Int) - 1) = true then (match wayF ms fr to with | some p => (p, 0) | none => ([], 4)) else ([], 2)) else ([], 1)
theorem resR_len (ms : List Mode) (fr : Int) : (resR ms fr).1.length ≤ 1048576 := by
  unfold resR
  split
  · rename_i hT
    have h1 := isMT_len hT
    split
    · have := reachG_len ms fr ms.length
      show (reachG ms fr ms.length).length ≤ _; omega
    · exact Nat.zero_le _
  · exact Nat.zero_le _
theorem wayF_some {ms : List Mode} {fr to : Int} {v : Int} (h : (dst ms to.toNat)[fr.toNat]? = some v) (h0 : 0 ≤ v) : wayF ms fr to = some (fr :: wayN ms (dst ms to.toNat) v.toNat fr) := by
  unfold wayF; rw [h]; simp only; rw [if_neg (by omega)]
theorem wayF_none {ms : List Mode} {fr to : Int} {v : Int} (h : (dst ms to.toNat)[fr.toNat]? = some v) (h0 : v < 0) : wayF ms fr to = none := by
  unfold wayF; rw [h]; simp only; rw [if_pos h0]
theorem resP_len (ms : List Mode) (fr to : Int) : (resP ms fr to).1.length ≤ 1048576 := by
  unfold resP
  split
  · rename_i hT
    have h1 := isMT_len hT
    split
    · rename_i h
      have h2 := inB_iff.1 h.2
      cases hw : wayF ms fr to with
      | none => exact Nat.zero_le _
      | some p =>
        show p.length ≤ _
        unfold wayF at hw
        split at hw
        · rename_i v hv
          split at hw
          · cases hw
          · injection hw with hw
            have h3 := (dst_Dst (ms := ms) (to := to.toNat) (by omega)).hi v (List.mem_of_getElem? hv)
            have h4 := wayN_len (ms := ms) (ds := dst ms to.toNat) v.toNat fr
            rw [← hw, List.length_cons]; omega
        · cases hw
    · exact Nat.zero_le _
  · exact Nat.zero_le _
theorem resR_code {ms : List Mode} {fr : Int} (h : mcode ms [fr] ≠ 0) : resR ms fr = ([], mcode ms [fr]) := by
  unfold resR mcode at *
  split
  · rename_i hT
    rw [if_pos hT] at h
    simp only [List.all_cons, List.all_nil, Bool.and_true] at *
    split
    · rename_i hF; rw [if_pos hF] at h; exact absurd rfl h
    · rfl
  · rfl
theorem resP_code {ms : List Mode} {fr to : Int} (h : mcode ms [fr, to] ≠ 0) : resP ms fr to = ([], mcode ms [fr, to]) := by
  unfold resP mcode at *
  split
  · rename_i hT
    rw [if_pos hT] at h
    simp only [List.all_cons, List.all_nil, Bool.and_true, Bool.and_eq_true] at *
    split
    · rename_i hF; rw [if_pos hF] at h; exact absurd rfl h
    · rfl
  · rfl
end Go.Proofs.Ytimabffnoanciaa
