/- Distances between modes and the ways along them: plain functions. No condition. -/
import Derived.Test.YtimabffnoanciaaMod2
namespace Go.Proofs.Ytimabffnoanciaa
open Go.RowKit
set_option linter.unusedVariables false
set_option linter.unusedSimpArgs false

def nextAt (ms : List Mode) (i : Nat) : List Int := match ms[i]? with
  | some x => x.next
  | none => []
/-- one mode of a sweep -/
def anyAt (out next : List Int) (d : Int) : Bool := next.any fun z => decide (out[z.toNat]? = some d)
def stp (ms : List Mode) (d : Int) (i : Nat) (out : List Int) : List Int := if out.getD i 0 < 0 ∧ anyAt out (nextAt ms i) d = true then out.set i (d + 1) else out
def swp (ms : List Mode) (d : Int) : Nat → Nat → List Int → List Int
  | 0, _, out => out
  | n + 1, i, out => swp ms d n (i + 1) (stp ms d i out)
def itS (ms : List Mode) : Nat → Nat → List Int → List Int
  | 0, _, out => out
  | n + 1, d, out => itS ms n (d + 1) (swp ms d ms.length 0 out)
def dst0 (n to : Nat) : List Int := (List.replicate n (-1)).set to 0
def dst (ms : List Mode) (to : Nat) : List Int := itS ms ms.length 0 (dst0 ms.length to)
def neg (out : List Int) : Nat := (out.filter fun v => decide (v < 0)).length
structure Dst (ms : List Mode) (to : Nat) (r : Int) (out : List Int) : Prop where
  r0 : 0 ≤ r
  len : out.length = ms.length
  lo : ∀ v ∈ out, -1 ≤ v
  hi : ∀ v ∈ out, v ≤ r
  z : ∀ i, out[i]? = some 0 ↔ i = to
  nx : ∀ (i : Nat) (v : Int) (x : Mode), out[i]? = some v → ms[i]? = some x → 0 < v → ∃ z ∈ x.next, out[z.toNat]? = some (v - 1)
theorem neg_set : ∀ (out : List Int) (i : Nat) (d : Int), 0 ≤ d → (∃ v, out[i]? = some v ∧ v < 0) → neg (out.set i d) + 1 = neg out
  | [], i, d, hd, ⟨v, h, _⟩ => by simp at h
  | y :: r, 0, d, hd, ⟨v, h, hv⟩ => by
    simp at h; subst h
    simp only [neg, List.set_cons_zero]
    rw [List.filter_cons_of_neg (by simpa using hd), List.filter_cons_of_pos (by simpa using hv)]; rfl
  | y :: r, i + 1, d, hd, ⟨v, h, hv⟩ => by
    have ih := neg_set r i d hd ⟨v, by simpa using h, hv⟩
    simp only [neg, List.set_cons_succ] at *
    by_cases e : y < 0
    · rw [List.filter_cons_of_pos (by simpa using e), List.filter_cons_of_pos (by simpa using e)]; simp only [List.length_cons]; omega
    · rw [List.filter_cons_of_neg (by simpa using e), List.filter_cons_of_neg (by simpa using e)]; exact ih
theorem stp_cases (ms : List Mode) (d : Int) (i : Nat) (out : List Int) (hd : 0 ≤ d) :
    stp ms d i out = out ∨ (stp ms d i out = out.set i (d + 1) ∧ (∃ v, out[i]? = some v ∧ v < 0) ∧ ∃ z ∈ nextAt ms i, out[z.toNat]? = some d) := by
  unfold stp
  split
  · rename_i h
    refine .inr ⟨rfl, ?_, ?_⟩
    · have h1 := h.1
      rw [List.getD_eq_getElem?_getD] at h1
      cases h2 : out[i]? with
      | none => rw [h2] at h1; simp at h1
      | some v => rw [h2] at h1; exact ⟨v, rfl, by simpa using h1⟩
    · obtain ⟨z, h2, h3⟩ := List.any_eq_true.1 h.2
      exact ⟨z, h2, by simpa using h3⟩
  · exact .inl rfl
theorem Dst.stp {ms : List Mode} {to : Nat} {r d : Int} {out : List Int} (h : Dst ms to r out) (hd : 0 ≤ d) (hr : d + 1 ≤ r) (i : Nat) : Dst ms to r (stp ms d i out) ∧ (neg (Go.Proofs.Ytimabffnoanciaa.stp ms d i out) + 1 = neg out ∨ Go.Proofs.Ytimabffnoanciaa.stp ms d i out = out) := by
  rcases stp_cases ms d i out hd with e | ⟨e, ⟨v, hv, hv0⟩, z, hz, hzd⟩
  · rw [e]; exact ⟨h, .inr rfl⟩
  · rw [e]
    have hil : i < out.length := (List.getElem?_eq_some_iff.1 hv).1
    have hto : i ≠ to := fun e => by rw [(h.z i).2 e] at hv; injection hv; omega
    refine ⟨⟨h.r0, by simp [h.len], ?_, ?_, ?_, ?_⟩, .inl (neg_set out i (d + 1) (by omega) ⟨v, hv, hv0⟩)⟩
    · intro y hy
      rcases List.mem_or_eq_of_mem_set hy with h1 | h1
      · exact h.lo y h1
      · omega
    · intro y hy
      rcases List.mem_or_eq_of_mem_set hy with h1 | h1
      · exact h.hi y h1
      · omega
    · intro j
      rw [List.getElem?_set]
      split
      · rename_i h1; subst h1
        simp only [hil, if_true, Option.some.injEq]
        exact ⟨fun h => by omega, fun h => absurd h hto⟩
      · exact h.z j
    · intro j u x hj hx hu
      rw [List.getElem?_set] at hj
      split at hj
      · rename_i h1; subst h1
        simp only [hil, if_true, Option.some.injEq] at hj
        rw [nextAt, hx] at hz
        refine ⟨z, hz, ?_⟩
        rw [List.getElem?_set]
        split
        · rename_i h2; rw [← h2, hv] at hzd; injection hzd; omega
        · rw [hzd]; congr 1; omega
      · obtain ⟨q, hq, hqv⟩ := h.nx j u x hj hx hu
        refine ⟨q, hq, ?_⟩
        rw [List.getElem?_set]
        split
        · rename_i h2; rw [← h2, hv] at hqv; injection hqv; omega
        · exact hqv
theorem Dst.swp {ms : List Mode} {to : Nat} {r d : Int} (hd : 0 ≤ d) (hr : d + 1 ≤ r) : ∀ (n i : Nat) (out : List Int), Dst ms to r out → Dst ms to r (swp ms d n i out) ∧ (neg (Go.Proofs.Ytimabffnoanciaa.swp ms d n i out) + 1 ≤ neg out ∨ Go.Proofs.Ytimabffnoanciaa.swp ms d n i out = out)
  | 0, i, out, h => ⟨h, .inr rfl⟩
  | n + 1, i, out, h => by
    obtain ⟨h1, h2⟩ := h.stp hd hr i
    obtain ⟨h3, h4⟩ := Dst.swp hd hr n (i + 1) _ h1
    rw [Go.Proofs.Ytimabffnoanciaa.swp]
    refine ⟨h3, ?_⟩
    rcases h2 with h2 | h2 <;> rcases h4 with h4 | h4
    · left; omega
    · left; rw [h4]; omega
    · left; rw [h2] at h4 ⊢; omega
    · right; rw [h4, h2]
theorem Dst.up {ms : List Mode} {to : Nat} {r r' : Int} {out : List Int} (h : Dst ms to r out) (hr : r ≤ r') : Dst ms to r' out := ⟨by have := h.r0; omega, h.len, h.lo, fun v hv => by have := h.hi v hv; omega, h.z, h.nx⟩
theorem stp_none {ms : List Mode} {d : Int} {i : Nat} {out : List Int} (h : d ∉ out) : stp ms d i out = out := by
  unfold stp
  rw [if_neg]
  rintro ⟨_, h2⟩
  obtain ⟨z, _, h3⟩ := List.any_eq_true.1 h2
  exact h (List.mem_of_getElem? (by simpa using h3))
theorem swp_none {ms : List Mode} {d : Int} {out : List Int} (h : d ∉ out) : ∀ (n i : Nat), swp ms d n i out = out
  | 0, _ => rfl
  | n + 1, i => by rw [swp, stp_none h, swp_none h n]
theorem itS_none {ms : List Mode} {out : List Int} : ∀ (n r : Nat), (∀ v ∈ out, v < (r : Int)) → itS ms n r out = out
  | 0, _, _ => rfl
  | n + 1, r, h => by
    rw [itS, swp_none (fun hm => by have := h _ hm; omega), itS_none n (r + 1) fun v hv => by have := h v hv; omega]
theorem hasB_mem {xs : List Int} {v : Int} : hasB xs v = true ↔ v ∈ xs := by simp [hasB]
theorem dst0_Dst {ms : List Mode} {to : Nat} (ht : to < ms.length) : Dst ms to 0 (dst0 ms.length to) := by
  refine ⟨by omega, by simp [dst0], ?_, ?_, ?_, ?_⟩
  · intro v hv
    rcases List.mem_or_eq_of_mem_set hv with h1 | h1
    · rw [List.eq_of_mem_replicate h1]; omega
    · omega
  · intro v hv
    rcases List.mem_or_eq_of_mem_set hv with h1 | h1
    · rw [List.eq_of_mem_replicate h1]; omega
    · omega
  · intro i
    rw [dst0, List.getElem?_set]
    split
    · rename_i h; subst h; simp [ht]
    · rename_i h
      rw [List.getElem?_replicate]
      split
      · simp; omega
      · simp; omega
  · intro i v x hv hx h0
    rw [dst0, List.getElem?_set] at hv
    split at hv
    · simp [ht] at hv; omega
    · rw [List.getElem?_replicate] at hv
      split at hv
      · simp at hv; omega
      · cases hv
theorem neg_rep : ∀ n, neg (List.replicate n (-1)) = n
  | 0 => rfl
  | n + 1 => by
    have := neg_rep n
    simp only [neg, List.replicate_succ] at *
    rw [List.filter_cons_of_pos (by decide), List.length_cons, this]
/-- what holds in the middle, before sweep r -/
structure Mid (ms : List Mode) (to r : Nat) (out : List Int) : Prop where
  d : Dst ms to r out
  n : hasB out r = true → neg out + r + 1 ≤ ms.length
  e : dst ms to = itS ms (ms.length - r) r out
theorem Mid.start {ms : List Mode} {to : Nat} (ht : to < ms.length) : Mid ms to 0 (dst0 ms.length to) := by
  refine ⟨dst0_Dst ht, fun _ => ?_, rfl⟩
  have h := neg_set (List.replicate ms.length (-1)) to 0 (by omega) ⟨-1, by simp [ht], by omega⟩
  rw [neg_rep] at h
  unfold dst0; omega
theorem Mid.step {ms : List Mode} {to r : Nat} {out : List Int} (h : Mid ms to r out) (hr : r < ms.length) : Mid ms to (r + 1) (swp ms r ms.length 0 out) := by
  have h1 := (h.d.up (r' := ((r + 1 : Nat) : Int)) (by omega)).swp (d := (r : Int)) (by omega) (by omega) ms.length 0
  refine ⟨h1.1, fun hb => ?_, ?_⟩
  · have hb1 := hasB_mem.1 hb
    rcases h1.2 with h2 | h2
    · by_cases hq : hasB out r = true
      · have := h.n hq; omega
      · rw [swp_none (fun hm => hq (hasB_mem.2 hm))] at hb1
        have := h.d.hi _ hb1; omega
    · rw [h2] at hb1
      have := h.d.hi _ hb1; omega
  · rw [h.e, show ms.length - r = (ms.length - (r + 1)) + 1 by omega, itS]
theorem Mid.more {ms : List Mode} {to r : Nat} {out : List Int} (h : Mid ms to r out) (hb : hasB out r = true) : r < ms.length := by have := h.n hb; omega
theorem Mid.stop {ms : List Mode} {to r : Nat} {out : List Int} (h : Mid ms to r out) (hb : hasB out r = false) : dst ms to = out := by
  rw [h.e]
  refine itS_none _ _ fun v hv => ?_
  have h1 := h.d.hi v hv
  rcases Int.lt_or_eq_of_le h1 with h2 | h2
  · exact h2
  · rw [h2] at hv; rw [hasB_mem.2 hv] at hb; cases hb
theorem Mid.last {ms : List Mode} {to : Nat} {out : List Int} (h : Mid ms to ms.length out) : dst ms to = out := by
  rw [h.e, Nat.sub_self]; rfl
theorem dst_Dst {ms : List Mode} {to : Nat} (ht : to < ms.length) : Dst ms to ms.length (dst ms to) := by
  have : ∀ k, k ≤ ms.length → ∃ out, Mid ms to k out := fun k => by
    induction k with
    | zero => exact fun _ => ⟨_, Mid.start ht⟩
    | succ k ih => exact fun hk => by obtain ⟨out, h⟩ := ih (by omega); exact ⟨_, h.step (by omega)⟩
  obtain ⟨out, h⟩ := this ms.length (Nat.le_refl _)
  rw [h.last]; exact h.d

/-! ### ways -/
def hitD (ds : List Int) (v : Int) (z : Int) : Bool := decide (ds[z.toNat]? = some v)
def wayN (ms : List Mode) (ds : List Int) : Nat → Int → List Int
  | 0, _ => []
  | f + 1, at_ => match (nextAt ms at_.toNat).find? (hitD ds f) with
    | some z => z :: wayN ms ds f z
    | none => []
/-- the way from one mode to another; none if there is none -/
def wayF (ms : List Mode) (fr to : Int) : Option (List Int) := match (dst ms to.toNat)[fr.toNat]? with
  | some v => if v < 0 then none else some (fr :: wayN ms (dst ms to.toNat) v.toNat fr)
  | none => none
theorem nextAt_in {ms : List Mode} (hT : isMT ms = true) {i : Nat} {x : Mode} (hx : ms[i]? = some x) : ∀ z ∈ x.next, 0 ≤ z ∧ z < ms.length := by
  have h1 := (modeOk_in (isMT_at hT hx)).2.2
  have h2 : ∀ (l : List Int) (p : Option Int), risesFrom ms.length p l = true → ∀ z ∈ l, 0 ≤ z ∧ z < ms.length := by
    intro l
    induction l with
    | nil => intro p _ z hz; simp at hz
    | cons y r ih =>
      intro p h z hz
      have h3 : inB y 0 ((ms.length : Int) - 1) = true ∧ risesFrom ms.length (some y) r = true := by
        cases p <;> simp [risesFrom] at h
        · exact h
        · exact ⟨h.1.1, h.2⟩
      rcases List.mem_cons.1 hz with rfl | hz
      · have := inB_iff.1 h3.1; omega
      · exact ih _ h3.2 z hz
  exact h2 _ _ h1
end Go.Proofs.Ytimabffnoanciaa
