/- How often a number is in a table of plans: plain facts. No condition. -/
import Derived.Test.YtimabffnoanciaaPV
import Derived.Test.YtimabffnoanciaaMod15
namespace Go.Proofs.Ytimabffnoanciaa
open Go.RowKit
set_option linter.unusedVariables false
set_option linter.unusedSimpArgs false
set_option maxRecDepth 20000
/-! ### how often a number is in a table -/
def cntR (v : Int) : List Int → Nat
  | [] => 0
  | x :: r => (if x = v then 1 else 0) + cntR v r
def cntT (v : Int) : Tbl → Nat
  | [] => 0
  | l :: r => cntR v l + cntT v r
theorem cntR_set {v k u : Int} : ∀ {l : List Int} {i : Nat}, l[i]? = some u → cntR v (l.set i k) + (if u = v then 1 else 0) = cntR v l + (if k = v then 1 else 0)
  | [], i, h => by simp at h
  | x :: r, 0, h => by simp at h; subst h; simp only [List.set_cons_zero, cntR]; omega
  | x :: r, i + 1, h => by
    have := cntR_set (v := v) (k := k) (l := r) (i := i) (by simpa using h)
    simp only [List.set_cons_succ, cntR]; omega
theorem cntT_set {v : Int} {a b : List Int} : ∀ {T : Tbl} {i : Nat}, T[i]? = some a → cntT v (T.set i b) + cntR v a = cntT v T + cntR v b
  | [], i, h => by simp at h
  | x :: r, 0, h => by simp at h; subst h; simp only [List.set_cons_zero, cntT]; omega
  | x :: r, i + 1, h => by
    have := cntT_set (v := v) (a := a) (b := b) (T := r) (i := i) (by simpa using h)
    simp only [List.set_cons_succ, cntT]; omega
theorem cntT_putC {R S r s : Nat} {T : Tbl} {k v : Int} (h : Tab R S T) (hr : r < R) (hs : s < S) (hu : cellT T r s < 0) (hv : 0 ≤ v) : cntT v (putC T r s k) = cntT v T + (if k = v then 1 else 0) := by
  have h1 := cntT_set (v := v) (b := (rowT T r).set s k) (h.row hr).1
  have h2 := cntR_set (v := v) (k := k) (h.cell hr hs)
  rw [if_neg (show ¬ cellT T r s = v by omega)] at h2
  unfold putC; omega
theorem rowT_putC {r r' s : Nat} {T : Tbl} {k : Int} (hr : r ≠ r') : rowT (putC T r s k) r' = rowT T r' := by
  unfold rowT putC
  rw [List.getD_eq_getElem?_getD, List.getD_eq_getElem?_getD, List.getElem?_set_ne hr]
theorem freeL_putC {r s e : Nat} {T : Tbl} {k : Int} : ∀ (n r' : Nat), r < r' → freeL (putC T r s k) e s n r' = freeL T e s n r'
  | 0, _, _ => rfl
  | n + 1, r', h => by
    rw [freeL, freeL, putC_len, cellT, rowT_putC (show r ≠ r' by omega), freeL_putC n (r' + e) (by omega)]; rfl
/-- in how many rounds a demand is -/
def stepsN (R e : Nat) : Nat → Nat → Nat
  | 0, _ => 0
  | n + 1, r => if r < R then stepsN R e n (r + e) + 1 else 0
theorem cntT_putL {R S s e : Nat} {k v : Int} (hs : s < S) (hv : 0 ≤ v) (he : 1 ≤ e) : ∀ (n r : Nat) (T : Tbl), Tab R S T → freeL T e s n r = true → cntT v (putL e s k n r T) = cntT v T + (if k = v then stepsN R e n r else 0)
  | 0, r, T, h, hf => by rw [putL, stepsN]; simp
  | n + 1, r, T, h, hf => by
    rw [putL, stepsN, h.1]
    by_cases hr : r < R
    · rw [if_pos hr, if_pos hr]
      rw [freeL, h.1, if_pos hr] at hf
      by_cases hc : 0 ≤ cellT T r s
      · rw [if_pos hc] at hf; cases hf
      · rw [if_neg hc] at hf
        rw [cntT_putL hs hv he n (r + e) _ (h.putC r s k hr) (by rw [freeL_putC n (r + e) (by omega)]; exact hf), cntT_putC h hr hs (by omega) hv]
        split <;> omega
    · rw [if_neg hr, if_neg hr]; simp
theorem steps_ok : ∀ R ∈ [1, 2, 4, 8], ∀ e ∈ [1, 2, 4, 8], e ≤ R → ∀ p, p < e → stepsN R e R p = R / e := by decide
theorem evB_mem {a : Int} (h : evB a = true) : a.toNat ∈ [1, 2, 4, 8] ∧ 1 ≤ a := by
  simp only [evB, Bool.or_eq_true, decide_eq_true_eq] at h
  rcases h with ((h | h) | h) | h <;> subst h <;> simp
/-- the numbers in a table -/
def Vals (b : Int) (T : Tbl) : Prop := ∀ l ∈ T, ∀ x ∈ l, -1 ≤ x ∧ x < b
theorem Vals.putC {b k : Int} {R S r s : Nat} {T : Tbl} (h : Vals b T) (ht : Tab R S T) (hr : r < R) (hk : 0 ≤ k ∧ k < b) : Vals b (putC T r s k) := fun l hl x hx => by
  rcases List.mem_or_eq_of_mem_set hl with h1 | rfl
  · exact h l h1 x hx
  · rcases List.mem_or_eq_of_mem_set hx with h2 | rfl
    · exact h _ (List.mem_of_getElem? (ht.row hr).1) x h2
    · omega
theorem Vals.putL {b k : Int} {R S : Nat} (e s : Nat) (hk : 0 ≤ k ∧ k < b) : ∀ (n r : Nat) {T : Tbl}, Vals b T → Tab R S T → Vals b (putL e s k n r T)
  | 0, _, _, h, _ => h
  | n + 1, r, T, h, ht => by
    rw [Go.Proofs.Ytimabffnoanciaa.putL]
    split
    · rename_i h1
      have hr : r < R := by rw [← ht.1]; exact h1
      exact Vals.putL e s hk n (r + e) (h.putC ht hr hk) (ht.putC r s k hr)
    · exact h
theorem fitsB_in {R S : Nat} {T : Tbl} {e : Int} {b : Bk} (ht : Tab R S T) (hR : 0 < R) (h : fitsB T e b = true) : e ≤ R ∧ (0 ≤ b.slot ∧ b.slot < S) ∧ (0 ≤ b.phase ∧ b.phase < e) ∧ freeL T e.toNat b.slot.toNat R b.phase.toNat = true := by
  simp only [fitsB, Bool.and_eq_true, decide_eq_true_eq, ht.1, ht.slots hR] at h
  have h1 := inB_iff.1 h.2.1
  have h2 := inB_iff.1 h.2.2.1
  exact ⟨h.1, by omega, by omega, h.2.2.2⟩
theorem tabL_cnt {R S : Nat} (hR : R ∈ [1, 2, 4, 8]) (n : Int) : ∀ (ds : List Dem) (bs : List Bk) (k : Nat) (T T' : Tbl), tabL ds bs k T = some T' → Tab R S T → (∀ d ∈ ds, evB d.every = true) → Vals n T → ((k : Int) + ds.length ≤ n) →
    Vals n T' ∧ (∀ v : Nat, v < k → cntT v T' = cntT v T) ∧ ∀ (i : Nat) (d : Dem), ds[i]? = some d → cntT ((k + i : Nat) : Int) T' = cntT ((k + i : Nat) : Int) T + R / d.every.toNat
  | [], [], k, T, T', h, ht, _, hv, _ => by
    simp [tabL] at h; subst h
    exact ⟨hv, fun _ _ => rfl, fun i d hd => by simp at hd⟩
  | [], b :: bs, _, _, _, h, _, _, _, _ => by simp [tabL] at h
  | d :: ds, [], _, _, _, h, _, _, _, _ => by simp [tabL] at h
  | d :: ds, b :: bs, k, T, T', h, ht, hE, hv, hn => by
    have hR0 : 0 < R := by rcases List.mem_cons.1 hR with h | h <;> (try simp at h) <;> omega
    rw [tabL] at h
    split at h
    · rename_i hf
      obtain ⟨f1, f2, f3, f4⟩ := fitsB_in ht hR0 hf
      obtain ⟨e1, e2⟩ := evB_mem (hE d (by simp))
      have hput : ∀ v : Int, 0 ≤ v → cntT v (putB T d.every b k) = cntT v T + (if (k : Int) = v then R / d.every.toNat else 0) := fun v hv0 => by
        unfold putB
        rw [ht.1, cntT_putL (S := S) (by omega) hv0 (by omega) R _ T ht f4, steps_ok R hR _ e1 (by omega) _ (by omega)]
      have hlen : (d :: ds).length = ds.length + 1 := rfl
      obtain ⟨g1, g2, g3⟩ := tabL_cnt hR n ds bs (k + 1) _ T' h (ht.putB _ _ _) (fun d hd => hE d (by simp [hd])) (by unfold putB; rw [ht.1]; exact hv.putL _ _ (by omega) _ _ ht) (by omega)
      refine ⟨g1, fun v hv1 => ?_, fun i d' hd' => ?_⟩
      · rw [g2 v (by omega), hput v (by omega), if_neg (by omega)]; rfl
      · cases i with
        | zero =>
          simp at hd'; subst hd'
          rw [Nat.add_zero, g2 k (by omega), hput k (by omega), if_pos rfl]
        | succ i =>
          have h5 := g3 i d' (by simpa using hd')
          rw [show k + (i + 1) = k + 1 + i by omega, h5, hput _ (by omega), if_neg (by omega)]; rfl
    · cases h
theorem cntR_neg {v : Int} (hv : 0 ≤ v) : ∀ {l : List Int}, (∀ x ∈ l, x < 0) → cntR v l = 0
  | [], _ => rfl
  | x :: r, h => by
    have h1 := h x (by simp)
    rw [cntR, if_neg (by omega), cntR_neg hv fun y hy => h y (by simp [hy])]
theorem cntT_neg {v : Int} (hv : 0 ≤ v) : ∀ {T : Tbl}, (∀ l ∈ T, ∀ x ∈ l, x < 0) → cntT v T = 0
  | [], _ => rfl
  | l :: r, h => by rw [cntT, cntR_neg hv (h l (by simp)), cntT_neg hv fun y hy => h y (by simp [hy])]
theorem tab0_neg (R S : Nat) : ∀ l ∈ tab0 R S, ∀ x ∈ l, x = -1 := fun l hl x hx => by
  rw [List.eq_of_mem_replicate hl] at hx
  exact List.eq_of_mem_replicate hx
/-! ### numbers are counted one by one -/
def bump (C : List Int) (v : Int) : List Int := C.set (v + 1).toNat (C.getD (v + 1).toNat 0 + 1)
def bumps : List Int → List Int → List Int
  | [], C => C
  | v :: l, C => bumps l (bump C v)
def bumpT : Tbl → List Int → List Int
  | [], C => C
  | l :: T, C => bumpT T (bumps l C)
theorem bump_len (C : List Int) (v : Int) : (bump C v).length = C.length := List.length_set ..
theorem bumps_len : ∀ (l C : List Int), (bumps l C).length = C.length
  | [], _ => rfl
  | v :: l, C => by rw [bumps, bumps_len l, bump_len]
theorem bumpT_len : ∀ (T : Tbl) (C : List Int), (bumpT T C).length = C.length
  | [], _ => rfl
  | l :: T, C => by rw [bumpT, bumpT_len T, bumps_len]
theorem bump_at {C : List Int} {v : Int} {j : Nat} (hv : -1 ≤ v ∧ v + 1 < C.length) (hj : j < C.length) : (bump C v).getD j 0 = C.getD j 0 + (if v = (j : Int) - 1 then 1 else 0) := by
  unfold bump
  rw [List.getD_eq_getElem?_getD, List.getElem?_set]
  by_cases e : (v + 1).toNat = j
  · subst e
    rw [if_pos rfl, if_pos (by omega), if_pos (by omega)]; rfl
  · rw [if_neg e, if_neg (by omega), List.getD_eq_getElem?_getD]; omega
theorem bumps_at {j : Nat} : ∀ (l C : List Int), (∀ v ∈ l, -1 ≤ v ∧ v + 1 < C.length) → j < C.length → (bumps l C).getD j 0 = C.getD j 0 + (cntR ((j : Int) - 1) l : Int)
  | [], C, _, _ => by simp [bumps, cntR]
  | v :: l, C, h, hj => by
    rw [bumps, bumps_at l (bump C v) (fun x hx => by rw [bump_len]; exact h x (by simp [hx])) (by rw [bump_len]; exact hj), bump_at (h v (by simp)) hj, cntR]
    split <;> omega
theorem bumpT_at {j : Nat} : ∀ (T : Tbl) (C : List Int), Vals ((C.length : Int) - 1) T → j < C.length → (bumpT T C).getD j 0 = C.getD j 0 + (cntT ((j : Int) - 1) T : Int)
  | [], C, _, _ => by simp [bumpT, cntT]
  | l :: T, C, h, hj => by
    have h1 : ∀ v ∈ l, -1 ≤ v ∧ v + 1 < C.length := fun v hv => by have := h l (by simp) v hv; omega
    rw [bumpT, bumpT_at T (bumps l C) (fun y hy => by rw [bumps_len]; exact h y (by simp [hy])) (by rw [bumps_len]; exact hj), bumps_at l C h1 hj, cntT]
    omega
def sumI : List Int → Int
  | [] => 0
  | x :: r => x + sumI r
theorem sumI_set {a b : Int} : ∀ {l : List Int} {i : Nat}, l[i]? = some a → sumI (l.set i b) = sumI l - a + b
  | [], i, h => by simp at h
  | x :: r, 0, h => by simp at h; subst h; simp only [List.set_cons_zero, sumI]; omega
  | x :: r, i + 1, h => by
    have := sumI_set (a := a) (b := b) (l := r) (i := i) (by simpa using h)
    simp only [List.set_cons_succ, sumI]; omega
theorem bumps_sum : ∀ (l C : List Int), (∀ v ∈ l, -1 ≤ v ∧ v + 1 < C.length) → sumI (bumps l C) = sumI C + l.length
  | [], C, _ => by simp [bumps]
  | v :: l, C, h => by
    have hv := h v (by simp)
    obtain ⟨a, ha⟩ : ∃ a, C[(v + 1).toNat]? = some a := ⟨_, List.getElem?_eq_getElem (by omega)⟩
    rw [bumps, bumps_sum l (bump C v) (fun x hx => by rw [bump_len]; exact h x (by simp [hx]))]
    unfold bump
    rw [sumI_set ha, List.getD_eq_getElem?_getD, ha, List.length_cons]
    show sumI C - a + (a + 1) + _ = _
    omega
theorem bumpT_sum {S : Nat} : ∀ (T : Tbl) (C : List Int), Vals ((C.length : Int) - 1) T → (∀ l ∈ T, l.length = S) → sumI (bumpT T C) = sumI C + (T.length * S : Nat)
  | [], C, _, _ => by simp [bumpT]
  | l :: T, C, h, hS => by
    have h1 : ∀ v ∈ l, -1 ≤ v ∧ v + 1 < C.length := fun v hv => by have := h l (by simp) v hv; omega
    rw [bumpT, bumpT_sum T (bumps l C) (fun y hy => by rw [bumps_len]; exact h y (by simp [hy])) (fun y hy => hS y (by simp [hy])), bumps_sum l C h1, hS l (by simp), List.length_cons, Nat.succ_mul]
    omega
theorem sumI_rep (n : Nat) : sumI (List.replicate n 0) = 0 := by
  induction n with
  | zero => rfl
  | succ n ih => rw [List.replicate_succ, sumI, ih]; rfl
theorem bump_in {C : List Int} {v b : Int} (h : ∀ x ∈ C, 0 ≤ x ∧ x ≤ b) (hb : 0 ≤ b) : ∀ x ∈ bump C v, 0 ≤ x ∧ x ≤ b + 1 := fun x hx => by
  rcases List.mem_or_eq_of_mem_set hx with h1 | h1
  · have := h x h1; omega
  · rw [h1, List.getD_eq_getElem?_getD]
    cases e : C[(v + 1).toNat]? with
    | none => simp; omega
    | some y => have := h y (List.mem_of_getElem? e); simp only [Option.getD_some]; omega
theorem codeP_rounds {xs : List Dem} {rounds slots : Int} (h : ¬ codeP xs rounds slots ≠ 0) : rounds.toNat ∈ [1, 2, 4, 8] := by
  unfold codeP at h
  split at h
  · split at h
    · rename_i h2
      simp only [Bool.and_eq_true] at h2
      exact (evB_mem h2.1).1
    · exact absurd (by decide) h
  · exact absurd (by decide) h
theorem areD_ev {xs : List Dem} (h : areD xs = true) : ∀ d ∈ xs, evB d.every = true := fun d hd => by
  have h1 := List.all_eq_true.1 (by simp only [areD, Bool.and_eq_true] at h; exact h.1) d hd
  simp only [demOk, Bool.and_eq_true] at h1
  exact h1.1.2
/-! ### what the tables of planning have in them -/
theorem tabF_vals (xs : List Dem) (rounds slots : Int) (bks : List Bk) : Vals xs.length (tabF xs rounds slots bks).1 := by
  by_cases hc : codeP xs rounds slots ≠ 0
  · rw [tabF_code hc]; intro l hl; simp at hl
  · obtain ⟨hD, hr, hs⟩ := codeP_ok hc
    rw [tabF, if_neg hc]
    split
    · intro l hl; simp at hl
    · rename_i T hT
      exact (tabL_cnt (codeP_rounds hc) xs.length _ _ _ _ _ hT (tab0_tab _ _) (areD_ev hD) (fun l hl x hx => by rw [tab0_neg _ _ l hl x hx]; omega) (by omega)).1
theorem tabF_cnt {xs : List Dem} {rounds slots : Int} {bks : List Bk} (h : ¬ (tabF xs rounds slots bks).2 ≠ 0) :
    (1 ≤ rounds ∧ rounds ≤ 8) ∧ (1 ≤ slots ∧ slots ≤ 16) ∧ Tab rounds.toNat slots.toNat (tabF xs rounds slots bks).1 ∧ ∀ (i : Nat) (d : Dem), xs[i]? = some d → 1 ≤ d.every ∧ (cntT i (tabF xs rounds slots bks).1 : Int) = rounds / d.every := by
  by_cases hc : codeP xs rounds slots ≠ 0
  · rw [tabF_code hc] at h; exact absurd hc h
  · obtain ⟨hD, hr, hs⟩ := codeP_ok hc
    rw [tabF, if_neg hc] at h ⊢
    cases hT : tabL xs bks 0 (tab0 rounds.toNat slots.toNat) with
    | none => rw [hT] at h; exact absurd (show (5 : Int) ≠ 0 by decide) h
    | some T =>
      have h0 := tabL_cnt (codeP_rounds hc) xs.length _ _ _ _ _ hT (tab0_tab _ _) (areD_ev hD) (fun l hl x hx => by rw [tab0_neg _ _ l hl x hx]; omega) (by omega)
      refine ⟨hr, hs, tabL_tab _ _ _ _ _ hT (tab0_tab _ _), fun i d hd => ?_⟩
      have h1 := h0.2.2 i d hd
      rw [Nat.zero_add, cntT_neg (T := tab0 rounds.toNat slots.toNat) (by omega) (fun l hl x hx => by rw [tab0_neg _ _ l hl x hx]; omega), Nat.zero_add] at h1
      have h2 := (evB_mem (areD_ev hD d (List.mem_of_getElem? hd))).2
      refine ⟨h2, ?_⟩
      show (cntT i T : Int) = _
      rw [h1, Int.natCast_ediv, Int.toNat_of_nonneg (by omega), Int.toNat_of_nonneg (by omega)]
end Go.Proofs.Ytimabffnoanciaa
