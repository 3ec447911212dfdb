/- Schedules: what holds of well-formed ones. Plain facts. No condition. -/
import Derived.Test.YtojgfbbdjobdnaaGreatDoorMod8
import Derived.Test.YtojgfbbdjobdnaaGreatDoorMod11
namespace Go.Proofs.YtojgfbbdjobdnaaGreatDoor
open Go.RowKit
set_option linter.unusedVariables false
set_option linter.unusedSimpArgs false
/-! ### sums of the first n -/
def sumF (f : Nat → Int) : Nat → Int
  | 0 => 0
  | n + 1 => sumF f n + f n
theorem sumF_congr {f g : Nat → Int} : ∀ (n : Nat), (∀ i, i < n → f i = g i) → sumF f n = sumF g n
  | 0, _ => rfl
  | n + 1, h => by rw [sumF, sumF, sumF_congr n fun i hi => h i (by omega), h n (by omega)]
theorem sumF_add (f : Nat → Int) (a : Nat) : ∀ (n : Nat), sumF f (a + n) = sumF f a + sumF (fun i => f (a + i)) n
  | 0 => by simp [sumF]
  | n + 1 => by rw [← Nat.add_assoc, sumF, sumF_add f a n, sumF]; omega
theorem sumF_per {f : Nat → Int} {S : Nat} (hS : 0 < S) : ∀ (R : Nat), (∀ j, j < R * S → f j = f (j % S)) → sumF f (R * S) = R * sumF f S
  | 0, _ => by simp [sumF]
  | R + 1, h => by
    have h1 : (R + 1) * S = R * S + S := Nat.succ_mul R S
    have ih := sumF_per hS R (fun j hj => h j (by omega))
    have h2 : sumF (fun i => f (R * S + i)) S = sumF f S := sumF_congr S fun i hi => by
      rw [h (R * S + i) (by omega), Nat.add_comm, Nat.add_mul_mod_self_right, Nat.mod_eq_of_lt hi]
    rw [h1, sumF_add, ih, h2, Int.natCast_add, Int.add_mul]; simp
theorem sumF_pos {f : Nat → Int} : ∀ (n : Nat), (∀ i, i < n → 1 ≤ f i) → (n : Int) ≤ sumF f n
  | 0, _ => by simp [sumF]
  | n + 1, h => by
    have h1 := sumF_pos n fun i hi => h i (by omega)
    have h2 := h n (by omega)
    rw [sumF]; omega
theorem sumF_rot {f : Nat → Int} {n p : Nat} (hp : p < n) : sumF (fun i => f ((p + i) % n)) n = sumF f n := by
  have h1 : sumF f n = sumF f p + sumF (fun i => f (p + i)) (n - p) := by
    have := sumF_add f p (n - p)
    rw [show p + (n - p) = n by omega] at this; exact this
  have h2 := sumF_add (fun i => f ((p + i) % n)) (n - p) p
  rw [show n - p + p = n by omega] at h2
  rw [h2, h1]
  have h3 : sumF (fun i => f ((p + i) % n)) (n - p) = sumF (fun i => f (p + i)) (n - p) := sumF_congr _ fun i hi => by rw [Nat.mod_eq_of_lt (by omega)]
  have h4 : sumF (fun i => f ((p + (n - p + i)) % n)) p = sumF f p := sumF_congr _ fun i hi => by
    rw [show p + (n - p + i) = i + n by omega, Nat.add_mod_right, Nat.mod_eq_of_lt (by omega)]
  rw [h3, h4]; omega
/-! ### durations -/
def durN (L : List SlotI) (j : Nat) : Int := match L[j]? with
  | some y => y.desc.duration
  | none => 0
theorem durN_at {L : List SlotI} {j : Nat} {y : SlotI} (h : L[j]? = some y) : durN L j = y.desc.duration := by unfold durN; rw [h]
theorem sumD_F (L : List SlotI) : ∀ (n : Nat), n ≤ L.length → sumD (L.take n) = sumF (durN L) n
  | 0, _ => rfl
  | n + 1, h => by
    have hx : L[n]? = some L[n] := List.getElem?_eq_getElem (by omega)
    rw [List.take_add_one, hx, sumD_app, sumD_F L n (by omega), sumF, durN_at hx]; simp [sumD]
section
variable {d : MedlD} {k : Nat} {x : Mode}
theorem dur_in (hW : WellF d) {mode : Int} {j : Nat} {y : SlotI} (hy : (ofMode mode d.ss)[j]? = some y) : 1 ≤ y.desc.duration ∧ y.desc.duration ≤ 1000 :=
  (slotI (isST_all hW.st y (ofMode_sub _ _ y (List.mem_of_getElem? hy)).1)).2.2
theorem mode_in (hW : WellF d) (hx : d.ms[k]? = some x) : (1 ≤ x.rounds ∧ x.rounds ≤ 8) ∧ 1 ≤ x.slots ∧ x.slots ≤ 16 := isMT_in hW.mt x (List.mem_of_getElem? hx)
/-- the cycle time is a sum -/
theorem cyc_F (hW : WellF d) (hx : d.ms[k]? = some x) : cyc d.ss k = sumF (durN (ofMode (k : Int) d.ss)) (x.rounds.toNat * x.slots.toNat) := by
  have h1 := ofMode_length hW.co hx
  unfold cyc
  rw [← h1, ← sumD_F _ _ (Nat.le_refl _), List.take_length]
theorem dur_per (hW : WellF d) (hx : d.ms[k]? = some x) {j : Nat} (hj : j < x.rounds.toNat * x.slots.toNat) : durN (ofMode (k : Int) d.ss) j = durN (ofMode (k : Int) d.ss) (j % x.slots.toNat) := by
  have hm := mode_in hW hx
  have hl := ofMode_length hW.co hx
  have hjm : j % x.slots.toNat ≤ j := Nat.mod_le _ _
  have e1 : (ofMode (k : Int) d.ss)[j]? = some ((ofMode (k : Int) d.ss)[j]'(by omega)) := List.getElem?_eq_getElem _
  have e2 : (ofMode (k : Int) d.ss)[j % x.slots.toNat]? = some ((ofMode (k : Int) d.ss)[j % x.slots.toNat]'(by omega)) := List.getElem?_eq_getElem _
  obtain ⟨a1, a2, a3, a4⟩ := ofMode_at hW.co hx e1
  obtain ⟨b1, b2, b3, b4⟩ := ofMode_at hW.co hx e2
  rw [Nat.mod_mod] at b3
  rw [durN_at e1, durN_at e2]
  have h1 := List.all_eq_true.1 (List.all_eq_true.1 hW.sd _ (ofMode_sub _ _ _ (List.mem_of_getElem? e1)).1) _ (ofMode_sub _ _ _ (List.mem_of_getElem? e2)).1
  simp only [durOk, Bool.or_eq_true, Bool.not_eq_true', Bool.and_eq_false_iff, decide_eq_false_iff_not, decide_eq_true_eq] at h1
  rcases h1 with (h1 | h1) | h1
  · rw [a1, b1] at h1; exact absurd rfl h1
  · rw [a3, b3] at h1; exact absurd rfl h1
  · exact h1
theorem cyc_round (hW : WellF d) (hx : d.ms[k]? = some x) : cyc d.ss k = x.rounds * (cyc d.ss k / x.rounds) ∧ 0 < cyc d.ss k ∧ cyc d.ss k ≤ 32000 := by
  have hm := mode_in hW hx
  have hl := ofMode_length hW.co hx
  have h1 := sumF_per (f := durN (ofMode (k : Int) d.ss)) (S := x.slots.toNat) (by omega) x.rounds.toNat (fun j hj => dur_per hW hx hj)
  have h0 := cyc_F hW hx
  rw [h1, Int.toNat_of_nonneg (by omega)] at h0
  have h2 := sumF_pos (f := durN (ofMode (k : Int) d.ss)) (x.rounds.toNat * x.slots.toNat) (fun i hi => by
    have e1 : (ofMode (k : Int) d.ss)[i]? = some ((ofMode (k : Int) d.ss)[i]'(by omega)) := List.getElem?_eq_getElem _
    rw [durN_at e1]; exact (dur_in hW e1).1)
  rw [← cyc_F hW hx] at h2
  have h3 : 1 * 1 ≤ x.rounds.toNat * x.slots.toNat := Nat.mul_le_mul (by omega) (by omega)
  refine ⟨?_, by omega, ?_⟩
  · generalize sumF (durN (ofMode (k : Int) d.ss)) x.slots.toNat = q at h0
    rw [h0, Int.mul_ediv_cancel_left _ (by omega)]
  · have h4 := List.all_eq_true.1 hW.sh k (List.mem_range.2 (List.getElem?_eq_some_iff.1 hx).1)
    simpa using h4
/-! ### states one after the other -/
def iterN (d : MedlD) : Nat → StateI → StateI
  | 0, s => s
  | n + 1, s => nextS d (iterN d n s)
theorem iterN_succ (d : MedlD) : ∀ (n : Nat) (s : StateI), iterN d (n + 1) s = iterN d n (nextS d s)
  | 0, s => rfl
  | n + 1, s => by rw [iterN, iterN_succ d n, iterN]
theorem iterS_at (d : MedlD) : ∀ (n j : Nat) (s : StateI), j < n → (iterS d n s)[j]? = some (iterN d j s)
  | 0, j, s, h => by omega
  | n + 1, 0, s, h => rfl
  | n + 1, j + 1, s, h => by rw [iterS, List.getElem?_cons_succ, iterS_at d n j (nextS d s) (by omega), iterN_succ]
theorem next_pos {R S q : Nat} (hS : 0 < S) (hq : q < R * S) : ((q + 1) % (R * S)) / S = (if q % S + 1 = S then (q / S + 1) % R else q / S) ∧ ((q + 1) % (R * S)) % S = (if q % S + 1 = S then 0 else q % S + 1) := by
  have h1 := Nat.div_add_mod q S
  have h2 := Nat.mod_lt q hS
  have h3 : q / S < R := Nat.div_lt_of_lt_mul (by rw [Nat.mul_comm]; exact hq)
  generalize q / S = a at *
  generalize q % S = b at *
  have h4 : S * (a + 1) ≤ S * R := Nat.mul_le_mul_left S h3
  rw [Nat.mul_add, Nat.mul_one] at h4
  rw [Nat.mul_comm R S] at *
  by_cases e : b + 1 = S
  · rw [if_pos e, if_pos e]
    have h5 : q + 1 = S * (a + 1) := by rw [Nat.mul_add, Nat.mul_one]; omega
    rw [h5, Nat.mul_mod_mul_left, Nat.mul_div_cancel_left _ hS, Nat.mul_mod_right]
    exact ⟨rfl, rfl⟩
  · rw [if_neg e, if_neg e, Nat.mod_eq_of_lt (by omega)]
    have h5 : q + 1 = (b + 1) + S * a := by omega
    rw [h5, Nat.add_mul_div_left _ _ hS, Nat.add_mul_mod_self_left, Nat.div_eq_of_lt (by omega), Nat.mod_eq_of_lt (by omega)]
    exact ⟨by omega, rfl⟩
theorem desc_at (hW : WellF d) (hx : d.ms[k]? = some x) {q : Nat} (hq : q < x.rounds.toNat * x.slots.toNat) :
    (descAt d.ss k ((q / x.slots.toNat : Nat) : Int) ((q % x.slots.toNat : Nat) : Int)).duration = durN (ofMode (k : Int) d.ss) q := by
  have hm := mode_in hW hx
  have hl := ofMode_length hW.co hx
  have hS : 0 < x.slots.toNat := by omega
  have h2 := Nat.mod_lt q hS
  have h3 : q / x.slots.toNat < x.rounds.toNat := Nat.div_lt_of_lt_mul (by rw [Nat.mul_comm]; exact hq)
  have h23 := Nat.div_add_mod q x.slots.toNat
  obtain ⟨a, ha⟩ : ∃ a, q / x.slots.toNat = a := ⟨_, rfl⟩
  obtain ⟨b, hb⟩ : ∃ b, q % x.slots.toNat = b := ⟨_, rfl⟩
  rw [ha, hb] at h23
  rw [ha] at h3 ⊢
  rw [hb] at h2 ⊢
  obtain ⟨j, y, h4, h5, h6, h7, h8, h9⟩ := slot_find hW.co hx (r := (a : Int)) (s := (b : Int)) (by omega) (by omega)
  rw [h9]
  have hy : y ∈ ofMode (k : Int) d.ss := List.mem_filter.2 ⟨List.mem_of_getElem? h5, by simpa using h6⟩
  obtain ⟨i, hi⟩ := List.mem_iff_getElem?.1 hy
  obtain ⟨a1, a2, a3, a4⟩ := ofMode_at hW.co hx hi
  have e1 : i / x.slots.toNat = a := Int.ofNat.inj (a2.symm.trans h7)
  have e2 : i % x.slots.toNat = b := Int.ofNat.inj (a3.symm.trans h8)
  have e : i = q := by rw [← h23, ← Nat.div_add_mod i x.slots.toNat, e1, e2]
  subst e
  exact (durN_at hi).symm
theorem iter_at (hW : WellF d) {s : StateI} (bl : Bel d s k x) (p : Nat) (hp : p = s.round.toNat * x.slots.toNat + s.slot.toNat) : ∀ (j : Nat),
    iterN d j s = ⟨(s.time + sumF (fun i => durN (ofMode (k : Int) d.ss) ((p + i) % (x.rounds.toNat * x.slots.toNat))) j) % 65536, s.mode, (((p + j) % (x.rounds.toNat * x.slots.toNat) / x.slots.toNat : Nat) : Int), (((p + j) % (x.rounds.toNat * x.slots.toNat) % x.slots.toNat : Nat) : Int), s.members⟩
  | 0 => by
    have hm := mode_in hW bl.at_
    have hst := stateOk_in bl.ok
    have h1 := bl.rd
    have h2 := bl.sl
    have h5 : (s.round.toNat + 1) * x.slots.toNat ≤ x.rounds.toNat * x.slots.toNat := Nat.mul_le_mul_right _ (by omega)
    rw [Nat.add_mul] at h5
    have e : p % (x.rounds.toNat * x.slots.toNat) = p := Nat.mod_eq_of_lt (by omega)
    have e1 : p / x.slots.toNat = s.round.toNat := by rw [hp, Nat.mul_comm, Nat.mul_add_div (by omega), Nat.div_eq_of_lt (by omega)]; rfl
    have e2 : p % x.slots.toNat = s.slot.toNat := by rw [hp, Nat.mul_comm, Nat.mul_add_mod, Nat.mod_eq_of_lt (by omega)]
    rw [Nat.add_zero, e, e1, e2, iterN, sumF, Int.add_zero, Int.emod_eq_of_lt (by omega) (by omega), Int.toNat_of_nonneg h1.1, Int.toNat_of_nonneg h2.1]
  | j + 1 => by
    have hm := mode_in hW bl.at_
    have hn : 1 * 1 ≤ x.rounds.toNat * x.slots.toNat := Nat.mul_le_mul (by omega) (by omega)
    have hq : (p + j) % (x.rounds.toNat * x.slots.toNat) < x.rounds.toNat * x.slots.toNat := Nat.mod_lt _ (by omega)
    have h3 := next_pos (R := x.rounds.toNat) (S := x.slots.toNat) (by omega) hq
    have h6 := of_get bl.at_
    have h7 := desc_at hW bl.at_ hq
    have h8 : (p + (j + 1)) % (x.rounds.toNat * x.slots.toNat) = ((p + j) % (x.rounds.toNat * x.slots.toNat) + 1) % (x.rounds.toNat * x.slots.toNat) := by rw [← Nat.add_assoc, Nat.mod_add_mod]
    rw [iterN, iter_at hW bl p hp j, sumF]
    unfold nextS
    simp only [bl.md, h6.1, h6.2.1, h7]
    rw [h8, h3.1, h3.2]
    generalize (p + j) % (x.rounds.toNat * x.slots.toNat) = q at *
    have h9 := Nat.mod_lt q (show 0 < x.slots.toNat by omega)
    unfold advS
    simp only
    by_cases e : q % x.slots.toNat + 1 = x.slots.toNat
    · rw [if_pos (show ((q % x.slots.toNat : Nat) : Int) + 1 = x.slots by omega), if_pos e, if_pos e]
      have h10 : ((((q / x.slots.toNat + 1) % x.rounds.toNat : Nat)) : Int) = (((q / x.slots.toNat : Nat) : Int) + 1) % x.rounds := by
        rw [Int.natCast_emod, Int.natCast_add, Int.toNat_of_nonneg (by omega)]; rfl
      rw [h10, Int.emod_add_emod, Int.add_assoc]; rfl
    · rw [if_neg (show ¬ ((q % x.slots.toNat : Nat) : Int) + 1 = x.slots by omega), if_neg e, if_neg e, Int.emod_add_emod, Int.add_assoc, Int.natCast_add]; rfl
/-- after as many slots as a cycle has -/
theorem iter_cycle (hW : WellF d) {s : StateI} (bl : Bel d s k x) : iterN d (x.rounds.toNat * x.slots.toNat) s = ⟨(s.time + cyc d.ss k) % 65536, s.mode, s.round, s.slot, s.members⟩ := by
  have hm := mode_in hW bl.at_
  have h1 := bl.rd
  have h2 := bl.sl
  have h5 : (s.round.toNat + 1) * x.slots.toNat ≤ x.rounds.toNat * x.slots.toNat := Nat.mul_le_mul_right _ (by omega)
  rw [Nat.add_mul] at h5
  obtain ⟨p, hp⟩ : ∃ p, p = s.round.toNat * x.slots.toNat + s.slot.toNat := ⟨_, rfl⟩
  have hpn : p < x.rounds.toNat * x.slots.toNat := by omega
  have e1 : p / x.slots.toNat = s.round.toNat := by rw [hp, Nat.mul_comm, Nat.mul_add_div (by omega), Nat.div_eq_of_lt (by omega)]; rfl
  have e2 : p % x.slots.toNat = s.slot.toNat := by rw [hp, Nat.mul_comm, Nat.mul_add_mod, Nat.mod_eq_of_lt (by omega)]
  rw [iter_at hW bl p hp, sumF_rot hpn, ← cyc_F hW bl.at_, Nat.add_mod_right, Nat.mod_eq_of_lt hpn, e1, e2, Int.toNat_of_nonneg h1.1, Int.toNat_of_nonneg h2.1]
end
theorem iter_bel {m : MedlI} {s : StateI} (hW : WellF m.d) (hB : belongsB m.d s = true) : ∀ (j : Nat), belongsB m.d (iterN m.d j s) = true
  | 0 => hB
  | j + 1 => by rw [iterN]; exact bel_next hW (iter_bel hW hB j)
theorem act_id {ns : List NodeI} {z : Int} (hN : isNT ns = true) (hz : 0 ≤ z ∧ z ≤ 31) (h : hasN (actV ns) z = true) : idIn ns z = true := by
  unfold hasN actV at h
  rw [vecF_bit] at h
  simp only [Nat.zero_testBit, Bool.false_or, List.any_eq_true, Bool.and_eq_true, decide_eq_true_eq] at h
  obtain ⟨x, hx, _, e⟩ := h
  exact List.any_eq_true.2 ⟨x, hx, by have := isNT_ids hN x hx; unfold hitN; exact decide_eq_true (by omega)⟩
/-! ### a time in a slot -/
theorem slot_time {m : MedlI} {s : StateI} {t : Int} (hW : WellF m.d) (hB : belongsB m.d s = true) (h1 : startD m.ss s.mode s.round s.slot ≤ t) (h2 : t < startD m.ss s.mode s.round s.slot + (descAt m.ss s.mode s.round s.slot).duration) :
    slotAtF m.d s.mode t = (s.round, s.slot, 0) := by
  obtain ⟨k, x, j, y, bl, hx, hxi, hj, hy, hda, hso, hro, hno, hyd⟩ := bel_get hW hB
  obtain ⟨g1, g2, g3⟩ := start_bel hW bl hxi.2
  have hl := ofMode_length hW.co bl.at_
  have r1 := bl.rd
  have r2 := bl.sl
  have h5 : (s.round.toNat + 1) * x.m.slots.toNat ≤ x.m.rounds.toNat * x.m.slots.toNat := Nat.mul_le_mul_right _ (by omega)
  rw [Nat.add_mul] at h5
  rw [bl.md] at g1 g2 h1 h2 hda
  obtain ⟨q, hq⟩ : ∃ q, q = s.round.toNat * x.m.slots.toNat + s.slot.toNat := ⟨_, rfl⟩
  rw [← hq] at g1 g2 g3
  have hqn : q < x.m.rounds.toNat * x.m.slots.toNat := by omega
  have e1 : q / x.m.slots.toNat = s.round.toNat := by rw [hq, Nat.mul_comm, Nat.mul_add_div (by omega), Nat.div_eq_of_lt (by omega)]; rfl
  have e2 : q % x.m.slots.toNat = s.slot.toNat := by rw [hq, Nat.mul_comm, Nat.mul_add_mod, Nat.mod_eq_of_lt (by omega)]
  have hda2 := desc_at hW bl.at_ hqn
  rw [e1, e2, Int.toNat_of_nonneg r1.1, Int.toNat_of_nonneg r2.1] at hda2
  obtain ⟨z, hz⟩ : ∃ z, (ofMode (k : Int) m.d.ss)[q]? = some z := ⟨_, List.getElem?_eq_getElem (by omega)⟩
  obtain ⟨z1, z2, z3, z4⟩ := ofMode_at hW.co bl.at_ hz
  rw [e1] at z2; rw [e2] at z3
  rw [durN_at hz] at hda2
  have hda3 : (descAt m.ss k s.round s.slot).duration = z.desc.duration := hda2
  have h0 := startD_in (isST_all hW.st) (k : Int) s.round s.slot
  have hmC : modeC m.d s.mode = 0 := modeC_zero.2 ⟨isMedl_iff.2 hW, inB_iff.2 (by have := (List.getElem?_eq_some_iff.1 bl.at_).1; have := bl.md; omega)⟩
  rw [slotAtF, if_pos hmC, bl.md]
  have ht0 : 0 ≤ t := by have : (0 : Int) ≤ startD m.ss k s.round s.slot := h0.1; omega
  rw [if_neg (show ¬ t < 0 by omega)]
  have hds : ∀ y ∈ ofMode (k : Int) m.d.ss, 0 ≤ y.desc.duration ∧ y.desc.duration ≤ 1000 := fun y hy => by
    obtain ⟨i, hi⟩ := List.mem_iff_getElem?.1 hy
    have := dur_in hW hi; omega
  have hfind : ∀ (L : List SlotI) (a : Int) (q : Nat) (z : SlotI), (∀ y ∈ L, 0 ≤ y.desc.duration) → L[q]? = some z → a + sumD (L.take q) ≤ t → t < a + sumD (L.take q) + z.desc.duration → atF t a L = some z := by
    intro L
    induction L with
    | nil => intro a q z _ h; simp at h
    | cons y r ih =>
      intro a q z hd h3 h4 h6
      cases q with
      | zero =>
        simp at h3; subst h3
        simp only [List.take_zero, sumD] at h4 h6
        rw [atF, if_pos (by omega)]
      | succ q =>
        rw [List.take_succ_cons, sumD] at h4 h6
        have h7 : ∀ (l : List SlotI), (∀ y ∈ l, 0 ≤ y.desc.duration) → 0 ≤ sumD l := fun l => by
          induction l with
          | nil => intro _; simp [sumD]
          | cons u l ih2 => intro hu; have := hu u (by simp); have := ih2 fun y hy => hu y (by simp [hy]); rw [sumD]; omega
        have h8 := h7 (r.take q) fun y hy => hd y (by simp [List.mem_of_mem_take hy])
        rw [atF, if_neg (by omega)]
        exact ih _ q z (fun y hy => hd y (by simp [hy])) (by simpa using h3) (by omega) (by omega)
  have e9 := hfind (ofMode (k : Int) m.ss) 0 q z (fun y hy => (hds y hy).1) hz (by rw [← g1]; omega) (by rw [← g1]; omega)
  rw [show m.d.ss = m.ss from rfl, e9]
  simp only
  rw [z2, z3, Int.toNat_of_nonneg r1.1, Int.toNat_of_nonneg r2.1]
/-- a sender's times have the start of its slot -/
theorem send_has {m : MedlI} {s : StateI} (hW : WellF m.d) (hB : belongsB m.d s = true) : (sendT m.d s.mode (descAt m.ss s.mode s.round s.slot).node).2 = 0 ∧ startD m.ss s.mode s.round s.slot ∈ (sendT m.d s.mode (descAt m.ss s.mode s.round s.slot).node).1 := by
  obtain ⟨k, x, j, y, bl, hx, hxi, hj, hy, hda, hso, hro, hno, hyd⟩ := bel_get hW hB
  obtain ⟨j', y', f1, f2, f3, f4, f5, f6⟩ := slot_find hW.co bl.at_ bl.rd bl.sl
  have hmC : modeC m.d s.mode = 0 := modeC_zero.2 ⟨isMedl_iff.2 hW, inB_iff.2 (by have := (List.getElem?_eq_some_iff.1 bl.at_).1; have := bl.md; omega)⟩
  rw [← bl.md] at f1 f3 f6
  have hid : idIn m.d.ns (descAt m.ss s.mode s.round s.slot).node = true := by
    show idIn m.d.ns (descAt m.d.ss s.mode s.round s.slot).node = true
    rw [f6]
    exact act_id hW.nt (slotI (isST_all hW.st y' (List.mem_of_getElem? f2))).2.1 (List.all_eq_true.1 hW.se y' (List.mem_of_getElem? f2))
  rw [sendT_0 hmC hid]
  refine ⟨rfl, ?_⟩
  show startD m.d.ss s.mode s.round s.slot ∈ sendS m.d.ss s.mode (descAt m.d.ss s.mode s.round s.slot).node m.d.ss
  rw [sendS_map, f6, ← f4, ← f5]
  refine List.mem_map.2 ⟨y', List.mem_filter.2 ⟨List.mem_filter.2 ⟨List.mem_of_getElem? f2, by simpa using f3⟩, by simp⟩, rfl⟩
/-! ### the times of all nodes -/
def sumL {α : Type} (f : α → Nat) : List α → Nat
  | [] => 0
  | x :: r => f x + sumL f r
theorem sumL_add {α : Type} (f g : α → Nat) : ∀ (l : List α), sumL (fun x => f x + g x) l = sumL f l + sumL g l
  | [] => rfl
  | x :: r => by rw [sumL, sumL, sumL, sumL_add f g r]; omega
theorem sumL_congr {α : Type} {f g : α → Nat} : ∀ (l : List α), (∀ x ∈ l, f x = g x) → sumL f l = sumL g l
  | [], _ => rfl
  | x :: r, h => by rw [sumL, sumL, h x (by simp), sumL_congr r fun y hy => h y (by simp [hy])]
theorem sumL_zero {α : Type} {f : α → Nat} : ∀ (l : List α), (∀ x ∈ l, f x = 0) → sumL f l = 0
  | [], _ => rfl
  | x :: r, h => by rw [sumL, h x (by simp), sumL_zero r fun y hy => h y (by simp [hy])]
theorem nt_rise : ∀ (l : List NodeI) (p : Option NodeI) (q : List NodeI), ntFrom p q l = true → l.Pairwise (fun a b => a.id < b.id) ∧ ∀ y, p = some y → ∀ x ∈ l, y.id < x.id
  | [], _, _, _ => ⟨List.Pairwise.nil, fun _ _ x hx => by simp at hx⟩
  | z :: r, p, q, h => by
    have h1 : ntFrom (some z) (q ++ [z]) r = true ∧ ∀ y, p = some y → y.id < z.id := by
      cases p <;> simp only [ntFrom, Bool.and_eq_true, decide_eq_true_eq] at h
      · exact ⟨h.2, fun y hy => by cases hy⟩
      · exact ⟨h.2, fun y hy => by injection hy with hy; subst hy; exact h.1.1.2⟩
    obtain ⟨h2, h3⟩ := nt_rise r _ _ h1.1
    refine ⟨List.pairwise_cons.2 ⟨h3 z rfl, h2⟩, fun y hy x hx => ?_⟩
    have h4 := h1.2 y hy
    rcases List.mem_cons.1 hx with rfl | hx
    · exact h4
    · have := h3 z rfl x hx; omega
theorem sumL_one {z : Int} : ∀ (ns : List NodeI), ns.Pairwise (fun a b => a.id < b.id) → idIn ns z = true → sumL (fun n => if z = n.id then 1 else 0) ns = 1
  | [], _, h => by simp [idIn] at h
  | x :: r, hp, h => by
    obtain ⟨h1, h2⟩ := List.pairwise_cons.1 hp
    rw [sumL]
    by_cases e : z = x.id
    · rw [if_pos e, sumL_zero r fun y hy => by have := h1 y hy; rw [if_neg (by omega)]]
    · rw [if_neg e, sumL_one r h2 (by
        simp only [idIn, List.any_cons, Bool.or_eq_true, hitN, decide_eq_true_eq] at h
        rcases h with h | h
        · exact absurd h.symm e
        · exact h)]
theorem sum_nodes {ns : List NodeI} (hp : ns.Pairwise (fun a b => a.id < b.id)) : ∀ (L : List SlotI), (∀ x ∈ L, idIn ns x.desc.node = true) → sumL (fun n => (L.filter fun x => decide (x.desc.node = n.id)).length) ns = L.length
  | [], _ => sumL_zero ns fun _ _ => rfl
  | x :: L, h => by
    have h1 : sumL (fun n => ((x :: L).filter fun x => decide (x.desc.node = n.id)).length) ns = sumL (fun n => (if x.desc.node = n.id then 1 else 0) + (L.filter fun x => decide (x.desc.node = n.id)).length) ns := sumL_congr ns fun n _ => by
      rw [List.filter_cons]
      by_cases e : x.desc.node = n.id
      · rw [if_pos (decide_eq_true e), if_pos e, List.length_cons]; omega
      · rw [if_neg (by simpa using e), if_neg e, Nat.zero_add]
    rw [h1, sumL_add, sumL_one ns hp (h x (by simp)), sum_nodes hp L fun y hy => h y (by simp [hy]), List.length_cons]; omega
theorem sends_all {m : MedlI} {mode : Int} (h : modeC m.d mode = 0) : (∀ x ∈ m.ns, (sendT m.d mode x.id).2 = 0) ∧ (sumL (fun x => (sendT m.d mode x.id).1.length) m.ns : Int) = roundsOf m.d mode * slotsOf m.d mode ∧ 1 ≤ roundsOf m.d mode * slotsOf m.d mode ∧ roundsOf m.d mode * slotsOf m.d mode ≤ 128 := by
  obtain ⟨h1, h2⟩ := modeC_zero.1 h
  have hW := isMedl_iff.1 h1
  obtain ⟨k, x, hk, hx⟩ := mode_get h2
  subst hk
  have hm := mode_in hW hx
  have hg := of_get hx
  have hid : ∀ x ∈ m.ns, idIn m.d.ns x.id = true := fun x hx => List.any_eq_true.2 ⟨x, hx, by simp [hitN]⟩
  refine ⟨fun x hx => by rw [sendT_0 h (hid x hx)], ?_, ?_⟩
  · have h3 : sumL (fun x => (sendT m.d k x.id).1.length) m.ns = sumL (fun n => ((ofMode (k : Int) m.d.ss).filter fun x => decide (x.desc.node = n.id)).length) m.ns := sumL_congr _ fun y hy => by
      rw [sendT_0 h (hid y hy)]
      show (sendS m.d.ss k y.id m.d.ss).length = _
      rw [sendS_map, List.length_map]
    have hnt := hW.nt
    simp only [isNT, Bool.and_eq_true] at hnt
    have h5 := sum_nodes (ns := m.ns) (nt_rise _ _ _ hnt.2).1 (ofMode (k : Int) m.d.ss) (fun y hy => by
      have h4 := (ofMode_sub _ _ y hy).1
      exact act_id hW.nt (slotI (isST_all hW.st y h4)).2.1 (List.all_eq_true.1 hW.se y h4))
    rw [h3, h5, ofMode_length hW.co hx, hg.1, hg.2.1, mulN hm.1.1 hm.2.1]
  · rw [hg.1, hg.2.1]; exact mulI hm.1 hm.2
end Go.Proofs.YtojgfbbdjobdnaaGreatDoor
