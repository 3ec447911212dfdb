/- Texts of the seat that a law needs, put together. No condition. -/
import Derived.Test.YtdoibplhbdkapaaGreatDoorCKP3
import Derived.Test.YtdoibplhbdkapaaGreatDoorCKP4
import Derived.Test.YtdoibplhbdkapaaGreatDoorCKP7
import Derived.Test.YtdoibplhbdkapaaGreatDoorCKP5
namespace Go.Proofs.YtdoibplhbdkapaaGreatDoor
open Go.RowKit
set_option linter.unusedVariables false
set_option linter.unusedSimpArgs false

def SlotI.key (x : SlotI) : Int × Int × Int := (x.mode, x.round, x.slot)
def keyS (mode : Int) (r n : Nat) : List (Int × Int × Int) := (List.range n).map fun (s : Nat) => (mode, (r : Int), (s : Int))
def keyM (mode : Int) (x : Mode) : List (Int × Int × Int) := (List.range x.rounds.toNat).flatMap fun r => keyS mode r x.slots.toNat
def keysM (i : Int) : List Mode → List (Int × Int × Int)
  | [] => []
  | x :: r => keyM i x ++ keysM (i + 1) r
def complete (d : MedlD) : Bool := decide (d.ss.map SlotI.key = keysM 0 d.ms)
def hitK (ss : List SlotI) (k : Int × Int × Int) : Bool := decide (0 ≤ findS (hitS k.1 k.2.1 k.2.2) 0 ss)
def completeS (ss : List SlotI) (keys : List (Int × Int × Int)) (n : Int) : Bool := keys.all (hitK ss) && decide (n + keys.length = ss.length)

theorem range_drop {n k : Nat} (h : k < n) : (List.range n).drop k = k :: (List.range n).drop (k + 1) := by
  rw [List.drop_eq_getElem_cons (by simpa using h)]; simp
theorem range_end {n k : Nat} (h : n ≤ k) : (List.range n).drop k = [] := List.drop_eq_nil_of_le (by simpa using h)
theorem flatMap_get {β : Type} {f : Nat → List β} {s : Nat} (hf : ∀ r, (f r).length = s) : ∀ (n i j : Nat), i < n → j < s → ((List.range n).flatMap f)[i * s + j]? = (f i)[j]? := by
  intro n
  induction n with
  | zero => intro i j h; omega
  | succ n ih =>
    intro i j hi hj
    have hl : ((List.range n).flatMap f).length = n * s := by
      clear ih hi hj i j
      induction n with
      | zero => simp
      | succ n ih => rw [List.range_succ, List.flatMap_append, List.length_append, ih]; simp [hf, Nat.add_mul]
    rw [List.range_succ, List.flatMap_append]
    by_cases h : i < n
    · have h2 : i * s + j < n * s := by
        have : (i + 1) * s ≤ n * s := Nat.mul_le_mul_right _ h
        rw [Nat.add_mul] at this; omega
      rw [List.getElem?_append_left (by rw [hl]; exact h2), ih i j h hj]
    · have e : i = n := by omega
      subst e
      rw [List.getElem?_append_right (by rw [hl]; omega), hl, show i * s + j - i * s = j by omega]; simp
theorem keyS_len (mode : Int) (r n : Nat) : (keyS mode r n).length = n := by simp [keyS]
theorem keyM_len (mode : Int) (x : Mode) : (keyM mode x).length = x.rounds.toNat * x.slots.toNat := by
  unfold keyM
  generalize x.rounds.toNat = n
  induction n with
  | zero => simp
  | succ n ih => rw [List.range_succ, List.flatMap_append, List.length_append, ih]; simp [keyS_len, Nat.add_mul]
theorem keyM_at {mode : Int} {x : Mode} {i : Nat} (h : i < x.rounds.toNat * x.slots.toNat) : (keyM mode x)[i]? = some (mode, ((i / x.slots.toNat : Nat) : Int), ((i % x.slots.toNat : Nat) : Int)) := by
  have hs : 0 < x.slots.toNat := by
    rcases Nat.eq_zero_or_pos x.slots.toNat with h1 | h1
    · rw [h1] at h; simp at h
    · exact h1
  have h1 := flatMap_get (f := fun r => keyS mode r x.slots.toNat) (fun r => keyS_len mode r _) x.rounds.toNat (i / x.slots.toNat) (i % x.slots.toNat) ((Nat.div_lt_iff_lt_mul hs).2 h) (Nat.mod_lt _ hs)
  rw [Nat.mul_comm, Nat.div_add_mod] at h1
  unfold keyM
  rw [h1]
  simp [keyS, List.getElem?_range (Nat.mod_lt _ hs)]
theorem keyM_drop {mode : Int} {x : Mode} {i : Nat} (h : i < x.rounds.toNat * x.slots.toNat) : (keyM mode x).drop i = (mode, ((i / x.slots.toNat : Nat) : Int), ((i % x.slots.toNat : Nat) : Int)) :: (keyM mode x).drop (i + 1) := by
  have h1 := keyM_at (mode := mode) h
  obtain ⟨h2, h3⟩ := List.getElem?_eq_some_iff.1 h1
  rw [List.drop_eq_getElem_cons h2, h3]
theorem cmpS_key {a b : SlotI} : cmpS a b = 0 ↔ a.key = b.key := by
  simp only [cmpS, cmpI, SlotI.key, Prod.mk.injEq]
  constructor
  · intro h
    repeat' split at h
    all_goals first | (exfalso; omega) | skip
    all_goals (refine ⟨by omega, by omega, by omega⟩)
  · rintro ⟨h1, h2, h3⟩
    simp [h1, h2, h3]
/-- a number that orders as entries do, where all is in range -/
def codeK (k : Int × Int × Int) : Int := k.1 * 256 + k.2.1 * 16 + k.2.2
def inK (k : Int × Int × Int) : Prop := (0 ≤ k.1 ∧ k.1 ≤ 15) ∧ (0 ≤ k.2.1 ∧ k.2.1 ≤ 7) ∧ (0 ≤ k.2.2 ∧ k.2.2 ≤ 15)
theorem codeK_inj {a b : Int × Int × Int} (ha : inK a) (hb : inK b) (h : codeK a = codeK b) : a = b := by
  obtain ⟨a1, a2, a3⟩ := a; obtain ⟨b1, b2, b3⟩ := b
  simp only [inK, codeK] at ha hb h
  simp only [Prod.mk.injEq]
  omega
theorem slotOk_key {x : SlotI} (h : slotOk x = true) : inK x.key := by
  simp only [slotOk, Bool.and_eq_true] at h
  exact ⟨inB_iff.1 h.1.1.1, inB_iff.1 h.1.1.2, inB_iff.1 h.1.2⟩
theorem cmpS_code {a b : SlotI} (ha : inK a.key) (hb : inK b.key) (h : cmpS a b < 0) : codeK a.key < codeK b.key := by
  simp only [cmpS, cmpI, SlotI.key, inK, codeK] at *
  repeat' split at h
  all_goals omega
theorem okFrom_sorted : ∀ (l : List SlotI) (p : Option SlotI), okFrom p l = true → (l.map fun x => codeK x.key).Pairwise (· < ·) ∧ (∀ y, p = some y → slotOk y = true → ∀ x ∈ l, codeK y.key < codeK x.key)
  | [], _, _ => ⟨List.Pairwise.nil, fun _ _ _ x hx => by simp at hx⟩
  | x :: r, p, h => by
    have h1 : slotOk x = true ∧ okFrom (some x) r = true := by
      cases p <;> simp only [okFrom, Bool.and_eq_true] at h
      · exact h
      · exact ⟨h.1.1, h.2⟩
    obtain ⟨h2, h3⟩ := okFrom_sorted r _ h1.2
    have h4 := h3 x rfl h1.1
    refine ⟨List.Pairwise.cons (fun c hc => ?_) h2, fun y hp hy z hz => ?_⟩
    · obtain ⟨z, hz, rfl⟩ := List.mem_map.1 hc
      exact h4 z hz
    · subst hp
      simp only [okFrom, Bool.and_eq_true, decide_eq_true_eq] at h
      have h5 := cmpS_code (slotOk_key hy) (slotOk_key h1.1) h.1.2
      rcases List.mem_cons.1 hz with rfl | hz
      · exact h5
      · have := h4 z hz; omega
theorem sub_sorted : ∀ (k l : List Int), k.Pairwise (· < ·) → l.Pairwise (· < ·) → (∀ x ∈ k, x ∈ l) → k.Sublist l
  | [], l, _, _, _ => List.nil_sublist l
  | x :: k, [], _, _, h => by have := h x (by simp); simp at this
  | x :: k, y :: l, hk, hl, h => by
    by_cases e : x = y
    · subst e
      refine List.Sublist.cons_cons _ (sub_sorted k l (List.Pairwise.of_cons hk) (List.Pairwise.of_cons hl) fun z hz => ?_)
      have h1 := h z (by simp [hz])
      have h2 := List.rel_of_pairwise_cons hk hz
      rcases List.mem_cons.1 h1 with h3 | h3
      · omega
      · exact h3
    · refine List.Sublist.cons _ (sub_sorted (x :: k) l hk (List.Pairwise.of_cons hl) fun z hz => ?_)
      have hx : x ∈ l := by
        rcases List.mem_cons.1 (h x (by simp)) with h3 | h3
        · exact absurd h3 e
        · exact h3
      have hxy := List.rel_of_pairwise_cons hl hx
      rcases List.mem_cons.1 (h z hz) with h3 | h3
      · rcases List.mem_cons.1 hz with h4 | h4
        · omega
        · have := List.rel_of_pairwise_cons hk h4; omega
      · exact h3
  termination_by k l => k.length + l.length
theorem mem_keyM {k : Int × Int × Int} {i : Int} {x : Mode} : k ∈ keyM i x ↔ k.1 = i ∧ (0 ≤ k.2.1 ∧ k.2.1 < x.rounds) ∧ (0 ≤ k.2.2 ∧ k.2.2 < x.slots) := by
  obtain ⟨a, b, c⟩ := k
  simp only [keyM, keyS, List.mem_flatMap, List.mem_map, List.mem_range, Prod.mk.injEq]
  constructor
  · rintro ⟨r, hr, s, hs, h1, h2, h3⟩; omega
  · rintro ⟨h1, h2, h3⟩; exact ⟨b.toNat, by omega, c.toNat, by omega, by omega, by omega, by omega⟩
theorem mem_keysM {k : Int × Int × Int} : ∀ (ms : List Mode) (i : Int), k ∈ keysM i ms ↔ ∃ (j : Nat) (x : Mode), ms[j]? = some x ∧ k ∈ keyM (i + j) x
  | [], i => by simp [keysM]
  | x :: r, i => by
    rw [keysM, List.mem_append, mem_keysM r (i + 1)]
    constructor
    · rintro (h | ⟨j, y, h1, h2⟩)
      · exact ⟨0, x, rfl, by simpa using h⟩
      · exact ⟨j + 1, y, by simpa using h1, by rwa [show i + ((j + 1 : Nat) : Int) = i + 1 + j by omega]⟩
    · rintro ⟨j, y, h1, h2⟩
      cases j with
      | zero => simp at h1; subst h1; exact .inl (by simpa using h2)
      | succ j => exact .inr ⟨j, y, by simpa using h1, by rwa [show i + 1 + (j : Int) = i + ((j + 1 : Nat) : Int) by omega]⟩
theorem keyS_sorted (i : Int) (r n : Nat) : ((keyS i r n).map codeK).Pairwise (· < ·) := by
  unfold keyS
  rw [List.map_map, List.pairwise_map]
  refine List.Pairwise.imp ?_ List.pairwise_lt_range
  intro a b h
  simp only [Function.comp, codeK]; omega
theorem keyM_sorted (i : Int) (x : Mode) (hs : x.slots ≤ 16) : ((keyM i x).map codeK).Pairwise (· < ·) := by
  unfold keyM
  generalize x.rounds.toNat = n
  induction n with
  | zero => simp
  | succ n ih =>
    rw [List.range_succ, List.flatMap_append, List.map_append, List.pairwise_append]
    refine ⟨ih, by simpa using keyS_sorted i n x.slots.toNat, ?_⟩
    intro a ha b hb
    simp only [List.mem_map, List.mem_flatMap, List.mem_range, keyS, List.flatMap_cons, List.flatMap_nil, List.append_nil] at ha hb
    obtain ⟨_, ⟨r, hr, s, hs1, rfl⟩, rfl⟩ := ha
    obtain ⟨_, ⟨t, ht, rfl⟩, rfl⟩ := hb
    simp only [codeK]; omega
theorem keysM_sorted : ∀ (ms : List Mode) (i : Int), (∀ x ∈ ms, x.rounds ≤ 8 ∧ x.slots ≤ 16) → ((keysM i ms).map codeK).Pairwise (· < ·)
  | [], _, _ => by simp [keysM]
  | x :: r, i, h => by
    rw [keysM, List.map_append, List.pairwise_append]
    refine ⟨keyM_sorted i x (h x (by simp)).2, keysM_sorted r (i + 1) (fun y hy => h y (by simp [hy])), ?_⟩
    intro a ha b hb
    obtain ⟨ka, h1, rfl⟩ := List.mem_map.1 ha
    obtain ⟨kb, h2, rfl⟩ := List.mem_map.1 hb
    have h3 := mem_keyM.1 h1
    obtain ⟨j, y, hy, h4⟩ := (mem_keysM r (i + 1)).1 h2
    have h5 := mem_keyM.1 h4
    have h6 := h x (by simp)
    have h7 := h y (by have := List.mem_of_getElem? hy; simp [this])
    simp only [codeK]; omega
theorem isMT_in {ms : List Mode} (h : isMT ms = true) : ∀ x ∈ ms, (1 ≤ x.rounds ∧ x.rounds ≤ 8) ∧ (1 ≤ x.slots ∧ x.slots ≤ 16) := fun x hx => by
  obtain ⟨k, hk⟩ := List.mem_iff_getElem?.1 hx
  have := modeOk_in (isMT_at h hk)
  exact ⟨this.1, this.2.1⟩
theorem keysM_in {ms : List Mode} (h : isMT ms = true) : ∀ k ∈ keysM 0 ms, inK k := fun k hk => by
  obtain ⟨j, y, hy, h4⟩ := (mem_keysM ms 0).1 hk
  have h5 := mem_keyM.1 h4
  have h6 := isMT_in h y (List.mem_of_getElem? hy)
  have h7 := isMT_len h
  have h8 : j < ms.length := (List.getElem?_eq_some_iff.1 hy).1
  refine ⟨by omega, by omega, by omega⟩
theorem hitS_key {k : Int × Int × Int} {x : SlotI} : hitS k.1 k.2.1 k.2.2 x = true ↔ x.key = k := by
  obtain ⟨a, b, c⟩ := k
  simp [hitS, SlotI.key, Prod.mk.injEq, and_assoc]
theorem findS_none {f : SlotI → Bool} : ∀ (l : List SlotI) (k : Nat), findS f k l < 0 ↔ ∀ x ∈ l, f x = false
  | [], k => by simp [findS]
  | x :: r, k => by
    rw [findS]
    split
    · rename_i h
      constructor
      · intro h1; omega
      · intro h1; have := h1 x (by simp); rw [h] at this; cases this
    · rename_i h
      have := findS_none (f := f) r (k + 1)
      rw [show ((k : Int) + 1) = ((k + 1 : Nat) : Int) by omega, this]
      simp [h]
theorem hitK_iff {ss : List SlotI} {k : Int × Int × Int} : hitK ss k = true ↔ ∃ x ∈ ss, x.key = k := by
  have h := findS_none (f := hitS k.1 k.2.1 k.2.2) ss 0
  simp only [hitK, decide_eq_true_eq]
  rw [show ((0 : Nat) : Int) = 0 from rfl] at h
  constructor
  · intro h1
    refine Classical.byContradiction fun hc => ?_
    have : findS (hitS k.1 k.2.1 k.2.2) 0 ss < 0 := h.2 fun x hx => by
      cases e : hitS k.1 k.2.1 k.2.2 x
      · rfl
      · exact absurd ⟨x, hx, hitS_key.1 e⟩ hc
    omega
  · rintro ⟨x, hx, hk⟩
    refine Int.not_lt.1 fun h1 => ?_
    have := h.1 h1 x hx
    rw [hitS_key.2 hk] at this; cases this
theorem map_code : ∀ (a b : List (Int × Int × Int)), (∀ k ∈ a, inK k) → (∀ k ∈ b, inK k) → a.map codeK = b.map codeK → a = b
  | [], b, _, _, h => by cases b <;> simp_all
  | x :: a, [], _, _, h => by simp at h
  | x :: a, y :: b, h1, h2, h => by
    simp only [List.map_cons, List.cons.injEq] at h
    rw [codeK_inj (h1 x (by simp)) (h2 y (by simp)) h.1, map_code a b (fun k hk => h1 k (by simp [hk])) (fun k hk => h2 k (by simp [hk])) h.2]
theorem complete_eq {d : MedlD} (hm : isMT d.ms = true) (hs : isST d.ss = true) : completeS d.ss (keysM 0 d.ms) 0 = complete d := by
  have hs1 : okFrom none d.ss = true := by simp only [isST, Bool.and_eq_true] at hs; exact hs.1
  have hsort := (okFrom_sorted d.ss none hs1).1
  have hk := keysM_sorted d.ms 0 (fun x hx => ⟨(isMT_in hm x hx).1.2, (isMT_in hm x hx).2.2⟩)
  rw [Bool.eq_iff_iff]
  simp only [completeS, complete, Bool.and_eq_true, List.all_eq_true, decide_eq_true_eq]
  constructor
  · rintro ⟨h1, h2⟩
    have hsub : ((keysM 0 d.ms).map codeK).Sublist (d.ss.map fun x => codeK x.key) := by
      refine sub_sorted _ _ hk hsort fun c hc => ?_
      obtain ⟨k, hk1, rfl⟩ := List.mem_map.1 hc
      obtain ⟨x, hx, hxk⟩ := hitK_iff.1 (h1 k hk1)
      exact List.mem_map.2 ⟨x, hx, by rw [hxk]⟩
    have heq := hsub.eq_of_length (by simp; omega)
    have h3 : (d.ss.map SlotI.key).map codeK = (keysM 0 d.ms).map codeK := by rw [heq, List.map_map]; rfl
    have hin1 : ∀ k ∈ d.ss.map SlotI.key, inK k := fun k hk1 => by
      obtain ⟨x, hx, rfl⟩ := List.mem_map.1 hk1
      exact slotOk_key (okFrom_all _ _ hs1 x hx)
    have hin2 := keysM_in hm
    generalize d.ss.map SlotI.key = a at h3 hin1
    generalize keysM 0 d.ms = b at h3 hin2
    exact map_code a b hin1 hin2 h3
  · intro h
    refine ⟨fun k hk1 => ?_, by rw [← h]; simp⟩
    rw [← h] at hk1
    obtain ⟨x, hx, hxk⟩ := List.mem_map.1 hk1
    exact hitK_iff.2 ⟨x, hx, hxk⟩

def durOk (x y : SlotI) : Bool := !(decide (x.mode = y.mode) && decide (x.slot = y.slot)) || decide (x.desc.duration = y.desc.duration)
def steady (ss : List SlotI) : Bool := ss.all fun x => ss.all fun y => durOk x y
def durS : List SlotI → List SlotI → Bool
  | _, [] => true
  | q, x :: r => q.all (durOk x) && durS (q ++ [x]) r
def firstS (ss : List SlotI) (x : SlotI) : Bool := match ss[(findS (hitS x.mode 0 x.slot) 0 ss).toNat]? with
  | some y => decide (x.desc.duration = y.desc.duration)
  | none => false
def steadyI (ss : List SlotI) : Bool := ss.all (firstS ss)
theorem durOk_symm (x y : SlotI) : durOk x y = durOk y x := by
  rw [Bool.eq_iff_iff]
  simp only [durOk, Bool.or_eq_true, Bool.not_eq_true', Bool.and_eq_false_iff, decide_eq_true_eq, decide_eq_false_iff_not]
  constructor <;> (intro h; omega)
theorem durOk_refl (x : SlotI) : durOk x x = true := by simp [durOk]
theorem durS_iff : ∀ (r q : List SlotI), (∀ x ∈ q, ∀ y ∈ q, durOk x y = true) → (durS q r = true ↔ ∀ x ∈ q ++ r, ∀ y ∈ q ++ r, durOk x y = true)
  | [], q, hq => by simp only [durS, List.append_nil, true_iff]; exact hq
  | x :: r, q, hq => by
    simp only [durS, Bool.and_eq_true, List.all_eq_true]
    constructor
    · rintro ⟨h1, h2⟩
      have h3 : ∀ a ∈ q ++ [x], ∀ b ∈ q ++ [x], durOk a b = true := by
        intro a ha b hb
        rcases List.mem_append.1 ha with ha | ha <;> rcases List.mem_append.1 hb with hb | hb
        · exact hq a ha b hb
        · have e : b = x := by simpa using hb
          rw [e, durOk_symm]; exact h1 a ha
        · have e : a = x := by simpa using ha
          rw [e]; exact h1 b hb
        · have e : a = x := by simpa using ha
          have e2 : b = x := by simpa using hb
          rw [e, e2]; exact durOk_refl _
      have := (durS_iff r (q ++ [x]) h3).1 h2
      simpa using this
    · intro h
      refine ⟨fun y hy => h x (by simp) y (by simp [hy]), ?_⟩
      have h3 : ∀ a ∈ q ++ [x], ∀ b ∈ q ++ [x], durOk a b = true := fun a ha b hb => h a (by simp at ha ⊢; rcases ha with ha | ha <;> simp [ha]) b (by simp at hb ⊢; rcases hb with hb | hb <;> simp [hb])
      exact (durS_iff r (q ++ [x]) h3).2 (by simpa using h)
theorem durS_eq (ss : List SlotI) : durS [] ss = steady ss := by
  rw [Bool.eq_iff_iff, durS_iff ss [] (by simp)]
  simp [steady, List.all_eq_true]
theorem first_at {d : MedlD} (hm : isMT d.ms = true) (hc : complete d = true) {x : SlotI} (hx : x ∈ d.ss) : ∃ (j : Nat) (y : SlotI), findS (hitS x.mode 0 x.slot) 0 d.ss = (j : Int) ∧ d.ss[j]? = some y ∧ y.mode = x.mode ∧ y.slot = x.slot := by
  simp only [complete, decide_eq_true_eq] at hc
  have h1 : x.key ∈ keysM 0 d.ms := by rw [← hc]; exact List.mem_map.2 ⟨x, hx, rfl⟩
  obtain ⟨j, m, hj, h2⟩ := (mem_keysM d.ms 0).1 h1
  have h3 := mem_keyM.1 h2
  have h4 := isMT_in hm m (List.mem_of_getElem? hj)
  have h5 : ((x.mode, 0, x.slot) : Int × Int × Int) ∈ keysM 0 d.ms := (mem_keysM d.ms 0).2 ⟨j, m, hj, mem_keyM.2 ⟨h3.1, by simp only; omega, h3.2.2⟩⟩
  rw [← hc] at h5
  have h6 := hitK_iff.2 (List.mem_map.1 h5)
  simp only [hitK, decide_eq_true_eq] at h6
  rcases findS_lt (f := hitS x.mode 0 x.slot) d.ss 0 with h7 | ⟨i, y, h7, h8, h9⟩
  · rw [show ((0 : Nat) : Int) = 0 from rfl] at h7; omega
  · have h10 := (hitS_key (k := (x.mode, 0, x.slot))).1 h9
    simp only [SlotI.key, Prod.mk.injEq] at h10
    exact ⟨i, y, by rw [show ((0 : Nat) : Int) = 0 from rfl] at h7; rw [h7]; congr 1; omega, h8, h10.1, h10.2.2⟩
theorem steadyI_eq {d : MedlD} (hm : isMT d.ms = true) (hc : complete d = true) : steadyI d.ss = steady d.ss := by
  rw [Bool.eq_iff_iff]
  simp only [steadyI, steady, List.all_eq_true]
  constructor
  · intro h x hx y hy
    obtain ⟨i, a, h1, h2, h3, h4⟩ := first_at hm hc hx
    obtain ⟨j, b, h5, h6, h7, h8⟩ := first_at hm hc hy
    have h9 := h x hx; have h10 := h y hy
    simp only [firstS, h1, Int.toNat_natCast, h2, decide_eq_true_eq] at h9
    simp only [firstS, h5, Int.toNat_natCast, h6, decide_eq_true_eq] at h10
    simp only [durOk, Bool.or_eq_true, Bool.not_eq_true', Bool.and_eq_false_iff, decide_eq_true_eq, decide_eq_false_iff_not]
    by_cases e1 : x.mode = y.mode
    · by_cases e2 : x.slot = y.slot
      · right
        rw [e1, e2, h5] at h1
        have : j = i := by omega
        subst this
        rw [h6] at h2; injection h2 with h2; subst h2
        omega
      · left; right; exact e2
    · left; left; exact e1
  · intro h x hx
    obtain ⟨i, a, h1, h2, h3, h4⟩ := first_at hm hc hx
    have h5 := h x hx a (List.mem_of_getElem? h2)
    simp only [firstS, h1, Int.toNat_natCast, h2, decide_eq_true_eq]
    simp only [durOk, Bool.or_eq_true, Bool.not_eq_true', Bool.and_eq_false_iff, decide_eq_true_eq, decide_eq_false_iff_not] at h5
    omega

def sumD : List SlotI → Int
  | [] => 0
  | x :: r => x.desc.duration + sumD r
def ofMode (mode : Int) (ss : List SlotI) : List SlotI := ss.filter fun x => decide (x.mode = mode)
def cyc (ss : List SlotI) (mode : Int) : Int := sumD (ofMode mode ss)
theorem ofMode_cons_t {mode : Int} {x : SlotI} {r : List SlotI} (h : x.mode = mode) : ofMode mode (x :: r) = x :: ofMode mode r := by simp [ofMode, h]
theorem ofMode_cons_f {mode : Int} {x : SlotI} {r : List SlotI} (h : ¬ x.mode = mode) : ofMode mode (x :: r) = ofMode mode r := by simp [ofMode, h]
theorem ofMode_sub (mode : Int) (ss : List SlotI) : ∀ x ∈ ofMode mode ss, x ∈ ss ∧ x.mode = mode := fun x hx => by
  have := List.mem_filter.1 hx; simpa using this
theorem ofMode_len (mode : Int) (ss : List SlotI) : (ofMode mode ss).length ≤ ss.length := List.length_filter_le _ _
def shortB (d : MedlD) : Bool := (List.range d.ms.length).all fun (i : Nat) => decide (cyc d.ss i ≤ 32000)

def sendersB (d : MedlD) : Bool := d.ss.all fun x => hasN (actV d.ns) x.desc.node
def sndV (ss : List SlotI) (mode round : Int) : Nat := vecF (fun x => decide (x.mode = mode) && decide (x.round = round)) (fun x => x.desc.node) 0 ss
def servS (act : Nat) (ss : List SlotI) (i : Int) : List Mode → Bool
  | [] => true
  | x :: r => ((List.range x.rounds.toNat).all fun (k : Nat) => decide (sndV ss i k = act)) && servS act ss (i + 1) r
def servI (act : Nat) (ss : List SlotI) (i : Int) : List Mode → Bool
  | [] => true
  | x :: r => ((List.range x.rounds.toNat).all fun (k : Nat) => decide (lackN act (sndV ss i k) = 0)) && servI act ss (i + 1) r
theorem snd_sub {act : Nat} {ss : List SlotI} {m r : Int} (h : (ss.all fun x => hasN act x.desc.node) = true) (i : Nat) (hi : (sndV ss m r).testBit i = true) : act.testBit i = true := by
  unfold sndV at hi
  rw [vecF_bit] at hi
  simp only [Nat.zero_testBit, Bool.false_or, List.any_eq_true, Bool.and_eq_true, decide_eq_true_eq] at hi
  obtain ⟨x, hx, _, e⟩ := hi
  have := List.all_eq_true.1 h x hx
  rw [e]; exact this
theorem serv_eq {act : Nat} {ss : List SlotI} (h : (ss.all fun x => hasN act x.desc.node) = true) : ∀ (ms : List Mode) (i : Int), servI act ss i ms = servS act ss i ms
  | [], i => rfl
  | x :: r, i => by
    rw [servI, servS, serv_eq h r (i + 1)]
    congr 1
    congr 1
    funext k
    rw [Bool.eq_iff_iff, decide_eq_true_eq, decide_eq_true_eq, lack_zero]
    constructor
    · intro h1
      apply Nat.eq_of_testBit_eq
      intro j
      rw [Bool.eq_iff_iff]
      exact ⟨snd_sub h j, h1 j⟩
    · intro h1 j hj
      rw [h1]; exact hj
def coldB (ss : List SlotI) : Bool := ss.any fun x => decide (x.desc.kind = 3) && decide (x.mode ≠ 0)

def ffault (d : MedlD) : Int :=
  if inB d.id 1 16777215 = false then 1
  else if isNT d.ns = false then 2
  else if isMT d.ms = false then 3
  else if isST d.ss = false then 4
  else if complete d = false then 5
  else if sendersB d = false then 6
  else if steady d.ss = false then 7
  else if shortB d = false then 8
  else if servS (actV d.ns) d.ss 0 d.ms = false then 9
  else if coldB d.ss = true then 10 else 0

theorem mulI {a b : Int} (h1 : 1 ≤ a ∧ a ≤ 8) (h2 : 1 ≤ b ∧ b ≤ 16) : 1 ≤ a * b ∧ a * b ≤ 128 := by
  have h3 : 1 * 1 ≤ a * b := Int.mul_le_mul h1.1 h2.1 (by omega) (by omega)
  have h4 : a * b ≤ 8 * 16 := Int.mul_le_mul h1.2 h2.2 (by omega) (by omega)
  omega
theorem mulN {a b : Int} (h1 : 1 ≤ a) (h2 : 1 ≤ b) : ((a.toNat * b.toNat : Nat) : Int) = a * b := by
  rw [Int.natCast_mul, Int.toNat_of_nonneg (by omega), Int.toNat_of_nonneg (by omega)]
theorem keyM_drop' {mode : Int} {x : Mode} {i : Nat} (h1 : 1 ≤ x.rounds) (h2 : 1 ≤ x.slots) (h : (i : Int) < x.rounds * x.slots) : (keyM mode x).drop i = (mode, (i : Int) / x.slots, (i : Int) % x.slots) :: (keyM mode x).drop (i + 1) := by
  have h3 := mulN h1 h2
  rw [keyM_drop (by omega), Int.natCast_ediv, Int.natCast_emod, Int.toNat_of_nonneg (by omega)]
theorem keyM_end {mode : Int} {x : Mode} {i : Nat} (h1 : 1 ≤ x.rounds) (h2 : 1 ≤ x.slots) (h : ¬ (i : Int) < x.rounds * x.slots) : (keyM mode x).drop i = [] := by
  have h3 := mulN h1 h2
  exact List.drop_eq_nil_of_le (by rw [keyM_len]; omega)
theorem comp_cons {a b : Int × Int × Int} {l1 l2 : List (Int × Int × Int)} (h : a = b) : decide (a :: l1 = b :: l2) = decide (l1 = l2) := by subst h; simp
theorem comp_ne {a b : Int × Int × Int} {l1 l2 : List (Int × Int × Int)} (h : a ≠ b) : decide (a :: l1 = b :: l2) = false := by simp [h]
theorem completeS_t {ss : List SlotI} {k : Int × Int × Int} {keys : List (Int × Int × Int)} {n : Int} (h : ¬ findS (hitS k.1 k.2.1 k.2.2) 0 ss < 0) : completeS ss (k :: keys) n = completeS ss keys (n + 1) := by
  have h1 : hitK ss k = true := decide_eq_true (by omega)
  have e : n + ((keys.length + 1 : Nat) : Int) = n + 1 + keys.length := by omega
  simp only [completeS, List.all_cons, h1, Bool.true_and, List.length_cons, e]
theorem completeS_f {ss : List SlotI} {k : Int × Int × Int} {keys : List (Int × Int × Int)} {n : Int} (h : findS (hitS k.1 k.2.1 k.2.2) 0 ss < 0) : completeS ss (k :: keys) n = false := by
  have h1 : hitK ss k = false := decide_eq_false (by omega)
  simp only [completeS, List.all_cons, h1, Bool.false_and]
theorem completeS_nil {ss : List SlotI} {n : Int} : completeS ss [] n = decide (n = ss.length) := by simp [completeS]
theorem keyS_step {k : Int} {r n s : Nat} (h : s < n) : (keyS k r n).drop s = (k, (r : Int), (s : Int)) :: (keyS k r n).drop (s + 1) := by
  unfold keyS
  rw [← List.map_drop, ← List.map_drop, range_drop h]; rfl
theorem keyS_end {k : Int} {r n s : Nat} (h : n ≤ s) : (keyS k r n).drop s = [] := List.drop_eq_nil_of_le (by rw [keyS_len]; omega)
def keyR (k : Int) (x : Mode) (r : Nat) : List (Int × Int × Int) := ((List.range x.rounds.toNat).drop r).flatMap fun r => keyS k r x.slots.toNat
theorem keyR_step {k : Int} {x : Mode} {r : Nat} (h : (r : Int) < x.rounds) : keyR k x r = keyS k r x.slots.toNat ++ keyR k x (r + 1) := by
  unfold keyR
  rw [range_drop (by omega)]; rfl
theorem keyR_end {k : Int} {x : Mode} {r : Nat} (h : ¬ (r : Int) < x.rounds) : keyR k x r = [] := by
  unfold keyR
  rw [range_end (by omega)]; rfl
theorem descI {d : Desc} (h : descOk d = true) : (0 ≤ d.node ∧ d.node ≤ 31) ∧ (0 ≤ d.kind ∧ d.kind ≤ 3) ∧ (0 ≤ d.size ∧ d.size ≤ 32) ∧ (1 ≤ d.duration ∧ d.duration ≤ 1000) := by
  simp only [descOk, Bool.and_eq_true] at h
  have h1 := inB_iff.1 h.1.1.1.1; have h2 := inB_iff.1 h.1.1.1.2; have h4 := inB_iff.1 h.2
  have h3 : 0 ≤ d.size ∧ d.size ≤ 32 := by
    have h5 := h.1.1.2
    unfold dataOk at h5
    split at h5
    · exact inB_iff.1 h5
    · split at h5
      · have := inB_iff.1 h5; omega
      · simp at h5; omega
  refine ⟨h1, h2, h3, ?_⟩
  have h6 : 1 ≤ bodyS d.kind d.size := by unfold bodyS; (repeat' split) <;> omega
  unfold cellsS at h4
  omega
theorem slotI {x : SlotI} (h : slotOk x = true) : inK x.key ∧ (0 ≤ x.desc.node ∧ x.desc.node ≤ 31) ∧ (1 ≤ x.desc.duration ∧ x.desc.duration ≤ 1000) := by
  have h1 := slotOk_key h
  simp only [slotOk, Bool.and_eq_true] at h
  have h2 := descI h.2
  exact ⟨h1, h2.1, h2.2.2.2⟩
theorem isST_all {xs : List SlotI} (h : isST xs = true) : ∀ x ∈ xs, slotOk x = true := by
  simp only [isST, Bool.and_eq_true] at h
  exact okFrom_all _ _ h.1
theorem isNT_ids {l : List NodeI} (h : isNT l = true) : ∀ x ∈ l, 0 ≤ x.id ∧ x.id ≤ 31 := fun x hx => (nodeOk_in (isNT_all h x hx)).1
theorem ff_eq (m : MedlI) : ffault m.d =
    if inB m.id 1 16777215 = false then 1
    else if isNT m.ns = false then 2
    else if isMT (m.ms.map (·.m)) = false then 3
    else if isST m.ss = false then 4
    else if complete m.d = false then 5
    else if sendersB m.d = false then 6
    else if steady m.ss = false then 7
    else if shortB m.d = false then 8
    else if servS (actV m.ns) m.ss 0 (m.ms.map (·.m)) = false then 9
    else if coldB m.ss = true then 10 else 0 := rfl
theorem short_step {m : MedlI} {k : Nat} (h : k < m.ms.length) : ((List.range m.ms.length).drop k).all (fun (i : Nat) => decide (cyc m.ss i ≤ 32000)) = (decide (cyc m.ss k ≤ 32000) && ((List.range m.ms.length).drop (k + 1)).all (fun (i : Nat) => decide (cyc m.ss i ≤ 32000))) := by
  rw [range_drop h, List.all_cons]
theorem short_eq {m : MedlI} : shortB m.d = ((List.range m.ms.length).drop 0).all (fun (i : Nat) => decide (cyc m.ss i ≤ 32000)) := by
  show (List.range (m.ms.map (·.m)).length).all _ = _
  rw [List.length_map, List.drop_zero]; rfl
theorem short_end {m : MedlI} {k : Nat} (h : ¬ (k : Int) < m.ms.length) : ((List.range m.ms.length).drop k).all (fun (i : Nat) => decide (cyc m.ss i ≤ 32000)) = true := by
  rw [range_end (by omega)]; rfl
def servR (p : Nat → Bool) (n r : Nat) : Bool := ((List.range n).drop r).all p
theorem servR_step {p : Nat → Bool} {n r : Nat} (h : r < n) : servR p n r = (p r && servR p n (r + 1)) := by
  unfold servR; rw [range_drop h, List.all_cons]
theorem servR_end {p : Nat → Bool} {n r : Nat} (h : n ≤ r) : servR p n r = true := by
  unfold servR; rw [range_end h]; rfl
theorem durOk_of {x y : SlotI} (h : x.mode ≠ y.mode ∨ x.slot ≠ y.slot ∨ x.desc.duration = y.desc.duration) : durOk x y = true := by
  simp only [durOk, Bool.or_eq_true, Bool.not_eq_true', Bool.and_eq_false_iff, decide_eq_true_eq, decide_eq_false_iff_not]; omega
theorem durOk_not {x y : SlotI} (h : x.mode = y.mode ∧ x.slot = y.slot ∧ x.desc.duration ≠ y.desc.duration) : durOk x y = false := by
  cases e : durOk x y
  · rfl
  · simp only [durOk, Bool.or_eq_true, Bool.not_eq_true', Bool.and_eq_false_iff, decide_eq_true_eq, decide_eq_false_iff_not] at e; omega
theorem all_split {α : Type} {p : α → Bool} {l r : List α} {q : List α} {x : α} {j : Nat} (h : q.all p = (q.drop j).all p) (hd : q.drop j = x :: r) (hx : p x = false) : q.all p = false := by rw [h, hd, List.all_cons, hx]; rfl
/-- what is kept while worlds only grow -/
structure Kept (S : World → Prop) (w : World) : Prop where
  up : Up S
  h : S w
theorem Kept.ext {S : World → Prop} {w w' : World} (h : Kept S w) (k : Ext w w') : Kept S w' := ⟨h.up, h.up w w' h.h k⟩
theorem findS_any (p : SlotI → Bool) : ∀ (xs : List SlotI) (k : Int), 0 ≤ k → decide (0 ≤ findS p k xs) = xs.any p
  | [], k, h => by simp [findS]
  | x :: r, k, h => by
    rw [findS, List.any_cons]
    by_cases e : p x = true
    · rw [if_pos e, e]; simp [h]
    · rw [if_neg e, findS_any p r (k + 1) (by omega)]; simp [e]
theorem any_not {α : Type} (p : α → Bool) : ∀ (xs : List α), (xs.any fun x => !p x) = !(xs.all p)
  | [] => rfl
  | x :: r => by rw [List.any_cons, List.all_cons, any_not p r]; cases p x <;> simp
theorem senders_any (m : MedlI) : (m.ss.any fun x => !hasN (actV m.ns) x.desc.node) = !sendersB m.d := any_not _ _
end Go.Proofs.YtdoibplhbdkapaaGreatDoor
namespace Go.Proofs.YtdoibplhbdkapaaGreatDoor
open Go.RowKit
set_option linter.unusedVariables false
set_option linter.unusedSimpArgs false

theorem szInt_le {n : Nat} {left : Int} (h : ¬ szInt n left < 0) : szInt n left = left - n ∧ (n : Int) ≤ left := by
  unfold szInt at *
  split
  · rename_i h1; rw [if_pos h1] at h; omega
  · exact ⟨rfl, by omega⟩
def szNs : List NodeI → Int → Int
  | [], left => left
  | x :: r, left => if szInt x.name.size left < 0 then -1 else szNs r (szInt x.name.size left)
def szN (xs : List NodeI) (left : Int) : Int := if left - xs.length < 0 then -1 else szNs xs (left - xs.length)
theorem szNs_le : ∀ (xs : List NodeI) (left : Int), ¬ szNs xs left < 0 → szNs xs left ≤ left
  | [], left, h => by rw [szNs]; omega
  | y :: r, left, h => by
    rw [szNs] at h ⊢
    split at h
    · omega
    · rename_i h1
      rw [if_neg h1]
      have h2 := szInt_le h1
      have h3 := szNs_le r _ h
      omega
theorem szNs_each : ∀ (xs : List NodeI) (left : Int), ¬ szNs xs left < 0 → ∀ x ∈ xs, (x.name.size : Int) ≤ left
  | [], left, h, x, hx => by simp at hx
  | y :: r, left, h, x, hx => by
    rw [szNs] at h
    split at h
    · omega
    · rename_i h1
      have h2 := szInt_le h1
      rcases List.mem_cons.1 hx with rfl | hx
      · omega
      · have := szNs_each r _ h x hx; omega
theorem szN_le {xs : List NodeI} {left : Int} (h : ¬ szN xs left < 0) : szN xs left ≤ left ∧ (xs.length : Int) ≤ left ∧ ∀ x ∈ xs, (x.name.size : Int) ≤ left := by
  unfold szN at *
  split at h
  · omega
  · rename_i h1
    rw [if_neg h1]
    have := szNs_le xs _ h
    refine ⟨by omega, by omega, fun x hx => ?_⟩
    have := szNs_each xs _ h x hx
    omega
theorem szMs_le2 : ∀ (xs : List ModeI) (left : Int), ¬ szMs xs left < 0 → szMs xs left ≤ left
  | [], left, h => by rw [szMs]; omega
  | y :: r, left, h => by
    rw [szMs] at h ⊢
    split at h
    · omega
    · rename_i h1
      rw [if_neg h1]
      have h2 := szInt_le h1
      have h3 := szMs_le2 r _ h
      omega
theorem szM_le2 {xs : List ModeI} {left : Int} (h : ¬ szM xs left < 0) : szM xs left ≤ left ∧ (xs.length : Int) ≤ left ∧ ∀ x ∈ xs, (x.m.next.length : Int) ≤ left := by
  unfold szM at *
  split at h
  · omega
  · rename_i h1
    rw [if_neg h1]
    have h2 := szMs_le2 xs _ h
    refine ⟨by omega, by omega, fun x hx => ?_⟩
    have := szMs_le xs _ h x hx
    omega
def szMedlF (m : MedlI) (left : Int) : Int :=
  if szN m.ns left < 0 then -1 else if szM m.ms (szN m.ns left) < 0 then -1 else if szInt m.ss.length (szM m.ms (szN m.ns left)) < 0 then -1 else szInt m.ss.length (szM m.ms (szN m.ns left))
theorem szMedl_small {m : MedlI} {left : Int} (hl : left ≤ 1048576) (h : ¬ szMedlF m left < 0) : m.small := by
  unfold szMedlF at h
  split at h
  · omega
  · rename_i h1
    split at h
    · omega
    · rename_i h2
      split at h
      · omega
      · rename_i h3
        have h4 := szN_le h1
        have h5 := szM_le2 h2
        have h6 := szInt_le h3
        exact ⟨by omega, by omega, fun x hx => by have := h5.2.2 x hx; omega, by omega, fun x hx => by have := h4.2.2 x hx; omega⟩

/-- the lists of a schedule are rows of the call's own -/
structure MOwn (w : World) (lo : Nat) (tN tM tI tS : TypeId) (m : MedlI) : Prop where
  on : Own w lo tN 4 m.An m.ns.length m.cn (m.ns.flatMap NodeI.cells)
  om : Own w lo tM 3 m.Am m.ms.length m.cm (m.ms.flatMap ModeI.cells)
  ox : NOwn w lo tI m.ms
  od : Disj m.ms
  os : Own w lo tS 8 m.As m.ss.length m.cs (m.ss.flatMap SlotI.cells)
section
variable {w w' : World} {lo lo' n c s g : Nat} {tN tM tI tS t' : TypeId} {m : MedlI} {A : Option Addr} {cs : List Value}
theorem MOwn.ext (h : MOwn w lo tN tM tI tS m) (hb : Ext w w') : MOwn w' lo tN tM tI tS m := ⟨h.on.ext hb, h.om.ext hb, h.ox.ext hb, h.od, h.os.ext hb⟩
theorem MOwn.low (h : MOwn w lo tN tM tI tS m) (hl : lo' ≤ lo) : MOwn w lo' tN tM tI tS m := ⟨h.on.low hl, h.om.low hl, h.ox.low hl, h.od, h.os.low hl⟩
theorem MOwn.med (h : MOwn w lo tN tM tI tS m) : Med w.heap.size w m := ⟨Nat.le_refl _, h.on.sl, h.om.sl, h.ox.nexts, h.os.sl, h.on.cap⟩
theorem MOwn.sn (h : MOwn w lo tN tM tI tS m) : Sl w.heap.size w m.An (m.ns.flatMap NodeI.cells) := h.on.sl
theorem MOwn.sm (h : MOwn w lo tN tM tI tS m) : Sl w.heap.size w m.Am (m.ms.flatMap ModeI.cells) := h.om.sl
theorem MOwn.sx (h : MOwn w lo tN tM tI tS m) : Nexts w.heap.size w m.ms := h.ox.nexts
theorem MOwn.ss (h : MOwn w lo tN tM tI tS m) : Sl w.heap.size w m.As (m.ss.flatMap SlotI.cells) := h.os.sl
theorem MOwn.grownB {t' : TypeId} {ds : List Value} (h : MOwn w lo tN tM tI tS m) (k : Blk w g t' ds) (hg : w.grownBy w' (some g)) (ht : tN ≠ t' ∧ tM ≠ t' ∧ tI ≠ t' ∧ tS ≠ t') : MOwn w' lo tN tM tI tS m :=
  ⟨h.on.grownBlk hg (Own.neT h.on k ht.1), h.om.grownBlk hg (Own.neT h.om k ht.2.1), h.ox.grownB k hg ht.2.2.1, h.od, h.os.grownBlk hg (Own.neT h.os k ht.2.2.2)⟩
end
/-- what holds of every schedule that a call is given -/
def MedlI.fit (m : MedlI) : Prop := m.ns.length ≤ 9223372036854775807 ∧ m.ms.length ≤ 9223372036854775807 ∧ m.ss.length ≤ 9223372036854775807 ∧ ∀ x ∈ m.ns, x.name.size ≤ 9223372036854775807
end Go.Proofs.YtdoibplhbdkapaaGreatDoor
namespace Go.Proofs.YtdoibplhbdkapaaGreatDoor
open Go.RowKit
set_option linter.unusedVariables false
set_option linter.unusedSimpArgs false

def isMedl (d : MedlD) : Bool := decide (ffault d = 0)
structure WellF (d : MedlD) : Prop where
  id : inB d.id 1 16777215 = true
  nt : isNT d.ns = true
  mt : isMT d.ms = true
  st : isST d.ss = true
  co : complete d = true
  se : sendersB d = true
  sd : steady d.ss = true
  sh : shortB d = true
  sv : servS (actV d.ns) d.ss 0 d.ms = true
  cd : coldB d.ss = false
theorem isMedl_iff {d : MedlD} : isMedl d = true ↔ WellF d := by
  rw [isMedl, decide_eq_true_eq, ffault]
  constructor
  · intro h
    repeat' split at h
    all_goals first | (exfalso; omega) | skip
    rename_i h1 h2 h3 h4 h5 h6 h7 h8 h9 h10
    exact ⟨by simpa using h1, by simpa using h2, by simpa using h3, by simpa using h4, by simpa using h5, by simpa using h6, by simpa using h7, by simpa using h8, by simpa using h9, by simpa using h10⟩
  · intro h
    simp [h.id, h.nt, h.mt, h.st, h.co, h.se, h.sd, h.sh, h.sv, h.cd]
end Go.Proofs.YtdoibplhbdkapaaGreatDoor
namespace Go.Proofs.YtdoibplhbdkapaaGreatDoor
open Go.RowKit
set_option linter.unusedVariables false
set_option linter.unusedSimpArgs false
set_option maxRecDepth 20000
def nameI (x : NodeI) : List Int := x.name.data.toList.map fun b => (b.toNat : Int)
def nodeH (x : NodeI) : List Int := [x.id, x.drift / 256, x.drift % 256, if x.passive = true then 1 else 0, (x.name.size : Int)]
def nodeB (x : NodeI) : List Int := nodeH x ++ nameI x
def ntP (xs : List NodeI) (k : Nat) : List Int := (xs.length : Int) :: (xs.take k).flatMap nodeB
theorem nameI_len (x : NodeI) : (nameI x).length = x.name.size := by simp [nameI]
theorem nameI_at {x : NodeI} {j : Nat} (h : j < x.name.size) : (nameI x)[j]? = some ((x.name.data.toList.getD ((j : Int)).toNat 0).toNat : Int) := by
  have hj : j < x.name.data.toList.length := by simpa using h
  rw [nameI, List.getElem?_map, List.getD_eq_getElem?_getD, Int.toNat_natCast, List.getElem?_eq_getElem hj]; rfl
theorem ntP_step {xs : List NodeI} {k : Nat} {x : NodeI} (h : xs[k]? = some x) : ntP xs (k + 1) = ntP xs k ++ nodeH x ++ nameI x := by
  unfold ntP
  rw [List.take_add_one, h]
  simp [List.flatMap_append, nodeB]
theorem take_snoc {L : List Int} {j : Nat} {v : Int} (h : L[j]? = some v) : L.take (j + 1) = L.take j ++ [v] := by rw [List.take_add_one, h]; rfl
def ntB (xs : List NodeI) : List Int := ntP xs xs.length
theorem nodesB_le : ∀ (l : List NodeI), (∀ x ∈ l, x.name.size ≤ 6) → (l.flatMap nodeB).length ≤ 11 * l.length
  | [], _ => by simp
  | x :: r, h => by
    have h1 := h x (by simp)
    have h2 := nodesB_le r fun y hy => h y (by simp [hy])
    rw [List.flatMap_cons, List.length_append, List.length_cons, nodeB, List.length_append, nameI_len]
    simp only [nodeH, List.length_cons, List.length_nil]; omega
theorem nodeOk_size {x : NodeI} (h : nodeOk x = true) : x.name.size ≤ 6 := by
  have h1 := (nodeOk_in h).2.2
  simp only [nameOk, Bool.and_eq_true, decide_eq_true_eq] at h1
  exact h1.2
theorem ntB_le {xs : List NodeI} (h : isNT xs = true) : (ntB xs).length ≤ 353 := by
  have h1 := isNT_len h
  have h2 := nodesB_le xs fun x hx => nodeOk_size (isNT_all h x hx)
  unfold ntB ntP
  rw [List.take_length, List.length_cons]
  omega
theorem mtB_le {ms : List Mode} (h : isMT ms = true) : (mtP ms ms.length).length ≤ 305 := by
  have hl := isMT_len h
  have hf := flat_le (f := modeB) (b := 19) ms fun x hx => by
    obtain ⟨k, hk⟩ := List.mem_iff_getElem?.1 hx
    obtain ⟨h1, h2, h3⟩ := modeOk_in (isMT_at h hk)
    have h4 := risesB_len h3
    simp [modeB]; omega
  have hf2 : 19 * ms.length ≤ 19 * 16 := Nat.mul_le_mul_left _ hl.2
  unfold mtP
  rw [List.take_length, List.length_cons]; omega
def idB (z : Int) : List Int := [z / 65536, z / 256 % 256, z % 256]
def schB (d : MedlD) : List Int := idB d.id ++ ntB d.ns ++ mtP d.ms d.ms.length ++ stB d.ss
theorem schB_le {d : MedlD} (h : isMedl d = true) : (schB d).length ≤ 1502 := by
  have wf := isMedl_iff.1 h
  have h1 := ntB_le wf.nt
  have h2 := mtB_le wf.mt
  have h3 : (stB d.ss).length = 1 + 7 * d.ss.length := stP_len (Nat.le_refl _)
  have h4 := isST_len wf.st
  unfold schB
  rw [List.length_append, List.length_append, List.length_append]
  simp only [idB, List.length_cons, List.length_nil]; omega
theorem and255 {z : Int} (h : 0 ≤ z ∧ z ≤ 1099511627776) : bitsV .and .i64 z 255 = z % 256 := by
  obtain ⟨n, rfl⟩ : ∃ n : Nat, z = (n : Int) := ⟨z.toNat, by omega⟩
  have h1 := bits_and (a := n) (b := 255) (by omega) (by omega)
  rw [show ((255 : Nat) : Int) = 255 from rfl] at h1
  rw [h1, show n &&& 255 = n % 256 from Nat.and_two_pow_sub_one_eq_mod n 8]; omega
theorem shr16 {z : Int} (h : 0 ≤ z) : z.fdiv (2 ^ (min ((16 : Int).toNat) IntKind.i64.bits)) = z / 65536 := by
  show z.fdiv 65536 = _
  rw [Int.fdiv_eq_ediv_of_nonneg _ (by omega)]
theorem shr8 {z : Int} (h : 0 ≤ z) : z.fdiv (2 ^ (min ((8 : Int).toNat) IntKind.i64.bits)) = z / 256 := by
  show z.fdiv 256 = _
  rw [Int.fdiv_eq_ediv_of_nonneg _ (by omega)]
/-- a row of rows: an entry is held as a mode with its list alone -/
def rowC (x : ModeI) : List Value := [.slice x.A x.m.next.length x.c]
theorem rowC_len (x : ModeI) : (rowC x).length = 1 := rfl
def sumL (rs : List ModeI) : List Int := rs.flatMap fun x => x.m.next
def rowI (A : Option Addr) (c : Nat) (xs : List Int) : ModeI := ⟨⟨0, 0, xs⟩, A, c⟩
theorem sumL_step {rs : List ModeI} {k : Nat} {x : ModeI} (h : rs[k]? = some x) : sumL (rs.take (k + 1)) = sumL (rs.take k) ++ x.m.next := by
  unfold sumL
  rw [List.take_add_one, h]; simp [List.flatMap_append]
theorem sumL_le (rs : List ModeI) (k : Nat) : (sumL (rs.take k)).length ≤ (sumL rs).length := by
  have e : sumL rs = sumL (rs.take k) ++ sumL (rs.drop k) := by unfold sumL; rw [← List.flatMap_append, List.take_append_drop]
  rw [e, List.length_append]; omega
end Go.Proofs.YtdoibplhbdkapaaGreatDoor
namespace Go.Proofs.YtdoibplhbdkapaaGreatDoor
open Go.RowKit
set_option linter.unusedVariables false
set_option linter.unusedSimpArgs false
set_option maxRecDepth 20000
def chA (A : Option Addr) (l : Nat) : Option Addr := A.map (·.add l)
def chPart (A : Option Addr) (d : Nat) (xs : List Int) (k : Nat) : ModeI := rowI (chA A (d * k)) (min d (xs.length - d * k)) ((xs.drop (d * k)).take d)
def chs (A : Option Addr) (d : Nat) (xs : List Int) (m : Nat) : List ModeI := (List.range m).map (chPart A d xs)
def cN (d n : Nat) : Nat := (n + d - 1) / d
theorem chs_succ (A : Option Addr) (d : Nat) (xs : List Int) (k : Nat) : chs A d xs (k + 1) = chs A d xs k ++ [chPart A d xs k] := by simp [chs, List.range_succ]
theorem chs_len (A : Option Addr) (d : Nat) (xs : List Int) (k : Nat) : (chs A d xs k).length = k := by simp [chs]
theorem chPart_len (A : Option Addr) (d : Nat) (xs : List Int) (k : Nat) : (chPart A d xs k).m.next.length = min d (xs.length - d * k) := by simp [chPart, rowI]
theorem cN_lt {d n k : Nat} (hd : 1 ≤ d) : k < cN d n ↔ d * k < n := by
  unfold cN
  rw [Nat.lt_div_iff_mul_lt (by omega), Nat.mul_comm k d]; omega
theorem cN_end {d n k : Nat} (hd : 1 ≤ d) (h1 : k ≤ cN d n) (h2 : ¬ d * k < n) : k = cN d n := by
  have h3 : ¬ k < cN d n := fun h => h2 ((cN_lt hd).1 h)
  omega
theorem cN_le {d n : Nat} (hd : 1 ≤ d) : cN d n ≤ n := by
  rcases Nat.eq_zero_or_pos (cN d n) with h | h
  · omega
  · have h1 := (cN_lt (d := d) (n := n) (k := cN d n - 1) hd).1 (by omega)
    have h2 : cN d n - 1 ≤ d * (cN d n - 1) := Nat.le_mul_of_pos_left _ (by omega)
    omega
theorem chunk1_c (l n0 gs gn d c : Nat) (A : Option Addr) (xs : List Int) (J Jx : List ModeI → World → Prop) (w : World) (q1 : Blk w gs 30 [.slice A xs.length c]) (q2 : Blk w gn 3 [.int .i64 (d : Nat)]) (hj : JK J w.heap.size [] w) (hlo : n0 ≤ w.heap.size) (hgs : gs < n0) (hgn : gn < n0) (hd : 1 ≤ d ∧ d ≤ 1000) (hl : xs.length ≤ 1048576) (hc : xs.length ≤ c) (hY : ∀ pre x W1, J pre W1 → pre.length < cN d xs.length → YieldAt Fence.wide 0 Tryz.prog l #[Value.slice (ModeI.A x) (ModeI.m x).next.length (ModeI.c x)] W1 fun e W' => (e = .returned (.bool true) ∧ J (pre ++ [x]) W' ∧ Below n0 W1 W') ∨ (e = .returned (.bool false) ∧ Jx (pre ++ [x]) W')) :
    Calls Tryz.prog 220 #[.func (.yield l) #[] #[], .pointer (some ⟨gs, 0, none⟩), .pointer (some ⟨gn, 0, none⟩)] w (Ret fun v w' => J (chs A d xs (cN d xs.length)) w' ∨ ∃ pre, Jx pre w') := by
  have X := Below.refl n0 w
  refine calls_of (args := [.func (.yield l) #[] #[], .pointer (some ⟨gs, 0, none⟩), .pointer (some ⟨gn, 0, none⟩)]) Tryz.func220 Tryz.ntmps220 rfl rfl ?_
  refine c_seqR ?_
  refine ops_cons rfl (ow_assign rfl ?_)
  refine ops_nil ?_
  refine c_block ?_
  refine c_loop (G := Nat × Nat) (fun ⟨k, i⟩ => [(0, .func (.yield l) #[] #[]), (1, .pointer (some ⟨gs, 0, none⟩)), (2, .pointer (some ⟨gn, 0, none⟩)), (4, .int .i64 (i : Nat))]) (fun ⟨k, i⟩ wr => i = d * k ∧ k ≤ cN d xs.length ∧ JK J w.heap.size (chs A d xs k) wr ∧ Blk wr gs 30 [.slice A xs.length c] ∧ Blk wr gn 3 [.int .i64 (d : Nat)] ∧ Below n0 w wr) (fun ⟨k, i⟩ => cN d xs.length - k) (0, 0) (.cons rfl (.cons rfl (.cons rfl (.cons rfl (.nil _))))) ?_ ?_
  · exact ⟨rfl, (Nat.zero_le _), hj, q1, q2, X⟩
  clear q1 q2 hj
  clear X
  rintro ⟨k, i⟩ wr ⟨hik, hkN, hj, q1, q2, X⟩
  refine c_seq ?_
  refine c_seqR ?_
  refine ops_cons rfl (ow_move rfl ?_)
  refine ops_cons rfl (ow_loadB q1 ti30 rfl rfl ?_)
  refine ops_cons rfl (ow_len Tryz.underlying30 rfl ?_)
  refine ops_cons rfl (ow_lss2 rfl rfl (fun hk => ?_) (fun hk => ?_))
  refine ops_nil ?_
  refine c_true rfl ?_
  refine c_skip ?_
  refine tq_n ?_
  refine c_seq ?_
  refine c_block ?_
  refine c_seqD [false, false, false, false, false, false, false] mixed (by kernel_rfl) ?_
  refine f_q rfl (fun wq sq => ow_loadB (q2.ext sq) ti3 rfl rfl ⟨rfl, Ext.refl _⟩) ?_
  refine f_q rfl (fun wq sq => ow_loadB (q1.ext sq) ti30 rfl rfl ⟨rfl, Ext.refl _⟩) ?_
  refine f_q rfl (fun wq sq => ow_move rfl ⟨rfl, Ext.refl _⟩) ?_
  refine f_q rfl (fun wq sq => ow_sliceLX (l := i) el30 rfl rfl rfl (by omega) ⟨rfl, Ext.refl _⟩) ?_
  refine f_q rfl (fun wq sq => ow_len Tryz.underlying30 rfl ⟨rfl, Ext.refl _⟩) ?_
  refine f_q rfl (fun wq sq => ow_min rfl rfl ⟨rfl, Ext.refl _⟩) ?_
  refine f_q rfl (fun wq sq => ow_assign rfl ⟨rfl, Ext.refl _⟩) ?_
  refine f_nil (fun w1 sq => ?_)
  have xq := sq
  replace hj := hj.ext xq
  replace q1 := q1.ext xq
  replace q2 := q2.ext xq
  replace X := Below.trans X (Below.mono xq (Nat.le_trans hlo X.size)); clear xq sq
  refine ops_nil ?_
  refine c_seqF 1 ?_
  refine opsF_cons WideF.w rfl rfl (ow_move rfl ?_)
  refine opsF_cons WideF.w rfl rfl (ow_loadB q1 ti30 rfl rfl ?_)
  refine opsF_cons WideF.w rfl rfl (ow_move rfl ?_)
  refine opsF_cons WideF.w rfl rfl (ow_move rfl ?_)
  refine opsF_cons WideF.w rfl rfl (ow_move rfl ?_)
  refine opsF_cons WideF.w rfl rfl (ow_add rfl rfl (show IntKind.i64.wrap _ = ((i + min d (xs.length - i) : Nat) : Int) from (w64 (by omega)).trans (by omega)) ?_)
  refine opsF_cons WideF.w rfl rfl (ow_move rfl ?_)
  refine opsF_cons WideF.w rfl rfl (ow_move rfl ?_)
  refine opsF_cons WideF.w rfl rfl (ow_add rfl rfl (show IntKind.i64.wrap _ = ((i + min d (xs.length - i) : Nat) : Int) from (w64 (by omega)).trans (by omega)) ?_)
  refine opsF_cons WideF.w rfl rfl (ow_sliceLHM (l := i) (h := i + min d (xs.length - i)) el30 rfl rfl rfl rfl rfl rfl rfl (by omega) (by omega) ?_)
  refine opsF_yield WideF.w rfl rfl rfl ?_
  have hck := (cN_lt (n := xs.length) (k := k) hd.1).2 (by rw [← hik]; omega)
  have hpl := chPart_len A d xs k
  rw [← hik] at hpl
  have hyy := hY _ (chPart A d xs k) _ hj.2 (by rw [chs_len]; exact hck)
  rw [hpl] at hyy
  rw [show i + min d (xs.length - i) - i = min d (xs.length - i) by omega]
  have eP : (chPart A d xs k).A = A.map (·.add i) ∧ (chPart A d xs k).c = min d (xs.length - i) := ⟨by rw [hik]; rfl, by rw [hik]; rfl⟩
  rw [eP.1, eP.2] at hyy
  refine hyy.mono ?_
  intro en wY hyq
  obtain ⟨bq, rfl, hyT, hyF⟩ := yield_two hyq
  refine ⟨_, rfl, ?_⟩
  cases hbq : bq
  have hjx := hyF hbq
  refine opsF_cons WideF.w rfl rfl (ow_not rfl ?_)
  refine opsF_nil ?_
  refine c_true rfl ?_
  refine c_ret ?_
  refine bq_r ?_
  refine tq_r ?_
  refine tq_r ?_
  refine bq_r ?_
  refine fin_ret0 rfl ?_
  · skip
    first
    | exact .inr ⟨_, hjx⟩
    | (have e := cN_end hd.1 hkN (by rw [← hik]; omega)
       rw [← e]; exact .inl hj.2)
  obtain ⟨hj2, hbl⟩ := hyT hbq
  replace q1 := q1.below hbl hgs
  replace q2 := q2.below hbl hgn
  replace X := Below.trans X hbl
  replace hj : JK J w.heap.size (chs A d xs (k + 1)) wY := ⟨hj.1, by rw [chs_succ]; exact hj2⟩
  refine opsF_cons WideF.w rfl rfl (ow_not rfl ?_)
  refine opsF_nil ?_
  refine c_false rfl ?_
  refine c_skip ?_
  refine bq_n ?_
  refine tq_n ?_
  refine c_region ?_
  refine ops_cons rfl (ow_move rfl ?_)
  refine ops_cons rfl (ow_loadB q2 ti3 rfl rfl ?_)
  refine ops_cons rfl (ow_add rfl rfl (show IntKind.i64.wrap _ = ((i + d : Nat) : Int) from (w64 (by omega)).trans (by omega)) ?_)
  refine ops_cons rfl (ow_assign rfl ?_)
  refine ops_nil ?_
  refine tq_n ⟨(k + 1, i + d), (.cons rfl (.cons rfl (.cons rfl (.cons rfl (.nil _))))), ?_, ?_⟩
  · exact ⟨(by rw [Nat.mul_succ, ← hik]), (by omega), hj, q1, q2, X⟩
  · exact Nat.sub_lt_sub_left hck (Nat.lt_succ_self k)
  refine ops_nil ?_
  refine c_false rfl ?_
  refine c_exit ?_
  refine tq_e ?_
  refine tq_e ?_
  refine bq_e ?_
  refine fin_end0 rfl ?_
  · skip
    first
    | exact .inr ⟨_, hjx⟩
    | (have e := cN_end hd.1 hkN (by rw [← hik]; omega)
       rw [← e]; exact .inl hj.2)
end Go.Proofs.YtdoibplhbdkapaaGreatDoor
namespace Go.Proofs.YtdoibplhbdkapaaGreatDoor
open Go.RowKit
set_option linter.unusedVariables false
set_option linter.unusedSimpArgs false
set_option maxRecDepth 20000
theorem blk_nc {W W' : World} {g : Nat} {t : TypeId} {cs : List Value} {row : Option Nat} (h : Blk W g t cs) (hrow : ∀ r, row = some r → ∃ o : Obj, W.heap[r]? = some o ∧ o.isCells = false) : some g ≠ row := fun e => by
  obtain ⟨o, ho, hc⟩ := hrow g e.symm
  rw [show W.heap[g]? = _ from h] at ho
  cases ho; cases hc
theorem own_nc {W : World} {lo n c s : Nat} {t : TypeId} {A : Option Addr} {cs : List Value} {row : Option Nat} (h : Own W lo t s A n c cs) (hrow : ∀ r, row = some r → ∃ o : Obj, W.heap[r]? = some o ∧ o.isCells = false) : ∀ g, row = some g → (Value.slice A n c).ownBlock ≠ some g := fun g e e2 => by
  obtain ⟨o, ho, hc⟩ := hrow g e
  rcases h.2 with ⟨h1, _⟩ | ⟨g', cap, cur, h1, _, hg, _⟩
  · rw [h1] at e2; cases e2
  · rw [h1] at e2
    have e3 : g' = g := by simpa [Value.ownBlock] using e2
    subst e3
    rw [hg] at ho; cases ho; cases hc
theorem own_cells {W : World} {lo n c s : Nat} {t : TypeId} {A : Option Addr} {cs : List Value} (h : Own W lo t s A n c cs) : ∀ (j : Nat) (o : Obj), (Value.slice A n c).ownBlock = some j → W.heap[j]? = some o → o.isCells = true := fun j o e2 ho => by
  rcases h.2 with ⟨h1, _⟩ | ⟨g', cap, cur, h1, _, hg, _⟩
  · rw [h1] at e2; cases e2
  · rw [h1] at e2
    have e3 : g' = j := by simpa [Value.ownBlock] using e2
    subst e3
    rw [hg] at ho; cases ho; rfl
/-- what holds between two rounds -/
def ColI (n0 gb : Nat) (w : World) (s : List ModeI) (W : World) : Prop := (∃ A c, Blk W gb 107 [.slice A s.length c] ∧ Own W n0 30 1 A s.length c (s.flatMap rowC)) ∧ Below n0 w W
theorem colI_from {n0 gb B : Nat} {w : World} (hn : n0 ≤ w.heap.size) (hB : n0 ≤ B) : OwnFrom B (ColI n0 gb w) := fun s W W' row h hg hr => by
  obtain ⟨⟨A, c, h1, h2⟩, h3⟩ := h
  have hr2 : ∀ r, row = some r → ∃ o : Obj, W.heap[r]? = some o ∧ o.isCells = false := fun r e => (hr r e).2
  exact ⟨⟨A, c, h1.grown hg (blk_nc (W' := W') h1 hr2), h2.grown hg (own_nc h2 hr2)⟩, ownFrom_below hn hB s W W' row h3 hg hr⟩
theorem chunk_seq (n0 gs gn d c : Nat) (A : Option Addr) (xs : List Int) (w : World) (q1 : Blk w gs 30 [.slice A xs.length c]) (q2 : Blk w gn 3 [.int .i64 (d : Nat)]) (hn0 : n0 = w.heap.size) (hd : 1 ≤ d ∧ d ≤ 1000) (hl : xs.length ≤ 1048576) (hc : xs.length ≤ c) :
    SeqStopsK Fence.wide 1 Tryz.prog 220 #[.pointer (some ⟨gs, 0, none⟩), .pointer (some ⟨gn, 0, none⟩)] (fun x : ModeI => #[Value.slice x.A x.m.next.length x.c]) (Below n0) (fun ps => ps = chs A d xs (cN d xs.length)) (fun _ => True) (cN d xs.length) w := fun l J Jx W hW hJ hJx hY h0 => by
  have h1 := q1.lt
  have h2 := q2.lt
  refine callsW .w (Calls.mono (chunk1_c l n0 gs gn d c A xs J Jx W (q1.below hW h1) (q2.below hW h2) ⟨hJ, h0⟩ (by rw [hn0]; exact hW.size) (by omega) (by omega) hd hl hc hY) fun e W' h => ?_)
  cases e <;> first | exact h.elim | skip
  refine ⟨⟨_, rfl⟩, ?_⟩
  rcases h with h | ⟨pre, h⟩
  · exact .inl ⟨_, rfl, h⟩
  · exact .inr ⟨pre, trivial, h⟩
theorem one_row (x : ModeI) : ∀ u ∈ rowC x, u.oneCell' = true := fun u hu => by
  obtain rfl : u = _ := by simpa [rowC] using hu
  rfl
set_option maxHeartbeats 1000000 in
theorem appendSeq_c (gs gn d c : Nat) (A : Option Addr) (xs : List Int) (w : World) (q1 : Blk w gs 30 [.slice A xs.length c]) (q2 : Blk w gn 3 [.int .i64 (d : Nat)]) (hd : 1 ≤ d ∧ d ≤ 1000) (hl : xs.length ≤ 1048576) (hc : xs.length ≤ c) :
    Calls Tryz.prog 219 #[.slice none 0 0, .func (.func 220) #[] #[.pointer (some ⟨gs, 0, none⟩), .pointer (some ⟨gn, 0, none⟩)]] w
      (Ret fun v w' => ∃ A' c', v = .slice A' (cN d xs.length) c' ∧ Own w' w.heap.size 30 1 A' (cN d xs.length) c' ((chs A d xs (cN d xs.length)).flatMap rowC) ∧ Ext w w') := by
  obtain ⟨n0, hn0⟩ : ∃ n0, n0 = w.heap.size := ⟨_, rfl⟩
  have hN := cN_le (d := d) (n := xs.length) hd.1
  refine callsIn_wide.1 (callsIn_of_wp_marks (n := 2) Tryz.func219 rfl trivial ?_)
  refine wpIn_seq ?_
  have hf0 : FitsD [] 13 (frameOf 0 [.slice none 0 0, .func (.func 220) #[] #[.pointer (some ⟨gs, 0, none⟩), .pointer (some ⟨gn, 0, none⟩)]]) { tmps := #[.slice none 0 0, .func (.func 220) #[] #[.pointer (some ⟨gs, 0, none⟩), .pointer (some ⟨gn, 0, none⟩)]] ++ Array.replicate (Tryz.f219.ntmps - 2) undef, defers := [] } := by
    refine ⟨rfl, by rw [Tryz.ntmps219]; rfl, fun t v ht => ?_⟩
    obtain ⟨_, h2⟩ := lk_frameOf _ 0 t v ht
    simp only [Nat.sub_zero] at h2
    match t, h2 with
    | 0, h2 => simpa using h2
    | 1, h2 => simpa using h2
    | t + 2, h2 => simp at h2
  refine wpIn_region_lit ((?_ : OpsF Fence.wide 2 Tryz.prog 13 [] _ _ _ w (fun e1 w1 => lk e1 2 = some (.pointer (some ⟨w.heap.size, 0, none⟩)) ∧ lk e1 1 = some (.func (.func 220) #[] #[.pointer (some ⟨gs, 0, none⟩), .pointer (some ⟨gn, 0, none⟩)]) ∧ Blk w1 w.heap.size 107 [.slice none 0 0] ∧ Ext w w1)) _ _ hf0 ?_)
  · refine opsF_cons .w rfl rfl (ow_box rfl rfl ?_)
    intro g w1 eg b1 x1 z1
    subst eg
    refine opsF_cons .w rfl rfl (ow_assign rfl ?_)
    exact opsF_nil ⟨rfl, rfl, b1, x1⟩
  rintro e1 a1 w1 hf1 ⟨k2, k1, b1, x1⟩
  have hz1 : n0 < w1.heap.size := by rw [hn0]; exact b1.lt
  refine wpIn_seq ?_
  refine wpIn_seq ?_
  refine wpIn_region_lit ((?_ : OpsF Fence.wide 2 Tryz.prog 13 [] _ _ e1 w1 (fun e2 w2 => lk e2 2 = some (.pointer (some ⟨w.heap.size, 0, none⟩)) ∧ lk e2 6 = some (.func (.func 220) #[] #[.pointer (some ⟨gs, 0, none⟩), .pointer (some ⟨gn, 0, none⟩)]) ∧ w2 = w1)) _ _ hf1 ?_)
  · refine opsF_cons .w rfl rfl (ow_move k1 ?_)
    exact opsF_nil ⟨by rw [updO, lk_cons, if_neg (by decide)]; exact k2, by rw [updO, lk_cons, if_pos rfl], rfl⟩
  rintro e2 a2 w2 hf2 ⟨k2, k6, rfl⟩
  refine wpIn_block ?_
  have hseq := (chunk_seq n0 gs gn d c A xs w q1 q2 hn0 hd hl hc)
  refine wpIn_rangeFunc_ownF (n := 2) rfl (by decide) (gf := 220) (lb := #[.pointer (some ⟨gs, 0, none⟩), .pointer (some ⟨gn, 0, none⟩)]) (hf2.knows (.tmp 6) _ k6) trivial ent220 hseq (hKt := belowK_t) (hKb := belowK_b (by omega)) (hb0 := x1) (fun _ => rfl)
    (ColI n0 w.heap.size w) (fun _ _ _ => False) (colI_from (by omega) (by omega)) (fun _ _ _ _ _ h _ _ => h) ⟨⟨none, 0, b1, Own.nil_ _ _ _ _⟩, by rw [hn0]; exact x1⟩
    (fun x => ({ tmps := a2.tmps.setIfInBounds 7 (Value.slice x.A x.m.next.length x.c), defers := [] } : Act).put (some 5) (Value.slice x.A x.m.next.length x.c))
    ?_ ?_ ?_ ?_
  · intro l x W K hK
    have e0 : ∀ (T : Array Value) (u : Value), (#[7].zip #[u]).foldl (fun t (p, v) => t.setIfInBounds p v) T = T.setIfInBounds 7 u := fun T u => by simp
    rw [e0]
    have e7 : (({ tmps := a2.tmps.setIfInBounds 7 (Value.slice x.A x.m.next.length x.c), defers := [] } : Act).eval (.tmp 7)) = Value.slice x.A x.m.next.length x.c := by
      show (a2.tmps.setIfInBounds 7 _).getD 7 undef = _
      simp [Array.getD_eq_getD_getElem?, hf2.2.1]
    refine wpIn_region_lit (l := [_]) (wpListIn_plain rfl fun K' hK' => ⟨fun f _ => trivial, ?_⟩)
    rw [Oper.semAt_eq _ _ _ (fun c h => by cases h)]
    unfold execOp
    simp only [Sem.run_pure, Oper.uponIn_value, e7]
    exact hK' _ _ (wpListIn_nil hK)
  · -- one round
    intro l pre x W hI hlen
    obtain ⟨⟨A1, c1, bB, oO⟩, hbel⟩ := hI
    have hs0 : n0 ≤ W.heap.size := by have := hbel.size; omega
    have hgB := bB.lt
    obtain ⟨vx, hvx⟩ : ∃ vx, vx = Value.slice x.A x.m.next.length x.c := ⟨_, rfl⟩
    rw [← hvx]
    have hfx : FitsD [] 13 [(5, vx), (2, .pointer (some ⟨w.heap.size, 0, none⟩))] (({ tmps := a2.tmps.setIfInBounds 7 vx, defers := [] } : Act).put (some 5) vx) := by
      have hsz := hf2.2.1
      have h2 := hf2.2.2 2 _ k2
      refine ⟨rfl, by simp [Act.put, hsz], fun t v ht => ?_⟩
      rw [lk_cons] at ht
      split at ht
      · rename_i h5; subst h5
        injection ht with ht; subst ht
        simp [Act.put, hsz, Array.getD_eq_getD_getElem?]
      · rw [lk_cons] at ht
        split at ht
        · rename_i h5 h6; subst h6
          injection ht with ht; subst ht
          simp only [Act.put]
          simp only [Array.getD_eq_getD_getElem?] at h2 ⊢
          rw [Array.getElem?_setIfInBounds_ne (by decide), Array.getElem?_setIfInBounds_ne (by decide)]
          exact h2
        · cases ht
    refine wpIn_block (wpIn_region_lit ((?_ : OpsF (Fence.wide.inRound l) 0 Tryz.prog 13 [] _ _ _ W (fun _ W' => KeepsOthers W W' ∧ Below n0 W W' ∧ ColI n0 w.heap.size w (pre ++ [x]) W')) _ _ hfx fun e' a' w' _ h => h))
    subst hvx
    have hr := WideF.r l
    refine opsF_cons hr rfl rfl (ow_loadB bB ti107 rfl rfl ?_)
    refine opsF_cons hr rfl rfl (ow_move rfl ?_)
    refine opsF_cons hr rfl rfl (ow_buildSlice el107 ti30 rfl rfl rfl rfl rfl ?_)
    intro gT W1 egT oT bT xT zT
    have bB1 := bB.ext xT
    have oO1 := oO.ext xT
    have hb1 : Below n0 W W1 := Below.mono xT hs0
    have hk1 : KeepsOthers W W1 := KeepsOthers.of_grownBy (gb_of_ext xT) (fun j o e => by cases e)
    have oT1 : Own W1 W.heap.size 30 1 (some ⟨gT, 0, none⟩) 1 1 (rowC x) := oT.to rfl
    refine opsF_cons hr rfl rfl (ow_append (ts := #[]) oO1 (by have := xT.size; omega) oT1.sl rfl (one_row x) el107 ti30 rfl rfl rfl rfl (by omega) (by omega) ?_)
    intro A2 c2 W2 oA hgA
    have hne : some w.heap.size ≠ (Value.slice A1 pre.length c1).ownBlock := fun e => Own.neT oO1 bB1 (by decide) e.symm
    have bB2 := bB1.grown hgA hne
    have hb2 : Below n0 W W2 := hb1.grown hgA (by have := xT.size; omega) (fun k e => (Own.lt oO1 e).1)
    have hk2 : KeepsOthers W W2 := hk1.trans (KeepsOthers.of_grownBy hgA (own_cells oO1))
    refine opsF_cons hr rfl rfl (ow_storeB bB2 ti107 rfl rfl rfl rfl rfl rfl ?_)
    intro W3 bB3 hg3 z3
    have oA3 := oA.grown hg3 (fun g e => by injection e with e; subst e; exact Own.neT oA bB2 (by decide))
    have hb3 : Below n0 W W3 := hb2.grown hg3 (by have := hgA.size; have := xT.size; omega) (fun k e => by injection e; omega)
    have hk3 : KeepsOthers W W3 := hk2.trans (KeepsOthers.of_grownBy hg3 (fun j o e ho => by injection e with e; subst e; rw [show W2.heap[w.heap.size]? = _ from bB2] at ho; cases ho; rfl))
    refine opsF_nil ⟨hk3, hb3, ⟨A2, c2, ?_, ?_⟩, hbel.trans hb3⟩
    · rw [List.length_append]; exact bB3
    · rw [List.length_append, List.flatMap_append]; exact oA3.to (by simp)
  · -- behind the loop
    intro D ps W hD hS hI hK
    subst hS
    obtain ⟨⟨A1, c1, bB, oO⟩, hbel⟩ := hI
    rw [chs_len] at bB oO
    have hf3 : FitsD [{ target := .collected D, args := #[] }] 13 e2 { a2 with defers := { target := .collected D, args := #[] } :: a2.defers } := ⟨by rw [hf2.1], hf2.2.1, hf2.2.2⟩
    show ((Code.seq _ _).wpIn _ _ _ _ _ _)
    refine wpIn_seq ?_
    refine wpIn_region_lit ((?_ : OpsF Fence.wide 2 Tryz.prog 13 _ _ _ e2 W (fun e4 w4 => lk e4 4 = some (.slice A1 (cN d xs.length) c1) ∧ w4 = W)) _ _ hf3 ?_)
    · refine opsF_cons .w rfl rfl (ow_loadB bB ti107 k2 rfl ?_)
      refine opsF_cons .w rfl rfl (ow_assign rfl ?_)
      exact opsF_nil ⟨rfl, rfl⟩
    rintro e4 a4 w4 hf4 ⟨k4, rfl⟩
    refine wpIn_ret ?_
    show LeavesInM _ _ _ _ _ _ a4.defers .returning w4
    rw [hf4.1]
    refine ⟨by simp, .inl ⟨_, _, rfl, run_takeDeferred hK, ?_⟩⟩
    have hgD := grownBy_putObj' w4 D (.deferred none)
    have hrow : ∀ r, some D = some r → ∃ o : Obj, w4.heap[r]? = some o ∧ o.isCells = false := fun r e => by injection e with e; subst e; exact ⟨_, hK, rfl⟩
    have h4 := hf4.2.2 4 _ k4
    refine ⟨_, results_tmp rfl _ _ _, A1, c1, h4, ?_, ?_⟩
    · rw [← hn0]; exact oO.grown hgD (own_nc oO hrow)
    · have := hbel.grown hgD (by have := hbel.size; omega) (fun k e => by injection e; omega)
      rwa [hn0] at this
  · intro D c' pre W hD hS hI hK
    exact hI.elim
end Go.Proofs.YtdoibplhbdkapaaGreatDoor
