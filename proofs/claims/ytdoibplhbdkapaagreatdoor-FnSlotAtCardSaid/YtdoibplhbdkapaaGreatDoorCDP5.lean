/- Texts of the seat that a law needs, put together. No condition. -/
import Derived.Test.YtdoibplhbdkapaaGreatDoorCDP4
namespace Go.Proofs.YtdoibplhbdkapaaGreatDoor
open Go.RowKit
set_option linter.unusedVariables false
set_option linter.unusedSimpArgs false

def SlotI.key (x : SlotI) : Int × Int × Int := (x.mode, x.round, x.slot)
def keyS (mode : Int) (r n : Nat) : List (Int × Int × Int) := (List.range n).map fun (s : Nat) => (mode, (r : Int), (s : Int))
def keyM (mode : Int) (x : Mode) : List (Int × Int × Int) := (List.range x.rounds.toNat).flatMap fun r => keyS mode r x.slots.toNat
def keysM (i : Int) : List Mode → List (Int × Int × Int)
  | [] => []
  | x :: r => keyM i x ++ keysM (i + 1) r
def complete (d : MedlD) : Bool := decide (d.ss.map SlotI.key = keysM 0 d.ms)
def hitK (ss : List SlotI) (k : Int × Int × Int) : Bool := decide (0 ≤ findS (hitS k.1 k.2.1 k.2.2) 0 ss)
def completeS (ss : List SlotI) (keys : List (Int × Int × Int)) (n : Int) : Bool := keys.all (hitK ss) && decide (n + keys.length = ss.length)

theorem range_drop {n k : Nat} (h : k < n) : (List.range n).drop k = k :: (List.range n).drop (k + 1) := by
  rw [List.drop_eq_getElem_cons (by simpa using h)]; simp
theorem range_end {n k : Nat} (h : n ≤ k) : (List.range n).drop k = [] := List.drop_eq_nil_of_le (by simpa using h)
theorem flatMap_get {β : Type} {f : Nat → List β} {s : Nat} (hf : ∀ r, (f r).length = s) : ∀ (n i j : Nat), i < n → j < s → ((List.range n).flatMap f)[i * s + j]? = (f i)[j]? := by
  intro n
  induction n with
  | zero => intro i j h; omega
  | succ n ih =>
    intro i j hi hj
    have hl : ((List.range n).flatMap f).length = n * s := by
      clear ih hi hj i j
      induction n with
      | zero => simp
      | succ n ih => rw [List.range_succ, List.flatMap_append, List.length_append, ih]; simp [hf, Nat.add_mul]
    rw [List.range_succ, List.flatMap_append]
    by_cases h : i < n
    · have h2 : i * s + j < n * s := by
        have : (i + 1) * s ≤ n * s := Nat.mul_le_mul_right _ h
        rw [Nat.add_mul] at this; omega
      rw [List.getElem?_append_left (by rw [hl]; exact h2), ih i j h hj]
    · have e : i = n := by omega
      subst e
      rw [List.getElem?_append_right (by rw [hl]; omega), hl, show i * s + j - i * s = j by omega]; simp
theorem keyS_len (mode : Int) (r n : Nat) : (keyS mode r n).length = n := by simp [keyS]
theorem keyM_len (mode : Int) (x : Mode) : (keyM mode x).length = x.rounds.toNat * x.slots.toNat := by
  unfold keyM
  generalize x.rounds.toNat = n
  induction n with
  | zero => simp
  | succ n ih => rw [List.range_succ, List.flatMap_append, List.length_append, ih]; simp [keyS_len, Nat.add_mul]
theorem keyM_at {mode : Int} {x : Mode} {i : Nat} (h : i < x.rounds.toNat * x.slots.toNat) : (keyM mode x)[i]? = some (mode, ((i / x.slots.toNat : Nat) : Int), ((i % x.slots.toNat : Nat) : Int)) := by
  have hs : 0 < x.slots.toNat := by
    rcases Nat.eq_zero_or_pos x.slots.toNat with h1 | h1
    · rw [h1] at h; simp at h
    · exact h1
  have h1 := flatMap_get (f := fun r => keyS mode r x.slots.toNat) (fun r => keyS_len mode r _) x.rounds.toNat (i / x.slots.toNat) (i % x.slots.toNat) ((Nat.div_lt_iff_lt_mul hs).2 h) (Nat.mod_lt _ hs)
  rw [Nat.mul_comm, Nat.div_add_mod] at h1
  unfold keyM
  rw [h1]
  simp [keyS, List.getElem?_range (Nat.mod_lt _ hs)]
theorem keyM_drop {mode : Int} {x : Mode} {i : Nat} (h : i < x.rounds.toNat * x.slots.toNat) : (keyM mode x).drop i = (mode, ((i / x.slots.toNat : Nat) : Int), ((i % x.slots.toNat : Nat) : Int)) :: (keyM mode x).drop (i + 1) := by
  have h1 := keyM_at (mode := mode) h
  obtain ⟨h2, h3⟩ := List.getElem?_eq_some_iff.1 h1
  rw [List.drop_eq_getElem_cons h2, h3]
theorem cmpS_key {a b : SlotI} : cmpS a b = 0 ↔ a.key = b.key := by
  simp only [cmpS, cmpI, SlotI.key, Prod.mk.injEq]
  constructor
  · intro h
    repeat' split at h
    all_goals first | (exfalso; omega) | skip
    all_goals (refine ⟨by omega, by omega, by omega⟩)
  · rintro ⟨h1, h2, h3⟩
    simp [h1, h2, h3]
/-- a number that orders as entries do, where all is in range -/
def codeK (k : Int × Int × Int) : Int := k.1 * 256 + k.2.1 * 16 + k.2.2
def inK (k : Int × Int × Int) : Prop := (0 ≤ k.1 ∧ k.1 ≤ 15) ∧ (0 ≤ k.2.1 ∧ k.2.1 ≤ 7) ∧ (0 ≤ k.2.2 ∧ k.2.2 ≤ 15)
theorem codeK_inj {a b : Int × Int × Int} (ha : inK a) (hb : inK b) (h : codeK a = codeK b) : a = b := by
  obtain ⟨a1, a2, a3⟩ := a; obtain ⟨b1, b2, b3⟩ := b
  simp only [inK, codeK] at ha hb h
  simp only [Prod.mk.injEq]
  omega
theorem slotOk_key {x : SlotI} (h : slotOk x = true) : inK x.key := by
  simp only [slotOk, Bool.and_eq_true] at h
  exact ⟨inB_iff.1 h.1.1.1, inB_iff.1 h.1.1.2, inB_iff.1 h.1.2⟩
theorem cmpS_code {a b : SlotI} (ha : inK a.key) (hb : inK b.key) (h : cmpS a b < 0) : codeK a.key < codeK b.key := by
  simp only [cmpS, cmpI, SlotI.key, inK, codeK] at *
  repeat' split at h
  all_goals omega
theorem okFrom_sorted : ∀ (l : List SlotI) (p : Option SlotI), okFrom p l = true → (l.map fun x => codeK x.key).Pairwise (· < ·) ∧ (∀ y, p = some y → slotOk y = true → ∀ x ∈ l, codeK y.key < codeK x.key)
  | [], _, _ => ⟨List.Pairwise.nil, fun _ _ _ x hx => by simp at hx⟩
  | x :: r, p, h => by
    have h1 : slotOk x = true ∧ okFrom (some x) r = true := by
      cases p <;> simp only [okFrom, Bool.and_eq_true] at h
      · exact h
      · exact ⟨h.1.1, h.2⟩
    obtain ⟨h2, h3⟩ := okFrom_sorted r _ h1.2
    have h4 := h3 x rfl h1.1
    refine ⟨List.Pairwise.cons (fun c hc => ?_) h2, fun y hp hy z hz => ?_⟩
    · obtain ⟨z, hz, rfl⟩ := List.mem_map.1 hc
      exact h4 z hz
    · subst hp
      simp only [okFrom, Bool.and_eq_true, decide_eq_true_eq] at h
      have h5 := cmpS_code (slotOk_key hy) (slotOk_key h1.1) h.1.2
      rcases List.mem_cons.1 hz with rfl | hz
      · exact h5
      · have := h4 z hz; omega
theorem sub_sorted : ∀ (k l : List Int), k.Pairwise (· < ·) → l.Pairwise (· < ·) → (∀ x ∈ k, x ∈ l) → k.Sublist l
  | [], l, _, _, _ => List.nil_sublist l
  | x :: k, [], _, _, h => by have := h x (by simp); simp at this
  | x :: k, y :: l, hk, hl, h => by
    by_cases e : x = y
    · subst e
      refine List.Sublist.cons_cons _ (sub_sorted k l (List.Pairwise.of_cons hk) (List.Pairwise.of_cons hl) fun z hz => ?_)
      have h1 := h z (by simp [hz])
      have h2 := List.rel_of_pairwise_cons hk hz
      rcases List.mem_cons.1 h1 with h3 | h3
      · omega
      · exact h3
    · refine List.Sublist.cons _ (sub_sorted (x :: k) l hk (List.Pairwise.of_cons hl) fun z hz => ?_)
      have hx : x ∈ l := by
        rcases List.mem_cons.1 (h x (by simp)) with h3 | h3
        · exact absurd h3 e
        · exact h3
      have hxy := List.rel_of_pairwise_cons hl hx
      rcases List.mem_cons.1 (h z hz) with h3 | h3
      · rcases List.mem_cons.1 hz with h4 | h4
        · omega
        · have := List.rel_of_pairwise_cons hk h4; omega
      · exact h3
  termination_by k l => k.length + l.length
theorem mem_keyM {k : Int × Int × Int} {i : Int} {x : Mode} : k ∈ keyM i x ↔ k.1 = i ∧ (0 ≤ k.2.1 ∧ k.2.1 < x.rounds) ∧ (0 ≤ k.2.2 ∧ k.2.2 < x.slots) := by
  obtain ⟨a, b, c⟩ := k
  simp only [keyM, keyS, List.mem_flatMap, List.mem_map, List.mem_range, Prod.mk.injEq]
  constructor
  · rintro ⟨r, hr, s, hs, h1, h2, h3⟩; omega
  · rintro ⟨h1, h2, h3⟩; exact ⟨b.toNat, by omega, c.toNat, by omega, by omega, by omega, by omega⟩
theorem mem_keysM {k : Int × Int × Int} : ∀ (ms : List Mode) (i : Int), k ∈ keysM i ms ↔ ∃ (j : Nat) (x : Mode), ms[j]? = some x ∧ k ∈ keyM (i + j) x
  | [], i => by simp [keysM]
  | x :: r, i => by
    rw [keysM, List.mem_append, mem_keysM r (i + 1)]
    constructor
    · rintro (h | ⟨j, y, h1, h2⟩)
      · exact ⟨0, x, rfl, by simpa using h⟩
      · exact ⟨j + 1, y, by simpa using h1, by rwa [show i + ((j + 1 : Nat) : Int) = i + 1 + j by omega]⟩
    · rintro ⟨j, y, h1, h2⟩
      cases j with
      | zero => simp at h1; subst h1; exact .inl (by simpa using h2)
      | succ j => exact .inr ⟨j, y, by simpa using h1, by rwa [show i + 1 + (j : Int) = i + ((j + 1 : Nat) : Int) by omega]⟩
theorem keyS_sorted (i : Int) (r n : Nat) : ((keyS i r n).map codeK).Pairwise (· < ·) := by
  unfold keyS
  rw [List.map_map, List.pairwise_map]
  refine List.Pairwise.imp ?_ List.pairwise_lt_range
  intro a b h
  simp only [Function.comp, codeK]; omega
theorem keyM_sorted (i : Int) (x : Mode) (hs : x.slots ≤ 16) : ((keyM i x).map codeK).Pairwise (· < ·) := by
  unfold keyM
  generalize x.rounds.toNat = n
  induction n with
  | zero => simp
  | succ n ih =>
    rw [List.range_succ, List.flatMap_append, List.map_append, List.pairwise_append]
    refine ⟨ih, by simpa using keyS_sorted i n x.slots.toNat, ?_⟩
    intro a ha b hb
    simp only [List.mem_map, List.mem_flatMap, List.mem_range, keyS, List.flatMap_cons, List.flatMap_nil, List.append_nil] at ha hb
    obtain ⟨_, ⟨r, hr, s, hs1, rfl⟩, rfl⟩ := ha
    obtain ⟨_, ⟨t, ht, rfl⟩, rfl⟩ := hb
    simp only [codeK]; omega
theorem keysM_sorted : ∀ (ms : List Mode) (i : Int), (∀ x ∈ ms, x.rounds ≤ 8 ∧ x.slots ≤ 16) → ((keysM i ms).map codeK).Pairwise (· < ·)
  | [], _, _ => by simp [keysM]
  | x :: r, i, h => by
    rw [keysM, List.map_append, List.pairwise_append]
    refine ⟨keyM_sorted i x (h x (by simp)).2, keysM_sorted r (i + 1) (fun y hy => h y (by simp [hy])), ?_⟩
    intro a ha b hb
    obtain ⟨ka, h1, rfl⟩ := List.mem_map.1 ha
    obtain ⟨kb, h2, rfl⟩ := List.mem_map.1 hb
    have h3 := mem_keyM.1 h1
    obtain ⟨j, y, hy, h4⟩ := (mem_keysM r (i + 1)).1 h2
    have h5 := mem_keyM.1 h4
    have h6 := h x (by simp)
    have h7 := h y (by have := List.mem_of_getElem? hy; simp [this])
    simp only [codeK]; omega
theorem isMT_in {ms : List Mode} (h : isMT ms = true) : ∀ x ∈ ms, (1 ≤ x.rounds ∧ x.rounds ≤ 8) ∧ (1 ≤ x.slots ∧ x.slots ≤ 16) := fun x hx => by
  obtain ⟨k, hk⟩ := List.mem_iff_getElem?.1 hx
  have := modeOk_in (isMT_at h hk)
  exact ⟨this.1, this.2.1⟩
theorem keysM_in {ms : List Mode} (h : isMT ms = true) : ∀ k ∈ keysM 0 ms, inK k := fun k hk => by
  obtain ⟨j, y, hy, h4⟩ := (mem_keysM ms 0).1 hk
  have h5 := mem_keyM.1 h4
  have h6 := isMT_in h y (List.mem_of_getElem? hy)
  have h7 := isMT_len h
  have h8 : j < ms.length := (List.getElem?_eq_some_iff.1 hy).1
  refine ⟨by omega, by omega, by omega⟩
theorem hitS_key {k : Int × Int × Int} {x : SlotI} : hitS k.1 k.2.1 k.2.2 x = true ↔ x.key = k := by
  obtain ⟨a, b, c⟩ := k
  simp [hitS, SlotI.key, Prod.mk.injEq, and_assoc]
theorem findS_none {f : SlotI → Bool} : ∀ (l : List SlotI) (k : Nat), findS f k l < 0 ↔ ∀ x ∈ l, f x = false
  | [], k => by simp [findS]
  | x :: r, k => by
    rw [findS]
    split
    · rename_i h
      constructor
      · intro h1; omega
      · intro h1; have := h1 x (by simp); rw [h] at this; cases this
    · rename_i h
      have := findS_none (f := f) r (k + 1)
      rw [show ((k : Int) + 1) = ((k + 1 : Nat) : Int) by omega, this]
      simp [h]
theorem hitK_iff {ss : List SlotI} {k : Int × Int × Int} : hitK ss k = true ↔ ∃ x ∈ ss, x.key = k := by
  have h := findS_none (f := hitS k.1 k.2.1 k.2.2) ss 0
  simp only [hitK, decide_eq_true_eq]
  rw [show ((0 : Nat) : Int) = 0 from rfl] at h
  constructor
  · intro h1
    refine Classical.byContradiction fun hc => ?_
    have : findS (hitS k.1 k.2.1 k.2.2) 0 ss < 0 := h.2 fun x hx => by
      cases e : hitS k.1 k.2.1 k.2.2 x
      · rfl
      · exact absurd ⟨x, hx, hitS_key.1 e⟩ hc
    omega
  · rintro ⟨x, hx, hk⟩
    refine Int.not_lt.1 fun h1 => ?_
    have := h.1 h1 x hx
    rw [hitS_key.2 hk] at this; cases this
theorem map_code : ∀ (a b : List (Int × Int × Int)), (∀ k ∈ a, inK k) → (∀ k ∈ b, inK k) → a.map codeK = b.map codeK → a = b
  | [], b, _, _, h => by cases b <;> simp_all
  | x :: a, [], _, _, h => by simp at h
  | x :: a, y :: b, h1, h2, h => by
    simp only [List.map_cons, List.cons.injEq] at h
    rw [codeK_inj (h1 x (by simp)) (h2 y (by simp)) h.1, map_code a b (fun k hk => h1 k (by simp [hk])) (fun k hk => h2 k (by simp [hk])) h.2]
theorem complete_eq {d : MedlD} (hm : isMT d.ms = true) (hs : isST d.ss = true) : completeS d.ss (keysM 0 d.ms) 0 = complete d := by
  have hs1 : okFrom none d.ss = true := by simp only [isST, Bool.and_eq_true] at hs; exact hs.1
  have hsort := (okFrom_sorted d.ss none hs1).1
  have hk := keysM_sorted d.ms 0 (fun x hx => ⟨(isMT_in hm x hx).1.2, (isMT_in hm x hx).2.2⟩)
  rw [Bool.eq_iff_iff]
  simp only [completeS, complete, Bool.and_eq_true, List.all_eq_true, decide_eq_true_eq]
  constructor
  · rintro ⟨h1, h2⟩
    have hsub : ((keysM 0 d.ms).map codeK).Sublist (d.ss.map fun x => codeK x.key) := by
      refine sub_sorted _ _ hk hsort fun c hc => ?_
      obtain ⟨k, hk1, rfl⟩ := List.mem_map.1 hc
      obtain ⟨x, hx, hxk⟩ := hitK_iff.1 (h1 k hk1)
      exact List.mem_map.2 ⟨x, hx, by rw [hxk]⟩
    have heq := hsub.eq_of_length (by simp; omega)
    have h3 : (d.ss.map SlotI.key).map codeK = (keysM 0 d.ms).map codeK := by rw [heq, List.map_map]; rfl
    have hin1 : ∀ k ∈ d.ss.map SlotI.key, inK k := fun k hk1 => by
      obtain ⟨x, hx, rfl⟩ := List.mem_map.1 hk1
      exact slotOk_key (okFrom_all _ _ hs1 x hx)
    have hin2 := keysM_in hm
    generalize d.ss.map SlotI.key = a at h3 hin1
    generalize keysM 0 d.ms = b at h3 hin2
    exact map_code a b hin1 hin2 h3
  · intro h
    refine ⟨fun k hk1 => ?_, by rw [← h]; simp⟩
    rw [← h] at hk1
    obtain ⟨x, hx, hxk⟩ := List.mem_map.1 hk1
    exact hitK_iff.2 ⟨x, hx, hxk⟩

def durOk (x y : SlotI) : Bool := !(decide (x.mode = y.mode) && decide (x.slot = y.slot)) || decide (x.desc.duration = y.desc.duration)
def steady (ss : List SlotI) : Bool := ss.all fun x => ss.all fun y => durOk x y
def durS : List SlotI → List SlotI → Bool
  | _, [] => true
  | q, x :: r => q.all (durOk x) && durS (q ++ [x]) r
def firstS (ss : List SlotI) (x : SlotI) : Bool := match ss[(findS (hitS x.mode 0 x.slot) 0 ss).toNat]? with
  | some y => decide (x.desc.duration = y.desc.duration)
  | none => false
def steadyI (ss : List SlotI) : Bool := ss.all (firstS ss)
theorem durOk_symm (x y : SlotI) : durOk x y = durOk y x := by
  rw [Bool.eq_iff_iff]
  simp only [durOk, Bool.or_eq_true, Bool.not_eq_true', Bool.and_eq_false_iff, decide_eq_true_eq, decide_eq_false_iff_not]
  constructor <;> (intro h; omega)
theorem durOk_refl (x : SlotI) : durOk x x = true := by simp [durOk]
theorem durS_iff : ∀ (r q : List SlotI), (∀ x ∈ q, ∀ y ∈ q, durOk x y = true) → (durS q r = true ↔ ∀ x ∈ q ++ r, ∀ y ∈ q ++ r, durOk x y = true)
  | [], q, hq => by simp only [durS, List.append_nil, true_iff]; exact hq
  | x :: r, q, hq => by
    simp only [durS, Bool.and_eq_true, List.all_eq_true]
    constructor
    · rintro ⟨h1, h2⟩
      have h3 : ∀ a ∈ q ++ [x], ∀ b ∈ q ++ [x], durOk a b = true := by
        intro a ha b hb
        rcases List.mem_append.1 ha with ha | ha <;> rcases List.mem_append.1 hb with hb | hb
        · exact hq a ha b hb
        · have e : b = x := by simpa using hb
          rw [e, durOk_symm]; exact h1 a ha
        · have e : a = x := by simpa using ha
          rw [e]; exact h1 b hb
        · have e : a = x := by simpa using ha
          have e2 : b = x := by simpa using hb
          rw [e, e2]; exact durOk_refl _
      have := (durS_iff r (q ++ [x]) h3).1 h2
      simpa using this
    · intro h
      refine ⟨fun y hy => h x (by simp) y (by simp [hy]), ?_⟩
      have h3 : ∀ a ∈ q ++ [x], ∀ b ∈ q ++ [x], durOk a b = true := fun a ha b hb => h a (by simp at ha ⊢; rcases ha with ha | ha <;> simp [ha]) b (by simp at hb ⊢; rcases hb with hb | hb <;> simp [hb])
      exact (durS_iff r (q ++ [x]) h3).2 (by simpa using h)
theorem durS_eq (ss : List SlotI) : durS [] ss = steady ss := by
  rw [Bool.eq_iff_iff, durS_iff ss [] (by simp)]
  simp [steady, List.all_eq_true]
theorem first_at {d : MedlD} (hm : isMT d.ms = true) (hc : complete d = true) {x : SlotI} (hx : x ∈ d.ss) : ∃ (j : Nat) (y : SlotI), findS (hitS x.mode 0 x.slot) 0 d.ss = (j : Int) ∧ d.ss[j]? = some y ∧ y.mode = x.mode ∧ y.slot = x.slot := by
  simp only [complete, decide_eq_true_eq] at hc
  have h1 : x.key ∈ keysM 0 d.ms := by rw [← hc]; exact List.mem_map.2 ⟨x, hx, rfl⟩
  obtain ⟨j, m, hj, h2⟩ := (mem_keysM d.ms 0).1 h1
  have h3 := mem_keyM.1 h2
  have h4 := isMT_in hm m (List.mem_of_getElem? hj)
  have h5 : ((x.mode, 0, x.slot) : Int × Int × Int) ∈ keysM 0 d.ms := (mem_keysM d.ms 0).2 ⟨j, m, hj, mem_keyM.2 ⟨h3.1, by simp only; omega, h3.2.2⟩⟩
  rw [← hc] at h5
  have h6 := hitK_iff.2 (List.mem_map.1 h5)
  simp only [hitK, decide_eq_true_eq] at h6
  rcases findS_lt (f := hitS x.mode 0 x.slot) d.ss 0 with h7 | ⟨i, y, h7, h8, h9⟩
  · rw [show ((0 : Nat) : Int) = 0 from rfl] at h7; omega
  · have h10 := (hitS_key (k := (x.mode, 0, x.slot))).1 h9
    simp only [SlotI.key, Prod.mk.injEq] at h10
    exact ⟨i, y, by rw [show ((0 : Nat) : Int) = 0 from rfl] at h7; rw [h7]; congr 1; omega, h8, h10.1, h10.2.2⟩
theorem steadyI_eq {d : MedlD} (hm : isMT d.ms = true) (hc : complete d = true) : steadyI d.ss = steady d.ss := by
  rw [Bool.eq_iff_iff]
  simp only [steadyI, steady, List.all_eq_true]
  constructor
  · intro h x hx y hy
    obtain ⟨i, a, h1, h2, h3, h4⟩ := first_at hm hc hx
    obtain ⟨j, b, h5, h6, h7, h8⟩ := first_at hm hc hy
    have h9 := h x hx; have h10 := h y hy
    simp only [firstS, h1, Int.toNat_natCast, h2, decide_eq_true_eq] at h9
    simp only [firstS, h5, Int.toNat_natCast, h6, decide_eq_true_eq] at h10
    simp only [durOk, Bool.or_eq_true, Bool.not_eq_true', Bool.and_eq_false_iff, decide_eq_true_eq, decide_eq_false_iff_not]
    by_cases e1 : x.mode = y.mode
    · by_cases e2 : x.slot = y.slot
      · right
        rw [e1, e2, h5] at h1
        have : j = i := by omega
        subst this
        rw [h6] at h2; injection h2 with h2; subst h2
        omega
      · left; right; exact e2
    · left; left; exact e1
  · intro h x hx
    obtain ⟨i, a, h1, h2, h3, h4⟩ := first_at hm hc hx
    have h5 := h x hx a (List.mem_of_getElem? h2)
    simp only [firstS, h1, Int.toNat_natCast, h2, decide_eq_true_eq]
    simp only [durOk, Bool.or_eq_true, Bool.not_eq_true', Bool.and_eq_false_iff, decide_eq_true_eq, decide_eq_false_iff_not] at h5
    omega

def sumD : List SlotI → Int
  | [] => 0
  | x :: r => x.desc.duration + sumD r
def ofMode (mode : Int) (ss : List SlotI) : List SlotI := ss.filter fun x => decide (x.mode = mode)
def cyc (ss : List SlotI) (mode : Int) : Int := sumD (ofMode mode ss)
theorem ofMode_cons_t {mode : Int} {x : SlotI} {r : List SlotI} (h : x.mode = mode) : ofMode mode (x :: r) = x :: ofMode mode r := by simp [ofMode, h]
theorem ofMode_cons_f {mode : Int} {x : SlotI} {r : List SlotI} (h : ¬ x.mode = mode) : ofMode mode (x :: r) = ofMode mode r := by simp [ofMode, h]
theorem sumD_app : ∀ (a b : List SlotI), sumD (a ++ b) = sumD a + sumD b
  | [], b => by simp [sumD]
  | x :: a, b => by rw [List.cons_append, sumD, sumD_app a b, sumD]; omega
theorem sumD_in : ∀ (l : List SlotI), (∀ x ∈ l, 0 ≤ x.desc.duration ∧ x.desc.duration ≤ 1000) → 0 ≤ sumD l ∧ sumD l ≤ 1000 * l.length
  | [], _ => by simp [sumD]
  | x :: r, h => by
    have h1 := h x (by simp)
    have h2 := sumD_in r fun y hy => h y (by simp [hy])
    rw [sumD, List.length_cons]; omega
theorem ofMode_sub (mode : Int) (ss : List SlotI) : ∀ x ∈ ofMode mode ss, x ∈ ss ∧ x.mode = mode := fun x hx => by
  have := List.mem_filter.1 hx; simpa using this
theorem ofMode_len (mode : Int) (ss : List SlotI) : (ofMode mode ss).length ≤ ss.length := List.length_filter_le _ _
def shortB (d : MedlD) : Bool := (List.range d.ms.length).all fun (i : Nat) => decide (cyc d.ss i ≤ 32000)

def sendersB (d : MedlD) : Bool := d.ss.all fun x => hasN (actV d.ns) x.desc.node
def sndV (ss : List SlotI) (mode round : Int) : Nat := vecF (fun x => decide (x.mode = mode) && decide (x.round = round)) (fun x => x.desc.node) 0 ss
def servS (act : Nat) (ss : List SlotI) (i : Int) : List Mode → Bool
  | [] => true
  | x :: r => ((List.range x.rounds.toNat).all fun (k : Nat) => decide (sndV ss i k = act)) && servS act ss (i + 1) r
def servI (act : Nat) (ss : List SlotI) (i : Int) : List Mode → Bool
  | [] => true
  | x :: r => ((List.range x.rounds.toNat).all fun (k : Nat) => decide (lackN act (sndV ss i k) = 0)) && servI act ss (i + 1) r
theorem snd_sub {act : Nat} {ss : List SlotI} {m r : Int} (h : (ss.all fun x => hasN act x.desc.node) = true) (i : Nat) (hi : (sndV ss m r).testBit i = true) : act.testBit i = true := by
  unfold sndV at hi
  rw [vecF_bit] at hi
  simp only [Nat.zero_testBit, Bool.false_or, List.any_eq_true, Bool.and_eq_true, decide_eq_true_eq] at hi
  obtain ⟨x, hx, _, e⟩ := hi
  have := List.all_eq_true.1 h x hx
  rw [e]; exact this
theorem serv_eq {act : Nat} {ss : List SlotI} (h : (ss.all fun x => hasN act x.desc.node) = true) : ∀ (ms : List Mode) (i : Int), servI act ss i ms = servS act ss i ms
  | [], i => rfl
  | x :: r, i => by
    rw [servI, servS, serv_eq h r (i + 1)]
    congr 1
    congr 1
    funext k
    rw [Bool.eq_iff_iff, decide_eq_true_eq, decide_eq_true_eq, lack_zero]
    constructor
    · intro h1
      apply Nat.eq_of_testBit_eq
      intro j
      rw [Bool.eq_iff_iff]
      exact ⟨snd_sub h j, h1 j⟩
    · intro h1 j hj
      rw [h1]; exact hj
def coldB (ss : List SlotI) : Bool := ss.any fun x => decide (x.desc.kind = 3) && decide (x.mode ≠ 0)

def ffault (d : MedlD) : Int :=
  if inB d.id 1 16777215 = false then 1
  else if isNT d.ns = false then 2
  else if isMT d.ms = false then 3
  else if isST d.ss = false then 4
  else if complete d = false then 5
  else if sendersB d = false then 6
  else if steady d.ss = false then 7
  else if shortB d = false then 8
  else if servS (actV d.ns) d.ss 0 d.ms = false then 9
  else if coldB d.ss = true then 10 else 0

theorem mulI {a b : Int} (h1 : 1 ≤ a ∧ a ≤ 8) (h2 : 1 ≤ b ∧ b ≤ 16) : 1 ≤ a * b ∧ a * b ≤ 128 := by
  have h3 : 1 * 1 ≤ a * b := Int.mul_le_mul h1.1 h2.1 (by omega) (by omega)
  have h4 : a * b ≤ 8 * 16 := Int.mul_le_mul h1.2 h2.2 (by omega) (by omega)
  omega
theorem mulN {a b : Int} (h1 : 1 ≤ a) (h2 : 1 ≤ b) : ((a.toNat * b.toNat : Nat) : Int) = a * b := by
  rw [Int.natCast_mul, Int.toNat_of_nonneg (by omega), Int.toNat_of_nonneg (by omega)]
theorem keyM_drop' {mode : Int} {x : Mode} {i : Nat} (h1 : 1 ≤ x.rounds) (h2 : 1 ≤ x.slots) (h : (i : Int) < x.rounds * x.slots) : (keyM mode x).drop i = (mode, (i : Int) / x.slots, (i : Int) % x.slots) :: (keyM mode x).drop (i + 1) := by
  have h3 := mulN h1 h2
  rw [keyM_drop (by omega), Int.natCast_ediv, Int.natCast_emod, Int.toNat_of_nonneg (by omega)]
theorem keyM_end {mode : Int} {x : Mode} {i : Nat} (h1 : 1 ≤ x.rounds) (h2 : 1 ≤ x.slots) (h : ¬ (i : Int) < x.rounds * x.slots) : (keyM mode x).drop i = [] := by
  have h3 := mulN h1 h2
  exact List.drop_eq_nil_of_le (by rw [keyM_len]; omega)
theorem comp_cons {a b : Int × Int × Int} {l1 l2 : List (Int × Int × Int)} (h : a = b) : decide (a :: l1 = b :: l2) = decide (l1 = l2) := by subst h; simp
theorem comp_ne {a b : Int × Int × Int} {l1 l2 : List (Int × Int × Int)} (h : a ≠ b) : decide (a :: l1 = b :: l2) = false := by simp [h]
theorem completeS_t {ss : List SlotI} {k : Int × Int × Int} {keys : List (Int × Int × Int)} {n : Int} (h : ¬ findS (hitS k.1 k.2.1 k.2.2) 0 ss < 0) : completeS ss (k :: keys) n = completeS ss keys (n + 1) := by
  have h1 : hitK ss k = true := decide_eq_true (by omega)
  have e : n + ((keys.length + 1 : Nat) : Int) = n + 1 + keys.length := by omega
  simp only [completeS, List.all_cons, h1, Bool.true_and, List.length_cons, e]
theorem completeS_f {ss : List SlotI} {k : Int × Int × Int} {keys : List (Int × Int × Int)} {n : Int} (h : findS (hitS k.1 k.2.1 k.2.2) 0 ss < 0) : completeS ss (k :: keys) n = false := by
  have h1 : hitK ss k = false := decide_eq_false (by omega)
  simp only [completeS, List.all_cons, h1, Bool.false_and]
theorem completeS_nil {ss : List SlotI} {n : Int} : completeS ss [] n = decide (n = ss.length) := by simp [completeS]
theorem keyS_step {k : Int} {r n s : Nat} (h : s < n) : (keyS k r n).drop s = (k, (r : Int), (s : Int)) :: (keyS k r n).drop (s + 1) := by
  unfold keyS
  rw [← List.map_drop, ← List.map_drop, range_drop h]; rfl
theorem keyS_end {k : Int} {r n s : Nat} (h : n ≤ s) : (keyS k r n).drop s = [] := List.drop_eq_nil_of_le (by rw [keyS_len]; omega)
def keyR (k : Int) (x : Mode) (r : Nat) : List (Int × Int × Int) := ((List.range x.rounds.toNat).drop r).flatMap fun r => keyS k r x.slots.toNat
theorem keyR_step {k : Int} {x : Mode} {r : Nat} (h : (r : Int) < x.rounds) : keyR k x r = keyS k r x.slots.toNat ++ keyR k x (r + 1) := by
  unfold keyR
  rw [range_drop (by omega)]; rfl
theorem keyR_end {k : Int} {x : Mode} {r : Nat} (h : ¬ (r : Int) < x.rounds) : keyR k x r = [] := by
  unfold keyR
  rw [range_end (by omega)]; rfl
theorem descI {d : Desc} (h : descOk d = true) : (0 ≤ d.node ∧ d.node ≤ 31) ∧ (0 ≤ d.kind ∧ d.kind ≤ 3) ∧ (0 ≤ d.size ∧ d.size ≤ 32) ∧ (1 ≤ d.duration ∧ d.duration ≤ 1000) := by
  simp only [descOk, Bool.and_eq_true] at h
  have h1 := inB_iff.1 h.1.1.1.1; have h2 := inB_iff.1 h.1.1.1.2; have h4 := inB_iff.1 h.2
  have h3 : 0 ≤ d.size ∧ d.size ≤ 32 := by
    have h5 := h.1.1.2
    unfold dataOk at h5
    split at h5
    · exact inB_iff.1 h5
    · split at h5
      · have := inB_iff.1 h5; omega
      · simp at h5; omega
  refine ⟨h1, h2, h3, ?_⟩
  have h6 : 1 ≤ bodyS d.kind d.size := by unfold bodyS; (repeat' split) <;> omega
  unfold cellsS at h4
  omega
theorem slotI {x : SlotI} (h : slotOk x = true) : inK x.key ∧ (0 ≤ x.desc.node ∧ x.desc.node ≤ 31) ∧ (1 ≤ x.desc.duration ∧ x.desc.duration ≤ 1000) := by
  have h1 := slotOk_key h
  simp only [slotOk, Bool.and_eq_true] at h
  have h2 := descI h.2
  exact ⟨h1, h2.1, h2.2.2.2⟩
theorem isST_all {xs : List SlotI} (h : isST xs = true) : ∀ x ∈ xs, slotOk x = true := by
  simp only [isST, Bool.and_eq_true] at h
  exact okFrom_all _ _ h.1
theorem isNT_ids {l : List NodeI} (h : isNT l = true) : ∀ x ∈ l, 0 ≤ x.id ∧ x.id ≤ 31 := fun x hx => (nodeOk_in (isNT_all h x hx)).1
theorem ff_eq (m : MedlI) : ffault m.d =
    if inB m.id 1 16777215 = false then 1
    else if isNT m.ns = false then 2
    else if isMT (m.ms.map (·.m)) = false then 3
    else if isST m.ss = false then 4
    else if complete m.d = false then 5
    else if sendersB m.d = false then 6
    else if steady m.ss = false then 7
    else if shortB m.d = false then 8
    else if servS (actV m.ns) m.ss 0 (m.ms.map (·.m)) = false then 9
    else if coldB m.ss = true then 10 else 0 := rfl
theorem short_step {m : MedlI} {k : Nat} (h : k < m.ms.length) : ((List.range m.ms.length).drop k).all (fun (i : Nat) => decide (cyc m.ss i ≤ 32000)) = (decide (cyc m.ss k ≤ 32000) && ((List.range m.ms.length).drop (k + 1)).all (fun (i : Nat) => decide (cyc m.ss i ≤ 32000))) := by
  rw [range_drop h, List.all_cons]
theorem short_eq {m : MedlI} : shortB m.d = ((List.range m.ms.length).drop 0).all (fun (i : Nat) => decide (cyc m.ss i ≤ 32000)) := by
  show (List.range (m.ms.map (·.m)).length).all _ = _
  rw [List.length_map, List.drop_zero]; rfl
theorem short_end {m : MedlI} {k : Nat} (h : ¬ (k : Int) < m.ms.length) : ((List.range m.ms.length).drop k).all (fun (i : Nat) => decide (cyc m.ss i ≤ 32000)) = true := by
  rw [range_end (by omega)]; rfl
def servR (p : Nat → Bool) (n r : Nat) : Bool := ((List.range n).drop r).all p
theorem servR_step {p : Nat → Bool} {n r : Nat} (h : r < n) : servR p n r = (p r && servR p n (r + 1)) := by
  unfold servR; rw [range_drop h, List.all_cons]
theorem servR_end {p : Nat → Bool} {n r : Nat} (h : n ≤ r) : servR p n r = true := by
  unfold servR; rw [range_end h]; rfl
theorem durOk_of {x y : SlotI} (h : x.mode ≠ y.mode ∨ x.slot ≠ y.slot ∨ x.desc.duration = y.desc.duration) : durOk x y = true := by
  simp only [durOk, Bool.or_eq_true, Bool.not_eq_true', Bool.and_eq_false_iff, decide_eq_true_eq, decide_eq_false_iff_not]; omega
theorem durOk_not {x y : SlotI} (h : x.mode = y.mode ∧ x.slot = y.slot ∧ x.desc.duration ≠ y.desc.duration) : durOk x y = false := by
  cases e : durOk x y
  · rfl
  · simp only [durOk, Bool.or_eq_true, Bool.not_eq_true', Bool.and_eq_false_iff, decide_eq_true_eq, decide_eq_false_iff_not] at e; omega
theorem all_split {α : Type} {p : α → Bool} {l r : List α} {q : List α} {x : α} {j : Nat} (h : q.all p = (q.drop j).all p) (hd : q.drop j = x :: r) (hx : p x = false) : q.all p = false := by rw [h, hd, List.all_cons, hx]; rfl
/-- what is kept while worlds only grow -/
structure Kept (S : World → Prop) (w : World) : Prop where
  up : Up S
  h : S w
theorem Kept.ext {S : World → Prop} {w w' : World} (h : Kept S w) (k : Ext w w') : Kept S w' := ⟨h.up, h.up w w' h.h k⟩
theorem findS_any (p : SlotI → Bool) : ∀ (xs : List SlotI) (k : Int), 0 ≤ k → decide (0 ≤ findS p k xs) = xs.any p
  | [], k, h => by simp [findS]
  | x :: r, k, h => by
    rw [findS, List.any_cons]
    by_cases e : p x = true
    · rw [if_pos e, e]; simp [h]
    · rw [if_neg e, findS_any p r (k + 1) (by omega)]; simp [e]
theorem any_not {α : Type} (p : α → Bool) : ∀ (xs : List α), (xs.any fun x => !p x) = !(xs.all p)
  | [] => rfl
  | x :: r => by rw [List.any_cons, List.all_cons, any_not p r]; cases p x <;> simp
theorem senders_any (m : MedlI) : (m.ss.any fun x => !hasN (actV m.ns) x.desc.node) = !sendersB m.d := any_not _ _
end Go.Proofs.YtdoibplhbdkapaaGreatDoor
namespace Go.Proofs.YtdoibplhbdkapaaGreatDoor
open Go.RowKit
set_option linter.unusedVariables false
set_option linter.unusedSimpArgs false

def isMedl (d : MedlD) : Bool := decide (ffault d = 0)
structure WellF (d : MedlD) : Prop where
  id : inB d.id 1 16777215 = true
  nt : isNT d.ns = true
  mt : isMT d.ms = true
  st : isST d.ss = true
  co : complete d = true
  se : sendersB d = true
  sd : steady d.ss = true
  sh : shortB d = true
  sv : servS (actV d.ns) d.ss 0 d.ms = true
  cd : coldB d.ss = false
theorem isMedl_iff {d : MedlD} : isMedl d = true ↔ WellF d := by
  rw [isMedl, decide_eq_true_eq, ffault]
  constructor
  · intro h
    repeat' split at h
    all_goals first | (exfalso; omega) | skip
    rename_i h1 h2 h3 h4 h5 h6 h7 h8 h9 h10
    exact ⟨by simpa using h1, by simpa using h2, by simpa using h3, by simpa using h4, by simpa using h5, by simpa using h6, by simpa using h7, by simpa using h8, by simpa using h9, by simpa using h10⟩
  · intro h
    simp [h.id, h.nt, h.mt, h.st, h.co, h.se, h.sd, h.sh, h.sv, h.cd]
def modeC (d : MedlD) (mode : Int) : Int := if isMedl d = true then (if inB mode 0 ((d.ms.length : Int) - 1) = true then 0 else 2) else 1
def roundsOf (d : MedlD) (mode : Int) : Int := match d.ms[mode.toNat]? with
  | some x => x.rounds
  | none => 1
def slotsOf (d : MedlD) (mode : Int) : Int := match d.ms[mode.toNat]? with
  | some x => x.slots
  | none => 1
def nextOf (d : MedlD) (mode : Int) : List Int := match d.ms[mode.toNat]? with
  | some x => x.next
  | none => []
def beforeB (m r s : Int) (x : SlotI) : Bool := decide (x.mode = m) && (decide (x.round < r) || (decide (x.round = r) && decide (x.slot < s)))
def startD (ss : List SlotI) (m r s : Int) : Int := sumD (ss.filter (beforeB m r s))
def atF (time : Int) : Int → List SlotI → Option SlotI
  | _, [] => none
  | a, x :: r => if time < a + x.desc.duration then some x else atF time (a + x.desc.duration) r
def slotAtF (d : MedlD) (mode time : Int) : Int × Int × Int := if modeC d mode = 0 then (if time < 0 then (0, 0, 4) else match atF time 0 (ofMode mode d.ss) with
  | some x => (x.round, x.slot, 0)
  | none => (0, 0, 4)) else (0, 0, modeC d mode)
theorem mode_get {d : MedlD} {mode : Int} (h : inB mode 0 ((d.ms.length : Int) - 1) = true) : ∃ (k : Nat) (x : Mode), mode = (k : Int) ∧ d.ms[k]? = some x := by
  have h1 := inB_iff.1 h
  exact ⟨mode.toNat, d.ms[mode.toNat]'(by omega), by omega, List.getElem?_eq_getElem _⟩
theorem of_get {d : MedlD} {k : Nat} {x : Mode} (h : d.ms[k]? = some x) : roundsOf d (k : Int) = x.rounds ∧ slotsOf d (k : Int) = x.slots ∧ nextOf d (k : Int) = x.next := by
  simp [roundsOf, slotsOf, nextOf, h]
theorem filter_keysM {i : Int} : ∀ (ms : List Mode) (i : Int) (j : Nat) (x : Mode), ms[j]? = some x → (keysM i ms).filter (fun k => decide (k.1 = i + j)) = keyM (i + j) x
  | [], i, j, x, h => by simp at h
  | y :: r, i, 0, x, h => by
    simp at h; subst h
    have e1 : (keyM i y).filter (fun k => decide (k.1 = i + ((0 : Nat) : Int))) = keyM i y := List.filter_eq_self.2 fun k hk => by have := mem_keyM.1 hk; simp [this.1]
    have e2 : (keysM (i + 1) r).filter (fun k => decide (k.1 = i + ((0 : Nat) : Int))) = [] := List.filter_eq_nil_iff.2 fun k hk => by
      obtain ⟨j, z, _, h2⟩ := (mem_keysM r (i + 1)).1 hk
      have := (mem_keyM.1 h2).1
      simp; omega
    rw [keysM, List.filter_append, e1, e2]; simp
  | y :: r, i, j + 1, x, h => by
    have e1 : (keyM i y).filter (fun k => decide (k.1 = i + ((j + 1 : Nat) : Int))) = [] := List.filter_eq_nil_iff.2 fun k hk => by have := (mem_keyM.1 hk).1; simp; omega
    have e2 := filter_keysM (i := i) r (i + 1) j x (by simpa using h)
    rw [keysM, List.filter_append, e1, List.nil_append, show i + ((j + 1 : Nat) : Int) = i + 1 + j by omega]
    exact e2
theorem ofMode_keys {d : MedlD} (hc : complete d = true) {k : Nat} {x : Mode} (hx : d.ms[k]? = some x) : (ofMode (k : Int) d.ss).map SlotI.key = keyM (k : Int) x := by
  simp only [complete, decide_eq_true_eq] at hc
  have h1 := filter_keysM (i := 0) d.ms 0 k x hx
  rw [← hc, List.filter_map] at h1
  rw [show (0 : Int) + k = k by omega] at h1
  exact h1
theorem ofMode_at {d : MedlD} (hc : complete d = true) {k : Nat} {x : Mode} (hx : d.ms[k]? = some x) {j : Nat} {y : SlotI} (hy : (ofMode (k : Int) d.ss)[j]? = some y) :
    y.mode = k ∧ y.round = ((j / x.slots.toNat : Nat) : Int) ∧ y.slot = ((j % x.slots.toNat : Nat) : Int) ∧ j < x.rounds.toNat * x.slots.toNat := by
  have h1 := ofMode_keys hc hx
  have h2 : j < x.rounds.toNat * x.slots.toNat := by
    have := congrArg List.length h1
    rw [List.length_map, keyM_len] at this
    have := (List.getElem?_eq_some_iff.1 hy).1
    omega
  have h3 : ((ofMode (k : Int) d.ss).map SlotI.key)[j]? = some y.key := by simp [hy]
  rw [h1, keyM_at h2] at h3
  injection h3 with h3
  simp only [SlotI.key, Prod.mk.injEq] at h3
  exact ⟨h3.1.symm, h3.2.1.symm, h3.2.2.symm, h2⟩
theorem ofMode_length {d : MedlD} (hc : complete d = true) {k : Nat} {x : Mode} (hx : d.ms[k]? = some x) : (ofMode (k : Int) d.ss).length = x.rounds.toNat * x.slots.toNat := by
  have := congrArg List.length (ofMode_keys hc hx)
  rwa [List.length_map, keyM_len] at this
theorem filter_take {α : Type} {p : α → Bool} : ∀ (l : List α) (n : Nat), (∀ (j : Nat) (x : α), l[j]? = some x → (p x = true ↔ j < n)) → l.filter p = l.take n
  | [], n, _ => by simp
  | x :: r, 0, h => by
    have h1 : p x = false := by have := h 0 x rfl; simpa using this
    rw [List.take_zero, List.filter_cons_of_neg (by simp [h1])]
    have := filter_take (p := p) r 0 (fun j y hy => by have := h (j + 1) y (by simpa using hy); simpa using this)
    simpa using this
  | x :: r, n + 1, h => by
    have h1 : p x = true := (h 0 x rfl).2 (by omega)
    rw [List.take_succ_cons, List.filter_cons_of_pos h1, filter_take r n (fun j y hy => by have := h (j + 1) y (by simpa using hy); rw [this]; omega)]
theorem lex_lt {j n r s : Nat} (hn : 0 < n) (hs : s ≤ n) : (j / n < r ∨ (j / n = r ∧ j % n < s)) ↔ j < r * n + s := by
  have h1 := Nat.div_add_mod j n
  have h2 := Nat.mod_lt j hn
  generalize j / n = a at *
  generalize j % n = b at *
  subst h1
  constructor
  · rintro (h | ⟨h, h3⟩)
    · have : n * (a + 1) ≤ n * r := Nat.mul_le_mul_left _ h
      rw [Nat.mul_add, Nat.mul_comm n r] at this; omega
    · subst h; rw [Nat.mul_comm]; omega
  · intro h
    rcases Nat.lt_trichotomy a r with h3 | h3 | h3
    · exact .inl h3
    · subst h3; rw [Nat.mul_comm] at h; exact .inr ⟨rfl, by omega⟩
    · exfalso
      have : n * (r + 1) ≤ n * a := Nat.mul_le_mul_left _ h3
      rw [Nat.mul_add, Nat.mul_comm n r] at this; omega
theorem start_take {d : MedlD} (hc : complete d = true) {k : Nat} {x : Mode} (hx : d.ms[k]? = some x) (hs1 : 1 ≤ x.slots) {r s : Nat} (hs : (s : Int) ≤ x.slots) :
    startD d.ss k r s = sumD ((ofMode (k : Int) d.ss).take (r * x.slots.toNat + s)) := by
  have e : d.ss.filter (beforeB k r s) = (ofMode (k : Int) d.ss).filter (fun x => decide (x.round < (r : Int)) || (decide (x.round = (r : Int)) && decide (x.slot < (s : Int)))) := by
    rw [ofMode, List.filter_filter]
    congr 1
    funext y
    simp [beforeB, Bool.and_comm]
  unfold startD
  rw [e, filter_take _ (r * x.slots.toNat + s) fun j y hy => ?_]
  obtain ⟨h1, h2, h3, h4⟩ := ofMode_at hc hx hy
  rw [← lex_lt (by omega) (by omega)]
  simp only [Bool.or_eq_true, Bool.and_eq_true, decide_eq_true_eq, h2, h3]
  omega
theorem start_at {d : MedlD} (hc : complete d = true) {k : Nat} {x : Mode} (hx : d.ms[k]? = some x) (hs1 : 1 ≤ x.slots) {j : Nat} {y : SlotI} (hy : (ofMode (k : Int) d.ss)[j]? = some y) :
    startD d.ss k y.round y.slot = sumD ((ofMode (k : Int) d.ss).take j) := by
  obtain ⟨h1, h2, h3, h4⟩ := ofMode_at hc hx hy
  have h5 : j % x.slots.toNat < x.slots.toNat := Nat.mod_lt _ (by omega)
  rw [h2, h3, start_take hc hx hs1 (by omega), Nat.mul_comm, Nat.div_add_mod]
theorem atF_find {L : List SlotI} {q : SlotI → Bool} {time : Int} (hq : ∀ (j : Nat) (y : SlotI), L[j]? = some y → q y = decide (time < sumD (L.take j) + y.desc.duration)) :
    ∀ (n : Nat) (k : Nat), L.length - k = n → atF time (sumD (L.take k)) (L.drop k) = (L.drop k).find? q
  | 0, k, h => by rw [List.drop_eq_nil_of_le (by omega)]; rfl
  | n + 1, k, h => by
    have hk : k < L.length := by omega
    have h1 := hq k L[k] (List.getElem?_eq_getElem hk)
    have e : sumD (L.take (k + 1)) = sumD (L.take k) + L[k].desc.duration := by
      rw [List.take_add_one, List.getElem?_eq_getElem hk, sumD_app]; simp [sumD]
    rw [List.drop_eq_getElem_cons hk, atF, List.find?_cons, h1, ← e, atF_find hq n (k + 1) (by omega)]
    split
    · rename_i h2; rw [decide_eq_true (by omega)]
    · rename_i h2; rw [decide_eq_false (by omega)]
/-- the way of the reference -/
def atS (ss : List SlotI) (mode time : Int) : Option SlotI := ss.find? fun x => decide (x.mode = mode) && decide (time < startD ss mode x.round x.slot + x.desc.duration)
theorem atS_eq {d : MedlD} (hc : complete d = true) {k : Nat} {x : Mode} (hx : d.ms[k]? = some x) (hs1 : 1 ≤ x.slots) (time : Int) : atS d.ss k time = atF time 0 (ofMode (k : Int) d.ss) := by
  have h1 := atF_find (L := ofMode (k : Int) d.ss) (q := fun y => decide (time < startD d.ss k y.round y.slot + y.desc.duration)) (time := time) (fun j y hy => by rw [start_at hc hx hs1 hy]) _ 0 rfl
  simp only [List.take_zero, List.drop_zero, sumD] at h1
  rw [h1, atS, ofMode, List.find?_filter]
  congr 1
  funext a
  rw [Bool.eq_iff_iff]
  simp
theorem modeC_zero {d : MedlD} {mode : Int} : modeC d mode = 0 ↔ isMedl d = true ∧ inB mode 0 ((d.ms.length : Int) - 1) = true := by
  unfold modeC; split
  · split <;> simp_all
  · simp_all

theorem modeC_m (m : MedlI) (mode : Int) : modeC m.d mode = if isMedl m.d = true then (if inB mode 0 ((m.ms.length : Int) - 1) = true then 0 else 2) else 1 := by
  unfold modeC
  rw [show m.d.ms.length = m.ms.length from List.length_map ..]
theorem startD_cons_t {m r s : Int} {x : SlotI} {l : List SlotI} (h : beforeB m r s x = true) : startD (x :: l) m r s = x.desc.duration + startD l m r s := by
  unfold startD; rw [List.filter_cons_of_pos h, sumD]
theorem startD_cons_f {m r s : Int} {x : SlotI} {l : List SlotI} (h : beforeB m r s x = false) : startD (x :: l) m r s = startD l m r s := by
  unfold startD; rw [List.filter_cons_of_neg (by simp [h])]
theorem startD_in {l : List SlotI} (h : ∀ x ∈ l, slotOk x = true) (m r s : Int) : 0 ≤ startD l m r s ∧ startD l m r s ≤ 1000 * l.length := by
  have h1 := sumD_in (l.filter (beforeB m r s)) fun x hx => by have := slotI (h x (List.mem_filter.1 hx).1); omega
  have h2 := List.length_filter_le (beforeB m r s) l
  unfold startD; omega
def atP (ss : List SlotI) (mode time : Int) (x : SlotI) : Bool := decide (x.mode = mode) && decide (time < startD ss mode x.round x.slot + x.desc.duration)
theorem find_t {p : SlotI → Bool} {x : SlotI} {r : List SlotI} (h : p x = true) : (x :: r).find? p = some x := by rw [List.find?_cons, h]
theorem find_f {p : SlotI → Bool} {x : SlotI} {r : List SlotI} (h : p x = false) : (x :: r).find? p = r.find? p := by rw [List.find?_cons, h]
end Go.Proofs.YtdoibplhbdkapaaGreatDoor
