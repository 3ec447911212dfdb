/- Texts of the seat that a law needs, put together. No condition. -/
import Derived.Test.YtdoibplhbdkapaaGreatDoorCFP4
import Derived.Test.YtdoibplhbdkapaaGreatDoorCFP3
namespace Go.Proofs.YtdoibplhbdkapaaGreatDoor
open Go.RowKit
set_option linter.unusedVariables false
set_option linter.unusedSimpArgs false

def SlotI.key (x : SlotI) : Int × Int × Int := (x.mode, x.round, x.slot)
def keyS (mode : Int) (r n : Nat) : List (Int × Int × Int) := (List.range n).map fun (s : Nat) => (mode, (r : Int), (s : Int))
def keyM (mode : Int) (x : Mode) : List (Int × Int × Int) := (List.range x.rounds.toNat).flatMap fun r => keyS mode r x.slots.toNat
def keysM (i : Int) : List Mode → List (Int × Int × Int)
  | [] => []
  | x :: r => keyM i x ++ keysM (i + 1) r
def complete (d : MedlD) : Bool := decide (d.ss.map SlotI.key = keysM 0 d.ms)
def hitK (ss : List SlotI) (k : Int × Int × Int) : Bool := decide (0 ≤ findS (hitS k.1 k.2.1 k.2.2) 0 ss)
def completeS (ss : List SlotI) (keys : List (Int × Int × Int)) (n : Int) : Bool := keys.all (hitK ss) && decide (n + keys.length = ss.length)

theorem range_drop {n k : Nat} (h : k < n) : (List.range n).drop k = k :: (List.range n).drop (k + 1) := by
  rw [List.drop_eq_getElem_cons (by simpa using h)]; simp
theorem range_end {n k : Nat} (h : n ≤ k) : (List.range n).drop k = [] := List.drop_eq_nil_of_le (by simpa using h)
theorem flatMap_get {β : Type} {f : Nat → List β} {s : Nat} (hf : ∀ r, (f r).length = s) : ∀ (n i j : Nat), i < n → j < s → ((List.range n).flatMap f)[i * s + j]? = (f i)[j]? := by
  intro n
  induction n with
  | zero => intro i j h; omega
  | succ n ih =>
    intro i j hi hj
    have hl : ((List.range n).flatMap f).length = n * s := by
      clear ih hi hj i j
      induction n with
      | zero => simp
      | succ n ih => rw [List.range_succ, List.flatMap_append, List.length_append, ih]; simp [hf, Nat.add_mul]
    rw [List.range_succ, List.flatMap_append]
    by_cases h : i < n
    · have h2 : i * s + j < n * s := by
        have : (i + 1) * s ≤ n * s := Nat.mul_le_mul_right _ h
        rw [Nat.add_mul] at this; omega
      rw [List.getElem?_append_left (by rw [hl]; exact h2), ih i j h hj]
    · have e : i = n := by omega
      subst e
      rw [List.getElem?_append_right (by rw [hl]; omega), hl, show i * s + j - i * s = j by omega]; simp
theorem keyS_len (mode : Int) (r n : Nat) : (keyS mode r n).length = n := by simp [keyS]
theorem keyM_len (mode : Int) (x : Mode) : (keyM mode x).length = x.rounds.toNat * x.slots.toNat := by
  unfold keyM
  generalize x.rounds.toNat = n
  induction n with
  | zero => simp
  | succ n ih => rw [List.range_succ, List.flatMap_append, List.length_append, ih]; simp [keyS_len, Nat.add_mul]
theorem keyM_at {mode : Int} {x : Mode} {i : Nat} (h : i < x.rounds.toNat * x.slots.toNat) : (keyM mode x)[i]? = some (mode, ((i / x.slots.toNat : Nat) : Int), ((i % x.slots.toNat : Nat) : Int)) := by
  have hs : 0 < x.slots.toNat := by
    rcases Nat.eq_zero_or_pos x.slots.toNat with h1 | h1
    · rw [h1] at h; simp at h
    · exact h1
  have h1 := flatMap_get (f := fun r => keyS mode r x.slots.toNat) (fun r => keyS_len mode r _) x.rounds.toNat (i / x.slots.toNat) (i % x.slots.toNat) ((Nat.div_lt_iff_lt_mul hs).2 h) (Nat.mod_lt _ hs)
  rw [Nat.mul_comm, Nat.div_add_mod] at h1
  unfold keyM
  rw [h1]
  simp [keyS, List.getElem?_range (Nat.mod_lt _ hs)]
theorem keyM_drop {mode : Int} {x : Mode} {i : Nat} (h : i < x.rounds.toNat * x.slots.toNat) : (keyM mode x).drop i = (mode, ((i / x.slots.toNat : Nat) : Int), ((i % x.slots.toNat : Nat) : Int)) :: (keyM mode x).drop (i + 1) := by
  have h1 := keyM_at (mode := mode) h
  obtain ⟨h2, h3⟩ := List.getElem?_eq_some_iff.1 h1
  rw [List.drop_eq_getElem_cons h2, h3]
theorem cmpS_key {a b : SlotI} : cmpS a b = 0 ↔ a.key = b.key := by
  simp only [cmpS, cmpI, SlotI.key, Prod.mk.injEq]
  constructor
  · intro h
    repeat' split at h
    all_goals first | (exfalso; omega) | skip
    all_goals (refine ⟨by omega, by omega, by omega⟩)
  · rintro ⟨h1, h2, h3⟩
    simp [h1, h2, h3]
/-- a number that orders as entries do, where all is in range -/
def codeK (k : Int × Int × Int) : Int := k.1 * 256 + k.2.1 * 16 + k.2.2
def inK (k : Int × Int × Int) : Prop := (0 ≤ k.1 ∧ k.1 ≤ 15) ∧ (0 ≤ k.2.1 ∧ k.2.1 ≤ 7) ∧ (0 ≤ k.2.2 ∧ k.2.2 ≤ 15)
theorem codeK_inj {a b : Int × Int × Int} (ha : inK a) (hb : inK b) (h : codeK a = codeK b) : a = b := by
  obtain ⟨a1, a2, a3⟩ := a; obtain ⟨b1, b2, b3⟩ := b
  simp only [inK, codeK] at ha hb h
  simp only [Prod.mk.injEq]
  omega
theorem slotOk_key {x : SlotI} (h : slotOk x = true) : inK x.key := by
  simp only [slotOk, Bool.and_eq_true] at h
  exact ⟨inB_iff.1 h.1.1.1, inB_iff.1 h.1.1.2, inB_iff.1 h.1.2⟩
theorem cmpS_code {a b : SlotI} (ha : inK a.key) (hb : inK b.key) (h : cmpS a b < 0) : codeK a.key < codeK b.key := by
  simp only [cmpS, cmpI, SlotI.key, inK, codeK] at *
  repeat' split at h
  all_goals omega
theorem okFrom_sorted : ∀ (l : List SlotI) (p : Option SlotI), okFrom p l = true → (l.map fun x => codeK x.key).Pairwise (· < ·) ∧ (∀ y, p = some y → slotOk y = true → ∀ x ∈ l, codeK y.key < codeK x.key)
  | [], _, _ => ⟨List.Pairwise.nil, fun _ _ _ x hx => by simp at hx⟩
  | x :: r, p, h => by
    have h1 : slotOk x = true ∧ okFrom (some x) r = true := by
      cases p <;> simp only [okFrom, Bool.and_eq_true] at h
      · exact h
      · exact ⟨h.1.1, h.2⟩
    obtain ⟨h2, h3⟩ := okFrom_sorted r _ h1.2
    have h4 := h3 x rfl h1.1
    refine ⟨List.Pairwise.cons (fun c hc => ?_) h2, fun y hp hy z hz => ?_⟩
    · obtain ⟨z, hz, rfl⟩ := List.mem_map.1 hc
      exact h4 z hz
    · subst hp
      simp only [okFrom, Bool.and_eq_true, decide_eq_true_eq] at h
      have h5 := cmpS_code (slotOk_key hy) (slotOk_key h1.1) h.1.2
      rcases List.mem_cons.1 hz with rfl | hz
      · exact h5
      · have := h4 z hz; omega
theorem sub_sorted : ∀ (k l : List Int), k.Pairwise (· < ·) → l.Pairwise (· < ·) → (∀ x ∈ k, x ∈ l) → k.Sublist l
  | [], l, _, _, _ => List.nil_sublist l
  | x :: k, [], _, _, h => by have := h x (by simp); simp at this
  | x :: k, y :: l, hk, hl, h => by
    by_cases e : x = y
    · subst e
      refine List.Sublist.cons_cons _ (sub_sorted k l (List.Pairwise.of_cons hk) (List.Pairwise.of_cons hl) fun z hz => ?_)
      have h1 := h z (by simp [hz])
      have h2 := List.rel_of_pairwise_cons hk hz
      rcases List.mem_cons.1 h1 with h3 | h3
      · omega
      · exact h3
    · refine List.Sublist.cons _ (sub_sorted (x :: k) l hk (List.Pairwise.of_cons hl) fun z hz => ?_)
      have hx : x ∈ l := by
        rcases List.mem_cons.1 (h x (by simp)) with h3 | h3
        · exact absurd h3 e
        · exact h3
      have hxy := List.rel_of_pairwise_cons hl hx
      rcases List.mem_cons.1 (h z hz) with h3 | h3
      · rcases List.mem_cons.1 hz with h4 | h4
        · omega
        · have := List.rel_of_pairwise_cons hk h4; omega
      · exact h3
  termination_by k l => k.length + l.length
theorem mem_keyM {k : Int × Int × Int} {i : Int} {x : Mode} : k ∈ keyM i x ↔ k.1 = i ∧ (0 ≤ k.2.1 ∧ k.2.1 < x.rounds) ∧ (0 ≤ k.2.2 ∧ k.2.2 < x.slots) := by
  obtain ⟨a, b, c⟩ := k
  simp only [keyM, keyS, List.mem_flatMap, List.mem_map, List.mem_range, Prod.mk.injEq]
  constructor
  · rintro ⟨r, hr, s, hs, h1, h2, h3⟩; omega
  · rintro ⟨h1, h2, h3⟩; exact ⟨b.toNat, by omega, c.toNat, by omega, by omega, by omega, by omega⟩
theorem mem_keysM {k : Int × Int × Int} : ∀ (ms : List Mode) (i : Int), k ∈ keysM i ms ↔ ∃ (j : Nat) (x : Mode), ms[j]? = some x ∧ k ∈ keyM (i + j) x
  | [], i => by simp [keysM]
  | x :: r, i => by
    rw [keysM, List.mem_append, mem_keysM r (i + 1)]
    constructor
    · rintro (h | ⟨j, y, h1, h2⟩)
      · exact ⟨0, x, rfl, by simpa using h⟩
      · exact ⟨j + 1, y, by simpa using h1, by rwa [show i + ((j + 1 : Nat) : Int) = i + 1 + j by omega]⟩
    · rintro ⟨j, y, h1, h2⟩
      cases j with
      | zero => simp at h1; subst h1; exact .inl (by simpa using h2)
      | succ j => exact .inr ⟨j, y, by simpa using h1, by rwa [show i + 1 + (j : Int) = i + ((j + 1 : Nat) : Int) by omega]⟩
theorem keyS_sorted (i : Int) (r n : Nat) : ((keyS i r n).map codeK).Pairwise (· < ·) := by
  unfold keyS
  rw [List.map_map, List.pairwise_map]
  refine List.Pairwise.imp ?_ List.pairwise_lt_range
  intro a b h
  simp only [Function.comp, codeK]; omega
theorem keyM_sorted (i : Int) (x : Mode) (hs : x.slots ≤ 16) : ((keyM i x).map codeK).Pairwise (· < ·) := by
  unfold keyM
  generalize x.rounds.toNat = n
  induction n with
  | zero => simp
  | succ n ih =>
    rw [List.range_succ, List.flatMap_append, List.map_append, List.pairwise_append]
    refine ⟨ih, by simpa using keyS_sorted i n x.slots.toNat, ?_⟩
    intro a ha b hb
    simp only [List.mem_map, List.mem_flatMap, List.mem_range, keyS, List.flatMap_cons, List.flatMap_nil, List.append_nil] at ha hb
    obtain ⟨_, ⟨r, hr, s, hs1, rfl⟩, rfl⟩ := ha
    obtain ⟨_, ⟨t, ht, rfl⟩, rfl⟩ := hb
    simp only [codeK]; omega
theorem keysM_sorted : ∀ (ms : List Mode) (i : Int), (∀ x ∈ ms, x.rounds ≤ 8 ∧ x.slots ≤ 16) → ((keysM i ms).map codeK).Pairwise (· < ·)
  | [], _, _ => by simp [keysM]
  | x :: r, i, h => by
    rw [keysM, List.map_append, List.pairwise_append]
    refine ⟨keyM_sorted i x (h x (by simp)).2, keysM_sorted r (i + 1) (fun y hy => h y (by simp [hy])), ?_⟩
    intro a ha b hb
    obtain ⟨ka, h1, rfl⟩ := List.mem_map.1 ha
    obtain ⟨kb, h2, rfl⟩ := List.mem_map.1 hb
    have h3 := mem_keyM.1 h1
    obtain ⟨j, y, hy, h4⟩ := (mem_keysM r (i + 1)).1 h2
    have h5 := mem_keyM.1 h4
    have h6 := h x (by simp)
    have h7 := h y (by have := List.mem_of_getElem? hy; simp [this])
    simp only [codeK]; omega
theorem isMT_in {ms : List Mode} (h : isMT ms = true) : ∀ x ∈ ms, (1 ≤ x.rounds ∧ x.rounds ≤ 8) ∧ (1 ≤ x.slots ∧ x.slots ≤ 16) := fun x hx => by
  obtain ⟨k, hk⟩ := List.mem_iff_getElem?.1 hx
  have := modeOk_in (isMT_at h hk)
  exact ⟨this.1, this.2.1⟩
theorem keysM_in {ms : List Mode} (h : isMT ms = true) : ∀ k ∈ keysM 0 ms, inK k := fun k hk => by
  obtain ⟨j, y, hy, h4⟩ := (mem_keysM ms 0).1 hk
  have h5 := mem_keyM.1 h4
  have h6 := isMT_in h y (List.mem_of_getElem? hy)
  have h7 := isMT_len h
  have h8 : j < ms.length := (List.getElem?_eq_some_iff.1 hy).1
  refine ⟨by omega, by omega, by omega⟩
theorem hitS_key {k : Int × Int × Int} {x : SlotI} : hitS k.1 k.2.1 k.2.2 x = true ↔ x.key = k := by
  obtain ⟨a, b, c⟩ := k
  simp [hitS, SlotI.key, Prod.mk.injEq, and_assoc]
theorem findS_none {f : SlotI → Bool} : ∀ (l : List SlotI) (k : Nat), findS f k l < 0 ↔ ∀ x ∈ l, f x = false
  | [], k => by simp [findS]
  | x :: r, k => by
    rw [findS]
    split
    · rename_i h
      constructor
      · intro h1; omega
      · intro h1; have := h1 x (by simp); rw [h] at this; cases this
    · rename_i h
      have := findS_none (f := f) r (k + 1)
      rw [show ((k : Int) + 1) = ((k + 1 : Nat) : Int) by omega, this]
      simp [h]
theorem hitK_iff {ss : List SlotI} {k : Int × Int × Int} : hitK ss k = true ↔ ∃ x ∈ ss, x.key = k := by
  have h := findS_none (f := hitS k.1 k.2.1 k.2.2) ss 0
  simp only [hitK, decide_eq_true_eq]
  rw [show ((0 : Nat) : Int) = 0 from rfl] at h
  constructor
  · intro h1
    refine Classical.byContradiction fun hc => ?_
    have : findS (hitS k.1 k.2.1 k.2.2) 0 ss < 0 := h.2 fun x hx => by
      cases e : hitS k.1 k.2.1 k.2.2 x
      · rfl
      · exact absurd ⟨x, hx, hitS_key.1 e⟩ hc
    omega
  · rintro ⟨x, hx, hk⟩
    refine Int.not_lt.1 fun h1 => ?_
    have := h.1 h1 x hx
    rw [hitS_key.2 hk] at this; cases this
theorem map_code : ∀ (a b : List (Int × Int × Int)), (∀ k ∈ a, inK k) → (∀ k ∈ b, inK k) → a.map codeK = b.map codeK → a = b
  | [], b, _, _, h => by cases b <;> simp_all
  | x :: a, [], _, _, h => by simp at h
  | x :: a, y :: b, h1, h2, h => by
    simp only [List.map_cons, List.cons.injEq] at h
    rw [codeK_inj (h1 x (by simp)) (h2 y (by simp)) h.1, map_code a b (fun k hk => h1 k (by simp [hk])) (fun k hk => h2 k (by simp [hk])) h.2]
theorem complete_eq {d : MedlD} (hm : isMT d.ms = true) (hs : isST d.ss = true) : completeS d.ss (keysM 0 d.ms) 0 = complete d := by
  have hs1 : okFrom none d.ss = true := by simp only [isST, Bool.and_eq_true] at hs; exact hs.1
  have hsort := (okFrom_sorted d.ss none hs1).1
  have hk := keysM_sorted d.ms 0 (fun x hx => ⟨(isMT_in hm x hx).1.2, (isMT_in hm x hx).2.2⟩)
  rw [Bool.eq_iff_iff]
  simp only [completeS, complete, Bool.and_eq_true, List.all_eq_true, decide_eq_true_eq]
  constructor
  · rintro ⟨h1, h2⟩
    have hsub : ((keysM 0 d.ms).map codeK).Sublist (d.ss.map fun x => codeK x.key) := by
      refine sub_sorted _ _ hk hsort fun c hc => ?_
      obtain ⟨k, hk1, rfl⟩ := List.mem_map.1 hc
      obtain ⟨x, hx, hxk⟩ := hitK_iff.1 (h1 k hk1)
      exact List.mem_map.2 ⟨x, hx, by rw [hxk]⟩
    have heq := hsub.eq_of_length (by simp; omega)
    have h3 : (d.ss.map SlotI.key).map codeK = (keysM 0 d.ms).map codeK := by rw [heq, List.map_map]; rfl
    have hin1 : ∀ k ∈ d.ss.map SlotI.key, inK k := fun k hk1 => by
      obtain ⟨x, hx, rfl⟩ := List.mem_map.1 hk1
      exact slotOk_key (okFrom_all _ _ hs1 x hx)
    have hin2 := keysM_in hm
    generalize d.ss.map SlotI.key = a at h3 hin1
    generalize keysM 0 d.ms = b at h3 hin2
    exact map_code a b hin1 hin2 h3
  · intro h
    refine ⟨fun k hk1 => ?_, by rw [← h]; simp⟩
    rw [← h] at hk1
    obtain ⟨x, hx, hxk⟩ := List.mem_map.1 hk1
    exact hitK_iff.2 ⟨x, hx, hxk⟩

def durOk (x y : SlotI) : Bool := !(decide (x.mode = y.mode) && decide (x.slot = y.slot)) || decide (x.desc.duration = y.desc.duration)
def steady (ss : List SlotI) : Bool := ss.all fun x => ss.all fun y => durOk x y
def durS : List SlotI → List SlotI → Bool
  | _, [] => true
  | q, x :: r => q.all (durOk x) && durS (q ++ [x]) r
def firstS (ss : List SlotI) (x : SlotI) : Bool := match ss[(findS (hitS x.mode 0 x.slot) 0 ss).toNat]? with
  | some y => decide (x.desc.duration = y.desc.duration)
  | none => false
def steadyI (ss : List SlotI) : Bool := ss.all (firstS ss)
theorem durOk_symm (x y : SlotI) : durOk x y = durOk y x := by
  rw [Bool.eq_iff_iff]
  simp only [durOk, Bool.or_eq_true, Bool.not_eq_true', Bool.and_eq_false_iff, decide_eq_true_eq, decide_eq_false_iff_not]
  constructor <;> (intro h; omega)
theorem durOk_refl (x : SlotI) : durOk x x = true := by simp [durOk]
theorem durS_iff : ∀ (r q : List SlotI), (∀ x ∈ q, ∀ y ∈ q, durOk x y = true) → (durS q r = true ↔ ∀ x ∈ q ++ r, ∀ y ∈ q ++ r, durOk x y = true)
  | [], q, hq => by simp only [durS, List.append_nil, true_iff]; exact hq
  | x :: r, q, hq => by
    simp only [durS, Bool.and_eq_true, List.all_eq_true]
    constructor
    · rintro ⟨h1, h2⟩
      have h3 : ∀ a ∈ q ++ [x], ∀ b ∈ q ++ [x], durOk a b = true := by
        intro a ha b hb
        rcases List.mem_append.1 ha with ha | ha <;> rcases List.mem_append.1 hb with hb | hb
        · exact hq a ha b hb
        · have e : b = x := by simpa using hb
          rw [e, durOk_symm]; exact h1 a ha
        · have e : a = x := by simpa using ha
          rw [e]; exact h1 b hb
        · have e : a = x := by simpa using ha
          have e2 : b = x := by simpa using hb
          rw [e, e2]; exact durOk_refl _
      have := (durS_iff r (q ++ [x]) h3).1 h2
      simpa using this
    · intro h
      refine ⟨fun y hy => h x (by simp) y (by simp [hy]), ?_⟩
      have h3 : ∀ a ∈ q ++ [x], ∀ b ∈ q ++ [x], durOk a b = true := fun a ha b hb => h a (by simp at ha ⊢; rcases ha with ha | ha <;> simp [ha]) b (by simp at hb ⊢; rcases hb with hb | hb <;> simp [hb])
      exact (durS_iff r (q ++ [x]) h3).2 (by simpa using h)
theorem durS_eq (ss : List SlotI) : durS [] ss = steady ss := by
  rw [Bool.eq_iff_iff, durS_iff ss [] (by simp)]
  simp [steady, List.all_eq_true]
theorem first_at {d : MedlD} (hm : isMT d.ms = true) (hc : complete d = true) {x : SlotI} (hx : x ∈ d.ss) : ∃ (j : Nat) (y : SlotI), findS (hitS x.mode 0 x.slot) 0 d.ss = (j : Int) ∧ d.ss[j]? = some y ∧ y.mode = x.mode ∧ y.slot = x.slot := by
  simp only [complete, decide_eq_true_eq] at hc
  have h1 : x.key ∈ keysM 0 d.ms := by rw [← hc]; exact List.mem_map.2 ⟨x, hx, rfl⟩
  obtain ⟨j, m, hj, h2⟩ := (mem_keysM d.ms 0).1 h1
  have h3 := mem_keyM.1 h2
  have h4 := isMT_in hm m (List.mem_of_getElem? hj)
  have h5 : ((x.mode, 0, x.slot) : Int × Int × Int) ∈ keysM 0 d.ms := (mem_keysM d.ms 0).2 ⟨j, m, hj, mem_keyM.2 ⟨h3.1, by simp only; omega, h3.2.2⟩⟩
  rw [← hc] at h5
  have h6 := hitK_iff.2 (List.mem_map.1 h5)
  simp only [hitK, decide_eq_true_eq] at h6
  rcases findS_lt (f := hitS x.mode 0 x.slot) d.ss 0 with h7 | ⟨i, y, h7, h8, h9⟩
  · rw [show ((0 : Nat) : Int) = 0 from rfl] at h7; omega
  · have h10 := (hitS_key (k := (x.mode, 0, x.slot))).1 h9
    simp only [SlotI.key, Prod.mk.injEq] at h10
    exact ⟨i, y, by rw [show ((0 : Nat) : Int) = 0 from rfl] at h7; rw [h7]; congr 1; omega, h8, h10.1, h10.2.2⟩
theorem steadyI_eq {d : MedlD} (hm : isMT d.ms = true) (hc : complete d = true) : steadyI d.ss = steady d.ss := by
  rw [Bool.eq_iff_iff]
  simp only [steadyI, steady, List.all_eq_true]
  constructor
  · intro h x hx y hy
    obtain ⟨i, a, h1, h2, h3, h4⟩ := first_at hm hc hx
    obtain ⟨j, b, h5, h6, h7, h8⟩ := first_at hm hc hy
    have h9 := h x hx; have h10 := h y hy
    simp only [firstS, h1, Int.toNat_natCast, h2, decide_eq_true_eq] at h9
    simp only [firstS, h5, Int.toNat_natCast, h6, decide_eq_true_eq] at h10
    simp only [durOk, Bool.or_eq_true, Bool.not_eq_true', Bool.and_eq_false_iff, decide_eq_true_eq, decide_eq_false_iff_not]
    by_cases e1 : x.mode = y.mode
    · by_cases e2 : x.slot = y.slot
      · right
        rw [e1, e2, h5] at h1
        have : j = i := by omega
        subst this
        rw [h6] at h2; injection h2 with h2; subst h2
        omega
      · left; right; exact e2
    · left; left; exact e1
  · intro h x hx
    obtain ⟨i, a, h1, h2, h3, h4⟩ := first_at hm hc hx
    have h5 := h x hx a (List.mem_of_getElem? h2)
    simp only [firstS, h1, Int.toNat_natCast, h2, decide_eq_true_eq]
    simp only [durOk, Bool.or_eq_true, Bool.not_eq_true', Bool.and_eq_false_iff, decide_eq_true_eq, decide_eq_false_iff_not] at h5
    omega

def sumD : List SlotI → Int
  | [] => 0
  | x :: r => x.desc.duration + sumD r
def ofMode (mode : Int) (ss : List SlotI) : List SlotI := ss.filter fun x => decide (x.mode = mode)
def cyc (ss : List SlotI) (mode : Int) : Int := sumD (ofMode mode ss)
theorem ofMode_cons_t {mode : Int} {x : SlotI} {r : List SlotI} (h : x.mode = mode) : ofMode mode (x :: r) = x :: ofMode mode r := by simp [ofMode, h]
theorem ofMode_cons_f {mode : Int} {x : SlotI} {r : List SlotI} (h : ¬ x.mode = mode) : ofMode mode (x :: r) = ofMode mode r := by simp [ofMode, h]
theorem ofMode_sub (mode : Int) (ss : List SlotI) : ∀ x ∈ ofMode mode ss, x ∈ ss ∧ x.mode = mode := fun x hx => by
  have := List.mem_filter.1 hx; simpa using this
theorem ofMode_len (mode : Int) (ss : List SlotI) : (ofMode mode ss).length ≤ ss.length := List.length_filter_le _ _
def shortB (d : MedlD) : Bool := (List.range d.ms.length).all fun (i : Nat) => decide (cyc d.ss i ≤ 32000)

def sendersB (d : MedlD) : Bool := d.ss.all fun x => hasN (actV d.ns) x.desc.node
def sndV (ss : List SlotI) (mode round : Int) : Nat := vecF (fun x => decide (x.mode = mode) && decide (x.round = round)) (fun x => x.desc.node) 0 ss
def servS (act : Nat) (ss : List SlotI) (i : Int) : List Mode → Bool
  | [] => true
  | x :: r => ((List.range x.rounds.toNat).all fun (k : Nat) => decide (sndV ss i k = act)) && servS act ss (i + 1) r
def servI (act : Nat) (ss : List SlotI) (i : Int) : List Mode → Bool
  | [] => true
  | x :: r => ((List.range x.rounds.toNat).all fun (k : Nat) => decide (lackN act (sndV ss i k) = 0)) && servI act ss (i + 1) r
theorem snd_sub {act : Nat} {ss : List SlotI} {m r : Int} (h : (ss.all fun x => hasN act x.desc.node) = true) (i : Nat) (hi : (sndV ss m r).testBit i = true) : act.testBit i = true := by
  unfold sndV at hi
  rw [vecF_bit] at hi
  simp only [Nat.zero_testBit, Bool.false_or, List.any_eq_true, Bool.and_eq_true, decide_eq_true_eq] at hi
  obtain ⟨x, hx, _, e⟩ := hi
  have := List.all_eq_true.1 h x hx
  rw [e]; exact this
theorem serv_eq {act : Nat} {ss : List SlotI} (h : (ss.all fun x => hasN act x.desc.node) = true) : ∀ (ms : List Mode) (i : Int), servI act ss i ms = servS act ss i ms
  | [], i => rfl
  | x :: r, i => by
    rw [servI, servS, serv_eq h r (i + 1)]
    congr 1
    congr 1
    funext k
    rw [Bool.eq_iff_iff, decide_eq_true_eq, decide_eq_true_eq, lack_zero]
    constructor
    · intro h1
      apply Nat.eq_of_testBit_eq
      intro j
      rw [Bool.eq_iff_iff]
      exact ⟨snd_sub h j, h1 j⟩
    · intro h1 j hj
      rw [h1]; exact hj
def coldB (ss : List SlotI) : Bool := ss.any fun x => decide (x.desc.kind = 3) && decide (x.mode ≠ 0)

def ffault (d : MedlD) : Int :=
  if inB d.id 1 16777215 = false then 1
  else if isNT d.ns = false then 2
  else if isMT d.ms = false then 3
  else if isST d.ss = false then 4
  else if complete d = false then 5
  else if sendersB d = false then 6
  else if steady d.ss = false then 7
  else if shortB d = false then 8
  else if servS (actV d.ns) d.ss 0 d.ms = false then 9
  else if coldB d.ss = true then 10 else 0

theorem mulI {a b : Int} (h1 : 1 ≤ a ∧ a ≤ 8) (h2 : 1 ≤ b ∧ b ≤ 16) : 1 ≤ a * b ∧ a * b ≤ 128 := by
  have h3 : 1 * 1 ≤ a * b := Int.mul_le_mul h1.1 h2.1 (by omega) (by omega)
  have h4 : a * b ≤ 8 * 16 := Int.mul_le_mul h1.2 h2.2 (by omega) (by omega)
  omega
theorem mulN {a b : Int} (h1 : 1 ≤ a) (h2 : 1 ≤ b) : ((a.toNat * b.toNat : Nat) : Int) = a * b := by
  rw [Int.natCast_mul, Int.toNat_of_nonneg (by omega), Int.toNat_of_nonneg (by omega)]
theorem keyM_drop' {mode : Int} {x : Mode} {i : Nat} (h1 : 1 ≤ x.rounds) (h2 : 1 ≤ x.slots) (h : (i : Int) < x.rounds * x.slots) : (keyM mode x).drop i = (mode, (i : Int) / x.slots, (i : Int) % x.slots) :: (keyM mode x).drop (i + 1) := by
  have h3 := mulN h1 h2
  rw [keyM_drop (by omega), Int.natCast_ediv, Int.natCast_emod, Int.toNat_of_nonneg (by omega)]
theorem keyM_end {mode : Int} {x : Mode} {i : Nat} (h1 : 1 ≤ x.rounds) (h2 : 1 ≤ x.slots) (h : ¬ (i : Int) < x.rounds * x.slots) : (keyM mode x).drop i = [] := by
  have h3 := mulN h1 h2
  exact List.drop_eq_nil_of_le (by rw [keyM_len]; omega)
theorem comp_cons {a b : Int × Int × Int} {l1 l2 : List (Int × Int × Int)} (h : a = b) : decide (a :: l1 = b :: l2) = decide (l1 = l2) := by subst h; simp
theorem comp_ne {a b : Int × Int × Int} {l1 l2 : List (Int × Int × Int)} (h : a ≠ b) : decide (a :: l1 = b :: l2) = false := by simp [h]
theorem completeS_t {ss : List SlotI} {k : Int × Int × Int} {keys : List (Int × Int × Int)} {n : Int} (h : ¬ findS (hitS k.1 k.2.1 k.2.2) 0 ss < 0) : completeS ss (k :: keys) n = completeS ss keys (n + 1) := by
  have h1 : hitK ss k = true := decide_eq_true (by omega)
  have e : n + ((keys.length + 1 : Nat) : Int) = n + 1 + keys.length := by omega
  simp only [completeS, List.all_cons, h1, Bool.true_and, List.length_cons, e]
theorem completeS_f {ss : List SlotI} {k : Int × Int × Int} {keys : List (Int × Int × Int)} {n : Int} (h : findS (hitS k.1 k.2.1 k.2.2) 0 ss < 0) : completeS ss (k :: keys) n = false := by
  have h1 : hitK ss k = false := decide_eq_false (by omega)
  simp only [completeS, List.all_cons, h1, Bool.false_and]
theorem completeS_nil {ss : List SlotI} {n : Int} : completeS ss [] n = decide (n = ss.length) := by simp [completeS]
theorem keyS_step {k : Int} {r n s : Nat} (h : s < n) : (keyS k r n).drop s = (k, (r : Int), (s : Int)) :: (keyS k r n).drop (s + 1) := by
  unfold keyS
  rw [← List.map_drop, ← List.map_drop, range_drop h]; rfl
theorem keyS_end {k : Int} {r n s : Nat} (h : n ≤ s) : (keyS k r n).drop s = [] := List.drop_eq_nil_of_le (by rw [keyS_len]; omega)
def keyR (k : Int) (x : Mode) (r : Nat) : List (Int × Int × Int) := ((List.range x.rounds.toNat).drop r).flatMap fun r => keyS k r x.slots.toNat
theorem keyR_step {k : Int} {x : Mode} {r : Nat} (h : (r : Int) < x.rounds) : keyR k x r = keyS k r x.slots.toNat ++ keyR k x (r + 1) := by
  unfold keyR
  rw [range_drop (by omega)]; rfl
theorem keyR_end {k : Int} {x : Mode} {r : Nat} (h : ¬ (r : Int) < x.rounds) : keyR k x r = [] := by
  unfold keyR
  rw [range_end (by omega)]; rfl
theorem descI {d : Desc} (h : descOk d = true) : (0 ≤ d.node ∧ d.node ≤ 31) ∧ (0 ≤ d.kind ∧ d.kind ≤ 3) ∧ (0 ≤ d.size ∧ d.size ≤ 32) ∧ (1 ≤ d.duration ∧ d.duration ≤ 1000) := by
  simp only [descOk, Bool.and_eq_true] at h
  have h1 := inB_iff.1 h.1.1.1.1; have h2 := inB_iff.1 h.1.1.1.2; have h4 := inB_iff.1 h.2
  have h3 : 0 ≤ d.size ∧ d.size ≤ 32 := by
    have h5 := h.1.1.2
    unfold dataOk at h5
    split at h5
    · exact inB_iff.1 h5
    · split at h5
      · have := inB_iff.1 h5; omega
      · simp at h5; omega
  refine ⟨h1, h2, h3, ?_⟩
  have h6 : 1 ≤ bodyS d.kind d.size := by unfold bodyS; (repeat' split) <;> omega
  unfold cellsS at h4
  omega
theorem slotI {x : SlotI} (h : slotOk x = true) : inK x.key ∧ (0 ≤ x.desc.node ∧ x.desc.node ≤ 31) ∧ (1 ≤ x.desc.duration ∧ x.desc.duration ≤ 1000) := by
  have h1 := slotOk_key h
  simp only [slotOk, Bool.and_eq_true] at h
  have h2 := descI h.2
  exact ⟨h1, h2.1, h2.2.2.2⟩
theorem isST_all {xs : List SlotI} (h : isST xs = true) : ∀ x ∈ xs, slotOk x = true := by
  simp only [isST, Bool.and_eq_true] at h
  exact okFrom_all _ _ h.1
theorem isNT_ids {l : List NodeI} (h : isNT l = true) : ∀ x ∈ l, 0 ≤ x.id ∧ x.id ≤ 31 := fun x hx => (nodeOk_in (isNT_all h x hx)).1
theorem ff_eq (m : MedlI) : ffault m.d =
    if inB m.id 1 16777215 = false then 1
    else if isNT m.ns = false then 2
    else if isMT (m.ms.map (·.m)) = false then 3
    else if isST m.ss = false then 4
    else if complete m.d = false then 5
    else if sendersB m.d = false then 6
    else if steady m.ss = false then 7
    else if shortB m.d = false then 8
    else if servS (actV m.ns) m.ss 0 (m.ms.map (·.m)) = false then 9
    else if coldB m.ss = true then 10 else 0 := rfl
theorem short_step {m : MedlI} {k : Nat} (h : k < m.ms.length) : ((List.range m.ms.length).drop k).all (fun (i : Nat) => decide (cyc m.ss i ≤ 32000)) = (decide (cyc m.ss k ≤ 32000) && ((List.range m.ms.length).drop (k + 1)).all (fun (i : Nat) => decide (cyc m.ss i ≤ 32000))) := by
  rw [range_drop h, List.all_cons]
theorem short_eq {m : MedlI} : shortB m.d = ((List.range m.ms.length).drop 0).all (fun (i : Nat) => decide (cyc m.ss i ≤ 32000)) := by
  show (List.range (m.ms.map (·.m)).length).all _ = _
  rw [List.length_map, List.drop_zero]; rfl
theorem short_end {m : MedlI} {k : Nat} (h : ¬ (k : Int) < m.ms.length) : ((List.range m.ms.length).drop k).all (fun (i : Nat) => decide (cyc m.ss i ≤ 32000)) = true := by
  rw [range_end (by omega)]; rfl
def servR (p : Nat → Bool) (n r : Nat) : Bool := ((List.range n).drop r).all p
theorem servR_step {p : Nat → Bool} {n r : Nat} (h : r < n) : servR p n r = (p r && servR p n (r + 1)) := by
  unfold servR; rw [range_drop h, List.all_cons]
theorem servR_end {p : Nat → Bool} {n r : Nat} (h : n ≤ r) : servR p n r = true := by
  unfold servR; rw [range_end h]; rfl
theorem durOk_of {x y : SlotI} (h : x.mode ≠ y.mode ∨ x.slot ≠ y.slot ∨ x.desc.duration = y.desc.duration) : durOk x y = true := by
  simp only [durOk, Bool.or_eq_true, Bool.not_eq_true', Bool.and_eq_false_iff, decide_eq_true_eq, decide_eq_false_iff_not]; omega
theorem durOk_not {x y : SlotI} (h : x.mode = y.mode ∧ x.slot = y.slot ∧ x.desc.duration ≠ y.desc.duration) : durOk x y = false := by
  cases e : durOk x y
  · rfl
  · simp only [durOk, Bool.or_eq_true, Bool.not_eq_true', Bool.and_eq_false_iff, decide_eq_true_eq, decide_eq_false_iff_not] at e; omega
theorem all_split {α : Type} {p : α → Bool} {l r : List α} {q : List α} {x : α} {j : Nat} (h : q.all p = (q.drop j).all p) (hd : q.drop j = x :: r) (hx : p x = false) : q.all p = false := by rw [h, hd, List.all_cons, hx]; rfl
/-- what is kept while worlds only grow -/
structure Kept (S : World → Prop) (w : World) : Prop where
  up : Up S
  h : S w
theorem Kept.ext {S : World → Prop} {w w' : World} (h : Kept S w) (k : Ext w w') : Kept S w' := ⟨h.up, h.up w w' h.h k⟩
theorem findS_any (p : SlotI → Bool) : ∀ (xs : List SlotI) (k : Int), 0 ≤ k → decide (0 ≤ findS p k xs) = xs.any p
  | [], k, h => by simp [findS]
  | x :: r, k, h => by
    rw [findS, List.any_cons]
    by_cases e : p x = true
    · rw [if_pos e, e]; simp [h]
    · rw [if_neg e, findS_any p r (k + 1) (by omega)]; simp [e]
theorem any_not {α : Type} (p : α → Bool) : ∀ (xs : List α), (xs.any fun x => !p x) = !(xs.all p)
  | [] => rfl
  | x :: r => by rw [List.any_cons, List.all_cons, any_not p r]; cases p x <;> simp
theorem senders_any (m : MedlI) : (m.ss.any fun x => !hasN (actV m.ns) x.desc.node) = !sendersB m.d := any_not _ _
end Go.Proofs.YtdoibplhbdkapaaGreatDoor
namespace Go.Proofs.YtdoibplhbdkapaaGreatDoor
open Go.RowKit
set_option linter.unusedVariables false
set_option linter.unusedSimpArgs false

def isMedl (d : MedlD) : Bool := decide (ffault d = 0)
structure WellF (d : MedlD) : Prop where
  id : inB d.id 1 16777215 = true
  nt : isNT d.ns = true
  mt : isMT d.ms = true
  st : isST d.ss = true
  co : complete d = true
  se : sendersB d = true
  sd : steady d.ss = true
  sh : shortB d = true
  sv : servS (actV d.ns) d.ss 0 d.ms = true
  cd : coldB d.ss = false
theorem isMedl_iff {d : MedlD} : isMedl d = true ↔ WellF d := by
  rw [isMedl, decide_eq_true_eq, ffault]
  constructor
  · intro h
    repeat' split at h
    all_goals first | (exfalso; omega) | skip
    rename_i h1 h2 h3 h4 h5 h6 h7 h8 h9 h10
    exact ⟨by simpa using h1, by simpa using h2, by simpa using h3, by simpa using h4, by simpa using h5, by simpa using h6, by simpa using h7, by simpa using h8, by simpa using h9, by simpa using h10⟩
  · intro h
    simp [h.id, h.nt, h.mt, h.st, h.co, h.se, h.sd, h.sh, h.sv, h.cd]
def descAt (ss : List SlotI) (m r s : Int) : Desc := match ss[(findS (hitS m r s) 0 ss).toNat]? with
  | some x => x.desc
  | none => ⟨0, 0, 0, 0, false⟩
def senderF (d : MedlD) (m r s : Int) : Int × Int := if isMedl d = true then (if findS (hitS m r s) 0 d.ss < 0 then (0, 4) else ((descAt d.ss m r s).node, 0)) else (0, 1)
theorem find_get {xs : List SlotI} {f : SlotI → Bool} (h : ¬ findS f 0 xs < 0) : ∃ (j : Nat) (x : SlotI), findS f 0 xs = (j : Int) ∧ xs[j]? = some x ∧ f x = true := by
  rcases findS_lt (f := f) xs 0 with h1 | ⟨j, x, h1, h2, h3⟩
  · rw [show ((0 : Nat) : Int) = 0 from rfl] at h1; omega
  · exact ⟨j, x, by rw [show ((0 : Nat) : Int) = 0 from rfl] at h1; rw [h1]; congr 1; omega, h2, h3⟩
end Go.Proofs.YtdoibplhbdkapaaGreatDoor
namespace Go.Proofs.YtdoibplhbdkapaaGreatDoor
open Go.RowKit
set_option linter.unusedVariables false
set_option linter.unusedSimpArgs false
set_option maxRecDepth 20000
def dec1 (n : Int) : ByteArray := strOf [UInt8.ofNat (48 + n.toNat % 10)]
def dec2 (n : Int) : ByteArray := if n < 10 then dec1 n else dec1 (n / 10) ++ dec1 (n % 10)
theorem dec1_size (n : Int) : (dec1 n).size = 1 := rfl
theorem dec2_size (n : Int) : 1 ≤ (dec2 n).size ∧ (dec2 n).size ≤ 2 := by
  unfold dec2; split
  · rw [dec1_size]; omega
  · rw [ByteArray.size_append, dec1_size, dec1_size]; omega
theorem u8dec {n : Int} (h : 0 ≤ n ∧ n < 10) : IntKind.u8.wrap (48 + n) = ((UInt8.ofNat (48 + n.toNat % 10)).toNat : Int) := by rw [u8dig, wu8 (by omega)]; omega
def nodSm (x : NodeI) : Prop := (0 ≤ x.id ∧ x.id ≤ 20) ∧ x.name.size ≤ 7
def ST5 : List ByteArray := [⟨#[]⟩, ⟨#[115, 101, 118, 101, 110, 110, 55]⟩, ⟨#[115, 105, 120, 120, 120, 54]⟩, ⟨#[78, 49]⟩, ⟨#[110, 48]⟩]
theorem st5_le : ∀ y ∈ ST5, y.size ≤ 7 := fun y hy => by
  simp only [ST5, List.mem_cons, List.not_mem_nil, or_false] at hy
  rcases hy with rfl | rfl | rfl | rfl | rfl <;> decide
/-- the members of a vector, from below up -/
def membK (a k : Nat) : List Int := ((List.range k).filter fun i => a.testBit i).map Int.ofNat
theorem membK_yes {a k : Nat} (h : a.testBit k = true) : membK a (k + 1) = membK a k ++ [(k : Int)] := by
  unfold membK
  rw [List.range_succ, List.filter_append, List.map_append, List.filter_cons_of_pos (by simpa using h)]; rfl
theorem membK_no {a k : Nat} (h : a.testBit k = false) : membK a (k + 1) = membK a k := by
  unfold membK
  rw [List.range_succ, List.filter_append, List.map_append, List.filter_cons_of_neg (by simp [h])]; simp
theorem membK_len (a k : Nat) : (membK a k).length ≤ k := by
  unfold membK
  rw [List.length_map]
  have := List.length_filter_le (fun i => a.testBit i) (List.range k)
  rw [List.length_range] at this; exact this
theorem membK_pos {a k : Nat} (h : a.testBit k = true) (hk : k < 32) : 1 ≤ (membK a 32).length := by
  have h1 : (k : Int) ∈ membK a 32 := List.mem_map.2 ⟨k, List.mem_filter.2 ⟨List.mem_range.2 hk, by simpa using h⟩, rfl⟩
  exact List.length_pos_of_mem h1
theorem act_bit {ns : List NodeI} {x : NodeI} (hx : x ∈ ns) (hp : x.passive = false) : (actV ns).testBit x.id.toNat = true := by
  unfold actV
  rw [vecF_bit]
  simp only [Nat.zero_testBit, Bool.false_or, List.any_eq_true, Bool.and_eq_true, decide_eq_true_eq]
  exact ⟨x, hx, by simp [hp], rfl⟩
theorem actV_lt2 {l : List NodeI} (h : ∀ x ∈ l, 0 ≤ x.id ∧ x.id ≤ 31) : actV l < 4294967296 := vecF_lt l 0 (by omega) fun x hx => h x hx
theorem dec0_c (n : Int) (w : World) (hn : 0 ≤ n ∧ n < 10) :
    Calls Tryz.prog 66 #[.int .i64 n] w (Ret fun v w' => v = .string (dec1 n) ∧ Ext w w') := by
  have X := Ext.refl w
  refine calls_of (args := [.int .i64 n]) Tryz.func66 Tryz.ntmps66 rfl rfl ?_
  refine c_seqR ?_
  refine ops_cons rfl (ow_assign rfl ?_)
  refine ops_nil ?_
  refine c_seq ?_
  refine c_seqR ?_
  refine ops_cons rfl (ow_move rfl ?_)
  refine ops_cons rfl (ow_lss2 rfl rfl (fun h1 => ?_) (fun h1 => absurd h1 (by omega)))
  refine ops_nil ?_
  refine c_true rfl ?_
  refine c_seqR ?_
  refine ops_cons rfl (ow_move rfl ?_)
  refine ops_cons rfl (ow_add rfl rfl (w64 (by omega)) ?_)
  refine ops_cons rfl (ow_conv Tryz.underlying2 Tryz.underlying5 rfl (u8dec hn) ?_)
  refine ops_cons rfl (ow_buildSlice el22 ti5 rfl rfl rfl rfl rfl ?_)
  intro g2 w4 eg2 oB bbg2 x3 zg2
  replace oB := Own.low oB X.size
  replace X := Ext.trans X x3; clear x3
  replace oB := oB.to (cs' := ([UInt8.ofNat (48 + n.toNat % 10)] : List UInt8).flatMap eB) rfl
  refine ops_cons rfl (ow_convBS Tryz.underlying22 Tryz.underlying5 Tryz.underlying9 (oB).sl rfl rfl ?_)
  refine ops_cons rfl (ow_assign rfl ?_)
  refine ops_nil ?_
  refine c_ret ?_
  refine tq_r ?_
  refine fin_ret1 rfl rfl ?_
  exact ⟨rfl, X⟩

theorem dec_c (n : Int) (w : World) (hn : 0 ≤ n ∧ n < 100) :
    Calls Tryz.prog 66 #[.int .i64 n] w (Ret fun v w' => v = .string (dec2 n) ∧ Ext w w') := by
  have X := Ext.refl w
  refine calls_of (args := [.int .i64 n]) Tryz.func66 Tryz.ntmps66 rfl rfl ?_
  refine c_seqR ?_
  refine ops_cons rfl (ow_assign rfl ?_)
  refine ops_nil ?_
  refine c_seq ?_
  refine c_seqR ?_
  refine ops_cons rfl (ow_move rfl ?_)
  refine ops_cons rfl (ow_lss2 rfl rfl (fun h1 => ?_) (fun h1 => ?_))
  refine ops_nil ?_
  refine c_true rfl ?_
  refine c_seqR ?_
  refine ops_cons rfl (ow_move rfl ?_)
  refine ops_cons rfl (ow_add rfl rfl (w64 (by omega)) ?_)
  refine ops_cons rfl (ow_conv Tryz.underlying2 Tryz.underlying5 rfl (u8dec (by omega)) ?_)
  refine ops_cons rfl (ow_buildSlice el22 ti5 rfl rfl rfl rfl rfl ?_)
  intro g1 w3 eg1 oB bbg1 x2 zg1
  replace oB := Own.low oB X.size
  replace X := Ext.trans X x2; clear x2
  replace oB := oB.to (cs' := ([UInt8.ofNat (48 + n.toNat % 10)] : List UInt8).flatMap eB) rfl
  refine ops_cons rfl (ow_convBS Tryz.underlying22 Tryz.underlying5 Tryz.underlying9 (oB).sl rfl rfl ?_)
  refine ops_cons rfl (ow_assign rfl ?_)
  refine ops_nil ?_
  refine c_ret ?_
  refine tq_r ?_
  refine fin_ret1 rfl rfl ?_
  · skip
    first
    | (rw [dec2, if_pos h1]; exact ⟨rfl, X⟩)
    | (rw [dec2, if_neg h1]; exact ⟨rfl, X⟩)
  refine ops_nil ?_
  refine c_false rfl ?_
  refine c_skip ?_
  refine tq_n ?_
  refine c_seqD [false, false, false, false, false, false, false, true, false, false, false] mixed (by kernel_rfl) ?_
  refine f_q rfl (fun wq sq => ow_move rfl ⟨rfl, Ext.refl _⟩) ?_
  refine f_q rfl (fun wq sq => ow_quo rfl rfl (by omega) (q64 (by omega)) ⟨rfl, Ext.refl _⟩) ?_
  refine f_q rfl (fun wq sq => ow_call ent66 rfl (dec0_c _ _ (by omega))) ?_
  refine f_q rfl (fun wq sq => ow_move rfl ⟨rfl, Ext.refl _⟩) ?_
  refine f_q rfl (fun wq sq => ow_rem rfl rfl (by omega) (m64 (by omega)) ⟨rfl, Ext.refl _⟩) ?_
  refine f_q rfl (fun wq sq => ow_add rfl rfl (w64 (by omega)) ⟨rfl, Ext.refl _⟩) ?_
  refine f_q rfl (fun wq sq => ow_conv Tryz.underlying2 Tryz.underlying5 rfl (u8dec (by omega)) ⟨rfl, Ext.refl _⟩) ?_
  refine f_op (fun g4 : Nat => Value.slice (some ⟨g4, 0, none⟩) 1 1) (fun g4 wz => Own wz w.heap.size 5 1 (some ⟨g4, 0, none⟩) 1 1 (([UInt8.ofNat (48 + (n % 10).toNat % 10)] : List UInt8).flatMap eB)) 0 rfl ⟨inj_own, fun _ _ _ h k => h.ext k, fun wq sq => ow_buildSlice el22 ti5 rfl rfl rfl rfl rfl (fun g w' hg ho hb hx hz => ⟨g, rfl, Own.low ho (Nat.le_trans X.size (sq).size), hx⟩)⟩ ?_
  intro g4
  refine f_q rfl (fun wq sq => ow_convBS Tryz.underlying22 Tryz.underlying5 Tryz.underlying9 (sq.2).sl rfl rfl ⟨rfl, Ext.refl _⟩) ?_
  refine f_q rfl (fun wq sq => ow_addS rfl rfl (by rw [dec1_size]; show _ + 1 ≤ _; omega) ⟨rfl, Ext.refl _⟩) ?_
  refine f_q rfl (fun wq sq => ow_assign rfl ⟨rfl, Ext.refl _⟩) ?_
  refine f_nil (fun w5 sq => ?_)
  have xq := sq.1
  have oB := sq.2
  replace X := Ext.trans X xq; clear xq sq
  refine ops_nil ?_
  refine c_ret ?_
  refine fin_ret1 rfl rfl ?_
  · skip
    first
    | (rw [dec2, if_pos h1]; exact ⟨rfl, X⟩)
    | (rw [dec2, if_neg h1]; exact ⟨rfl, X⟩)

theorem l10Draw_c (A : Option Addr) (B c : Nat) (bs : List UInt8) (gS a : Nat) (sd : Int) (w : World) (q : Blk w gS 148 (srcC A c bs a sd)) (hs : Sl B w A (bs.flatMap eB)) (hB : B ≤ gS) (ok : a ≤ bs.length ∧ 0 ≤ sd ∧ sd < 2147483647) (hbl : bs.length ≤ 1048576) :
    Calls Tryz.prog 179 #[.pointer (some ⟨gS, 0, none⟩)] w (Ret fun v w' => ∃ A' c' xs a' sd', v = .slice A' (List.length xs) c' ∧ ((1 ≤ xs.length ∧ xs.length ≤ 4) ∧ ∀ x ∈ xs, nodSm x) ∧ Own w' w.heap.size 59 4 A' xs.length c' (xs.flatMap NodeI.cells) ∧ (a' ≤ bs.length ∧ 0 ≤ sd' ∧ sd' < 2147483647) ∧ Blk w' gS 148 (srcC A c bs a' sd') ∧ w.grownBy w' (some gS)) := by
  have Bhs := hs.1
  have X := gb_refl w (some gS)
  refine calls_of (args := [.pointer (some ⟨gS, 0, none⟩)]) Tryz.func179 Tryz.ntmps179 rfl rfl ?_
  refine c_seqR ?_
  refine ops_cons rfl (ow_assign rfl ?_)
  refine ops_nil ?_
  refine c_seqR ?_
  refine ops_cons rfl (ow_buildSlice el24 ti59 rfl rfl rfl rfl rfl ?_)
  intro gO w2 egO oI bbgO x1 zgO
  replace oI := Own.low oI X.size
  replace q := q.ext x1
  replace hs := hs.ext x1
  replace X := gb_ext X x1; clear x1
  refine ops_cons rfl (ow_assign rfl ?_)
  refine ops_nil ?_
  refine c_seqR ?_
  refine ops_cons rfl (ow_move rfl ?_)
  refine ops_cons rfl (ow_call ent65 rfl (ret_mono (l01Next_c _ _ _ _ _ _ _ _ _ q hs hB ok hbl (by omega)) ?_))
  rintro _ w4 ⟨r0, a6, sd7, rfl, hr8, ok, b5, x3⟩
  replace hs := hs.grown x3 (by intro g hg; injection hg; omega)
  replace oI := oI.grownBlk x3 (Own.neT oI q (by decide))
  replace X := gb_trans X x3
  clear x3 q
  refine ops_cons rfl (ow_assign rfl ?_)
  refine ops_nil ?_
  refine c_seq ?_
  refine c_seqR ?_
  refine ops_cons rfl (ow_move rfl ?_)
  refine ops_cons rfl (ow_call ent65 rfl (ret_mono (l01Next_c _ _ _ _ _ _ _ _ _ b5 hs hB ok hbl (by omega)) ?_))
  rintro _ w10 ⟨r4, a12, sd13, rfl, hr14, ok, b11, x9⟩
  replace hs := hs.grown x9 (by intro g hg; injection hg; omega)
  replace oI := oI.grownBlk x9 (Own.neT oI b5 (by decide))
  replace X := gb_trans X x9
  clear x9 b5
  refine ops_cons rfl (ow_add rfl rfl (w64 (by omega)) ?_)
  refine ops_cons rfl (ow_assign rfl ?_)
  refine ops_nil ?_
  refine c_block ?_
  refine c_loop (G := Int × Int × List NodeI × Nat × Option Addr × Nat) (fun ⟨t, id, ys, n1, A1, c1⟩ => [(2, .slice none 0 0), (0, .pointer (some ⟨gS, 0, none⟩)), (3, .slice A1 n1 c1), (4, .int .i64 id), (5, .int .i64 t)]) (fun ⟨t, id, ys, n1, A1, c1⟩ wr => (0 ≤ t ∧ t ≤ 4) ∧ (0 ≤ id ∧ id + 3 * t ≤ 13) ∧ n1 = ys.length ∧ (n1 : Int) + t = 1 + r4 ∧ (∀ y ∈ ys, nodSm y) ∧ (∃ a sd, (a ≤ bs.length ∧ 0 ≤ sd ∧ sd < 2147483647) ∧ Blk wr gS 148 (srcC A c bs a sd)) ∧ Own wr w.heap.size 59 4 A1 n1 c1 (ys.flatMap NodeI.cells) ∧ Sl B wr A (bs.flatMap eB) ∧ w.grownBy wr (some gS)) (fun ⟨t, id, ys, n1, A1, c1⟩ => t.toNat) (1 + r4, r0, [], 0, some ⟨gO, 0, none⟩, 0) (.cons rfl (.cons rfl (.cons rfl (.cons rfl (.cons rfl (.nil _)))))) ?_ ?_
  · exact ⟨(by omega), (by omega), rfl, (by show ((0 : Nat) : Int) + _ = _; omega), (fun y hy => by simp at hy), ⟨_, _, ok, b11⟩, oI, hs, X⟩
  clear hs oI b11
  clear X
  rintro ⟨t, id, ys, n1, A1, c1⟩ wr ⟨ht0, hid, hn, hnt, hsm, qq, oO, hs, X⟩
  obtain ⟨a, sd, ok, q⟩ := qq
  refine c_seq ?_
  refine c_seqR ?_
  refine ops_cons rfl (ow_move rfl ?_)
  refine ops_cons rfl (ow_gtr2 rfl rfl (fun hp => ?_) (fun hp => ?_))
  refine ops_nil ?_
  refine c_true rfl ?_
  refine c_skip ?_
  refine tq_n ?_
  refine c_seq ?_
  refine c_block ?_
  refine c_seqR ?_
  refine ops_cons rfl (ow_move rfl ?_)
  refine ops_cons rfl (ow_move rfl ?_)
  refine ops_cons rfl (ow_move rfl ?_)
  refine ops_cons rfl (ow_call ent66 rfl (ret_mono (dec_c _ _ (by omega)) ?_))
  rintro _ w16 ⟨rfl, x15⟩
  replace oO := oO.ext x15
  replace hs := hs.ext x15
  replace q := q.ext x15
  replace X := gb_ext X x15; clear x15
  have hds := dec2_size id
  refine ops_cons rfl (ow_addS rfl rfl (by show 1 + _ ≤ _; omega) ?_)
  refine ops_cons rfl (ow_move rfl ?_)
  refine ops_cons rfl (ow_call ent65 rfl (ret_mono (l01Next_c _ _ _ _ _ _ _ _ _ q hs hB ok hbl (by omega)) ?_))
  rintro _ w18 ⟨r2, a20, sd21, rfl, hr22, ok, b19, x17⟩
  replace oO := oO.grownBlk x17 (Own.neT oO q (by decide))
  replace hs := hs.grown x17 (by intro g hg; injection hg; omega)
  replace X := gb_trans X x17
  clear x17 q
  refine ops_cons rfl (ow_move rfl ?_)
  refine ops_cons rfl (ow_call ent65 rfl (ret_mono (l01Next_c _ _ _ _ _ _ _ _ _ b19 hs hB ok hbl (by omega)) ?_))
  rintro _ w24 ⟨r5, a26, sd27, rfl, hr28, ok, b25, x23⟩
  replace oO := oO.grownBlk x23 (Own.neT oO b19 (by decide))
  replace hs := hs.grown x23 (by intro g hg; injection hg; omega)
  replace X := gb_trans X x23
  clear x23 b19
  refine ops_cons rfl (ow_eql rfl rfl ?_)
  refine ops_cons rfl (ow_buildP pl59 ti59 rfl rfl ?_)
  refine ops_cons rfl (ow_buildSlice el24 ti59 rfl rfl rfl rfl rfl ?_)
  intro g29 w31 eg29 oV bbg29 x30 zg29
  replace oV := Own.low oV X.size
  replace oO := oO.ext x30
  replace hs := hs.ext x30
  replace b25 := b25.ext x30
  replace X := gb_ext X x30; clear x30
  refine ops_cons rfl (ow_append (ts := #[]) oO X.size oV.sl (by first | rfl | simp) (by first | exact List.all_eq_true.1 rfl | simp [Value.oneCell']) el24 ti59 rfl rfl rfl rfl (by omega) (by omega) ?_)
  intro AoN coN w33 oN hg32
  replace hs := hs.grown hg32 (fun g hg => Nat.le_trans Bhs (Own.lt oO hg).1)
  replace b25 := b25.grown hg32 (fun h => Own.neT oO b25 (by decide) h.symm)
  replace X := gb_new X hg32 (fun g hg => (Own.lt oO hg).1)
  clear hg32
  refine ops_cons rfl (ow_assign rfl ?_)
  refine ops_nil ?_
  refine c_region ?_
  refine ops_cons rfl (ow_move rfl ?_)
  refine ops_cons rfl (ow_add rfl rfl (w64 (by omega)) ?_)
  refine ops_cons rfl (ow_move rfl ?_)
  refine ops_cons rfl (ow_call ent65 rfl (ret_mono (l01Next_c _ _ _ _ _ _ _ _ _ b25 hs hB ok hbl (by omega)) ?_))
  rintro _ w35 ⟨r3, a37, sd38, rfl, hr39, ok, b36, x34⟩
  replace hs := hs.grown x34 (by intro g hg; injection hg; omega)
  replace oN := oN.grownBlk x34 (Own.neT oN b25 (by decide))
  replace X := gb_trans X x34
  clear x34 b25
  refine ops_cons rfl (ow_add rfl rfl (w64 (by omega)) ?_)
  refine ops_cons rfl (ow_assign rfl ?_)
  refine ops_nil ?_
  refine bq_n ?_
  refine tq_n ?_
  refine c_region ?_
  refine ops_cons rfl (ow_move rfl ?_)
  refine ops_cons rfl (ow_sub rfl rfl (w64 (by omega)) ?_)
  refine ops_cons rfl (ow_assign rfl ?_)
  refine ops_nil ?_
  refine tq_n ⟨(t - 1, id + 1 + r3, ys ++ [⟨id, strOf [110] ++ dec2 id, r2, decide (r5 = 0)⟩], n1 + 1, AoN, coN), (.cons rfl (.cons rfl (.cons rfl (.cons rfl (.cons rfl (.nil _)))))), ?_, ?_⟩
  · skip
    exact ⟨(by omega), (by omega), (by simp [hn]), (by omega), (fun y hy => by
      rcases List.mem_append.1 hy with h | h
      · exact hsm y h
      · obtain rfl : y = ⟨id, strOf [110] ++ dec2 id, r2, decide (r5 = 0)⟩ := by simpa using h
        exact ⟨by show 0 ≤ id ∧ id ≤ 20; omega, by show (strOf [110] ++ dec2 id).size ≤ 7; rw [ByteArray.size_append]; show 1 + _ ≤ 7; omega⟩), ⟨_, _, ok, b36⟩, oN.to (snoc NodeI.cells ys ⟨id, strOf [110] ++ dec2 id, r2, decide (r5 = 0)⟩).symm, hs, X⟩
  · first | omega | (dsimp only; omega)
  refine ops_nil ?_
  refine c_false rfl ?_
  refine c_exit ?_
  refine tq_e ?_
  refine tq_e ?_
  refine bq_e ?_
  refine tq_n ?_
  refine c_seqR ?_
  refine ops_cons rfl (ow_move rfl ?_)
  refine ops_cons rfl (ow_assign rfl ?_)
  refine ops_nil ?_
  refine c_ret ?_
  refine fin_ret1 rfl rfl ?_
  · skip
    subst hn
    exact ⟨A1, c1, ys, _, _, rfl, ⟨by omega, hsm⟩, oO, ok, q, X⟩

theorem l10DrawAny_c (A : Option Addr) (B c : Nat) (bs : List UInt8) (gS a : Nat) (sd : Int) (w : World) (q : Blk w gS 148 (srcC A c bs a sd)) (hs : Sl B w A (bs.flatMap eB)) (hB : B ≤ gS) (ok : a ≤ bs.length ∧ 0 ≤ sd ∧ sd < 2147483647) (hbl : bs.length ≤ 1048576) :
    Calls Tryz.prog 143 #[.pointer (some ⟨gS, 0, none⟩)] w (Ret fun v w' => ∃ A' c' xs a' sd', v = .slice A' (List.length xs) c' ∧ (xs.length ≤ 5 ∧ ∀ z ∈ xs, z.name.size ≤ 7) ∧ Own w' w.heap.size 59 4 A' xs.length c' (xs.flatMap NodeI.cells) ∧ (a' ≤ bs.length ∧ 0 ≤ sd' ∧ sd' < 2147483647) ∧ Blk w' gS 148 (srcC A c bs a' sd') ∧ w.grownBy w' (some gS)) := by
  have Bhs := hs.1
  have X := gb_refl w (some gS)
  refine calls_of (args := [.pointer (some ⟨gS, 0, none⟩)]) Tryz.func143 Tryz.ntmps143 rfl rfl ?_
  refine c_seqR ?_
  refine ops_cons rfl (ow_assign rfl ?_)
  refine ops_nil ?_
  refine c_seqR ?_
  refine ops_cons rfl (ow_move rfl ?_)
  have LoT := X.size
  refine ops_cons rfl (ow_call ent179 rfl (ret_mono (l10Draw_c _ _ _ _ _ _ _ _ q hs hB ok hbl) ?_))
  rintro _ w2 ⟨AT, cT, ys, a4, sd5, rfl, hyl, oT, ok, b3, x1⟩
  replace hs := hs.grown x1 (by intro g hg; injection hg; omega)
  replace X := gb_trans X x1
  clear x1 q
  replace oT := Own.low oT LoT
  have hyl0 := hyl.1
  refine ops_cons rfl (ow_assign rfl ?_)
  refine ops_nil ?_
  refine c_seqR ?_
  refine ops_cons rfl (ow_move rfl ?_)
  refine ops_cons rfl (ow_move rfl ?_)
  refine ops_cons rfl (ow_len Tryz.underlying24 rfl ?_)
  refine ops_cons rfl (ow_call ent65 rfl (ret_mono (l01Next_c _ _ _ _ _ _ _ _ _ b3 hs hB ok hbl (by omega)) ?_))
  rintro _ w9 ⟨rk, a11, sd12, rfl, hr13, ok, b10, x7⟩
  replace hs := hs.grown x7 (by intro g hg; injection hg; omega)
  replace oT := oT.grownBlk x7 (Own.neT oT b3 (by decide))
  replace X := gb_trans X x7
  clear x7 b3
  refine ops_cons rfl (ow_assign rfl ?_)
  refine ops_nil ?_
  refine c_seq ?_
  refine c_seqR ?_
  refine ops_cons rfl (ow_move rfl ?_)
  refine ops_cons rfl (ow_call ent65 rfl (ret_mono (l01Next_c _ _ _ _ _ _ _ _ _ b10 hs hB ok hbl (by omega)) ?_))
  rintro _ w15 ⟨r24, a17, sd18, rfl, hr19, ok, b16, x14⟩
  replace hs := hs.grown x14 (by intro g hg; injection hg; omega)
  replace oT := oT.grownBlk x14 (Own.neT oT b10 (by decide))
  replace X := gb_trans X x14
  clear x14 b10
  refine ops_nil ?_
  refine c_block ?_
  refine c_seqR ?_
  refine ops_cons rfl (ow_eql2 rfl rfl (fun h20 => ?_) (fun h20 => ?_))
  refine ops_cons rfl (ow_assign rfl ?_)
  refine ops_nil ?_
  refine c_true rfl ?_
  refine c_region ?_
  refine ops_cons rfl (ow_move rfl ?_)
  refine ops_cons rfl (ow_move rfl ?_)
  refine ops_cons rfl (ow_buildSlice el30 ti2 rfl rfl rfl rfl rfl ?_)
  intro g21 w23 eg21 oL bbg21 x22 zg21
  replace oL := Own.low oL X.size
  replace hs := hs.ext x22
  replace oT := oT.ext x22
  replace b16 := b16.ext x22
  replace X := gb_ext X x22; clear x22
  replace oL := oL.to (cs' := ([-1, 31, 32] : List Int).flatMap eI) rfl
  refine ops_cons rfl (ow_move rfl ?_)
  refine ops_cons rfl (ow_call ent65 rfl (ret_mono (l01Next_c _ _ _ _ _ _ _ _ _ b16 hs hB ok hbl (by omega)) ?_))
  rintro _ w25 ⟨rr, a27, sd28, rfl, hr29, ok, b26, x24⟩
  replace hs := hs.grown x24 (by intro g hg; injection hg; omega)
  replace oT := oT.grownBlk x24 (Own.neT oT b16 (by decide))
  replace oL := oL.grownBlk x24 (Own.neT oL b16 (by decide))
  replace X := gb_trans X x24
  clear x24 b16
  obtain ⟨y, hy⟩ : ∃ y, ([-1, 31, 32] : List Int)[rr.toNat]? = some y := ⟨_, List.getElem?_eq_getElem (by simp; omega)⟩
  obtain ⟨x, hx⟩ : ∃ x, ys[rk.toNat]? = some x := ⟨_, List.getElem?_eq_getElem (by omega)⟩
  have hxs := hyl.2 x (List.mem_of_getElem? hx)
  refine ops_cons rfl (ow_indexT (oL).sl eI_len rfl el30 rfl rfl rfl hy (by omega) ?_)
  refine ops_cons rfl (ow_loadT (oL).sl eI_len hy ti2 rfl rfl rfl ?_)
  refine ops_cons rfl (ow_indexT (oT).sl NodeI.len rfl el24 rfl rfl rfl hx (by omega) ?_)
  refine ops_cons rfl (ow_fieldAddr off59_0 rfl ?_)
  refine ops_cons rfl (ow_storeRF oT ti2 rfl rfl rfl rfl (by omega) (by omega) rfl ?_)
  intro w31 oU hg30 z32
  replace hs := hs.grown hg30 (fun g hg => Nat.le_trans Bhs (Own.lt oT hg).1)
  replace oL := oL.grown hg30 (Own.neO oL oT (by decide))
  replace b26 := b26.grown hg30 (fun h => Own.neT oT b26 (by decide) h.symm)
  replace X : w.grownBy w31 (some gS) := by first | exact gb_trans X hg30 | exact gb_new X hg30 (fun g hg => (Own.lt oT hg).1)
  clear hg30 z32
  obtain ⟨zs, hzl, hzs, oR⟩ : ∃ zs : List NodeI, zs.length = ys.length ∧ (∀ z ∈ zs, z.name.size ≤ 7) ∧ Own _ w.heap.size 59 4 AT ys.length cT (zs.flatMap NodeI.cells) := ⟨ys.set rk.toNat ⟨y, x.name, x.drift, x.passive⟩, List.length_set .., (fun z hz => by
    rcases List.mem_or_eq_of_mem_set hz with h | rfl
    · exact (hyl.2 z h).2
    · exact hxs.2), oU.to (set_field (x := x) (x' := ⟨y, x.name, x.drift, x.passive⟩) (vs := [.int .i64 y]) NodeI.len (f := 0) rfl (by omega) ys rk.toNat hx)⟩
  refine ops_nil ?_
  refine bq_n ?_
  refine tq_n ?_
  refine c_seqR ?_
  refine ops_cons rfl (ow_move rfl ?_)
  refine ops_cons rfl (ow_assign rfl ?_)
  refine ops_nil ?_
  refine c_ret ?_
  refine fin_ret1 rfl rfl ?_
  · skip
    first
    | (exact ⟨AoU, coU, zs, _, _, by rw [hzl], ⟨by omega, hzs⟩, by rw [hzl]; exact oR, ok, b26, X⟩)
    | (exact ⟨AT, cT, zs, _, _, by rw [hzl], ⟨by omega, hzs⟩, by rw [hzl]; exact oR, ok, b26, X⟩)
    | (exact ⟨none, 0, [], _, _, rfl, ⟨Nat.zero_le _, fun x hx => by simp at hx⟩, Own.nil_ _ _ _ _, ok, b26, X⟩)
    | (exact ⟨_, _, ys, _, _, rfl, ⟨by omega, fun z hz => (hyl.2 z hz).2⟩, oT, ok, b26, X⟩)
  refine ops_cons rfl (ow_assign rfl ?_)
  refine ops_nil ?_
  refine c_false rfl ?_
  refine c_seqR ?_
  refine ops_cons rfl (ow_eql2 rfl rfl (fun h33 => ?_) (fun h33 => ?_))
  refine ops_cons rfl (ow_assign rfl ?_)
  refine ops_nil ?_
  refine c_true rfl ?_
  refine c_region ?_
  refine ops_cons rfl (ow_move rfl ?_)
  refine ops_cons rfl (ow_move rfl ?_)
  refine ops_cons rfl (ow_buildSlice el211 ti9 rfl rfl rfl rfl rfl ?_)
  intro g34 w36 eg34 oL bbg34 x35 zg34
  replace oL := Own.low oL X.size
  replace hs := hs.ext x35
  replace oT := oT.ext x35
  replace b16 := b16.ext x35
  replace X := gb_ext X x35; clear x35
  replace oL := oL.to (cs' := ST5.flatMap eS) rfl
  refine ops_cons rfl (ow_move rfl ?_)
  refine ops_cons rfl (ow_call ent65 rfl (ret_mono (l01Next_c _ _ _ _ _ _ _ _ _ b16 hs hB ok hbl (by omega)) ?_))
  rintro _ w38 ⟨rr, a40, sd41, rfl, hr42, ok, b39, x37⟩
  replace hs := hs.grown x37 (by intro g hg; injection hg; omega)
  replace oT := oT.grownBlk x37 (Own.neT oT b16 (by decide))
  replace oL := oL.grownBlk x37 (Own.neT oL b16 (by decide))
  replace X := gb_trans X x37
  clear x37 b16
  obtain ⟨y, hy⟩ : ∃ y, ST5[rr.toNat]? = some y := ⟨_, List.getElem?_eq_getElem (by show rr.toNat < 5; omega)⟩
  have hy1 := st5_le y (List.mem_of_getElem? hy)
  obtain ⟨x, hx⟩ : ∃ x, ys[rk.toNat]? = some x := ⟨_, List.getElem?_eq_getElem (by omega)⟩
  have hxs := hyl.2 x (List.mem_of_getElem? hx)
  refine ops_cons rfl (ow_indexT (oL).sl eS_len rfl el211 rfl (show 5 = ST5.length from rfl) rfl hy (by omega) ?_)
  refine ops_cons rfl (ow_loadT (oL).sl eS_len hy ti9 rfl rfl rfl ?_)
  refine ops_cons rfl (ow_indexT (oT).sl NodeI.len rfl el24 rfl rfl rfl hx (by omega) ?_)
  refine ops_cons rfl (ow_fieldAddr off59_1 rfl ?_)
  refine ops_cons rfl (ow_storeRF oT ti9 rfl rfl rfl rfl (by omega) (by omega) rfl ?_)
  intro w44 oU hg43 z45
  replace hs := hs.grown hg43 (fun g hg => Nat.le_trans Bhs (Own.lt oT hg).1)
  replace oL := oL.grown hg43 (Own.neO oL oT (by decide))
  replace b39 := b39.grown hg43 (fun h => Own.neT oT b39 (by decide) h.symm)
  replace X : w.grownBy w44 (some gS) := by first | exact gb_trans X hg43 | exact gb_new X hg43 (fun g hg => (Own.lt oT hg).1)
  clear hg43 z45
  obtain ⟨zs, hzl, hzs, oR⟩ : ∃ zs : List NodeI, zs.length = ys.length ∧ (∀ z ∈ zs, z.name.size ≤ 7) ∧ Own _ w.heap.size 59 4 AT ys.length cT (zs.flatMap NodeI.cells) := ⟨ys.set rk.toNat ⟨x.id, y, x.drift, x.passive⟩, List.length_set .., (fun z hz => by
    rcases List.mem_or_eq_of_mem_set hz with h | rfl
    · exact (hyl.2 z h).2
    · exact hy1), oU.to (set_field (x := x) (x' := ⟨x.id, y, x.drift, x.passive⟩) (vs := [.string y]) NodeI.len (f := 1) rfl (by omega) ys rk.toNat hx)⟩
  refine ops_nil ?_
  refine bq_n ?_
  refine tq_n ?_
  refine c_seqR ?_
  refine ops_cons rfl (ow_move rfl ?_)
  refine ops_cons rfl (ow_assign rfl ?_)
  refine ops_nil ?_
  refine c_ret ?_
  refine fin_ret1 rfl rfl ?_
  · skip
    first
    | (exact ⟨AoU, coU, zs, _, _, by rw [hzl], ⟨by omega, hzs⟩, by rw [hzl]; exact oR, ok, b39, X⟩)
    | (exact ⟨AT, cT, zs, _, _, by rw [hzl], ⟨by omega, hzs⟩, by rw [hzl]; exact oR, ok, b39, X⟩)
    | (exact ⟨none, 0, [], _, _, rfl, ⟨Nat.zero_le _, fun x hx => by simp at hx⟩, Own.nil_ _ _ _ _, ok, b39, X⟩)
    | (exact ⟨_, _, ys, _, _, rfl, ⟨by omega, fun z hz => (hyl.2 z hz).2⟩, oT, ok, b39, X⟩)
  refine ops_cons rfl (ow_assign rfl ?_)
  refine ops_nil ?_
  refine c_false rfl ?_
  refine c_seqR ?_
  refine ops_cons rfl (ow_eql2 rfl rfl (fun h46 => ?_) (fun h46 => ?_))
  refine ops_cons rfl (ow_assign rfl ?_)
  refine ops_nil ?_
  refine c_true rfl ?_
  refine c_region ?_
  refine ops_cons rfl (ow_move rfl ?_)
  refine ops_cons rfl (ow_move rfl ?_)
  refine ops_cons rfl (ow_buildSlice el30 ti2 rfl rfl rfl rfl rfl ?_)
  intro g47 w49 eg47 oL bbg47 x48 zg47
  replace oL := Own.low oL X.size
  replace hs := hs.ext x48
  replace oT := oT.ext x48
  replace b16 := b16.ext x48
  replace X := gb_ext X x48; clear x48
  replace oL := oL.to (cs' := ([-1, 1000, 1001] : List Int).flatMap eI) rfl
  refine ops_cons rfl (ow_move rfl ?_)
  refine ops_cons rfl (ow_call ent65 rfl (ret_mono (l01Next_c _ _ _ _ _ _ _ _ _ b16 hs hB ok hbl (by omega)) ?_))
  rintro _ w51 ⟨rr, a53, sd54, rfl, hr55, ok, b52, x50⟩
  replace hs := hs.grown x50 (by intro g hg; injection hg; omega)
  replace oT := oT.grownBlk x50 (Own.neT oT b16 (by decide))
  replace oL := oL.grownBlk x50 (Own.neT oL b16 (by decide))
  replace X := gb_trans X x50
  clear x50 b16
  obtain ⟨y, hy⟩ : ∃ y, ([-1, 1000, 1001] : List Int)[rr.toNat]? = some y := ⟨_, List.getElem?_eq_getElem (by simp; omega)⟩
  obtain ⟨x, hx⟩ : ∃ x, ys[rk.toNat]? = some x := ⟨_, List.getElem?_eq_getElem (by omega)⟩
  have hxs := hyl.2 x (List.mem_of_getElem? hx)
  refine ops_cons rfl (ow_indexT (oL).sl eI_len rfl el30 rfl rfl rfl hy (by omega) ?_)
  refine ops_cons rfl (ow_loadT (oL).sl eI_len hy ti2 rfl rfl rfl ?_)
  refine ops_cons rfl (ow_indexT (oT).sl NodeI.len rfl el24 rfl rfl rfl hx (by omega) ?_)
  refine ops_cons rfl (ow_fieldAddr off59_2 rfl ?_)
  refine ops_cons rfl (ow_storeRF oT ti2 rfl rfl rfl rfl (by omega) (by omega) rfl ?_)
  intro w57 oU hg56 z58
  replace hs := hs.grown hg56 (fun g hg => Nat.le_trans Bhs (Own.lt oT hg).1)
  replace oL := oL.grown hg56 (Own.neO oL oT (by decide))
  replace b52 := b52.grown hg56 (fun h => Own.neT oT b52 (by decide) h.symm)
  replace X : w.grownBy w57 (some gS) := by first | exact gb_trans X hg56 | exact gb_new X hg56 (fun g hg => (Own.lt oT hg).1)
  clear hg56 z58
  obtain ⟨zs, hzl, hzs, oR⟩ : ∃ zs : List NodeI, zs.length = ys.length ∧ (∀ z ∈ zs, z.name.size ≤ 7) ∧ Own _ w.heap.size 59 4 AT ys.length cT (zs.flatMap NodeI.cells) := ⟨ys.set rk.toNat ⟨x.id, x.name, y, x.passive⟩, List.length_set .., (fun z hz => by
    rcases List.mem_or_eq_of_mem_set hz with h | rfl
    · exact (hyl.2 z h).2
    · exact hxs.2), oU.to (set_field (x := x) (x' := ⟨x.id, x.name, y, x.passive⟩) (vs := [.int .i64 y]) NodeI.len (f := 2) rfl (by omega) ys rk.toNat hx)⟩
  refine ops_nil ?_
  refine bq_n ?_
  refine tq_n ?_
  refine c_seqR ?_
  refine ops_cons rfl (ow_move rfl ?_)
  refine ops_cons rfl (ow_assign rfl ?_)
  refine ops_nil ?_
  refine c_ret ?_
  refine fin_ret1 rfl rfl ?_
  · skip
    first
    | (exact ⟨AoU, coU, zs, _, _, by rw [hzl], ⟨by omega, hzs⟩, by rw [hzl]; exact oR, ok, b52, X⟩)
    | (exact ⟨AT, cT, zs, _, _, by rw [hzl], ⟨by omega, hzs⟩, by rw [hzl]; exact oR, ok, b52, X⟩)
    | (exact ⟨none, 0, [], _, _, rfl, ⟨Nat.zero_le _, fun x hx => by simp at hx⟩, Own.nil_ _ _ _ _, ok, b52, X⟩)
    | (exact ⟨_, _, ys, _, _, rfl, ⟨by omega, fun z hz => (hyl.2 z hz).2⟩, oT, ok, b52, X⟩)
  refine ops_cons rfl (ow_assign rfl ?_)
  refine ops_nil ?_
  refine c_false rfl ?_
  refine c_seqR ?_
  refine ops_cons rfl (ow_eql2 rfl rfl (fun h59 => ?_) (fun h59 => ?_))
  refine ops_cons rfl (ow_assign rfl ?_)
  refine ops_nil ?_
  refine c_true rfl ?_
  refine c_region ?_
  refine ops_cons rfl (ow_move rfl ?_)
  refine ops_cons rfl (ow_move rfl ?_)
  refine ops_cons rfl (ow_move rfl ?_)
  obtain ⟨x, hx⟩ : ∃ x, ys[rk.toNat]? = some x := ⟨_, List.getElem?_eq_getElem (by omega)⟩
  have hxs := hyl.2 x (List.mem_of_getElem? hx)
  refine ops_cons rfl (ow_indexT (oT).sl NodeI.len rfl el24 rfl rfl rfl hx (by omega) ?_)
  refine ops_cons rfl (ow_loadTA (oT).sl NodeI.len hx ti59 rfl ?_)
  refine ops_cons rfl (ow_buildSlice el24 ti59 rfl rfl rfl rfl rfl ?_)
  intro g60 w62 eg60 oV bbg60 x61 zg60
  replace oV := Own.low oV X.size
  replace hs := hs.ext x61
  replace oT := oT.ext x61
  replace b16 := b16.ext x61
  replace X := gb_ext X x61; clear x61
  refine ops_cons rfl (ow_append (ts := #[]) oT X.size oV.sl (by first | rfl | simp) (by first | exact List.all_eq_true.1 rfl | simp [Value.oneCell']) el24 ti59 rfl rfl rfl rfl (by omega) (by omega) ?_)
  intro AoU coU w65 oU hg63
  replace hs := hs.grown hg63 (fun g hg => Nat.le_trans Bhs (Own.lt oT hg).1)
  replace b16 := b16.grown hg63 (fun h => Own.neT oT b16 (by decide) h.symm)
  replace X := gb_new X hg63 (fun g hg => (Own.lt oT hg).1)
  clear hg63
  obtain ⟨zs, hzl, hzs, oR⟩ : ∃ zs : List NodeI, zs.length = ys.length + 1 ∧ (∀ z ∈ zs, z.name.size ≤ 7) ∧ Own _ w.heap.size 59 4 AoU (ys.length + 1) coU (zs.flatMap NodeI.cells) := ⟨ys ++ [x], by simp, (fun z hz => by
    rcases List.mem_append.1 hz with h | h
    · exact (hyl.2 z h).2
    · obtain rfl : z = x := by simpa using h
      exact hxs.2), oU.to (snoc NodeI.cells ys x).symm⟩
  refine ops_cons rfl (ow_assign rfl ?_)
  refine ops_nil ?_
  refine bq_n ?_
  refine tq_n ?_
  refine c_seqR ?_
  refine ops_cons rfl (ow_move rfl ?_)
  refine ops_cons rfl (ow_assign rfl ?_)
  refine ops_nil ?_
  refine c_ret ?_
  refine fin_ret1 rfl rfl ?_
  · skip
    first
    | (exact ⟨AoU, coU, zs, _, _, by rw [hzl], ⟨by omega, hzs⟩, by rw [hzl]; exact oR, ok, b16, X⟩)
    | (exact ⟨AT, cT, zs, _, _, by rw [hzl], ⟨by omega, hzs⟩, by rw [hzl]; exact oR, ok, b16, X⟩)
    | (exact ⟨none, 0, [], _, _, rfl, ⟨Nat.zero_le _, fun x hx => by simp at hx⟩, Own.nil_ _ _ _ _, ok, b16, X⟩)
    | (exact ⟨_, _, ys, _, _, rfl, ⟨by omega, fun z hz => (hyl.2 z hz).2⟩, oT, ok, b16, X⟩)
  refine ops_cons rfl (ow_assign rfl ?_)
  refine ops_nil ?_
  refine c_false rfl ?_
  refine c_seqR ?_
  refine ops_cons rfl (ow_eql2 rfl rfl (fun h66 => ?_) (fun h66 => ?_))
  refine ops_cons rfl (ow_assign rfl ?_)
  refine ops_nil ?_
  refine c_true rfl ?_
  refine c_region ?_
  refine ops_cons rfl (ow_assign rfl ?_)
  refine ops_nil ?_
  refine bq_n ?_
  refine tq_n ?_
  refine c_seqR ?_
  refine ops_cons rfl (ow_move rfl ?_)
  refine ops_cons rfl (ow_assign rfl ?_)
  refine ops_nil ?_
  refine c_ret ?_
  refine fin_ret1 rfl rfl ?_
  · skip
    first
    | (exact ⟨AoU, coU, zs, _, _, by rw [hzl], ⟨by omega, hzs⟩, by rw [hzl]; exact oR, ok, b16, X⟩)
    | (exact ⟨AT, cT, zs, _, _, by rw [hzl], ⟨by omega, hzs⟩, by rw [hzl]; exact oR, ok, b16, X⟩)
    | (exact ⟨none, 0, [], _, _, rfl, ⟨Nat.zero_le _, fun x hx => by simp at hx⟩, Own.nil_ _ _ _ _, ok, b16, X⟩)
    | (exact ⟨_, _, ys, _, _, rfl, ⟨by omega, fun z hz => (hyl.2 z hz).2⟩, oT, ok, b16, X⟩)
  refine ops_cons rfl (ow_assign rfl ?_)
  refine ops_nil ?_
  refine c_false rfl ?_
  refine c_skip ?_
  refine bq_n ?_
  refine tq_n ?_
  refine c_seqR ?_
  refine ops_cons rfl (ow_move rfl ?_)
  refine ops_cons rfl (ow_assign rfl ?_)
  refine ops_nil ?_
  refine c_ret ?_
  refine fin_ret1 rfl rfl ?_
  · skip
    first
    | (exact ⟨AoU, coU, zs, _, _, by rw [hzl], ⟨by omega, hzs⟩, by rw [hzl]; exact oR, ok, b16, X⟩)
    | (exact ⟨AT, cT, zs, _, _, by rw [hzl], ⟨by omega, hzs⟩, by rw [hzl]; exact oR, ok, b16, X⟩)
    | (exact ⟨none, 0, [], _, _, rfl, ⟨Nat.zero_le _, fun x hx => by simp at hx⟩, Own.nil_ _ _ _ _, ok, b16, X⟩)
    | (exact ⟨_, _, ys, _, _, rfl, ⟨by omega, fun z hz => (hyl.2 z hz).2⟩, oT, ok, b16, X⟩)
end Go.Proofs.YtdoibplhbdkapaaGreatDoor
