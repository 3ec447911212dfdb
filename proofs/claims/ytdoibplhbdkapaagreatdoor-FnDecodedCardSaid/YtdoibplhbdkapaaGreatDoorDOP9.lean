/- Parts. No condition. -/
import Derived.Test.YtdoibplhbdkapaaGreatDoorDOP3
import Derived.Test.YtdoibplhbdkapaaGreatDoorDOP4
import Derived.Test.YtdoibplhbdkapaaGreatDoorDOP8
import Derived.Test.YtdoibplhbdkapaaGreatDoorDOP7
namespace Go.Proofs.YtdoibplhbdkapaaGreatDoor
open Go.RowKit
set_option linter.unusedVariables false
set_option linter.unusedSimpArgs false
def SlotI.key (x : SlotI) : Int × Int × Int := (x.mode, x.round, x.slot)
def vG (mode : Int) (r n : Nat) : List (Int × Int × Int) := (List.range n).map fun (s : Nat) => (mode, (r : Int), (s : Int))
def vH (mode : Int) (x : Mode) : List (Int × Int × Int) := (List.range x.rounds.toNat).flatMap fun r => vG mode r x.slots.toNat
def jM (i : Int) : List Mode → List (Int × Int × Int)
 | [] => []
 | x :: r => vH i x ++ jM (i + 1) r
def iW (d : MedlD) : Bool := decide (d.ss.map SlotI.key = jM 0 d.ms)
def aGd (ss : List SlotI) (k : Int × Int × Int) : Bool := decide (0 ≤ iC (nA k.1 k.2.1 k.2.2) 0 ss)
def hM (ss : List SlotI) (keys : List (Int × Int × Int)) (n : Int) : Bool := keys.all (aGd ss) && decide (n + keys.length = ss.length)
theorem sS {n k : Nat} (h : k < n) : (List.range n).drop k = k :: (List.range n).drop (k + 1) := by
 rw [List.drop_eq_getElem_cons (by simpa using h)]; simp
theorem yK {n k : Nat} (h : n ≤ k) : (List.range n).drop k = [] := List.drop_eq_nil_of_le (by simpa using h)
theorem aDE {β : Type} {f : Nat → List β} {s : Nat} (hf : ∀ r, (f r).length = s) : ∀ (n i j : Nat), i < n → j < s → ((List.range n).flatMap f)[i * s + j]? = (f i)[j]? := by
 intro n
 induction n with
 | zero => intro i j h; omega
 | succ n ih =>
   intro i j hi hj
   have hl : ((List.range n).flatMap f).length = n * s := by
     clear ih hi hj i j
     induction n with
     | zero => simp
     | succ n ih => rw [List.range_succ, List.flatMap_append, List.length_append, ih]; simp [hf, Nat.add_mul]
   rw [List.range_succ, List.flatMap_append]
   by_cases h : i < n
   · have h2 : i * s + j < n * s := by
       have : (i + 1) * s ≤ n * s := Nat.mul_le_mul_right _ h
       rw [Nat.add_mul] at this; omega
     rw [List.getElem?_append_left (by rw [hl]; exact h2), ih i j h hj]
   · have e : i = n := by omega
     subst e
     rw [List.getElem?_append_right (by rw [hl]; omega), hl, show i * s + j - i * s = j by omega]; simp
theorem aA6 (mode : Int) (r n : Nat) : (vG mode r n).length = n := by simp [vG]
theorem aHQ (mode : Int) (x : Mode) : (vH mode x).length = x.rounds.toNat * x.slots.toNat := by
 unfold vH
 generalize x.rounds.toNat = n
 induction n with
 | zero => simp
 | succ n ih => rw [List.range_succ, List.flatMap_append, List.length_append, ih]; simp [aA6, Nat.add_mul]
theorem aIH {mode : Int} {x : Mode} {i : Nat} (h : i < x.rounds.toNat * x.slots.toNat) : (vH mode x)[i]? = some (mode, ((i / x.slots.toNat : Nat) : Int), ((i % x.slots.toNat : Nat) : Int)) := by
 have hs : 0 < x.slots.toNat := by
   rcases Nat.eq_zero_or_pos x.slots.toNat with h1 | h1
   · rw [h1] at h; simp at h
   · exact h1
 have h1 := aDE (f := fun r => vG mode r x.slots.toNat) (fun r => aA6 mode r _) x.rounds.toNat (i / x.slots.toNat) (i % x.slots.toNat) ((Nat.div_lt_iff_lt_mul hs).2 h) (Nat.mod_lt _ hs)
 rw [Nat.mul_comm, Nat.div_add_mod] at h1
 unfold vH
 rw [h1]
 simp [vG, List.getElem?_range (Nat.mod_lt _ hs)]
theorem aGe {mode : Int} {x : Mode} {i : Nat} (h : i < x.rounds.toNat * x.slots.toNat) : (vH mode x).drop i = (mode, ((i / x.slots.toNat : Nat) : Int), ((i % x.slots.toNat : Nat) : Int)) :: (vH mode x).drop (i + 1) := by
 have h1 := aIH (mode := mode) h
 obtain ⟨h2, h3⟩ := List.getElem?_eq_some_iff.1 h1
 rw [List.drop_eq_getElem_cons h2, h3]
theorem xH {a b : SlotI} : rC a b = 0 ↔ a.key = b.key := by
 simp only [rC, vC, SlotI.key, Prod.mk.injEq]
 constructor
 · intro h
   repeat' split at h
   all_goals first | (exfalso; omega) | skip
   all_goals (refine ⟨by omega, by omega, by omega⟩)
 · rintro ⟨h1, h2, h3⟩
   simp [h1, h2, h3]
def lP (k : Int × Int × Int) : Int := k.1 * 256 + k.2.1 * 16 + k.2.2
def inK (k : Int × Int × Int) : Prop := (0 ≤ k.1 ∧ k.1 ≤ 15) ∧ (0 ≤ k.2.1 ∧ k.2.1 ≤ 7) ∧ (0 ≤ k.2.2 ∧ k.2.2 ≤ 15)
theorem aGf {a b : Int × Int × Int} (ha : inK a) (hb : inK b) (h : lP a = lP b) : a = b := by
 obtain ⟨a1, a2, a3⟩ := a; obtain ⟨b1, b2, b3⟩ := b
 simp only [inK, lP] at ha hb h
 simp only [Prod.mk.injEq]
 omega
theorem sT {x : SlotI} (h : hP x = true) : inK x.key := by
 simp only [hP, Bool.and_eq_true] at h
 exact ⟨eO.1 h.1.1.1, eO.1 h.1.1.2, eO.1 h.1.2⟩
theorem aGg {a b : SlotI} (ha : inK a.key) (hb : inK b.key) (h : rC a b < 0) : lP a.key < lP b.key := by
 simp only [rC, vC, SlotI.key, inK, lP] at *
 repeat' split at h
 all_goals omega
theorem vP : ∀ (l : List SlotI) (p : Option SlotI), fH p l = true → (l.map fun x => lP x.key).Pairwise (· < ·) ∧ (∀ y, p = some y → hP y = true → ∀ x ∈ l, lP y.key < lP x.key)
 | [], _, _ => ⟨List.Pairwise.nil, fun _ _ _ x hx => by simp at hx⟩
 | x :: r, p, h => by
   have h1 : hP x = true ∧ fH (some x) r = true := by
     cases p <;> simp only [fH, Bool.and_eq_true] at h
     · exact h
     · exact ⟨h.1.1, h.2⟩
   obtain ⟨h2, h3⟩ := vP r _ h1.2
   have h4 := h3 x rfl h1.1
   refine ⟨List.Pairwise.cons (fun c hc => ?_) h2, fun y hp hy z hz => ?_⟩
   · obtain ⟨z, hz, rfl⟩ := List.mem_map.1 hc
     exact h4 z hz
   · subst hp
     simp only [fH, Bool.and_eq_true, decide_eq_true_eq] at h
     have h5 := aGg (sT hy) (sT h1.1) h.1.2
     rcases List.mem_cons.1 hz with rfl | hz
     · exact h5
     · have := h4 z hz; omega
theorem wM : ∀ (k l : List Int), k.Pairwise (· < ·) → l.Pairwise (· < ·) → (∀ x ∈ k, x ∈ l) → k.Sublist l
 | [], l, _, _, _ => List.nil_sublist l
 | x :: k, [], _, _, h => by have := h x (by simp); simp at this
 | x :: k, y :: l, hk, hl, h => by
   by_cases e : x = y
   · subst e
     refine List.Sublist.cons_cons _ (wM k l (List.Pairwise.of_cons hk) (List.Pairwise.of_cons hl) fun z hz => ?_)
     have h1 := h z (by simp [hz])
     have h2 := List.rel_of_pairwise_cons hk hz
     rcases List.mem_cons.1 h1 with h3 | h3
     · omega
     · exact h3
   · refine List.Sublist.cons _ (wM (x :: k) l hk (List.Pairwise.of_cons hl) fun z hz => ?_)
     have hx : x ∈ l := by
       rcases List.mem_cons.1 (h x (by simp)) with h3 | h3
       · exact absurd h3 e
       · exact h3
     have hxy := List.rel_of_pairwise_cons hl hx
     rcases List.mem_cons.1 (h z hz) with h3 | h3
     · rcases List.mem_cons.1 hz with h4 | h4
       · omega
       · have := List.rel_of_pairwise_cons hk h4; omega
     · exact h3
 termination_by k l => k.length + l.length
theorem uC {k : Int × Int × Int} {i : Int} {x : Mode} : k ∈ vH i x ↔ k.1 = i ∧ (0 ≤ k.2.1 ∧ k.2.1 < x.rounds) ∧ (0 ≤ k.2.2 ∧ k.2.2 < x.slots) := by
 obtain ⟨a, b, c⟩ := k
 simp only [vH, vG, List.mem_flatMap, List.mem_map, List.mem_range, Prod.mk.injEq]
 constructor
 · rintro ⟨r, hr, s, hs, h1, h2, h3⟩; omega
 · rintro ⟨h1, h2, h3⟩; exact ⟨b.toNat, by omega, c.toNat, by omega, by omega, by omega, by omega⟩
theorem rO {k : Int × Int × Int} : ∀ (ms : List Mode) (i : Int), k ∈ jM i ms ↔ ∃ (j : Nat) (x : Mode), ms[j]? = some x ∧ k ∈ vH (i + j) x
 | [], i => by simp [jM]
 | x :: r, i => by
   rw [jM, List.mem_append, rO r (i + 1)]
   constructor
   · rintro (h | ⟨j, y, h1, h2⟩)
     · exact ⟨0, x, rfl, by simpa using h⟩
     · exact ⟨j + 1, y, by simpa using h1, by rwa [show i + ((j + 1 : Nat) : Int) = i + 1 + j by omega]⟩
   · rintro ⟨j, y, h1, h2⟩
     cases j with
     | zero => simp at h1; subst h1; exact .inl (by simpa using h2)
     | succ j => exact .inr ⟨j, y, by simpa using h1, by rwa [show i + 1 + (j : Int) = i + ((j + 1 : Nat) : Int) by omega]⟩
theorem aDF (i : Int) (r n : Nat) : ((vG i r n).map lP).Pairwise (· < ·) := by
 unfold vG
 rw [List.map_map, List.pairwise_map]
 refine List.Pairwise.imp ?_ List.pairwise_lt_range
 intro a b h
 simp only [Function.comp, lP]; omega
theorem aDG (i : Int) (x : Mode) (hs : x.slots ≤ 16) : ((vH i x).map lP).Pairwise (· < ·) := by
 unfold vH
 generalize x.rounds.toNat = n
 induction n with
 | zero => simp
 | succ n ih =>
   rw [List.range_succ, List.flatMap_append, List.map_append, List.pairwise_append]
   refine ⟨ih, by simpa using aDF i n x.slots.toNat, ?_⟩
   intro a ha b hb
   simp only [List.mem_map, List.mem_flatMap, List.mem_range, vG, List.flatMap_cons, List.flatMap_nil, List.append_nil] at ha hb
   obtain ⟨_, ⟨r, hr, s, hs1, rfl⟩, rfl⟩ := ha
   obtain ⟨_, ⟨t, ht, rfl⟩, rfl⟩ := hb
   simp only [lP]; omega
theorem xI : ∀ (ms : List Mode) (i : Int), (∀ x ∈ ms, x.rounds ≤ 8 ∧ x.slots ≤ 16) → ((jM i ms).map lP).Pairwise (· < ·)
 | [], _, _ => by simp [jM]
 | x :: r, i, h => by
   rw [jM, List.map_append, List.pairwise_append]
   refine ⟨aDG i x (h x (by simp)).2, xI r (i + 1) (fun y hy => h y (by simp [hy])), ?_⟩
   intro a ha b hb
   obtain ⟨ka, h1, rfl⟩ := List.mem_map.1 ha
   obtain ⟨kb, h2, rfl⟩ := List.mem_map.1 hb
   have h3 := uC.1 h1
   obtain ⟨j, y, hy, h4⟩ := (rO r (i + 1)).1 h2
   have h5 := uC.1 h4
   have h6 := h x (by simp)
   have h7 := h y (by have := List.mem_of_getElem? hy; simp [this])
   simp only [lP]; omega
theorem qV {ms : List Mode} (h : jX ms = true) : ∀ x ∈ ms, (1 ≤ x.rounds ∧ x.rounds ≤ 8) ∧ (1 ≤ x.slots ∧ x.slots ≤ 16) := fun x hx => by
 obtain ⟨k, hk⟩ := List.mem_iff_getElem?.1 hx
 have := uU (aAf h hk)
 exact ⟨this.1, this.2.1⟩
theorem aHR {ms : List Mode} (h : jX ms = true) : ∀ k ∈ jM 0 ms, inK k := fun k hk => by
 obtain ⟨j, y, hy, h4⟩ := (rO ms 0).1 hk
 have h5 := uC.1 h4
 have h6 := qV h y (List.mem_of_getElem? hy)
 have h7 := tU h
 have h8 : j < ms.length := (List.getElem?_eq_some_iff.1 hy).1
 refine ⟨by omega, by omega, by omega⟩
theorem aA7 {k : Int × Int × Int} {x : SlotI} : nA k.1 k.2.1 k.2.2 x = true ↔ x.key = k := by
 obtain ⟨a, b, c⟩ := k
 simp [nA, SlotI.key, Prod.mk.injEq, and_assoc]
theorem aA8 {f : SlotI → Bool} : ∀ (l : List SlotI) (k : Nat), iC f k l < 0 ↔ ∀ x ∈ l, f x = false
 | [], k => by simp [iC]
 | x :: r, k => by
   rw [iC]
   split
   · rename_i h
     constructor
     · intro h1; omega
     · intro h1; have := h1 x (by simp); rw [h] at this; cases this
   · rename_i h
     have := aA8 (f := f) r (k + 1)
     rw [show ((k : Int) + 1) = ((k + 1 : Nat) : Int) by omega, this]
     simp [h]
theorem aA9 {ss : List SlotI} {k : Int × Int × Int} : aGd ss k = true ↔ ∃ x ∈ ss, x.key = k := by
 have h := aA8 (f := nA k.1 k.2.1 k.2.2) ss 0
 simp only [aGd, decide_eq_true_eq]
 rw [show ((0 : Nat) : Int) = 0 from rfl] at h
 constructor
 · intro h1
   refine Classical.byContradiction fun hc => ?_
   have : iC (nA k.1 k.2.1 k.2.2) 0 ss < 0 := h.2 fun x hx => by
     cases e : nA k.1 k.2.1 k.2.2 x
     · rfl
     · exact absurd ⟨x, hx, aA7.1 e⟩ hc
   omega
 · rintro ⟨x, hx, hk⟩
   refine Int.not_lt.1 fun h1 => ?_
   have := h.1 h1 x hx
   rw [aA7.2 hk] at this; cases this
theorem aDH : ∀ (a b : List (Int × Int × Int)), (∀ k ∈ a, inK k) → (∀ k ∈ b, inK k) → a.map lP = b.map lP → a = b
 | [], b, _, _, h => by cases b <;> simp_all
 | x :: a, [], _, _, h => by simp at h
 | x :: a, y :: b, h1, h2, h => by
   simp only [List.map_cons, List.cons.injEq] at h
   rw [aGf (h1 x (by simp)) (h2 y (by simp)) h.1, aDH a b (fun k hk => h1 k (by simp [hk])) (fun k hk => h2 k (by simp [hk])) h.2]
theorem zH {d : MedlD} (hm : jX d.ms = true) (hs : iB d.ss = true) : hM d.ss (jM 0 d.ms) 0 = iW d := by
 have hs1 : fH none d.ss = true := by simp only [iB, Bool.and_eq_true] at hs; exact hs.1
 have hsort := (vP d.ss none hs1).1
 have hk := xI d.ms 0 (fun x hx => ⟨(qV hm x hx).1.2, (qV hm x hx).2.2⟩)
 rw [Bool.eq_iff_iff]
 simp only [hM, iW, Bool.and_eq_true, List.all_eq_true, decide_eq_true_eq]
 constructor
 · rintro ⟨h1, h2⟩
   have hsub : ((jM 0 d.ms).map lP).Sublist (d.ss.map fun x => lP x.key) := by
     refine wM _ _ hk hsort fun c hc => ?_
     obtain ⟨k, hk1, rfl⟩ := List.mem_map.1 hc
     obtain ⟨x, hx, hxk⟩ := aA9.1 (h1 k hk1)
     exact List.mem_map.2 ⟨x, hx, by rw [hxk]⟩
   have heq := hsub.eq_of_length (by simp; omega)
   have h3 : (d.ss.map SlotI.key).map lP = (jM 0 d.ms).map lP := by rw [heq, List.map_map]; rfl
   have hin1 : ∀ k ∈ d.ss.map SlotI.key, inK k := fun k hk1 => by
     obtain ⟨x, hx, rfl⟩ := List.mem_map.1 hk1
     exact sT (sK _ _ hs1 x hx)
   have hin2 := aHR hm
   generalize d.ss.map SlotI.key = a at h3 hin1
   generalize jM 0 d.ms = b at h3 hin2
   exact aDH a b hin1 hin2 h3
 · intro h
   refine ⟨fun k hk1 => ?_, by rw [← h]; simp⟩
   rw [← h] at hk1
   obtain ⟨x, hx, hxk⟩ := List.mem_map.1 hk1
   exact aA9.2 ⟨x, hx, hxk⟩
def lQ (x y : SlotI) : Bool := !(decide (x.mode = y.mode) && decide (x.slot = y.slot)) || decide (x.desc.duration = y.desc.duration)
def qH (ss : List SlotI) : Bool := ss.all fun x => ss.all fun y => lQ x y
def aBa : List SlotI → List SlotI → Bool
 | _, [] => true
 | q, x :: r => q.all (lQ x) && aBa (q ++ [x]) r
def qI (ss : List SlotI) (x : SlotI) : Bool := match ss[(iC (nA x.mode 0 x.slot) 0 ss).toNat]? with
 | some y => decide (x.desc.duration = y.desc.duration)
 | none => false
def xJ (ss : List SlotI) : Bool := ss.all (qI ss)
theorem aEI (x y : SlotI) : lQ x y = lQ y x := by
 rw [Bool.eq_iff_iff]
 simp only [lQ, Bool.or_eq_true, Bool.not_eq_true', Bool.and_eq_false_iff, decide_eq_true_eq, decide_eq_false_iff_not]
 constructor <;> (intro h; omega)
theorem aEJ (x : SlotI) : lQ x x = true := by simp [lQ]
theorem aBb : ∀ (r q : List SlotI), (∀ x ∈ q, ∀ y ∈ q, lQ x y = true) → (aBa q r = true ↔ ∀ x ∈ q ++ r, ∀ y ∈ q ++ r, lQ x y = true)
 | [], q, hq => by simp only [aBa, List.append_nil, true_iff]; exact hq
 | x :: r, q, hq => by
   simp only [aBa, Bool.and_eq_true, List.all_eq_true]
   constructor
   · rintro ⟨h1, h2⟩
     have h3 : ∀ a ∈ q ++ [x], ∀ b ∈ q ++ [x], lQ a b = true := by
       intro a ha b hb
       rcases List.mem_append.1 ha with ha | ha <;> rcases List.mem_append.1 hb with hb | hb
       · exact hq a ha b hb
       · have e : b = x := by simpa using hb
         rw [e, aEI]; exact h1 a ha
       · have e : a = x := by simpa using ha
         rw [e]; exact h1 b hb
       · have e : a = x := by simpa using ha
         have e2 : b = x := by simpa using hb
         rw [e, e2]; exact aEJ _
     have := (aBb r (q ++ [x]) h3).1 h2
     simpa using this
   · intro h
     refine ⟨fun y hy => h x (by simp) y (by simp [hy]), ?_⟩
     have h3 : ∀ a ∈ q ++ [x], ∀ b ∈ q ++ [x], lQ a b = true := fun a ha b hb => h a (by simp at ha ⊢; rcases ha with ha | ha <;> simp [ha]) b (by simp at hb ⊢; rcases hb with hb | hb <;> simp [hb])
     exact (aBb r (q ++ [x]) h3).2 (by simpa using h)
theorem aCE (ss : List SlotI) : aBa [] ss = qH ss := by
 rw [Bool.eq_iff_iff, aBb ss [] (by simp)]
 simp [qH, List.all_eq_true]
theorem xM {d : MedlD} (hm : jX d.ms = true) (hc : iW d = true) {x : SlotI} (hx : x ∈ d.ss) : ∃ (j : Nat) (y : SlotI), iC (nA x.mode 0 x.slot) 0 d.ss = (j : Int) ∧ d.ss[j]? = some y ∧ y.mode = x.mode ∧ y.slot = x.slot := by
 simp only [iW, decide_eq_true_eq] at hc
 have h1 : x.key ∈ jM 0 d.ms := by rw [← hc]; exact List.mem_map.2 ⟨x, hx, rfl⟩
 obtain ⟨j, m, hj, h2⟩ := (rO d.ms 0).1 h1
 have h3 := uC.1 h2
 have h4 := qV hm m (List.mem_of_getElem? hj)
 have h5 : ((x.mode, 0, x.slot) : Int × Int × Int) ∈ jM 0 d.ms := (rO d.ms 0).2 ⟨j, m, hj, uC.2 ⟨h3.1, by simp only; omega, h3.2.2⟩⟩
 rw [← hc] at h5
 have h6 := aA9.2 (List.mem_map.1 h5)
 simp only [aGd, decide_eq_true_eq] at h6
 rcases aDj (f := nA x.mode 0 x.slot) d.ss 0 with h7 | ⟨i, y, h7, h8, h9⟩
 · rw [show ((0 : Nat) : Int) = 0 from rfl] at h7; omega
 · have h10 := (aA7 (k := (x.mode, 0, x.slot))).1 h9
   simp only [SlotI.key, Prod.mk.injEq] at h10
   exact ⟨i, y, by rw [show ((0 : Nat) : Int) = 0 from rfl] at h7; rw [h7]; congr 1; omega, h8, h10.1, h10.2.2⟩
theorem aBc {d : MedlD} (hm : jX d.ms = true) (hc : iW d = true) : xJ d.ss = qH d.ss := by
 rw [Bool.eq_iff_iff]
 simp only [xJ, qH, List.all_eq_true]
 constructor
 · intro h x hx y hy
   obtain ⟨i, a, h1, h2, h3, h4⟩ := xM hm hc hx
   obtain ⟨j, b, h5, h6, h7, h8⟩ := xM hm hc hy
   have h9 := h x hx; have h10 := h y hy
   simp only [qI, h1, Int.toNat_natCast, h2, decide_eq_true_eq] at h9
   simp only [qI, h5, Int.toNat_natCast, h6, decide_eq_true_eq] at h10
   simp only [lQ, Bool.or_eq_true, Bool.not_eq_true', Bool.and_eq_false_iff, decide_eq_true_eq, decide_eq_false_iff_not]
   by_cases e1 : x.mode = y.mode
   · by_cases e2 : x.slot = y.slot
     · right
       rw [e1, e2, h5] at h1
       have : j = i := by omega
       subst this
       rw [h6] at h2; injection h2 with h2; subst h2
       omega
     · left; right; exact e2
   · left; left; exact e1
 · intro h x hx
   obtain ⟨i, a, h1, h2, h3, h4⟩ := xM hm hc hx
   have h5 := h x hx a (List.mem_of_getElem? h2)
   simp only [qI, h1, Int.toNat_natCast, h2, decide_eq_true_eq]
   simp only [lQ, Bool.or_eq_true, Bool.not_eq_true', Bool.and_eq_false_iff, decide_eq_true_eq, decide_eq_false_iff_not] at h5
   omega
def aCF : List SlotI → Int
 | [] => 0
 | x :: r => x.desc.duration + aCF r
def lA (mode : Int) (ss : List SlotI) : List SlotI := ss.filter fun x => decide (x.mode = mode)
def cyc (ss : List SlotI) (mode : Int) : Int := aCF (lA mode ss)
theorem vQ {mode : Int} {x : SlotI} {r : List SlotI} (h : x.mode = mode) : lA mode (x :: r) = x :: lA mode r := by simp [lA, h]
theorem vR {mode : Int} {x : SlotI} {r : List SlotI} (h : ¬ x.mode = mode) : lA mode (x :: r) = lA mode r := by simp [lA, h]
theorem aEK (mode : Int) (ss : List SlotI) : ∀ x ∈ lA mode ss, x ∈ ss ∧ x.mode = mode := fun x hx => by
 have := List.mem_filter.1 hx; simpa using this
theorem aEL (mode : Int) (ss : List SlotI) : (lA mode ss).length ≤ ss.length := List.length_filter_le _ _
def sU (d : MedlD) : Bool := (List.range d.ms.length).all fun (i : Nat) => decide (cyc d.ss i ≤ 32000)
def nY (d : MedlD) : Bool := d.ss.all fun x => pE (iM d.ns) x.desc.node
def vI (ss : List SlotI) (mode round : Int) : Nat := qG (fun x => decide (x.mode = mode) && decide (x.round = round)) (fun x => x.desc.node) 0 ss
def uD (act : Nat) (ss : List SlotI) (i : Int) : List Mode → Bool
 | [] => true
 | x :: r => ((List.range x.rounds.toNat).all fun (k : Nat) => decide (vI ss i k = act)) && uD act ss (i + 1) r
def zI (act : Nat) (ss : List SlotI) (i : Int) : List Mode → Bool
 | [] => true
 | x :: r => ((List.range x.rounds.toNat).all fun (k : Nat) => decide (tW act (vI ss i k) = 0)) && zI act ss (i + 1) r
theorem aII {act : Nat} {ss : List SlotI} {m r : Int} (h : (ss.all fun x => pE act x.desc.node) = true) (i : Nat) (hi : (vI ss m r).testBit i = true) : act.testBit i = true := by
 unfold vI at hi
 rw [xE] at hi
 simp only [Nat.zero_testBit, Bool.false_or, List.any_eq_true, Bool.and_eq_true, decide_eq_true_eq] at hi
 obtain ⟨x, hx, _, e⟩ := hi
 have := List.all_eq_true.1 h x hx
 rw [e]; exact this
theorem aCG {act : Nat} {ss : List SlotI} (h : (ss.all fun x => pE act x.desc.node) = true) : ∀ (ms : List Mode) (i : Int), zI act ss i ms = uD act ss i ms
 | [], i => rfl
 | x :: r, i => by
   rw [zI, uD, aCG h r (i + 1)]
   congr 1
   congr 1
   funext k
   rw [Bool.eq_iff_iff, decide_eq_true_eq, decide_eq_true_eq, aFZ]
   constructor
   · intro h1
     apply Nat.eq_of_testBit_eq
     intro j
     rw [Bool.eq_iff_iff]
     exact ⟨aII h j, h1 j⟩
   · intro h1 j hj
     rw [h1]; exact hj
def sZ (ss : List SlotI) : Bool := ss.any fun x => decide (x.desc.kind = 3) && decide (x.mode ≠ 0)
def aBe (d : MedlD) : Int :=
 if iF d.id 1 16777215 = false then 1
 else if eC d.ns = false then 2
 else if jX d.ms = false then 3
 else if iB d.ss = false then 4
 else if iW d = false then 5
 else if nY d = false then 6
 else if qH d.ss = false then 7
 else if sU d = false then 8
 else if uD (iM d.ns) d.ss 0 d.ms = false then 9
 else if sZ d.ss = true then 10 else 0
theorem aLu {a b : Int} (h1 : 1 ≤ a ∧ a ≤ 8) (h2 : 1 ≤ b ∧ b ≤ 16) : 1 ≤ a * b ∧ a * b ≤ 128 := by
 have h3 : 1 * 1 ≤ a * b := Int.mul_le_mul h1.1 h2.1 (by omega) (by omega)
 have h4 : a * b ≤ 8 * 16 := Int.mul_le_mul h1.2 h2.2 (by omega) (by omega)
 omega
theorem aLv {a b : Int} (h1 : 1 ≤ a) (h2 : 1 ≤ b) : ((a.toNat * b.toNat : Nat) : Int) = a * b := by
 rw [Int.natCast_mul, Int.toNat_of_nonneg (by omega), Int.toNat_of_nonneg (by omega)]
theorem mE {mode : Int} {x : Mode} {i : Nat} (h1 : 1 ≤ x.rounds) (h2 : 1 ≤ x.slots) (h : (i : Int) < x.rounds * x.slots) : (vH mode x).drop i = (mode, (i : Int) / x.slots, (i : Int) % x.slots) :: (vH mode x).drop (i + 1) := by
 have h3 := aLv h1 h2
 rw [aGe (by omega), Int.natCast_ediv, Int.natCast_emod, Int.toNat_of_nonneg (by omega)]
theorem aHS {mode : Int} {x : Mode} {i : Nat} (h1 : 1 ≤ x.rounds) (h2 : 1 ≤ x.slots) (h : ¬ (i : Int) < x.rounds * x.slots) : (vH mode x).drop i = [] := by
 have h3 := aLv h1 h2
 exact List.drop_eq_nil_of_le (by rw [aHQ]; omega)
theorem aGh {a b : Int × Int × Int} {l1 l2 : List (Int × Int × Int)} (h : a = b) : decide (a :: l1 = b :: l2) = decide (l1 = l2) := by subst h; simp
theorem aCH {a b : Int × Int × Int} {l1 l2 : List (Int × Int × Int)} (h : a ≠ b) : decide (a :: l1 = b :: l2) = false := by simp [h]
theorem aDI {ss : List SlotI} {k : Int × Int × Int} {keys : List (Int × Int × Int)} {n : Int} (h : ¬ iC (nA k.1 k.2.1 k.2.2) 0 ss < 0) : hM ss (k :: keys) n = hM ss keys (n + 1) := by
 have h1 : aGd ss k = true := decide_eq_true (by omega)
 have e : n + ((keys.length + 1 : Nat) : Int) = n + 1 + keys.length := by omega
 simp only [hM, List.all_cons, h1, Bool.true_and, List.length_cons, e]
theorem zJ {ss : List SlotI} {k : Int × Int × Int} {keys : List (Int × Int × Int)} {n : Int} (h : iC (nA k.1 k.2.1 k.2.2) 0 ss < 0) : hM ss (k :: keys) n = false := by
 have h1 : aGd ss k = false := decide_eq_false (by omega)
 simp only [hM, List.all_cons, h1, Bool.false_and]
theorem completeS_nil {ss : List SlotI} {n : Int} : hM ss [] n = decide (n = ss.length) := by simp [hM]
theorem yL {k : Int} {r n s : Nat} (h : s < n) : (vG k r n).drop s = (k, (r : Int), (s : Int)) :: (vG k r n).drop (s + 1) := by
 unfold vG
 rw [← List.map_drop, ← List.map_drop, sS h]; rfl
theorem aHT {k : Int} {r n s : Nat} (h : n ≤ s) : (vG k r n).drop s = [] := List.drop_eq_nil_of_le (by rw [aA6]; omega)
def aEM (k : Int) (x : Mode) (r : Nat) : List (Int × Int × Int) := ((List.range x.rounds.toNat).drop r).flatMap fun r => vG k r x.slots.toNat
theorem aGi {k : Int} {x : Mode} {r : Nat} (h : (r : Int) < x.rounds) : aEM k x r = vG k r x.slots.toNat ++ aEM k x (r + 1) := by
 unfold aEM
 rw [sS (by omega)]; rfl
theorem aHU {k : Int} {x : Mode} {r : Nat} (h : ¬ (r : Int) < x.rounds) : aEM k x r = [] := by
 unfold aEM
 rw [yK (by omega)]; rfl
theorem aLw {d : Desc} (h : fP d = true) : (0 ≤ d.node ∧ d.node ≤ 31) ∧ (0 ≤ d.kind ∧ d.kind ≤ 3) ∧ (0 ≤ d.size ∧ d.size ≤ 32) ∧ (1 ≤ d.duration ∧ d.duration ≤ 1000) := by
 simp only [fP, Bool.and_eq_true] at h
 have h1 := eO.1 h.1.1.1.1; have h2 := eO.1 h.1.1.1.2; have h4 := eO.1 h.2
 have h3 : 0 ≤ d.size ∧ d.size ≤ 32 := by
   have h5 := h.1.1.2
   unfold lJ at h5
   split at h5
   · exact eO.1 h5
   · split at h5
     · have := eO.1 h5; omega
     · simp at h5; omega
 refine ⟨h1, h2, h3, ?_⟩
 have h6 : 1 ≤ pG d.kind d.size := by unfold pG; (repeat' split) <;> omega
 unfold wG at h4
 omega
theorem aBP {x : SlotI} (h : hP x = true) : inK x.key ∧ (0 ≤ x.desc.node ∧ x.desc.node ≤ 31) ∧ (1 ≤ x.desc.duration ∧ x.desc.duration ≤ 1000) := by
 have h1 := sT h
 simp only [hP, Bool.and_eq_true] at h
 have h2 := aLw h.2
 exact ⟨h1, h2.1, h2.2.2.2⟩
theorem aBf {xs : List SlotI} (h : iB xs = true) : ∀ x ∈ xs, hP x = true := by
 simp only [iB, Bool.and_eq_true] at h
 exact sK _ _ h.1
theorem xN {l : List NodeI} (h : eC l = true) : ∀ x ∈ l, 0 ≤ x.id ∧ x.id ≤ 31 := fun x hx => (pP (nW h x hx)).1
theorem lG (m : MedlI) : aBe m.d =
   if iF m.id 1 16777215 = false then 1
   else if eC m.ns = false then 2
   else if jX (m.ms.map (·.m)) = false then 3
   else if iB m.ss = false then 4
   else if iW m.d = false then 5
   else if nY m.d = false then 6
   else if qH m.ss = false then 7
   else if sU m.d = false then 8
   else if uD (iM m.ns) m.ss 0 (m.ms.map (·.m)) = false then 9
   else if sZ m.ss = true then 10 else 0 := rfl
theorem qJ {m : MedlI} {k : Nat} (h : k < m.ms.length) : ((List.range m.ms.length).drop k).all (fun (i : Nat) => decide (cyc m.ss i ≤ 32000)) = (decide (cyc m.ss k ≤ 32000) && ((List.range m.ms.length).drop (k + 1)).all (fun (i : Nat) => decide (cyc m.ss i ≤ 32000))) := by
 rw [sS h, List.all_cons]
theorem aDJ {m : MedlI} : sU m.d = ((List.range m.ms.length).drop 0).all (fun (i : Nat) => decide (cyc m.ss i ≤ 32000)) := by
 show (List.range (m.ms.map (·.m)).length).all _ = _
 rw [List.length_map, List.drop_zero]; rfl
theorem yO {m : MedlI} {k : Nat} (h : ¬ (k : Int) < m.ms.length) : ((List.range m.ms.length).drop k).all (fun (i : Nat) => decide (cyc m.ss i ≤ 32000)) = true := by
 rw [yK (by omega)]; rfl
def aBg (p : Nat → Bool) (n r : Nat) : Bool := ((List.range n).drop r).all p
theorem nN {p : Nat → Bool} {n r : Nat} (h : r < n) : aBg p n r = (p r && aBg p n (r + 1)) := by
 unfold aBg; rw [sS h, List.all_cons]
theorem aBQ {p : Nat → Bool} {n r : Nat} (h : n ≤ r) : aBg p n r = true := by
 unfold aBg; rw [yK h]; rfl
theorem rP {x y : SlotI} (h : x.mode ≠ y.mode ∨ x.slot ≠ y.slot ∨ x.desc.duration = y.desc.duration) : lQ x y = true := by
 simp only [lQ, Bool.or_eq_true, Bool.not_eq_true', Bool.and_eq_false_iff, decide_eq_true_eq, decide_eq_false_iff_not]; omega
theorem yP {x y : SlotI} (h : x.mode = y.mode ∧ x.slot = y.slot ∧ x.desc.duration ≠ y.desc.duration) : lQ x y = false := by
 cases e : lQ x y
 · rfl
 · simp only [lQ, Bool.or_eq_true, Bool.not_eq_true', Bool.and_eq_false_iff, decide_eq_true_eq, decide_eq_false_iff_not] at e; omega
theorem yQ {α : Type} {p : α → Bool} {l r : List α} {q : List α} {x : α} {j : Nat} (h : q.all p = (q.drop j).all p) (hd : q.drop j = x :: r) (hx : p x = false) : q.all p = false := by rw [h, hd, List.all_cons, hx]; rfl
structure Kept (S : World → Prop) (w : World) : Prop where
 up : Up S
 h : S w
theorem Kept.ext {S : World → Prop} {w w' : World} (h : Kept S w) (k : Ext w w') : Kept S w' := ⟨h.up, h.up w w' h.h k⟩
theorem aBR (p : SlotI → Bool) : ∀ (xs : List SlotI) (k : Int), 0 ≤ k → decide (0 ≤ iC p k xs) = xs.any p
 | [], k, h => by simp [iC]
 | x :: r, k, h => by
   rw [iC, List.any_cons]
   by_cases e : p x = true
   · rw [if_pos e, e]; simp [h]
   · rw [if_neg e, aBR p r (k + 1) (by omega)]; simp [e]
theorem aFl {α : Type} (p : α → Bool) : ∀ (xs : List α), (xs.any fun x => !p x) = !(xs.all p)
 | [] => rfl
 | x :: r => by rw [List.any_cons, List.all_cons, aFl p r]; cases p x <;> simp
theorem zK (m : MedlI) : (m.ss.any fun x => !pE (iM m.ns) x.desc.node) = !nY m.d := aFl _ _
def aLx : List NodeI → Int → Int
 | [], left => left
 | x :: r, left => if aE8 x.name.size left < 0 then -1 else aLx r (aE8 x.name.size left)
def szN (xs : List NodeI) (left : Int) : Int := if left - xs.length < 0 then -1 else aLx xs (left - xs.length)
structure MOwn (w : World) (lo : Nat) (tN tM tI tS : TypeId) (m : MedlI) : Prop where
 on : Own w lo tN 4 m.An m.ns.length m.cn (m.ns.flatMap NodeI.cells)
 om : Own w lo tM 3 m.Am m.ms.length m.cm (m.ms.flatMap ModeI.cells)
 ox : NOwn w lo tI m.ms
 od : Disj m.ms
 os : Own w lo tS 8 m.As m.ss.length m.cs (m.ss.flatMap SlotI.cells)
section
variable {w w' : World} {lo lo' n c s g : Nat} {tN tM tI tS t' : TypeId} {m : MedlI} {A : Option Addr} {cs : List Value}
theorem MOwn.ext (h : MOwn w lo tN tM tI tS m) (hb : Ext w w') : MOwn w' lo tN tM tI tS m := ⟨h.on.ext hb, h.om.ext hb, h.ox.ext hb, h.od, h.os.ext hb⟩
theorem MOwn.low (h : MOwn w lo tN tM tI tS m) (hl : lo' ≤ lo) : MOwn w lo' tN tM tI tS m := ⟨h.on.low hl, h.om.low hl, h.ox.low hl, h.od, h.os.low hl⟩
theorem MOwn.med (h : MOwn w lo tN tM tI tS m) : Med w.heap.size w m := ⟨Nat.le_refl _, h.on.sl, h.om.sl, h.ox.nexts, h.os.sl, h.on.cap⟩
theorem MOwn.sn (h : MOwn w lo tN tM tI tS m) : Sl w.heap.size w m.An (m.ns.flatMap NodeI.cells) := h.on.sl
theorem MOwn.sm (h : MOwn w lo tN tM tI tS m) : Sl w.heap.size w m.Am (m.ms.flatMap ModeI.cells) := h.om.sl
theorem MOwn.sx (h : MOwn w lo tN tM tI tS m) : Nexts w.heap.size w m.ms := h.ox.nexts
theorem MOwn.ss (h : MOwn w lo tN tM tI tS m) : Sl w.heap.size w m.As (m.ss.flatMap SlotI.cells) := h.os.sl
theorem MOwn.grownB {t' : TypeId} {ds : List Value} (h : MOwn w lo tN tM tI tS m) (k : Blk w g t' ds) (hg : w.grownBy w' (some g)) (ht : tN ≠ t' ∧ tM ≠ t' ∧ tI ≠ t' ∧ tS ≠ t') : MOwn w' lo tN tM tI tS m :=
 ⟨h.on.grownBlk hg (Own.neT h.on k ht.1), h.om.grownBlk hg (Own.neT h.om k ht.2.1), h.ox.grownB k hg ht.2.2.1, h.od, h.os.grownBlk hg (Own.neT h.os k ht.2.2.2)⟩
end
def lK (d : MedlD) : Bool := decide (aBe d = 0)
structure WellF (d : MedlD) : Prop where
 id : iF d.id 1 16777215 = true
 nt : eC d.ns = true
 mt : jX d.ms = true
 st : iB d.ss = true
 co : iW d = true
 se : nY d = true
 sd : qH d.ss = true
 sh : sU d = true
 sv : uD (iM d.ns) d.ss 0 d.ms = true
 cd : sZ d.ss = false
theorem qK {d : MedlD} : lK d = true ↔ WellF d := by
 rw [lK, decide_eq_true_eq, aBe]
 constructor
 · intro h
   repeat' split at h
   all_goals first | (exfalso; omega) | skip
   rename_i h1 h2 h3 h4 h5 h6 h7 h8 h9 h10
   exact ⟨by simpa using h1, by simpa using h2, by simpa using h3, by simpa using h4, by simpa using h5, by simpa using h6, by simpa using h7, by simpa using h8, by simpa using h9, by simpa using h10⟩
 · intro h
   simp [h.id, h.nt, h.mt, h.st, h.co, h.se, h.sd, h.sh, h.sv, h.cd]
set_option maxRecDepth 20000
def nZ (x : NodeI) : List Int := x.name.data.toList.map fun b => (b.toNat : Int)
def lB (x : NodeI) : List Int := [x.id, x.drift / 256, x.drift % 256, if x.passive = true then 1 else 0, (x.name.size : Int)]
def aBh (x : NodeI) : List Int := lB x ++ nZ x
def wN (xs : List NodeI) (k : Nat) : List Int := (xs.length : Int) :: (xs.take k).flatMap aBh
theorem jA (x : NodeI) : (nZ x).length = x.name.size := by simp [nZ]
theorem lR {x : NodeI} {j : Nat} (h : j < x.name.size) : (nZ x)[j]? = some ((x.name.data.toList.getD ((j : Int)).toNat 0).toNat : Int) := by
 have hj : j < x.name.data.toList.length := by simpa using h
 rw [nZ, List.getElem?_map, List.getD_eq_getElem?_getD, Int.toNat_natCast, List.getElem?_eq_getElem hj]; rfl
theorem lS {xs : List NodeI} {k : Nat} {x : NodeI} (h : xs[k]? = some x) : wN xs (k + 1) = wN xs k ++ lB x ++ nZ x := by
 unfold wN
 rw [List.take_add_one, h]
 simp [List.flatMap_append, aBh]
theorem kJ {L : List Int} {j : Nat} {v : Int} (h : L[j]? = some v) : L.take (j + 1) = L.take j ++ [v] := by rw [List.take_add_one, h]; rfl
def rA (xs : List NodeI) : List Int := wN xs xs.length
theorem aBS : ∀ (l : List NodeI), (∀ x ∈ l, x.name.size ≤ 6) → (l.flatMap aBh).length ≤ 11 * l.length
 | [], _ => by simp
 | x :: r, h => by
   have h1 := h x (by simp)
   have h2 := aBS r fun y hy => h y (by simp [hy])
   rw [List.flatMap_cons, List.length_append, List.length_cons, aBh, List.length_append, jA]
   simp only [lB, List.length_cons, List.length_nil]; omega
theorem oH {x : NodeI} (h : fE x = true) : x.name.size ≤ 6 := by
 have h1 := (pP h).2.2
 simp only [fB, Bool.and_eq_true, decide_eq_true_eq] at h1
 exact h1.2
theorem aEN {xs : List NodeI} (h : eC xs = true) : (rA xs).length ≤ 353 := by
 have h1 := tY h
 have h2 := aBS xs fun x hx => oH (nW h x hx)
 unfold rA wN
 rw [List.take_length, List.length_cons]
 omega
theorem aHV {ms : List Mode} (h : jX ms = true) : (qU ms ms.length).length ≤ 305 := by
 have hl := tU h
 have hf := aCD (f := vO) (b := 19) ms fun x hx => by
   obtain ⟨k, hk⟩ := List.mem_iff_getElem?.1 hx
   obtain ⟨h1, h2, h3⟩ := uU (aAf h hk)
   have h4 := wJ h3
   simp [vO]; omega
 have hf2 : 19 * ms.length ≤ 19 * 16 := Nat.mul_le_mul_left _ hl.2
 unfold qU
 rw [List.take_length, List.length_cons]; omega
def idB (z : Int) : List Int := [z / 65536, z / 256 % 256, z % 256]
def jV (d : MedlD) : List Int := idB d.id ++ rA d.ns ++ qU d.ms d.ms.length ++ stB d.ss
theorem aIJ {d : MedlD} (h : lK d = true) : (jV d).length ≤ 1502 := by
 have wf := qK.1 h
 have h1 := aEN wf.nt
 have h2 := aHV wf.mt
 have h3 : (stB d.ss).length = 1 + 7 * d.ss.length := aAl (Nat.le_refl _)
 have h4 := tR wf.st
 unfold jV
 rw [List.length_append, List.length_append, List.length_append]
 simp only [idB, List.length_cons, List.length_nil]; omega
theorem aHW {z : Int} (h : 0 ≤ z ∧ z ≤ 1099511627776) : lN .and .i64 z 255 = z % 256 := by
 obtain ⟨n, rfl⟩ : ∃ n : Nat, z = (n : Int) := ⟨z.toNat, by omega⟩
 have h1 := tV (a := n) (b := 255) (by omega) (by omega)
 rw [show ((255 : Nat) : Int) = 255 from rfl] at h1
 rw [h1, show n &&& 255 = n % 256 from Nat.and_two_pow_sub_one_eq_mod n 8]; omega
theorem aLy {z : Int} (h : 0 ≤ z) : z.fdiv (2 ^ (min ((16 : Int).toNat) IntKind.i64.bits)) = z / 65536 := by
 show z.fdiv 65536 = _
 rw [Int.fdiv_eq_ediv_of_nonneg _ (by omega)]
theorem aLI {z : Int} (h : 0 ≤ z) : z.fdiv (2 ^ (min ((8 : Int).toNat) IntKind.i64.bits)) = z / 256 := by
 show z.fdiv 256 = _
 rw [Int.fdiv_eq_ediv_of_nonneg _ (by omega)]
def rQ (x : ModeI) : List Value := [.slice x.A x.m.next.length x.c]
theorem jH (x : ModeI) : (rQ x).length = 1 := rfl
def sV (rs : List ModeI) : List Int := rs.flatMap fun x => x.m.next
def lL (A : Option Addr) (c : Nat) (xs : List Int) : ModeI := ⟨⟨0, 0, xs⟩, A, c⟩
theorem rR {rs : List ModeI} {k : Nat} {x : ModeI} (h : rs[k]? = some x) : sV (rs.take (k + 1)) = sV (rs.take k) ++ x.m.next := by
 unfold sV
 rw [List.take_add_one, h]; simp [List.flatMap_append]
theorem aIK (rs : List ModeI) (k : Nat) : (sV (rs.take k)).length ≤ (sV rs).length := by
 have e : sV rs = sV (rs.take k) ++ sV (rs.drop k) := by unfold sV; rw [← List.flatMap_append, List.take_append_drop]
 rw [e, List.length_append]; omega
def chA (A : Option Addr) (l : Nat) : Option Addr := A.map (·.add l)
def uE (A : Option Addr) (d : Nat) (xs : List Int) (k : Nat) : ModeI := lL (chA A (d * k)) (min d (xs.length - d * k)) ((xs.drop (d * k)).take d)
def chs (A : Option Addr) (d : Nat) (xs : List Int) (m : Nat) : List ModeI := (List.range m).map (uE A d xs)
def cN (d n : Nat) : Nat := (n + d - 1) / d
theorem aHX (A : Option Addr) (d : Nat) (xs : List Int) (k : Nat) : chs A d xs (k + 1) = chs A d xs k ++ [uE A d xs k] := by simp [chs, List.range_succ]
theorem aAm (A : Option Addr) (d : Nat) (xs : List Int) (k : Nat) : (chs A d xs k).length = k := by simp [chs]
theorem aBi (A : Option Addr) (d : Nat) (xs : List Int) (k : Nat) : (uE A d xs k).m.next.length = min d (xs.length - d * k) := by simp [uE, lL]
theorem aHY {d n k : Nat} (hd : 1 ≤ d) : k < cN d n ↔ d * k < n := by
 unfold cN
 rw [Nat.lt_div_iff_mul_lt (by omega), Nat.mul_comm k d]; omega
theorem aHZ {d n k : Nat} (hd : 1 ≤ d) (h1 : k ≤ cN d n) (h2 : ¬ d * k < n) : k = cN d n := by
 have h3 : ¬ k < cN d n := fun h => h2 ((aHY hd).1 h)
 omega
theorem aLz {d n : Nat} (hd : 1 ≤ d) : cN d n ≤ n := by
 rcases Nat.eq_zero_or_pos (cN d n) with h | h
 · omega
 · have h1 := (aHY (d := d) (n := n) (k := cN d n - 1) hd).1 (by omega)
   have h2 : cN d n - 1 ≤ d * (cN d n - 1) := Nat.le_mul_of_pos_left _ (by omega)
   omega
theorem aH0 (l n0 gs gn d c : Nat) (A : Option Addr) (xs : List Int) (J Jx : List ModeI → World → Prop) (w : World) (q1 : Blk w gs 30 [.slice A xs.length c]) (q2 : Blk w gn 3 [.int .i64 (d : Nat)]) (hj : JK J w.heap.size [] w) (hlo : n0 ≤ w.heap.size) (hgs : gs < n0) (hgn : gn < n0) (hd : 1 ≤ d ∧ d ≤ 1000) (hl : xs.length ≤ 1048576) (hc : xs.length ≤ c) (hY : ∀ pre x W1, J pre W1 → pre.length < cN d xs.length → YieldAt Fence.wide 0 Tryz.prog l #[Value.slice (ModeI.A x) (ModeI.m x).next.length (ModeI.c x)] W1 fun e W' => (e = .returned (.bool true) ∧ J (pre ++ [x]) W' ∧ Below n0 W1 W') ∨ (e = .returned (.bool false) ∧ Jx (pre ++ [x]) W')) :
   Calls Tryz.prog 220 #[.func (.yield l) #[] #[], .pointer (some ⟨gs, 0, none⟩), .pointer (some ⟨gn, 0, none⟩)] w (fF fun v w' => J (chs A d xs (cN d xs.length)) w' ∨ ∃ pre, Jx pre w') := by
 have X := Below.refl n0 w
 refine bJ (args := [.func (.yield l) #[] #[], .pointer (some ⟨gs, 0, none⟩), .pointer (some ⟨gn, 0, none⟩)]) Tryz.func220 Tryz.ntmps220 rfl rfl (aF (aA rfl (aE rfl (aB (aX (dG (G := Nat × Nat) (fun ⟨k, i⟩ => [(0, .func (.yield l) #[] #[]), (1, .pointer (some ⟨gs, 0, none⟩)), (2, .pointer (some ⟨gn, 0, none⟩)), (4, .int .i64 (i : Nat))]) (fun ⟨k, i⟩ wr => i = d * k ∧ k ≤ cN d xs.length ∧ JK J w.heap.size (chs A d xs k) wr ∧ Blk wr gs 30 [.slice A xs.length c] ∧ Blk wr gn 3 [.int .i64 (d : Nat)] ∧ Below n0 w wr) (fun ⟨k, i⟩ => cN d xs.length - k) (0, 0) (.cons rfl (.cons rfl (.cons rfl (.cons rfl (.nil _))))) ?_ ?_))))))
 · exact ⟨rfl, (Nat.zero_le _), hj, q1, q2, X⟩
 clear q1 q2 hj
 clear X
 rintro ⟨k, i⟩ wr ⟨hik, hkN, hj, q1, q2, X⟩
 refine aR (aF (aA rfl (aC rfl (aA rfl (aJ q1 mD rfl rfl (aA rfl (bO Tryz.underlying30 rfl (aA rfl (cU rfl rfl (fun hk => ?_) (fun hk => ?_))))))))))
 refine aB (aQ rfl (aV (aS (aR (aX (eK [false, false, false, false, false, false, false] mixed (by kernel_rfl) (cO rfl (fun wq sq => aJ (q2.ext sq) ti3 rfl rfl ⟨rfl, Q7r _⟩) (cO rfl (fun wq sq => aJ (q1.ext sq) mD rfl rfl ⟨rfl, Q7r _⟩) (cO rfl (fun wq sq => aC rfl ⟨rfl, Q7r _⟩) (cO rfl (fun wq sq => wI (l := i) cQ rfl rfl rfl (by omega) ⟨rfl, Q7r _⟩) (cO rfl (fun wq sq => bO Tryz.underlying30 rfl ⟨rfl, Q7r _⟩) (cO rfl (fun wq sq => aAC rfl rfl ⟨rfl, Q7r _⟩) (cO rfl (fun wq sq => aE rfl ⟨rfl, Q7r _⟩) (dX (fun w1 sq => ?_)))))))))))))))
 have xq := sq
 replace hj := hj.ext xq
 replace q1 := q1.ext xq
 replace q2 := q2.ext xq
 replace X := Below.trans X (Below.mono xq (Q7l hlo X.size)); clear xq sq
 refine aB (aKS 1 (fN WideF.w rfl rfl (aC rfl (fN WideF.w rfl rfl (aJ q1 mD rfl rfl (fN WideF.w rfl rfl (aC rfl (fN WideF.w rfl rfl (aC rfl (fN WideF.w rfl rfl (aC rfl (fN WideF.w rfl rfl (aY rfl rfl (show IntKind.i64.wrap _ = ((i + min d (xs.length - i) : Nat) : Int) from (dM (by omega)).trans (by omega)) (fN WideF.w rfl rfl (aC rfl (fN WideF.w rfl rfl (aC rfl (fN WideF.w rfl rfl (aY rfl rfl (show IntKind.i64.wrap _ = ((i + min d (xs.length - i) : Nat) : Int) from (dM (by omega)).trans (by omega)) (fN WideF.w rfl rfl (aDA (l := i) (h := i + min d (xs.length - i)) cQ rfl rfl rfl rfl rfl rfl rfl (by omega) (by omega) ?_)))))))))))))))))))))
 refine aEE WideF.w rfl rfl rfl ?_
 have hck := (aHY (n := xs.length) (k := k) hd.1).2 (by rw [← hik]; omega)
 have hpl := aBi A d xs k
 rw [← hik] at hpl
 have hyy := hY _ (uE A d xs k) _ hj.2 (by rw [aAm]; exact hck)
 rw [hpl] at hyy
 rw [show i + min d (xs.length - i) - i = min d (xs.length - i) by omega]
 have eP : (uE A d xs k).A = A.map (·.add i) ∧ (uE A d xs k).c = min d (xs.length - i) := ⟨by rw [hik]; rfl, by rw [hik]; rfl⟩
 rw [eP.1, eP.2] at hyy
 refine hyy.mono ?_
 intro en wY hyq
 obtain ⟨bq, rfl, hyT, hyF⟩ := aGb hyq
 refine ⟨_, rfl, ?_⟩
 cases hbq : bq
 have hjx := hyF hbq
 refine fN WideF.w rfl rfl (bP rfl (rL (aQ rfl (aW (dL (bN (bN (dL (aGp rfl ?_)))))))))
 · skip
   first
   | exact .inr ⟨_, hjx⟩
   | (have e := aHZ hd.1 hkN (by rw [← hik]; omega)
      rw [← e]; exact .inl hj.2)
 obtain ⟨hj2, hbl⟩ := hyT hbq
 replace q1 := q1.below hbl hgs
 replace q2 := q2.below hbl hgn
 replace X := Below.trans X hbl
 replace hj : JK J w.heap.size (chs A d xs (k + 1)) wY := ⟨hj.1, by rw [aHX]; exact hj2⟩
 refine fN WideF.w rfl rfl (bP rfl (rL (aM rfl (aV (dO (aS (aN (aA rfl (aC rfl (aA rfl (aJ q2 ti3 rfl rfl (aA rfl (aY rfl rfl (show IntKind.i64.wrap _ = ((i + d : Nat) : Int) from (dM (by omega)).trans (by omega)) (aA rfl (aE rfl (aB (aS ⟨(k + 1, i + d), (.cons rfl (.cons rfl (.cons rfl (.cons rfl (.nil _))))), ?_, ?_⟩)))))))))))))))))
 · exact ⟨(by rw [Nat.mul_succ, ← hik]), (by omega), hj, q1, q2, X⟩
 · exact Nat.sub_lt_sub_left hck (Nat.lt_succ_self k)
 refine aB (aM rfl (dD (dC (dC (eG (aGo rfl ?_))))))
 · skip
   first
   | exact .inr ⟨_, hjx⟩
   | (have e := aHZ hd.1 hkN (by rw [← hik]; omega)
      rw [← e]; exact .inl hj.2)
theorem aKT {W W' : World} {g : Nat} {t : TypeId} {cs : List Value} {row : Option Nat} (h : Blk W g t cs) (hrow : ∀ r, row = some r → ∃ o : Obj, W.heap[r]? = some o ∧ o.isCells = false) : some g ≠ row := fun e => by
 obtain ⟨o, ho, hc⟩ := hrow g e.symm
 rw [show W.heap[g]? = _ from h] at ho
 cases ho; cases hc
theorem aH1 {W : World} {lo n c s : Nat} {t : TypeId} {A : Option Addr} {cs : List Value} {row : Option Nat} (h : Own W lo t s A n c cs) (hrow : ∀ r, row = some r → ∃ o : Obj, W.heap[r]? = some o ∧ o.isCells = false) : ∀ g, row = some g → (Value.slice A n c).ownBlock ≠ some g := fun g e e2 => by
 obtain ⟨o, ho, hc⟩ := hrow g e
 rcases h.2 with ⟨h1, _⟩ | ⟨g', cap, cur, h1, _, hg, _⟩
 · rw [h1] at e2; cases e2
 · rw [h1] at e2
   have e3 : g' = g := by simpa [Value.ownBlock] using e2
   subst e3
   rw [hg] at ho; cases ho; cases hc
theorem aGj {W : World} {lo n c s : Nat} {t : TypeId} {A : Option Addr} {cs : List Value} (h : Own W lo t s A n c cs) : ∀ (j : Nat) (o : Obj), (Value.slice A n c).ownBlock = some j → W.heap[j]? = some o → o.isCells = true := fun j o e2 ho => by
 rcases h.2 with ⟨h1, _⟩ | ⟨g', cap, cur, h1, _, hg, _⟩
 · rw [h1] at e2; cases e2
 · rw [h1] at e2
   have e3 : g' = j := by simpa [Value.ownBlock] using e2
   subst e3
   rw [hg] at ho; cases ho; rfl
def aKU (n0 gb : Nat) (w : World) (s : List ModeI) (W : World) : Prop := (∃ A c, Blk W gb 107 [.slice A s.length c] ∧ Own W n0 30 1 A s.length c (s.flatMap rQ)) ∧ Below n0 w W
theorem aGk {n0 gb B : Nat} {w : World} (hn : n0 ≤ w.heap.size) (hB : n0 ≤ B) : OwnFrom B (aKU n0 gb w) := fun s W W' row h hg hr => by
 obtain ⟨⟨A, c, h1, h2⟩, h3⟩ := h
 have hr2 : ∀ r, row = some r → ∃ o : Obj, W.heap[r]? = some o ∧ o.isCells = false := fun r e => (hr r e).2
 exact ⟨⟨A, c, h1.grown hg (aKT (W' := W') h1 hr2), h2.grown hg (aH1 h2 hr2)⟩, ownFrom_below hn hB s W W' row h3 hg hr⟩
theorem aGl (n0 gs gn d c : Nat) (A : Option Addr) (xs : List Int) (w : World) (q1 : Blk w gs 30 [.slice A xs.length c]) (q2 : Blk w gn 3 [.int .i64 (d : Nat)]) (hn0 : n0 = w.heap.size) (hd : 1 ≤ d ∧ d ≤ 1000) (hl : xs.length ≤ 1048576) (hc : xs.length ≤ c) :
   SeqStopsK Fence.wide 1 Tryz.prog 220 #[.pointer (some ⟨gs, 0, none⟩), .pointer (some ⟨gn, 0, none⟩)] (fun x : ModeI => #[Value.slice x.A x.m.next.length x.c]) (Below n0) (fun ps => ps = chs A d xs (cN d xs.length)) (fun _ => True) (cN d xs.length) w := fun l J Jx W hW hJ hJx hY h0 => by
 have h1 := q1.lt
 have h2 := q2.lt
 refine aHO .w (Calls.mono (aH0 l n0 gs gn d c A xs J Jx W (q1.below hW h1) (q2.below hW h2) ⟨hJ, h0⟩ (by rw [hn0]; exact hW.size) (by omega) (by omega) hd hl hc hY) fun e W' h => ?_)
 cases e <;> first | exact h.elim | skip
 refine ⟨⟨_, rfl⟩, ?_⟩
 rcases h with h | ⟨pre, h⟩
 · exact .inl ⟨_, rfl, h⟩
 · exact .inr ⟨pre, trivial, h⟩
theorem aIL (x : ModeI) : ∀ u ∈ rQ x, u.oneCell' = true := fun u hu => by
 obtain rfl : u = _ := by simpa [rQ] using hu
 rfl
set_option maxHeartbeats 1000000 in
theorem aDK (gs gn d c : Nat) (A : Option Addr) (xs : List Int) (w : World) (q1 : Blk w gs 30 [.slice A xs.length c]) (q2 : Blk w gn 3 [.int .i64 (d : Nat)]) (hd : 1 ≤ d ∧ d ≤ 1000) (hl : xs.length ≤ 1048576) (hc : xs.length ≤ c) :
   Calls Tryz.prog 219 #[.slice none 0 0, .func (.func 220) #[] #[.pointer (some ⟨gs, 0, none⟩), .pointer (some ⟨gn, 0, none⟩)]] w
     (fF fun v w' => ∃ A' c', v = .slice A' (cN d xs.length) c' ∧ Own w' w.heap.size 30 1 A' (cN d xs.length) c' ((chs A d xs (cN d xs.length)).flatMap rQ) ∧ Ext w w') := by
 obtain ⟨n0, hn0⟩ : ∃ n0, n0 = w.heap.size := ⟨_, rfl⟩
 have hN := aLz (d := d) (n := xs.length) hd.1
 refine callsIn_wide.1 (callsIn_of_wp_marks (n := 2) Tryz.func219 rfl trivial (wpIn_seq ?_))
 have hf0 : FitsD [] 13 (uF 0 [.slice none 0 0, .func (.func 220) #[] #[.pointer (some ⟨gs, 0, none⟩), .pointer (some ⟨gn, 0, none⟩)]]) { tmps := #[.slice none 0 0, .func (.func 220) #[] #[.pointer (some ⟨gs, 0, none⟩), .pointer (some ⟨gn, 0, none⟩)]] ++ Array.replicate (Tryz.f219.ntmps - 2) undef, defers := [] } := by
   refine ⟨rfl, by rw [Tryz.ntmps219]; rfl, fun t v ht => ?_⟩
   obtain ⟨_, h2⟩ := aAo _ 0 t v ht
   simp only [Nat.sub_zero] at h2
   match t, h2 with
   | 0, h2 => simpa using h2
   | 1, h2 => simpa using h2
   | t + 2, h2 => simp at h2
 refine wpIn_region_lit ((?_ : aA5 Fence.wide 2 Tryz.prog 13 [] _ _ _ w (fun e1 w1 => lk e1 2 = some (.pointer (some ⟨w.heap.size, 0, none⟩)) ∧ lk e1 1 = some (.func (.func 220) #[] #[.pointer (some ⟨gs, 0, none⟩), .pointer (some ⟨gn, 0, none⟩)]) ∧ Blk w1 w.heap.size 107 [.slice none 0 0] ∧ Ext w w1)) _ _ hf0 ?_)
 · refine fN .w rfl rfl (eX rfl rfl ?_)
   intro g w1 eg b1 x1 z1
   subst eg
   exact fN .w rfl rfl (aE rfl (rL ⟨rfl, rfl, b1, x1⟩))
 rintro e1 a1 w1 hf1 ⟨k2, k1, b1, x1⟩
 have hz1 : n0 < w1.heap.size := by rw [hn0]; exact b1.lt
 refine wpIn_seq (wpIn_seq (wpIn_region_lit ((?_ : aA5 Fence.wide 2 Tryz.prog 13 [] _ _ e1 w1 (fun e2 w2 => lk e2 2 = some (.pointer (some ⟨w.heap.size, 0, none⟩)) ∧ lk e2 6 = some (.func (.func 220) #[] #[.pointer (some ⟨gs, 0, none⟩), .pointer (some ⟨gn, 0, none⟩)]) ∧ w2 = w1)) _ _ hf1 ?_)))
 · exact fN .w rfl rfl (aC k1 (rL ⟨by rw [kK, rS, if_neg (by decide)]; exact k2, by rw [kK, rS, if_pos rfl], rfl⟩))
 rintro e2 a2 w2 hf2 ⟨k2, k6, rfl⟩
 refine wpIn_block ?_
 have hseq := (aGl n0 gs gn d c A xs w q1 q2 hn0 hd hl hc)
 refine wpIn_rangeFunc_ownF (n := 2) rfl (by decide) (gf := 220) (lb := #[.pointer (some ⟨gs, 0, none⟩), .pointer (some ⟨gn, 0, none⟩)]) (hf2.knows (.tmp 6) _ k6) trivial aKj hseq (hKt := belowK_t) (hKb := belowK_b (by omega)) (hb0 := x1) (fun _ => rfl)
   (aKU n0 w.heap.size w) (fun _ _ _ => False) (aGk (by omega) (by omega)) (fun _ _ _ _ _ h _ _ => h) ⟨⟨none, 0, b1, Own.nil_ _ _ _ _⟩, by rw [hn0]; exact x1⟩
   (fun x => ({ tmps := a2.tmps.setIfInBounds 7 (Value.slice x.A x.m.next.length x.c), defers := [] } : Act).put (some 5) (Value.slice x.A x.m.next.length x.c))
   ?_ ?_ ?_ ?_
 · intro l x W K hK
   have e0 : ∀ (T : Array Value) (u : Value), (#[7].zip #[u]).foldl (fun t (p, v) => t.setIfInBounds p v) T = T.setIfInBounds 7 u := fun T u => by simp
   rw [e0]
   have e7 : (({ tmps := a2.tmps.setIfInBounds 7 (Value.slice x.A x.m.next.length x.c), defers := [] } : Act).eval (.tmp 7)) = Value.slice x.A x.m.next.length x.c := by
     show (a2.tmps.setIfInBounds 7 _).getD 7 undef = _
     simp [Array.getD_eq_getD_getElem?, hf2.2.1]
   refine wpIn_region_lit (l := [_]) (wpListIn_plain rfl fun K' hK' => ⟨fun f _ => trivial, ?_⟩)
   rw [Oper.semAt_eq _ _ _ (fun c h => by cases h)]
   unfold execOp
   simp only [Sem.run_pure, Oper.uponIn_value, e7]
   exact hK' _ _ (wpListIn_nil hK)
 · -- one round
   intro l pre x W hI hlen
   obtain ⟨⟨A1, c1, bB, oO⟩, hbel⟩ := hI
   have hs0 : n0 ≤ W.heap.size := by have := hbel.size; omega
   have hgB := bB.lt
   obtain ⟨vx, hvx⟩ : ∃ vx, vx = Value.slice x.A x.m.next.length x.c := ⟨_, rfl⟩
   rw [← hvx]
   have hfx : FitsD [] 13 [(5, vx), (2, .pointer (some ⟨w.heap.size, 0, none⟩))] (({ tmps := a2.tmps.setIfInBounds 7 vx, defers := [] } : Act).put (some 5) vx) := by
     have hsz := hf2.2.1
     have h2 := hf2.2.2 2 _ k2
     refine ⟨rfl, by simp [Act.put, hsz], fun t v ht => ?_⟩
     rw [rS] at ht
     split at ht
     · rename_i h5; subst h5
       injection ht with ht; subst ht
       simp [Act.put, hsz, Array.getD_eq_getD_getElem?]
     · rw [rS] at ht
       split at ht
       · rename_i h5 h6; subst h6
         injection ht with ht; subst ht
         simp only [Act.put]
         simp only [Array.getD_eq_getD_getElem?] at h2 ⊢
         rw [Array.getElem?_setIfInBounds_ne (by decide), Array.getElem?_setIfInBounds_ne (by decide)]
         exact h2
       · cases ht
   refine wpIn_block (wpIn_region_lit ((?_ : aA5 (Fence.wide.inRound l) 0 Tryz.prog 13 [] _ _ _ W (fun _ W' => KeepsOthers W W' ∧ Below n0 W W' ∧ aKU n0 w.heap.size w (pre ++ [x]) W')) _ _ hfx fun e' a' w' _ h => h))
   subst hvx
   have hr := WideF.r l
   refine fN hr rfl rfl (aJ bB aHf rfl rfl (fN hr rfl rfl (aC rfl (fN hr rfl rfl (aO sX mD rfl rfl rfl rfl rfl ?_)))))
   intro gT W1 egT oT bT xT zT
   have bB1 := bB.ext xT
   have oO1 := oO.ext xT
   have hb1 : Below n0 W W1 := Below.mono xT hs0
   have hk1 : KeepsOthers W W1 := KeepsOthers.of_grownBy (aBM xT) (fun j o e => by cases e)
   have oT1 : Own W1 W.heap.size 30 1 (some ⟨gT, 0, none⟩) 1 1 (rQ x) := oT.to rfl
   refine fN hr rfl rfl (cH (ts := #[]) oO1 (by have := xT.size; omega) oT1.sl rfl (aIL x) sX mD rfl rfl rfl rfl (by omega) (by omega) ?_)
   intro A2 c2 W2 oA hgA
   have hne : some w.heap.size ≠ (Value.slice A1 pre.length c1).ownBlock := fun e => Own.neT oO1 bB1 (by decide) e.symm
   have bB2 := bB1.grown hgA hne
   have hb2 : Below n0 W W2 := hb1.grown hgA (by have := xT.size; omega) (fun k e => (Own.lt oO1 e).1)
   have hk2 : KeepsOthers W W2 := hk1.trans (KeepsOthers.of_grownBy hgA (aGj oO1))
   refine fN hr rfl rfl (bK bB2 aHf rfl rfl rfl rfl rfl rfl ?_)
   intro W3 bB3 hg3 z3
   have oA3 := oA.grown hg3 (fun g e => by injection e with e; subst e; exact Own.neT oA bB2 (by decide))
   have hb3 : Below n0 W W3 := hb2.grown hg3 (by have := hgA.size; have := xT.size; omega) (fun k e => by injection e; omega)
   have hk3 : KeepsOthers W W3 := hk2.trans (KeepsOthers.of_grownBy hg3 (fun j o e ho => by injection e with e; subst e; rw [show W2.heap[w.heap.size]? = _ from bB2] at ho; cases ho; rfl))
   refine rL ⟨hk3, hb3, ⟨A2, c2, ?_, ?_⟩, hbel.trans hb3⟩
   · rw [List.length_append]; exact bB3
   · rw [List.length_append, List.flatMap_append]; exact oA3.to (by simp)
 · -- behind the loop
   intro D ps W hD hS hI hK
   subst hS
   obtain ⟨⟨A1, c1, bB, oO⟩, hbel⟩ := hI
   rw [aAm] at bB oO
   have hf3 : FitsD [{ target := .collected D, args := #[] }] 13 e2 { a2 with defers := { target := .collected D, args := #[] } :: a2.defers } := ⟨by rw [hf2.1], hf2.2.1, hf2.2.2⟩
   show ((Code.seq _ _).wpIn _ _ _ _ _ _)
   refine wpIn_seq (wpIn_region_lit ((?_ : aA5 Fence.wide 2 Tryz.prog 13 _ _ _ e2 W (fun e4 w4 => lk e4 4 = some (.slice A1 (cN d xs.length) c1) ∧ w4 = W)) _ _ hf3 ?_))
   · exact fN .w rfl rfl (aJ bB aHf k2 rfl (fN .w rfl rfl (aE rfl (rL ⟨rfl, rfl⟩))))
   rintro e4 a4 w4 hf4 ⟨k4, rfl⟩
   refine wpIn_ret ?_
   show LeavesInM _ _ _ _ _ _ a4.defers .returning w4
   rw [hf4.1]
   refine ⟨by simp, .inl ⟨_, _, rfl, run_takeDeferred hK, ?_⟩⟩
   have hgD := grownBy_putObj' w4 D (.deferred none)
   have hrow : ∀ r, some D = some r → ∃ o : Obj, w4.heap[r]? = some o ∧ o.isCells = false := fun r e => by injection e with e; subst e; exact ⟨_, hK, rfl⟩
   have h4 := hf4.2.2 4 _ k4
   refine ⟨_, results_tmp rfl _ _ _, A1, c1, h4, ?_, ?_⟩
   · rw [← hn0]; exact oO.grown hgD (aH1 oO hrow)
   · have := hbel.grown hgD (by have := hbel.size; omega) (fun k e => by injection e; omega)
     rwa [hn0] at this
 · intro D c' pre W hD hS hI hK
   exact hI.elim
end Go.Proofs.YtdoibplhbdkapaaGreatDoor
