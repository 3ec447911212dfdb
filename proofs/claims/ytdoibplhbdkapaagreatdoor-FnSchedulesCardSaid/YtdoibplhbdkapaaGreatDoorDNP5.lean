/- Parts. No condition. -/
import Derived.Test.YtdoibplhbdkapaaGreatDoorDNP4
import Derived.Test.YtdoibplhbdkapaaGreatDoorDNP3
namespace Go.Proofs.YtdoibplhbdkapaaGreatDoor
open Go.RowKit
set_option linter.unusedVariables false
set_option linter.unusedSimpArgs false
def SlotI.key (x : SlotI) : Int × Int × Int := (x.mode, x.round, x.slot)
def tR (mode : Int) (r n : Nat) : List (Int × Int × Int) := (List.range n).map fun (s : Nat) => (mode, (r : Int), (s : Int))
def tT (mode : Int) (x : Mode) : List (Int × Int × Int) := (List.range x.rounds.toNat).flatMap fun r => tR mode r x.slots.toNat
def jA (i : Int) : List Mode → List (Int × Int × Int)
 | [] => []
 | x :: r => tT i x ++ jA (i + 1) r
def iK (d : MedlD) : Bool := decide (d.ss.map SlotI.key = jA 0 d.ms)
def aFd (ss : List SlotI) (k : Int × Int × Int) : Bool := decide (0 ≤ gJ (mH k.1 k.2.1 k.2.2) 0 ss)
def gE (ss : List SlotI) (keys : List (Int × Int × Int)) (n : Int) : Bool := keys.all (aFd ss) && decide (n + keys.length = ss.length)
theorem rC {n k : Nat} (h : k < n) : (List.range n).drop k = k :: (List.range n).drop (k + 1) := by
 rw [List.drop_eq_getElem_cons (by simpa using h)]; simp
theorem wC {n k : Nat} (h : n ≤ k) : (List.range n).drop k = [] := List.drop_eq_nil_of_le (by simpa using h)
theorem aCM {β : Type} {f : Nat → List β} {s : Nat} (hf : ∀ r, (f r).length = s) : ∀ (n i j : Nat), i < n → j < s → ((List.range n).flatMap f)[i * s + j]? = (f i)[j]? := by
 intro n
 induction n with
 | zero => intro i j h; omega
 | succ n ih =>
   intro i j hi hj
   have hl : ((List.range n).flatMap f).length = n * s := by
     clear ih hi hj i j
     induction n with
     | zero => simp
     | succ n ih => rw [List.range_succ, List.flatMap_append, List.length_append, ih]; simp [hf, Nat.add_mul]
   rw [List.range_succ, List.flatMap_append]
   by_cases h : i < n
   · have h2 : i * s + j < n * s := by
       have : (i + 1) * s ≤ n * s := Nat.mul_le_mul_right _ h
       rw [Nat.add_mul] at this; omega
     rw [List.getElem?_append_left (by rw [hl]; exact h2), ih i j h hj]
   · have e : i = n := by omega
     subst e
     rw [List.getElem?_append_right (by rw [hl]; omega), hl, show i * s + j - i * s = j by omega]; simp
theorem aAc (mode : Int) (r n : Nat) : (tR mode r n).length = n := by simp [tR]
theorem aGV (mode : Int) (x : Mode) : (tT mode x).length = x.rounds.toNat * x.slots.toNat := by
 unfold tT
 generalize x.rounds.toNat = n
 induction n with
 | zero => simp
 | succ n ih => rw [List.range_succ, List.flatMap_append, List.length_append, ih]; simp [aAc, Nat.add_mul]
theorem aHL {mode : Int} {x : Mode} {i : Nat} (h : i < x.rounds.toNat * x.slots.toNat) : (tT mode x)[i]? = some (mode, ((i / x.slots.toNat : Nat) : Int), ((i % x.slots.toNat : Nat) : Int)) := by
 have hs : 0 < x.slots.toNat := by
   rcases Nat.eq_zero_or_pos x.slots.toNat with h1 | h1
   · rw [h1] at h; simp at h
   · exact h1
 have h1 := aCM (f := fun r => tR mode r x.slots.toNat) (fun r => aAc mode r _) x.rounds.toNat (i / x.slots.toNat) (i % x.slots.toNat) ((Nat.div_lt_iff_lt_mul hs).2 h) (Nat.mod_lt _ hs)
 rw [Nat.mul_comm, Nat.div_add_mod] at h1
 unfold tT
 rw [h1]
 simp [tR, List.getElem?_range (Nat.mod_lt _ hs)]
theorem aFe {mode : Int} {x : Mode} {i : Nat} (h : i < x.rounds.toNat * x.slots.toNat) : (tT mode x).drop i = (mode, ((i / x.slots.toNat : Nat) : Int), ((i % x.slots.toNat : Nat) : Int)) :: (tT mode x).drop (i + 1) := by
 have h1 := aHL (mode := mode) h
 obtain ⟨h2, h3⟩ := List.getElem?_eq_some_iff.1 h1
 rw [List.drop_eq_getElem_cons h2, h3]
theorem vB {a b : SlotI} : qC a b = 0 ↔ a.key = b.key := by
 simp only [qC, tP, SlotI.key, Prod.mk.injEq]
 constructor
 · intro h
   repeat' split at h
   all_goals first | (exfalso; omega) | skip
   all_goals (refine ⟨by omega, by omega, by omega⟩)
 · rintro ⟨h1, h2, h3⟩
   simp [h1, h2, h3]
def kY (k : Int × Int × Int) : Int := k.1 * 256 + k.2.1 * 16 + k.2.2
def inK (k : Int × Int × Int) : Prop := (0 ≤ k.1 ∧ k.1 ≤ 15) ∧ (0 ≤ k.2.1 ∧ k.2.1 ≤ 7) ∧ (0 ≤ k.2.2 ∧ k.2.2 ≤ 15)
theorem aFf {a b : Int × Int × Int} (ha : inK a) (hb : inK b) (h : kY a = kY b) : a = b := by
 obtain ⟨a1, a2, a3⟩ := a; obtain ⟨b1, b2, b3⟩ := b
 simp only [inK, kY] at ha hb h
 simp only [Prod.mk.injEq]
 omega
theorem rD {x : SlotI} (h : fT x = true) : inK x.key := by
 simp only [fT, Bool.and_eq_true] at h
 exact ⟨eD.1 h.1.1.1, eD.1 h.1.1.2, eD.1 h.1.2⟩
theorem aFg {a b : SlotI} (ha : inK a.key) (hb : inK b.key) (h : qC a b < 0) : kY a.key < kY b.key := by
 simp only [qC, tP, SlotI.key, inK, kY] at *
 repeat' split at h
 all_goals omega
theorem tX : ∀ (l : List SlotI) (p : Option SlotI), eQ p l = true → (l.map fun x => kY x.key).Pairwise (· < ·) ∧ (∀ y, p = some y → fT y = true → ∀ x ∈ l, kY y.key < kY x.key)
 | [], _, _ => ⟨List.Pairwise.nil, fun _ _ _ x hx => by simp at hx⟩
 | x :: r, p, h => by
   have h1 : fT x = true ∧ eQ (some x) r = true := by
     cases p <;> simp only [eQ, Bool.and_eq_true] at h
     · exact h
     · exact ⟨h.1.1, h.2⟩
   obtain ⟨h2, h3⟩ := tX r _ h1.2
   have h4 := h3 x rfl h1.1
   refine ⟨List.Pairwise.cons (fun c hc => ?_) h2, fun y hp hy z hz => ?_⟩
   · obtain ⟨z, hz, rfl⟩ := List.mem_map.1 hc
     exact h4 z hz
   · subst hp
     simp only [eQ, Bool.and_eq_true, decide_eq_true_eq] at h
     have h5 := aFg (rD hy) (rD h1.1) h.1.2
     rcases List.mem_cons.1 hz with rfl | hz
     · exact h5
     · have := h4 z hz; omega
theorem uP : ∀ (k l : List Int), k.Pairwise (· < ·) → l.Pairwise (· < ·) → (∀ x ∈ k, x ∈ l) → k.Sublist l
 | [], l, _, _, _ => List.nil_sublist l
 | x :: k, [], _, _, h => by have := h x (by simp); simp at this
 | x :: k, y :: l, hk, hl, h => by
   by_cases e : x = y
   · subst e
     refine List.Sublist.cons_cons _ (uP k l (List.Pairwise.of_cons hk) (List.Pairwise.of_cons hl) fun z hz => ?_)
     have h1 := h z (by simp [hz])
     have h2 := List.rel_of_pairwise_cons hk hz
     rcases List.mem_cons.1 h1 with h3 | h3
     · omega
     · exact h3
   · refine List.Sublist.cons _ (uP (x :: k) l hk (List.Pairwise.of_cons hl) fun z hz => ?_)
     have hx : x ∈ l := by
       rcases List.mem_cons.1 (h x (by simp)) with h3 | h3
       · exact absurd h3 e
       · exact h3
     have hxy := List.rel_of_pairwise_cons hl hx
     rcases List.mem_cons.1 (h z hz) with h3 | h3
     · rcases List.mem_cons.1 hz with h4 | h4
       · omega
       · have := List.rel_of_pairwise_cons hk h4; omega
     · exact h3
 termination_by k l => k.length + l.length
theorem sK {k : Int × Int × Int} {i : Int} {x : Mode} : k ∈ tT i x ↔ k.1 = i ∧ (0 ≤ k.2.1 ∧ k.2.1 < x.rounds) ∧ (0 ≤ k.2.2 ∧ k.2.2 < x.slots) := by
 obtain ⟨a, b, c⟩ := k
 simp only [tT, tR, List.mem_flatMap, List.mem_map, List.mem_range, Prod.mk.injEq]
 constructor
 · rintro ⟨r, hr, s, hs, h1, h2, h3⟩; omega
 · rintro ⟨h1, h2, h3⟩; exact ⟨b.toNat, by omega, c.toNat, by omega, by omega, by omega, by omega⟩
theorem qE {k : Int × Int × Int} : ∀ (ms : List Mode) (i : Int), k ∈ jA i ms ↔ ∃ (j : Nat) (x : Mode), ms[j]? = some x ∧ k ∈ tT (i + j) x
 | [], i => by simp [jA]
 | x :: r, i => by
   rw [jA, List.mem_append, qE r (i + 1)]
   constructor
   · rintro (h | ⟨j, y, h1, h2⟩)
     · exact ⟨0, x, rfl, by simpa using h⟩
     · exact ⟨j + 1, y, by simpa using h1, by rwa [show i + ((j + 1 : Nat) : Int) = i + 1 + j by omega]⟩
   · rintro ⟨j, y, h1, h2⟩
     cases j with
     | zero => simp at h1; subst h1; exact .inl (by simpa using h2)
     | succ j => exact .inr ⟨j, y, by simpa using h1, by rwa [show i + 1 + (j : Int) = i + ((j + 1 : Nat) : Int) by omega]⟩
theorem aCN (i : Int) (r n : Nat) : ((tR i r n).map kY).Pairwise (· < ·) := by
 unfold tR
 rw [List.map_map, List.pairwise_map]
 refine List.Pairwise.imp ?_ List.pairwise_lt_range
 intro a b h
 simp only [Function.comp, kY]; omega
theorem aCO (i : Int) (x : Mode) (hs : x.slots ≤ 16) : ((tT i x).map kY).Pairwise (· < ·) := by
 unfold tT
 generalize x.rounds.toNat = n
 induction n with
 | zero => simp
 | succ n ih =>
   rw [List.range_succ, List.flatMap_append, List.map_append, List.pairwise_append]
   refine ⟨ih, by simpa using aCN i n x.slots.toNat, ?_⟩
   intro a ha b hb
   simp only [List.mem_map, List.mem_flatMap, List.mem_range, tR, List.flatMap_cons, List.flatMap_nil, List.append_nil] at ha hb
   obtain ⟨_, ⟨r, hr, s, hs1, rfl⟩, rfl⟩ := ha
   obtain ⟨_, ⟨t, ht, rfl⟩, rfl⟩ := hb
   simp only [kY]; omega
theorem vC : ∀ (ms : List Mode) (i : Int), (∀ x ∈ ms, x.rounds ≤ 8 ∧ x.slots ≤ 16) → ((jA i ms).map kY).Pairwise (· < ·)
 | [], _, _ => by simp [jA]
 | x :: r, i, h => by
   rw [jA, List.map_append, List.pairwise_append]
   refine ⟨aCO i x (h x (by simp)).2, vC r (i + 1) (fun y hy => h y (by simp [hy])), ?_⟩
   intro a ha b hb
   obtain ⟨ka, h1, rfl⟩ := List.mem_map.1 ha
   obtain ⟨kb, h2, rfl⟩ := List.mem_map.1 hb
   have h3 := sK.1 h1
   obtain ⟨j, y, hy, h4⟩ := (qE r (i + 1)).1 h2
   have h5 := sK.1 h4
   have h6 := h x (by simp)
   have h7 := h y (by have := List.mem_of_getElem? hy; simp [this])
   simp only [kY]; omega
theorem pL {ms : List Mode} (h : jH ms = true) : ∀ x ∈ ms, (1 ≤ x.rounds ∧ x.rounds ≤ 8) ∧ (1 ≤ x.slots ∧ x.slots ≤ 16) := fun x hx => by
 obtain ⟨k, hk⟩ := List.mem_iff_getElem?.1 hx
 have := tE (yC h hk)
 exact ⟨this.1, this.2.1⟩
theorem aGW {ms : List Mode} (h : jH ms = true) : ∀ k ∈ jA 0 ms, inK k := fun k hk => by
 obtain ⟨j, y, hy, h4⟩ := (qE ms 0).1 hk
 have h5 := sK.1 h4
 have h6 := pL h y (List.mem_of_getElem? hy)
 have h7 := qD h
 have h8 : j < ms.length := (List.getElem?_eq_some_iff.1 hy).1
 refine ⟨by omega, by omega, by omega⟩
theorem aAd {k : Int × Int × Int} {x : SlotI} : mH k.1 k.2.1 k.2.2 x = true ↔ x.key = k := by
 obtain ⟨a, b, c⟩ := k
 simp [mH, SlotI.key, Prod.mk.injEq, and_assoc]
theorem aAe {f : SlotI → Bool} : ∀ (l : List SlotI) (k : Nat), gJ f k l < 0 ↔ ∀ x ∈ l, f x = false
 | [], k => by simp [gJ]
 | x :: r, k => by
   rw [gJ]
   split
   · rename_i h
     constructor
     · intro h1; omega
     · intro h1; have := h1 x (by simp); rw [h] at this; cases this
   · rename_i h
     have := aAe (f := f) r (k + 1)
     rw [show ((k : Int) + 1) = ((k + 1 : Nat) : Int) by omega, this]
     simp [h]
theorem aAf {ss : List SlotI} {k : Int × Int × Int} : aFd ss k = true ↔ ∃ x ∈ ss, x.key = k := by
 have h := aAe (f := mH k.1 k.2.1 k.2.2) ss 0
 simp only [aFd, decide_eq_true_eq]
 rw [show ((0 : Nat) : Int) = 0 from rfl] at h
 constructor
 · intro h1
   refine Classical.byContradiction fun hc => ?_
   have : gJ (mH k.1 k.2.1 k.2.2) 0 ss < 0 := h.2 fun x hx => by
     cases e : mH k.1 k.2.1 k.2.2 x
     · rfl
     · exact absurd ⟨x, hx, aAd.1 e⟩ hc
   omega
 · rintro ⟨x, hx, hk⟩
   refine Int.not_lt.1 fun h1 => ?_
   have := h.1 h1 x hx
   rw [aAd.2 hk] at this; cases this
theorem aCP : ∀ (a b : List (Int × Int × Int)), (∀ k ∈ a, inK k) → (∀ k ∈ b, inK k) → a.map kY = b.map kY → a = b
 | [], b, _, _, h => by cases b <;> simp_all
 | x :: a, [], _, _, h => by simp at h
 | x :: a, y :: b, h1, h2, h => by
   simp only [List.map_cons, List.cons.injEq] at h
   rw [aFf (h1 x (by simp)) (h2 y (by simp)) h.1, aCP a b (fun k hk => h1 k (by simp [hk])) (fun k hk => h2 k (by simp [hk])) h.2]
theorem wW {d : MedlD} (hm : jH d.ms = true) (hs : gR d.ss = true) : gE d.ss (jA 0 d.ms) 0 = iK d := by
 have hs1 : eQ none d.ss = true := by simp only [gR, Bool.and_eq_true] at hs; exact hs.1
 have hsort := (tX d.ss none hs1).1
 have hk := vC d.ms 0 (fun x hx => ⟨(pL hm x hx).1.2, (pL hm x hx).2.2⟩)
 rw [Bool.eq_iff_iff]
 simp only [gE, iK, Bool.and_eq_true, List.all_eq_true, decide_eq_true_eq]
 constructor
 · rintro ⟨h1, h2⟩
   have hsub : ((jA 0 d.ms).map kY).Sublist (d.ss.map fun x => kY x.key) := by
     refine uP _ _ hk hsort fun c hc => ?_
     obtain ⟨k, hk1, rfl⟩ := List.mem_map.1 hc
     obtain ⟨x, hx, hxk⟩ := aAf.1 (h1 k hk1)
     exact List.mem_map.2 ⟨x, hx, by rw [hxk]⟩
   have heq := hsub.eq_of_length (by simp; omega)
   have h3 : (d.ss.map SlotI.key).map kY = (jA 0 d.ms).map kY := by rw [heq, List.map_map]; rfl
   have hin1 : ∀ k ∈ d.ss.map SlotI.key, inK k := fun k hk1 => by
     obtain ⟨x, hx, rfl⟩ := List.mem_map.1 hk1
     exact rD (qZ _ _ hs1 x hx)
   have hin2 := aGW hm
   generalize d.ss.map SlotI.key = a at h3 hin1
   generalize jA 0 d.ms = b at h3 hin2
   exact aCP a b hin1 hin2 h3
 · intro h
   refine ⟨fun k hk1 => ?_, by rw [← h]; simp⟩
   rw [← h] at hk1
   obtain ⟨x, hx, hxk⟩ := List.mem_map.1 hk1
   exact aAf.2 ⟨x, hx, hxk⟩
def kZ (x y : SlotI) : Bool := !(decide (x.mode = y.mode) && decide (x.slot = y.slot)) || decide (x.desc.duration = y.desc.duration)
def pE (ss : List SlotI) : Bool := ss.all fun x => ss.all fun y => kZ x y
def aAg : List SlotI → List SlotI → Bool
 | _, [] => true
 | q, x :: r => q.all (kZ x) && aAg (q ++ [x]) r
def pF (ss : List SlotI) (x : SlotI) : Bool := match ss[(gJ (mH x.mode 0 x.slot) 0 ss).toNat]? with
 | some y => decide (x.desc.duration = y.desc.duration)
 | none => false
def vD (ss : List SlotI) : Bool := ss.all (pF ss)
theorem aDR (x y : SlotI) : kZ x y = kZ y x := by
 rw [Bool.eq_iff_iff]
 simp only [kZ, Bool.or_eq_true, Bool.not_eq_true', Bool.and_eq_false_iff, decide_eq_true_eq, decide_eq_false_iff_not]
 constructor <;> (intro h; omega)
theorem aDS (x : SlotI) : kZ x x = true := by simp [kZ]
theorem aAh : ∀ (r q : List SlotI), (∀ x ∈ q, ∀ y ∈ q, kZ x y = true) → (aAg q r = true ↔ ∀ x ∈ q ++ r, ∀ y ∈ q ++ r, kZ x y = true)
 | [], q, hq => by simp only [aAg, List.append_nil, true_iff]; exact hq
 | x :: r, q, hq => by
   simp only [aAg, Bool.and_eq_true, List.all_eq_true]
   constructor
   · rintro ⟨h1, h2⟩
     have h3 : ∀ a ∈ q ++ [x], ∀ b ∈ q ++ [x], kZ a b = true := by
       intro a ha b hb
       rcases List.mem_append.1 ha with ha | ha <;> rcases List.mem_append.1 hb with hb | hb
       · exact hq a ha b hb
       · have e : b = x := by simpa using hb
         rw [e, aDR]; exact h1 a ha
       · have e : a = x := by simpa using ha
         rw [e]; exact h1 b hb
       · have e : a = x := by simpa using ha
         have e2 : b = x := by simpa using hb
         rw [e, e2]; exact aDS _
     have := (aAh r (q ++ [x]) h3).1 h2
     simpa using this
   · intro h
     refine ⟨fun y hy => h x (by simp) y (by simp [hy]), ?_⟩
     have h3 : ∀ a ∈ q ++ [x], ∀ b ∈ q ++ [x], kZ a b = true := fun a ha b hb => h a (by simp at ha ⊢; rcases ha with ha | ha <;> simp [ha]) b (by simp at hb ⊢; rcases hb with hb | hb <;> simp [hb])
     exact (aAh r (q ++ [x]) h3).2 (by simpa using h)
theorem aBN (ss : List SlotI) : aAg [] ss = pE ss := by
 rw [Bool.eq_iff_iff, aAh ss [] (by simp)]
 simp [pE, List.all_eq_true]
theorem vE {d : MedlD} (hm : jH d.ms = true) (hc : iK d = true) {x : SlotI} (hx : x ∈ d.ss) : ∃ (j : Nat) (y : SlotI), gJ (mH x.mode 0 x.slot) 0 d.ss = (j : Int) ∧ d.ss[j]? = some y ∧ y.mode = x.mode ∧ y.slot = x.slot := by
 simp only [iK, decide_eq_true_eq] at hc
 have h1 : x.key ∈ jA 0 d.ms := by rw [← hc]; exact List.mem_map.2 ⟨x, hx, rfl⟩
 obtain ⟨j, m, hj, h2⟩ := (qE d.ms 0).1 h1
 have h3 := sK.1 h2
 have h4 := pL hm m (List.mem_of_getElem? hj)
 have h5 : ((x.mode, 0, x.slot) : Int × Int × Int) ∈ jA 0 d.ms := (qE d.ms 0).2 ⟨j, m, hj, sK.2 ⟨h3.1, by simp only; omega, h3.2.2⟩⟩
 rw [← hc] at h5
 have h6 := aAf.2 (List.mem_map.1 h5)
 simp only [aFd, decide_eq_true_eq] at h6
 rcases aCH (f := mH x.mode 0 x.slot) d.ss 0 with h7 | ⟨i, y, h7, h8, h9⟩
 · rw [show ((0 : Nat) : Int) = 0 from rfl] at h7; omega
 · have h10 := (aAd (k := (x.mode, 0, x.slot))).1 h9
   simp only [SlotI.key, Prod.mk.injEq] at h10
   exact ⟨i, y, by rw [show ((0 : Nat) : Int) = 0 from rfl] at h7; rw [h7]; congr 1; omega, h8, h10.1, h10.2.2⟩
theorem aAi {d : MedlD} (hm : jH d.ms = true) (hc : iK d = true) : vD d.ss = pE d.ss := by
 rw [Bool.eq_iff_iff]
 simp only [vD, pE, List.all_eq_true]
 constructor
 · intro h x hx y hy
   obtain ⟨i, a, h1, h2, h3, h4⟩ := vE hm hc hx
   obtain ⟨j, b, h5, h6, h7, h8⟩ := vE hm hc hy
   have h9 := h x hx; have h10 := h y hy
   simp only [pF, h1, Int.toNat_natCast, h2, decide_eq_true_eq] at h9
   simp only [pF, h5, Int.toNat_natCast, h6, decide_eq_true_eq] at h10
   simp only [kZ, Bool.or_eq_true, Bool.not_eq_true', Bool.and_eq_false_iff, decide_eq_true_eq, decide_eq_false_iff_not]
   by_cases e1 : x.mode = y.mode
   · by_cases e2 : x.slot = y.slot
     · right
       rw [e1, e2, h5] at h1
       have : j = i := by omega
       subst this
       rw [h6] at h2; injection h2 with h2; subst h2
       omega
     · left; right; exact e2
   · left; left; exact e1
 · intro h x hx
   obtain ⟨i, a, h1, h2, h3, h4⟩ := vE hm hc hx
   have h5 := h x hx a (List.mem_of_getElem? h2)
   simp only [pF, h1, Int.toNat_natCast, h2, decide_eq_true_eq]
   simp only [kZ, Bool.or_eq_true, Bool.not_eq_true', Bool.and_eq_false_iff, decide_eq_true_eq, decide_eq_false_iff_not] at h5
   omega
def aBO : List SlotI → Int
 | [] => 0
 | x :: r => x.desc.duration + aBO r
def kJ (mode : Int) (ss : List SlotI) : List SlotI := ss.filter fun x => decide (x.mode = mode)
def cyc (ss : List SlotI) (mode : Int) : Int := aBO (kJ mode ss)
theorem tY {mode : Int} {x : SlotI} {r : List SlotI} (h : x.mode = mode) : kJ mode (x :: r) = x :: kJ mode r := by simp [kJ, h]
theorem tZ {mode : Int} {x : SlotI} {r : List SlotI} (h : ¬ x.mode = mode) : kJ mode (x :: r) = kJ mode r := by simp [kJ, h]
theorem aDT (mode : Int) (ss : List SlotI) : ∀ x ∈ kJ mode ss, x ∈ ss ∧ x.mode = mode := fun x hx => by
 have := List.mem_filter.1 hx; simpa using this
theorem aDU (mode : Int) (ss : List SlotI) : (kJ mode ss).length ≤ ss.length := List.length_filter_le _ _
def rE (d : MedlD) : Bool := (List.range d.ms.length).all fun (i : Nat) => decide (cyc d.ss i ≤ 32000)
def mU (d : MedlD) : Bool := d.ss.all fun x => nC (iG d.ns) x.desc.node
def tU (ss : List SlotI) (mode round : Int) : Nat := pD (fun x => decide (x.mode = mode) && decide (x.round = round)) (fun x => x.desc.node) 0 ss
def sL (act : Nat) (ss : List SlotI) (i : Int) : List Mode → Bool
 | [] => true
 | x :: r => ((List.range x.rounds.toNat).all fun (k : Nat) => decide (tU ss i k = act)) && sL act ss (i + 1) r
def wX (act : Nat) (ss : List SlotI) (i : Int) : List Mode → Bool
 | [] => true
 | x :: r => ((List.range x.rounds.toNat).all fun (k : Nat) => decide (sH act (tU ss i k) = 0)) && wX act ss (i + 1) r
theorem aHM {act : Nat} {ss : List SlotI} {m r : Int} (h : (ss.all fun x => nC act x.desc.node) = true) (i : Nat) (hi : (tU ss m r).testBit i = true) : act.testBit i = true := by
 unfold tU at hi
 rw [vA] at hi
 simp only [Nat.zero_testBit, Bool.false_or, List.any_eq_true, Bool.and_eq_true, decide_eq_true_eq] at hi
 obtain ⟨x, hx, _, e⟩ := hi
 have := List.all_eq_true.1 h x hx
 rw [e]; exact this
theorem aBP {act : Nat} {ss : List SlotI} (h : (ss.all fun x => nC act x.desc.node) = true) : ∀ (ms : List Mode) (i : Int), wX act ss i ms = sL act ss i ms
 | [], i => rfl
 | x :: r, i => by
   rw [wX, sL, aBP h r (i + 1)]
   congr 1
   congr 1
   funext k
   rw [Bool.eq_iff_iff, decide_eq_true_eq, decide_eq_true_eq, aFc]
   constructor
   · intro h1
     apply Nat.eq_of_testBit_eq
     intro j
     rw [Bool.eq_iff_iff]
     exact ⟨aHM h j, h1 j⟩
   · intro h1 j hj
     rw [h1]; exact hj
def rP (ss : List SlotI) : Bool := ss.any fun x => decide (x.desc.kind = 3) && decide (x.mode ≠ 0)
def aAk (d : MedlD) : Int :=
 if hZ d.id 1 16777215 = false then 1
 else if dV d.ns = false then 2
 else if jH d.ms = false then 3
 else if gR d.ss = false then 4
 else if iK d = false then 5
 else if mU d = false then 6
 else if pE d.ss = false then 7
 else if rE d = false then 8
 else if sL (iG d.ns) d.ss 0 d.ms = false then 9
 else if rP d.ss = true then 10 else 0
theorem aKz {a b : Int} (h1 : 1 ≤ a ∧ a ≤ 8) (h2 : 1 ≤ b ∧ b ≤ 16) : 1 ≤ a * b ∧ a * b ≤ 128 := by
 have h3 : 1 * 1 ≤ a * b := Int.mul_le_mul h1.1 h2.1 (by omega) (by omega)
 have h4 : a * b ≤ 8 * 16 := Int.mul_le_mul h1.2 h2.2 (by omega) (by omega)
 omega
theorem aKA {a b : Int} (h1 : 1 ≤ a) (h2 : 1 ≤ b) : ((a.toNat * b.toNat : Nat) : Int) = a * b := by
 rw [Int.natCast_mul, Int.toNat_of_nonneg (by omega), Int.toNat_of_nonneg (by omega)]
theorem lJ {mode : Int} {x : Mode} {i : Nat} (h1 : 1 ≤ x.rounds) (h2 : 1 ≤ x.slots) (h : (i : Int) < x.rounds * x.slots) : (tT mode x).drop i = (mode, (i : Int) / x.slots, (i : Int) % x.slots) :: (tT mode x).drop (i + 1) := by
 have h3 := aKA h1 h2
 rw [aFe (by omega), Int.natCast_ediv, Int.natCast_emod, Int.toNat_of_nonneg (by omega)]
theorem aGX {mode : Int} {x : Mode} {i : Nat} (h1 : 1 ≤ x.rounds) (h2 : 1 ≤ x.slots) (h : ¬ (i : Int) < x.rounds * x.slots) : (tT mode x).drop i = [] := by
 have h3 := aKA h1 h2
 exact List.drop_eq_nil_of_le (by rw [aGV]; omega)
theorem aFh {a b : Int × Int × Int} {l1 l2 : List (Int × Int × Int)} (h : a = b) : decide (a :: l1 = b :: l2) = decide (l1 = l2) := by subst h; simp
theorem aBQ {a b : Int × Int × Int} {l1 l2 : List (Int × Int × Int)} (h : a ≠ b) : decide (a :: l1 = b :: l2) = false := by simp [h]
theorem aCQ {ss : List SlotI} {k : Int × Int × Int} {keys : List (Int × Int × Int)} {n : Int} (h : ¬ gJ (mH k.1 k.2.1 k.2.2) 0 ss < 0) : gE ss (k :: keys) n = gE ss keys (n + 1) := by
 have h1 : aFd ss k = true := decide_eq_true (by omega)
 have e : n + ((keys.length + 1 : Nat) : Int) = n + 1 + keys.length := by omega
 simp only [gE, List.all_cons, h1, Bool.true_and, List.length_cons, e]
theorem xC {ss : List SlotI} {k : Int × Int × Int} {keys : List (Int × Int × Int)} {n : Int} (h : gJ (mH k.1 k.2.1 k.2.2) 0 ss < 0) : gE ss (k :: keys) n = false := by
 have h1 : aFd ss k = false := decide_eq_false (by omega)
 simp only [gE, List.all_cons, h1, Bool.false_and]
theorem completeS_nil {ss : List SlotI} {n : Int} : gE ss [] n = decide (n = ss.length) := by simp [gE]
theorem wE {k : Int} {r n s : Nat} (h : s < n) : (tR k r n).drop s = (k, (r : Int), (s : Int)) :: (tR k r n).drop (s + 1) := by
 unfold tR
 rw [← List.map_drop, ← List.map_drop, rC h]; rfl
theorem aGY {k : Int} {r n s : Nat} (h : n ≤ s) : (tR k r n).drop s = [] := List.drop_eq_nil_of_le (by rw [aAc]; omega)
def aDV (k : Int) (x : Mode) (r : Nat) : List (Int × Int × Int) := ((List.range x.rounds.toNat).drop r).flatMap fun r => tR k r x.slots.toNat
theorem aFi {k : Int} {x : Mode} {r : Nat} (h : (r : Int) < x.rounds) : aDV k x r = tR k r x.slots.toNat ++ aDV k x (r + 1) := by
 unfold aDV
 rw [rC (by omega)]; rfl
theorem aGZ {k : Int} {x : Mode} {r : Nat} (h : ¬ (r : Int) < x.rounds) : aDV k x r = [] := by
 unfold aDV
 rw [wC (by omega)]; rfl
theorem aKB {d : Desc} (h : fI d = true) : (0 ≤ d.node ∧ d.node ≤ 31) ∧ (0 ≤ d.kind ∧ d.kind ≤ 3) ∧ (0 ≤ d.size ∧ d.size ≤ 32) ∧ (1 ≤ d.duration ∧ d.duration ≤ 1000) := by
 simp only [fI, Bool.and_eq_true] at h
 have h1 := eD.1 h.1.1.1.1; have h2 := eD.1 h.1.1.1.2; have h4 := eD.1 h.2
 have h3 : 0 ≤ d.size ∧ d.size ≤ 32 := by
   have h5 := h.1.1.2
   unfold kU at h5
   split at h5
   · exact eD.1 h5
   · split at h5
     · have := eD.1 h5; omega
     · simp at h5; omega
 refine ⟨h1, h2, h3, ?_⟩
 have h6 : 1 ≤ nG d.kind d.size := by unfold nG; (repeat' split) <;> omega
 unfold qW at h4
 omega
theorem aAZ {x : SlotI} (h : fT x = true) : inK x.key ∧ (0 ≤ x.desc.node ∧ x.desc.node ≤ 31) ∧ (1 ≤ x.desc.duration ∧ x.desc.duration ≤ 1000) := by
 have h1 := rD h
 simp only [fT, Bool.and_eq_true] at h
 have h2 := aKB h.2
 exact ⟨h1, h2.1, h2.2.2.2⟩
theorem aAl {xs : List SlotI} (h : gR xs = true) : ∀ x ∈ xs, fT x = true := by
 simp only [gR, Bool.and_eq_true] at h
 exact qZ _ _ h.1
theorem vF {l : List NodeI} (h : dV l = true) : ∀ x ∈ l, 0 ≤ x.id ∧ x.id ≤ 31 := fun x hx => (mN (kX h x hx)).1
theorem kR (m : MedlI) : aAk m.d =
   if hZ m.id 1 16777215 = false then 1
   else if dV m.ns = false then 2
   else if jH (m.ms.map (·.m)) = false then 3
   else if gR m.ss = false then 4
   else if iK m.d = false then 5
   else if mU m.d = false then 6
   else if pE m.ss = false then 7
   else if rE m.d = false then 8
   else if sL (iG m.ns) m.ss 0 (m.ms.map (·.m)) = false then 9
   else if rP m.ss = true then 10 else 0 := rfl
theorem pG {m : MedlI} {k : Nat} (h : k < m.ms.length) : ((List.range m.ms.length).drop k).all (fun (i : Nat) => decide (cyc m.ss i ≤ 32000)) = (decide (cyc m.ss k ≤ 32000) && ((List.range m.ms.length).drop (k + 1)).all (fun (i : Nat) => decide (cyc m.ss i ≤ 32000))) := by
 rw [rC h, List.all_cons]
theorem aCR {m : MedlI} : rE m.d = ((List.range m.ms.length).drop 0).all (fun (i : Nat) => decide (cyc m.ss i ≤ 32000)) := by
 show (List.range (m.ms.map (·.m)).length).all _ = _
 rw [List.length_map, List.drop_zero]; rfl
theorem wF {m : MedlI} {k : Nat} (h : ¬ (k : Int) < m.ms.length) : ((List.range m.ms.length).drop k).all (fun (i : Nat) => decide (cyc m.ss i ≤ 32000)) = true := by
 rw [wC (by omega)]; rfl
def aAm (p : Nat → Bool) (n r : Nat) : Bool := ((List.range n).drop r).all p
theorem mO {p : Nat → Bool} {n r : Nat} (h : r < n) : aAm p n r = (p r && aAm p n (r + 1)) := by
 unfold aAm; rw [rC h, List.all_cons]
theorem aA0 {p : Nat → Bool} {n r : Nat} (h : n ≤ r) : aAm p n r = true := by
 unfold aAm; rw [wC h]; rfl
theorem qF {x y : SlotI} (h : x.mode ≠ y.mode ∨ x.slot ≠ y.slot ∨ x.desc.duration = y.desc.duration) : kZ x y = true := by
 simp only [kZ, Bool.or_eq_true, Bool.not_eq_true', Bool.and_eq_false_iff, decide_eq_true_eq, decide_eq_false_iff_not]; omega
theorem wG {x y : SlotI} (h : x.mode = y.mode ∧ x.slot = y.slot ∧ x.desc.duration ≠ y.desc.duration) : kZ x y = false := by
 cases e : kZ x y
 · rfl
 · simp only [kZ, Bool.or_eq_true, Bool.not_eq_true', Bool.and_eq_false_iff, decide_eq_true_eq, decide_eq_false_iff_not] at e; omega
theorem wH {α : Type} {p : α → Bool} {l r : List α} {q : List α} {x : α} {j : Nat} (h : q.all p = (q.drop j).all p) (hd : q.drop j = x :: r) (hx : p x = false) : q.all p = false := by rw [h, hd, List.all_cons, hx]; rfl
structure Kept (S : World → Prop) (w : World) : Prop where
 up : Up S
 h : S w
theorem Kept.ext {S : World → Prop} {w w' : World} (h : Kept S w) (k : Ext w w') : Kept S w' := ⟨h.up, h.up w w' h.h k⟩
theorem aA1 (p : SlotI → Bool) : ∀ (xs : List SlotI) (k : Int), 0 ≤ k → decide (0 ≤ gJ p k xs) = xs.any p
 | [], k, h => by simp [gJ]
 | x :: r, k, h => by
   rw [gJ, List.any_cons]
   by_cases e : p x = true
   · rw [if_pos e, e]; simp [h]
   · rw [if_neg e, aA1 p r (k + 1) (by omega)]; simp [e]
theorem aEv {α : Type} (p : α → Bool) : ∀ (xs : List α), (xs.any fun x => !p x) = !(xs.all p)
 | [] => rfl
 | x :: r => by rw [List.any_cons, List.all_cons, aEv p r]; cases p x <;> simp
theorem xE (m : MedlI) : (m.ss.any fun x => !nC (iG m.ns) x.desc.node) = !mU m.d := aEv _ _
def iY (d : MedlD) : Bool := decide (aAk d = 0)
structure WellF (d : MedlD) : Prop where
 id : hZ d.id 1 16777215 = true
 nt : dV d.ns = true
 mt : jH d.ms = true
 st : gR d.ss = true
 co : iK d = true
 se : mU d = true
 sd : pE d.ss = true
 sh : rE d = true
 sv : sL (iG d.ns) d.ss 0 d.ms = true
 cd : rP d.ss = false
theorem kK {d : MedlD} : iY d = true ↔ WellF d := by
 rw [iY, decide_eq_true_eq, aAk]
 constructor
 · intro h
   repeat' split at h
   all_goals first | (exfalso; omega) | skip
   rename_i h1 h2 h3 h4 h5 h6 h7 h8 h9 h10
   exact ⟨by simpa using h1, by simpa using h2, by simpa using h3, by simpa using h4, by simpa using h5, by simpa using h6, by simpa using h7, by simpa using h8, by simpa using h9, by simpa using h10⟩
 · intro h
   simp [h.id, h.nt, h.mt, h.st, h.co, h.se, h.sd, h.sh, h.sv, h.cd]
set_option maxRecDepth 20000
def aG0 (n : Int) : ByteArray := rK [UInt8.ofNat (48 + n.toNat % 10)]
def tV (n : Int) : ByteArray := if n < 10 then aG0 n else aG0 (n / 10) ++ aG0 (n % 10)
theorem tJ (n : Int) : (aG0 n).size = 1 := rfl
theorem aA2 (n : Int) : 1 ≤ (tV n).size ∧ (tV n).size ≤ 2 := by
 unfold tV; split
 · rw [tJ]; omega
 · rw [ByteArray.size_append, tJ, tJ]; omega
theorem aG1 {n : Int} (h : 0 ≤ n ∧ n < 10) : IntKind.u8.wrap (48 + n) = ((UInt8.ofNat (48 + n.toNat % 10)).toNat : Int) := by rw [aKy, wu8 (by omega)]; omega
def aCS (x : NodeI) : Prop := (0 ≤ x.id ∧ x.id ≤ 20) ∧ x.name.size ≤ 7
def ST5 : List ByteArray := [⟨#[]⟩, ⟨#[115, 101, 118, 101, 110, 110, 55]⟩, ⟨#[115, 105, 120, 120, 120, 54]⟩, ⟨#[78, 49]⟩, ⟨#[110, 48]⟩]
theorem aJR : ∀ y ∈ ST5, y.size ≤ 7 := fun y hy => by
 simp only [ST5, List.mem_cons, List.not_mem_nil, or_false] at hy
 rcases hy with rfl | rfl | rfl | rfl | rfl <;> decide
def mD (a k : Nat) : List Int := ((List.range k).filter fun i => a.testBit i).map Int.ofNat
theorem aA3 {a k : Nat} (h : a.testBit k = true) : mD a (k + 1) = mD a k ++ [(k : Int)] := by
 unfold mD
 rw [List.range_succ, List.filter_append, List.map_append, List.filter_cons_of_pos (by simpa using h)]; rfl
theorem aCT {a k : Nat} (h : a.testBit k = false) : mD a (k + 1) = mD a k := by
 unfold mD
 rw [List.range_succ, List.filter_append, List.map_append, List.filter_cons_of_neg (by simp [h])]; simp
theorem wI (a k : Nat) : (mD a k).length ≤ k := by
 unfold mD
 rw [List.length_map]
 have := List.length_filter_le (fun i => a.testBit i) (List.range k)
 rw [List.length_range] at this; exact this
theorem aA4 {a k : Nat} (h : a.testBit k = true) (hk : k < 32) : 1 ≤ (mD a 32).length := by
 have h1 : (k : Int) ∈ mD a 32 := List.mem_map.2 ⟨k, List.mem_filter.2 ⟨List.mem_range.2 hk, by simpa using h⟩, rfl⟩
 exact List.length_pos_of_mem h1
theorem aEw {ns : List NodeI} {x : NodeI} (hx : x ∈ ns) (hp : x.passive = false) : (iG ns).testBit x.id.toNat = true := by
 unfold iG
 rw [vA]
 simp only [Nat.zero_testBit, Bool.false_or, List.any_eq_true, Bool.and_eq_true, decide_eq_true_eq]
 exact ⟨x, hx, by simp [hp], rfl⟩
theorem aCU {l : List NodeI} (h : ∀ x ∈ l, 0 ≤ x.id ∧ x.id ≤ 31) : iG l < 4294967296 := yD l 0 (by omega) fun x hx => h x hx
theorem aJS (n : Int) (w : World) (hn : 0 ≤ n ∧ n < 10) :
   Calls Tryz.prog 66 #[.int .i64 n] w (fD fun v w' => v = .string (aG0 n) ∧ Ext w w') := by
 have X := Q7r w
 refine bI (args := [.int .i64 n]) Tryz.func66 Tryz.ntmps66 rfl rfl ?_
 refine aE ?_
 refine aA rfl (aD rfl ?_)
 refine aB ?_
 refine aQ ?_
 refine aE ?_
 refine aA rfl (aC rfl ?_)
 refine aA rfl (cH rfl rfl (fun h1 => ?_) (fun h1 => absurd h1 (by omega)))
 refine aB ?_
 refine aR rfl ?_
 refine aE ?_
 refine aA rfl (aC rfl ?_)
 refine aA rfl (aZ rfl rfl (dR (by omega)) ?_)
 refine aA rfl (jX Tryz.underlying2 Tryz.underlying5 rfl (aG1 hn) ?_)
 refine aA rfl (aN aE8 ti5 rfl rfl rfl rfl rfl ?_)
 intro g2 w4 eg2 oB bbg2 x3 zg2
 replace oB := Own.low oB X.size
 replace X := Q7x X x3
 replace oB := oB.to (cs' := ([UInt8.ofNat (48 + n.toNat % 10)] : List UInt8).flatMap eB) rfl
 refine aA rfl (vW Tryz.underlying22 Tryz.underlying5 Tryz.underlying9 (oB).sl rfl rfl ?_)
 refine aA rfl (aD rfl ?_)
 refine aB ?_
 refine aV ?_
 refine bU ?_
 refine aK rfl rfl ?_
 exact ⟨rfl, X⟩
theorem aIf (n : Int) (w : World) (hn : 0 ≤ n ∧ n < 100) :
   Calls Tryz.prog 66 #[.int .i64 n] w (fD fun v w' => v = .string (tV n) ∧ Ext w w') := by
 have X := Q7r w
 refine bI (args := [.int .i64 n]) Tryz.func66 Tryz.ntmps66 rfl rfl ?_
 refine aE ?_
 refine aA rfl (aD rfl ?_)
 refine aB ?_
 refine aQ ?_
 refine aE ?_
 refine aA rfl (aC rfl ?_)
 refine aA rfl (cH rfl rfl (fun h1 => ?_) (fun h1 => ?_))
 refine aB ?_
 refine aR rfl ?_
 refine aE ?_
 refine aA rfl (aC rfl ?_)
 refine aA rfl (aZ rfl rfl (dR (by omega)) ?_)
 refine aA rfl (jX Tryz.underlying2 Tryz.underlying5 rfl (aG1 (by omega)) ?_)
 refine aA rfl (aN aE8 ti5 rfl rfl rfl rfl rfl ?_)
 intro g1 w3 eg1 oB bbg1 x2 zg1
 replace oB := Own.low oB X.size
 replace X := Q7x X x2
 replace oB := oB.to (cs' := ([UInt8.ofNat (48 + n.toNat % 10)] : List UInt8).flatMap eB) rfl
 refine aA rfl (vW Tryz.underlying22 Tryz.underlying5 Tryz.underlying9 (oB).sl rfl rfl ?_)
 refine aA rfl (aD rfl ?_)
 refine aB ?_
 refine aV ?_
 refine bU ?_
 refine aK rfl rfl ?_
 · skip
   first
   | (rw [tV, if_pos h1]; exact ⟨rfl, X⟩)
   | (rw [tV, if_neg h1]; exact ⟨rfl, X⟩)
 refine aB ?_
 refine aL rfl ?_
 refine aU ?_
 refine aP ?_
 refine eO [false, false, false, false, false, false, false, true, false, false, false] mixed (by kernel_rfl) ?_
 refine cE rfl (fun wq sq => aC rfl ⟨rfl, Q7r _⟩) ?_
 refine cE rfl (fun wq sq => iE rfl rfl (by omega) (xW (by omega)) ⟨rfl, Q7r _⟩) ?_
 refine cE rfl (fun wq sq => aS aGs rfl (aJS _ _ (by omega))) ?_
 refine cE rfl (fun wq sq => aC rfl ⟨rfl, Q7r _⟩) ?_
 refine cE rfl (fun wq sq => fN rfl rfl (by omega) (sV (by omega)) ⟨rfl, Q7r _⟩) ?_
 refine cE rfl (fun wq sq => aZ rfl rfl (dR (by omega)) ⟨rfl, Q7r _⟩) ?_
 refine cE rfl (fun wq sq => jX Tryz.underlying2 Tryz.underlying5 rfl (aG1 (by omega)) ⟨rfl, Q7r _⟩) ?_
 refine aBe (fun g4 : Nat => Value.slice (some ⟨g4, 0, none⟩) 1 1) (fun g4 wz => Own wz w.heap.size 5 1 (some ⟨g4, 0, none⟩) 1 1 (([UInt8.ofNat (48 + (n % 10).toNat % 10)] : List UInt8).flatMap eB)) 0 rfl ⟨lT, fun _ _ _ h k => h.ext k, fun wq sq => aN aE8 ti5 rfl rfl rfl rfl rfl (fun g w' hg ho hb hx hz => ⟨g, rfl, Own.low ho (Q7l X.size (sq).size), hx⟩)⟩ ?_
 intro g4
 refine cE rfl (fun wq sq => vW Tryz.underlying22 Tryz.underlying5 Tryz.underlying9 (sq.2).sl rfl rfl ⟨rfl, Q7r _⟩) ?_
 refine cE rfl (fun wq sq => xU rfl rfl (by rw [tJ]; show _ + 1 ≤ _; omega) ⟨rfl, Q7r _⟩) ?_
 refine cE rfl (fun wq sq => aD rfl ⟨rfl, Q7r _⟩) ?_
 refine dW (fun w5 sq => ?_)
 have xq := sq.1
 have oB := sq.2
 replace X := Q7x X xq; clear xq sq
 refine aB ?_
 refine aV ?_
 refine aK rfl rfl ?_
 · skip
   first
   | (rw [tV, if_pos h1]; exact ⟨rfl, X⟩)
   | (rw [tV, if_neg h1]; exact ⟨rfl, X⟩)
theorem aA5 (A : Option Addr) (B c : Nat) (bs : List UInt8) (gS a : Nat) (sd : Int) (w : World) (q : Blk w gS 148 (iU A c bs a sd)) (hs : Sl B w A (bs.flatMap eB)) (hB : B ≤ gS) (ok : a ≤ bs.length ∧ 0 ≤ sd ∧ sd < 2147483647) (hbl : bs.length ≤ 1048576) :
   Calls Tryz.prog 179 #[.pointer (some ⟨gS, 0, none⟩)] w (fD fun v w' => ∃ A' c' xs a' sd', v = .slice A' (List.length xs) c' ∧ ((1 ≤ xs.length ∧ xs.length ≤ 4) ∧ ∀ x ∈ xs, aCS x) ∧ Own w' w.heap.size 59 4 A' xs.length c' (xs.flatMap NodeI.cells) ∧ (a' ≤ bs.length ∧ 0 ≤ sd' ∧ sd' < 2147483647) ∧ Blk w' gS 148 (iU A c bs a' sd') ∧ w.grownBy w' (some gS)) := by
 have Bhs := hs.1
 have X := mC w (some gS)
 refine bI (args := [.pointer (some ⟨gS, 0, none⟩)]) Tryz.func179 Tryz.ntmps179 rfl rfl ?_
 refine aE ?_
 refine aA rfl (aD rfl ?_)
 refine aB ?_
 refine aE ?_
 refine aA rfl (aN jT jF rfl rfl rfl rfl rfl ?_)
 intro gO w2 egO oI bbgO x1 zgO
 replace oI := Own.low oI X.size
 replace q := q.ext x1
 replace hs := hs.ext x1
 replace X := dE X x1
 refine aA rfl (aD rfl ?_)
 refine aB ?_
 refine aE ?_
 refine aA rfl (aC rfl ?_)
 refine aA rfl (aS fC rfl (aO (dH _ _ _ _ _ _ _ _ _ q hs hB ok hbl (by omega)) ?_))
 rintro _ w4 ⟨r0, a6, sd7, rfl, hr8, ok, b5, x3⟩
 replace hs := hs.grown x3 (by intro g hg; injection hg; omega)
 replace oI := oI.grownBlk x3 (Own.neT oI q (by decide))
 replace X := cU X x3
 clear x3 q
 refine aA rfl (aD rfl ?_)
 refine aB ?_
 refine aQ ?_
 refine aE ?_
 refine aA rfl (aC rfl ?_)
 refine aA rfl (aS fC rfl (aO (dH _ _ _ _ _ _ _ _ _ b5 hs hB ok hbl (by omega)) ?_))
 rintro _ w10 ⟨r4, a12, sd13, rfl, hr14, ok, b11, x9⟩
 replace hs := hs.grown x9 (by intro g hg; injection hg; omega)
 replace oI := oI.grownBlk x9 (Own.neT oI b5 (by decide))
 replace X := cU X x9
 clear x9 b5
 refine aA rfl (aZ rfl rfl (dR (by omega)) ?_)
 refine aA rfl (aD rfl ?_)
 refine aB ?_
 refine aW ?_
 refine dD (G := Int × Int × List NodeI × Nat × Option Addr × Nat) (fun ⟨t, id, ys, n1, A1, c1⟩ => [(2, .slice none 0 0), (0, .pointer (some ⟨gS, 0, none⟩)), (3, .slice A1 n1 c1), (4, .int .i64 id), (5, .int .i64 t)]) (fun ⟨t, id, ys, n1, A1, c1⟩ wr => (0 ≤ t ∧ t ≤ 4) ∧ (0 ≤ id ∧ id + 3 * t ≤ 13) ∧ n1 = ys.length ∧ (n1 : Int) + t = 1 + r4 ∧ (∀ y ∈ ys, aCS y) ∧ (∃ a sd, (a ≤ bs.length ∧ 0 ≤ sd ∧ sd < 2147483647) ∧ Blk wr gS 148 (iU A c bs a sd)) ∧ Own wr w.heap.size 59 4 A1 n1 c1 (ys.flatMap NodeI.cells) ∧ Sl B wr A (bs.flatMap eB) ∧ w.grownBy wr (some gS)) (fun ⟨t, id, ys, n1, A1, c1⟩ => t.toNat) (1 + r4, r0, [], 0, some ⟨gO, 0, none⟩, 0) (.cons rfl (.cons rfl (.cons rfl (.cons rfl (.cons rfl (.nil _)))))) ?_ ?_
 · exact ⟨(by omega), (by omega), rfl, (by show ((0 : Nat) : Int) + _ = _; omega), (fun y hy => by simp at hy), ⟨_, _, ok, b11⟩, oI, hs, X⟩
 clear hs oI b11
 clear X
 rintro ⟨t, id, ys, n1, A1, c1⟩ wr ⟨ht0, hid, hn, hnt, hsm, qq, oO, hs, X⟩
 obtain ⟨a, sd, ok, q⟩ := qq
 refine aQ ?_
 refine aE ?_
 refine aA rfl (aC rfl ?_)
 refine aA rfl (fX rfl rfl (fun hp => ?_) (fun hp => ?_))
 refine aB ?_
 refine aR rfl ?_
 refine aU ?_
 refine aP ?_
 refine aQ ?_
 refine aW ?_
 refine aE ?_
 refine aA rfl (aC rfl ?_)
 refine aA rfl (aC rfl ?_)
 refine aA rfl (aC rfl ?_)
 refine aA rfl (aS aGs rfl (aO (aIf _ _ (by omega)) ?_))
 rintro _ w16 ⟨rfl, x15⟩
 replace oO := oO.ext x15
 replace hs := hs.ext x15
 replace q := q.ext x15
 replace X := dE X x15
 have hds := aA2 id
 refine aA rfl (xU rfl rfl (by show 1 + _ ≤ _; omega) ?_)
 refine aA rfl (aC rfl ?_)
 refine aA rfl (aS fC rfl (aO (dH _ _ _ _ _ _ _ _ _ q hs hB ok hbl (by omega)) ?_))
 rintro _ w18 ⟨r2, a20, sd21, rfl, hr22, ok, b19, x17⟩
 replace oO := oO.grownBlk x17 (Own.neT oO q (by decide))
 replace hs := hs.grown x17 (by intro g hg; injection hg; omega)
 replace X := cU X x17
 clear x17 q
 refine aA rfl (aC rfl ?_)
 refine aA rfl (aS fC rfl (aO (dH _ _ _ _ _ _ _ _ _ b19 hs hB ok hbl (by omega)) ?_))
 rintro _ w24 ⟨r5, a26, sd27, rfl, hr28, ok, b25, x23⟩
 replace oO := oO.grownBlk x23 (Own.neT oO b19 (by decide))
 replace hs := hs.grown x23 (by intro g hg; injection hg; omega)
 replace X := cU X x23
 clear x23 b19
 refine aA rfl (iD rfl rfl ?_)
 refine aA rfl (cO aDI jF rfl rfl ?_)
 refine aA rfl (aN jT jF rfl rfl rfl rfl rfl ?_)
 intro g29 w31 eg29 oV bbg29 x30 zg29
 replace oV := Own.low oV X.size
 replace oO := oO.ext x30
 replace hs := hs.ext x30
 replace b25 := b25.ext x30
 replace X := dE X x30
 refine aA rfl (cF (ts := #[]) oO X.size oV.sl (by first | rfl | simp) (by first | exact List.all_eq_true.1 rfl | simp [Value.oneCell']) jT jF rfl rfl rfl rfl (by omega) (by omega) ?_)
 intro AoN coN w33 oN hg32
 replace hs := hs.grown hg32 (fun g hg => Q7l Bhs (Own.lt oO hg).1)
 replace b25 := b25.grown hg32 (fun h => Own.neT oO b25 (by decide) h.symm)
 replace X := cV X hg32 (fun g hg => (Own.lt oO hg).1)
 clear hg32
 refine aA rfl (aD rfl ?_)
 refine aB ?_
 refine aM ?_
 refine aA rfl (aC rfl ?_)
 refine aA rfl (aZ rfl rfl (dR (by omega)) ?_)
 refine aA rfl (aC rfl ?_)
 refine aA rfl (aS fC rfl (aO (dH _ _ _ _ _ _ _ _ _ b25 hs hB ok hbl (by omega)) ?_))
 rintro _ w35 ⟨r3, a37, sd38, rfl, hr39, ok, b36, x34⟩
 replace hs := hs.grown x34 (by intro g hg; injection hg; omega)
 replace oN := oN.grownBlk x34 (Own.neT oN b25 (by decide))
 replace X := cU X x34
 clear x34 b25
 refine aA rfl (aZ rfl rfl (dR (by omega)) ?_)
 refine aA rfl (aD rfl ?_)
 refine aB ?_
 refine dJ ?_
 refine aP ?_
 refine aM ?_
 refine aA rfl (aC rfl ?_)
 refine aA rfl (fZ rfl rfl (dR (by omega)) ?_)
 refine aA rfl (aD rfl ?_)
 refine aB ?_
 refine aP ⟨(t - 1, id + 1 + r3, ys ++ [⟨id, rK [110] ++ tV id, r2, decide (r5 = 0)⟩], n1 + 1, AoN, coN), (.cons rfl (.cons rfl (.cons rfl (.cons rfl (.cons rfl (.nil _)))))), ?_, ?_⟩
 · skip
   exact ⟨(by omega), (by omega), (by simp [hn]), (by omega), (fun y hy => by
     rcases List.mem_append.1 hy with h | h
     · exact hsm y h
     · obtain rfl : y = ⟨id, rK [110] ++ tV id, r2, decide (r5 = 0)⟩ := by simpa using h
       exact ⟨by show 0 ≤ id ∧ id ≤ 20; omega, by show (rK [110] ++ tV id).size ≤ 7; rw [ByteArray.size_append]; show 1 + _ ≤ 7; omega⟩), ⟨_, _, ok, b36⟩, oN.to (kG NodeI.cells ys ⟨id, rK [110] ++ tV id, r2, decide (r5 = 0)⟩).symm, hs, X⟩
 · first | omega | (dsimp only; omega)
 refine aB ?_
 refine aL rfl ?_
 refine dC ?_
 refine dB ?_
 refine dB ?_
 refine eA ?_
 refine aP ?_
 refine aE ?_
 refine aA rfl (aC rfl ?_)
 refine aA rfl (aD rfl ?_)
 refine aB ?_
 refine aV ?_
 refine aK rfl rfl ?_
 · skip
   subst hn
   exact ⟨A1, c1, ys, _, _, rfl, ⟨by omega, hsm⟩, oO, ok, q, X⟩
theorem aBR (A : Option Addr) (B c : Nat) (bs : List UInt8) (gS a : Nat) (sd : Int) (w : World) (q : Blk w gS 148 (iU A c bs a sd)) (hs : Sl B w A (bs.flatMap eB)) (hB : B ≤ gS) (ok : a ≤ bs.length ∧ 0 ≤ sd ∧ sd < 2147483647) (hbl : bs.length ≤ 1048576) :
   Calls Tryz.prog 143 #[.pointer (some ⟨gS, 0, none⟩)] w (fD fun v w' => ∃ A' c' xs a' sd', v = .slice A' (List.length xs) c' ∧ (xs.length ≤ 5 ∧ ∀ z ∈ xs, z.name.size ≤ 7) ∧ Own w' w.heap.size 59 4 A' xs.length c' (xs.flatMap NodeI.cells) ∧ (a' ≤ bs.length ∧ 0 ≤ sd' ∧ sd' < 2147483647) ∧ Blk w' gS 148 (iU A c bs a' sd') ∧ w.grownBy w' (some gS)) := by
 have Bhs := hs.1
 have X := mC w (some gS)
 refine bI (args := [.pointer (some ⟨gS, 0, none⟩)]) Tryz.func143 Tryz.ntmps143 rfl rfl ?_
 refine aE ?_
 refine aA rfl (aD rfl ?_)
 refine aB ?_
 refine aE ?_
 refine aA rfl (aC rfl ?_)
 have LoT := X.size
 refine aA rfl (aS aGB rfl (aO (aA5 _ _ _ _ _ _ _ _ q hs hB ok hbl) ?_))
 rintro _ w2 ⟨AT, cT, ys, a4, sd5, rfl, hyl, oT, ok, b3, x1⟩
 replace hs := hs.grown x1 (by intro g hg; injection hg; omega)
 replace X := cU X x1
 clear x1 q
 replace oT := Own.low oT LoT
 have hyl0 := hyl.1
 refine aA rfl (aD rfl ?_)
 refine aB ?_
 refine aE ?_
 refine aA rfl (aC rfl ?_)
 refine aA rfl (aC rfl ?_)
 refine aA rfl (cQ Tryz.underlying24 rfl ?_)
 refine aA rfl (aS fC rfl (aO (dH _ _ _ _ _ _ _ _ _ b3 hs hB ok hbl (by omega)) ?_))
 rintro _ w9 ⟨rk, a11, sd12, rfl, hr13, ok, b10, x7⟩
 replace hs := hs.grown x7 (by intro g hg; injection hg; omega)
 replace oT := oT.grownBlk x7 (Own.neT oT b3 (by decide))
 replace X := cU X x7
 clear x7 b3
 refine aA rfl (aD rfl ?_)
 refine aB ?_
 refine aQ ?_
 refine aE ?_
 refine aA rfl (aC rfl ?_)
 refine aA rfl (aS fC rfl (aO (dH _ _ _ _ _ _ _ _ _ b10 hs hB ok hbl (by omega)) ?_))
 rintro _ w15 ⟨r24, a17, sd18, rfl, hr19, ok, b16, x14⟩
 replace hs := hs.grown x14 (by intro g hg; injection hg; omega)
 replace oT := oT.grownBlk x14 (Own.neT oT b10 (by decide))
 replace X := cU X x14
 clear x14 b10
 refine aB ?_
 refine aW ?_
 refine aE ?_
 refine aA rfl (dK rfl rfl (fun h20 => ?_) (fun h20 => ?_))
 refine aA rfl (aD rfl ?_)
 refine aB ?_
 refine aR rfl ?_
 refine aM ?_
 refine aA rfl (aC rfl ?_)
 refine aA rfl (aC rfl ?_)
 refine aA rfl (aN dA cY rfl rfl rfl rfl rfl ?_)
 intro g21 w23 eg21 oL bbg21 x22 zg21
 replace oL := Own.low oL X.size
 replace hs := hs.ext x22
 replace oT := oT.ext x22
 replace b16 := b16.ext x22
 replace X := dE X x22
 replace oL := oL.to (cs' := ([-1, 31, 32] : List Int).flatMap eI) rfl
 refine aA rfl (aC rfl ?_)
 refine aA rfl (aS fC rfl (aO (dH _ _ _ _ _ _ _ _ _ b16 hs hB ok hbl (by omega)) ?_))
 rintro _ w25 ⟨rr, a27, sd28, rfl, hr29, ok, b26, x24⟩
 replace hs := hs.grown x24 (by intro g hg; injection hg; omega)
 replace oT := oT.grownBlk x24 (Own.neT oT b16 (by decide))
 replace oL := oL.grownBlk x24 (Own.neT oL b16 (by decide))
 replace X := cU X x24
 clear x24 b16
 obtain ⟨y, hy⟩ : ∃ y, ([-1, 31, 32] : List Int)[rr.toNat]? = some y := ⟨_, List.getElem?_eq_getElem (by simp; omega)⟩
 obtain ⟨x, hx⟩ : ∃ x, ys[rk.toNat]? = some x := ⟨_, List.getElem?_eq_getElem (by omega)⟩
 have hxs := hyl.2 x (List.mem_of_getElem? hx)
 refine aA rfl (aT (oL).sl bL rfl dA rfl rfl rfl hy (by omega) ?_)
 refine aA rfl (cX (oL).sl bL hy cY rfl rfl rfl ?_)
 refine aA rfl (aT (oT).sl NodeI.len rfl jT rfl rfl rfl hx (by omega) ?_)
 refine aA rfl (bK lD rfl ?_)
 refine aA rfl (jP oT cY rfl rfl rfl rfl (by omega) (by omega) rfl ?_)
 intro w31 oU hg30 z32
 replace hs := hs.grown hg30 (fun g hg => Q7l Bhs (Own.lt oT hg).1)
 replace oL := oL.grown hg30 (Own.neO oL oT (by decide))
 replace b26 := b26.grown hg30 (fun h => Own.neT oT b26 (by decide) h.symm)
 replace X : w.grownBy w31 (some gS) := by first | exact cU X hg30 | exact cV X hg30 (fun g hg => (Own.lt oT hg).1)
 clear hg30 z32
 obtain ⟨zs, hzl, hzs, oR⟩ : ∃ zs : List NodeI, zs.length = ys.length ∧ (∀ z ∈ zs, z.name.size ≤ 7) ∧ Own _ w.heap.size 59 4 AT ys.length cT (zs.flatMap NodeI.cells) := ⟨ys.set rk.toNat ⟨y, x.name, x.drift, x.passive⟩, List.length_set .., (fun z hz => by
   rcases List.mem_or_eq_of_mem_set hz with h | rfl
   · exact (hyl.2 z h).2
   · exact hxs.2), oU.to (gH (x := x) (x' := ⟨y, x.name, x.drift, x.passive⟩) (vs := [.int .i64 y]) NodeI.len (f := 0) rfl (by omega) ys rk.toNat hx)⟩
 refine aB ?_
 refine dJ ?_
 refine aP ?_
 refine aE ?_
 refine aA rfl (aC rfl ?_)
 refine aA rfl (aD rfl ?_)
 refine aB ?_
 refine aV ?_
 refine aK rfl rfl ?_
 · skip
   first
   | (exact ⟨AoU, coU, zs, _, _, by rw [hzl], ⟨by omega, hzs⟩, by rw [hzl]; exact oR, ok, b26, X⟩)
   | (exact ⟨AT, cT, zs, _, _, by rw [hzl], ⟨by omega, hzs⟩, by rw [hzl]; exact oR, ok, b26, X⟩)
   | (exact ⟨none, 0, [], _, _, rfl, ⟨Nat.zero_le _, fun x hx => by simp at hx⟩, Own.nil_ _ _ _ _, ok, b26, X⟩)
   | (exact ⟨_, _, ys, _, _, rfl, ⟨by omega, fun z hz => (hyl.2 z hz).2⟩, oT, ok, b26, X⟩)
 refine aA rfl (aD rfl ?_)
 refine aB ?_
 refine aL rfl ?_
 refine aE ?_
 refine aA rfl (dK rfl rfl (fun h33 => ?_) (fun h33 => ?_))
 refine aA rfl (aD rfl ?_)
 refine aB ?_
 refine aR rfl ?_
 refine aM ?_
 refine aA rfl (aC rfl ?_)
 refine aA rfl (aC rfl ?_)
 refine aA rfl (aN aH0 yA rfl rfl rfl rfl rfl ?_)
 intro g34 w36 eg34 oL bbg34 x35 zg34
 replace oL := Own.low oL X.size
 replace hs := hs.ext x35
 replace oT := oT.ext x35
 replace b16 := b16.ext x35
 replace X := dE X x35
 replace oL := oL.to (cs' := ST5.flatMap eS) rfl
 refine aA rfl (aC rfl ?_)
 refine aA rfl (aS fC rfl (aO (dH _ _ _ _ _ _ _ _ _ b16 hs hB ok hbl (by omega)) ?_))
 rintro _ w38 ⟨rr, a40, sd41, rfl, hr42, ok, b39, x37⟩
 replace hs := hs.grown x37 (by intro g hg; injection hg; omega)
 replace oT := oT.grownBlk x37 (Own.neT oT b16 (by decide))
 replace oL := oL.grownBlk x37 (Own.neT oL b16 (by decide))
 replace X := cU X x37
 clear x37 b16
 obtain ⟨y, hy⟩ : ∃ y, ST5[rr.toNat]? = some y := ⟨_, List.getElem?_eq_getElem (by show rr.toNat < 5; omega)⟩
 have hy1 := aJR y (List.mem_of_getElem? hy)
 obtain ⟨x, hx⟩ : ∃ x, ys[rk.toNat]? = some x := ⟨_, List.getElem?_eq_getElem (by omega)⟩
 have hxs := hyl.2 x (List.mem_of_getElem? hx)
 refine aA rfl (aT (oL).sl aGU rfl aH0 rfl (show 5 = ST5.length from rfl) rfl hy (by omega) ?_)
 refine aA rfl (cX (oL).sl aGU hy yA rfl rfl rfl ?_)
 refine aA rfl (aT (oT).sl NodeI.len rfl jT rfl rfl rfl hx (by omega) ?_)
 refine aA rfl (bK gV rfl ?_)
 refine aA rfl (jP oT yA rfl rfl rfl rfl (by omega) (by omega) rfl ?_)
 intro w44 oU hg43 z45
 replace hs := hs.grown hg43 (fun g hg => Q7l Bhs (Own.lt oT hg).1)
 replace oL := oL.grown hg43 (Own.neO oL oT (by decide))
 replace b39 := b39.grown hg43 (fun h => Own.neT oT b39 (by decide) h.symm)
 replace X : w.grownBy w44 (some gS) := by first | exact cU X hg43 | exact cV X hg43 (fun g hg => (Own.lt oT hg).1)
 clear hg43 z45
 obtain ⟨zs, hzl, hzs, oR⟩ : ∃ zs : List NodeI, zs.length = ys.length ∧ (∀ z ∈ zs, z.name.size ≤ 7) ∧ Own _ w.heap.size 59 4 AT ys.length cT (zs.flatMap NodeI.cells) := ⟨ys.set rk.toNat ⟨x.id, y, x.drift, x.passive⟩, List.length_set .., (fun z hz => by
   rcases List.mem_or_eq_of_mem_set hz with h | rfl
   · exact (hyl.2 z h).2
   · exact hy1), oU.to (gH (x := x) (x' := ⟨x.id, y, x.drift, x.passive⟩) (vs := [.string y]) NodeI.len (f := 1) rfl (by omega) ys rk.toNat hx)⟩
 refine aB ?_
 refine dJ ?_
 refine aP ?_
 refine aE ?_
 refine aA rfl (aC rfl ?_)
 refine aA rfl (aD rfl ?_)
 refine aB ?_
 refine aV ?_
 refine aK rfl rfl ?_
 · skip
   first
   | (exact ⟨AoU, coU, zs, _, _, by rw [hzl], ⟨by omega, hzs⟩, by rw [hzl]; exact oR, ok, b39, X⟩)
   | (exact ⟨AT, cT, zs, _, _, by rw [hzl], ⟨by omega, hzs⟩, by rw [hzl]; exact oR, ok, b39, X⟩)
   | (exact ⟨none, 0, [], _, _, rfl, ⟨Nat.zero_le _, fun x hx => by simp at hx⟩, Own.nil_ _ _ _ _, ok, b39, X⟩)
   | (exact ⟨_, _, ys, _, _, rfl, ⟨by omega, fun z hz => (hyl.2 z hz).2⟩, oT, ok, b39, X⟩)
 refine aA rfl (aD rfl ?_)
 refine aB ?_
 refine aL rfl ?_
 refine aE ?_
 refine aA rfl (dK rfl rfl (fun h46 => ?_) (fun h46 => ?_))
 refine aA rfl (aD rfl ?_)
 refine aB ?_
 refine aR rfl ?_
 refine aM ?_
 refine aA rfl (aC rfl ?_)
 refine aA rfl (aC rfl ?_)
 refine aA rfl (aN dA cY rfl rfl rfl rfl rfl ?_)
 intro g47 w49 eg47 oL bbg47 x48 zg47
 replace oL := Own.low oL X.size
 replace hs := hs.ext x48
 replace oT := oT.ext x48
 replace b16 := b16.ext x48
 replace X := dE X x48
 replace oL := oL.to (cs' := ([-1, 1000, 1001] : List Int).flatMap eI) rfl
 refine aA rfl (aC rfl ?_)
 refine aA rfl (aS fC rfl (aO (dH _ _ _ _ _ _ _ _ _ b16 hs hB ok hbl (by omega)) ?_))
 rintro _ w51 ⟨rr, a53, sd54, rfl, hr55, ok, b52, x50⟩
 replace hs := hs.grown x50 (by intro g hg; injection hg; omega)
 replace oT := oT.grownBlk x50 (Own.neT oT b16 (by decide))
 replace oL := oL.grownBlk x50 (Own.neT oL b16 (by decide))
 replace X := cU X x50
 clear x50 b16
 obtain ⟨y, hy⟩ : ∃ y, ([-1, 1000, 1001] : List Int)[rr.toNat]? = some y := ⟨_, List.getElem?_eq_getElem (by simp; omega)⟩
 obtain ⟨x, hx⟩ : ∃ x, ys[rk.toNat]? = some x := ⟨_, List.getElem?_eq_getElem (by omega)⟩
 have hxs := hyl.2 x (List.mem_of_getElem? hx)
 refine aA rfl (aT (oL).sl bL rfl dA rfl rfl rfl hy (by omega) ?_)
 refine aA rfl (cX (oL).sl bL hy cY rfl rfl rfl ?_)
 refine aA rfl (aT (oT).sl NodeI.len rfl jT rfl rfl rfl hx (by omega) ?_)
 refine aA rfl (bK mP rfl ?_)
 refine aA rfl (jP oT cY rfl rfl rfl rfl (by omega) (by omega) rfl ?_)
 intro w57 oU hg56 z58
 replace hs := hs.grown hg56 (fun g hg => Q7l Bhs (Own.lt oT hg).1)
 replace oL := oL.grown hg56 (Own.neO oL oT (by decide))
 replace b52 := b52.grown hg56 (fun h => Own.neT oT b52 (by decide) h.symm)
 replace X : w.grownBy w57 (some gS) := by first | exact cU X hg56 | exact cV X hg56 (fun g hg => (Own.lt oT hg).1)
 clear hg56 z58
 obtain ⟨zs, hzl, hzs, oR⟩ : ∃ zs : List NodeI, zs.length = ys.length ∧ (∀ z ∈ zs, z.name.size ≤ 7) ∧ Own _ w.heap.size 59 4 AT ys.length cT (zs.flatMap NodeI.cells) := ⟨ys.set rk.toNat ⟨x.id, x.name, y, x.passive⟩, List.length_set .., (fun z hz => by
   rcases List.mem_or_eq_of_mem_set hz with h | rfl
   · exact (hyl.2 z h).2
   · exact hxs.2), oU.to (gH (x := x) (x' := ⟨x.id, x.name, y, x.passive⟩) (vs := [.int .i64 y]) NodeI.len (f := 2) rfl (by omega) ys rk.toNat hx)⟩
 refine aB ?_
 refine dJ ?_
 refine aP ?_
 refine aE ?_
 refine aA rfl (aC rfl ?_)
 refine aA rfl (aD rfl ?_)
 refine aB ?_
 refine aV ?_
 refine aK rfl rfl ?_
 · skip
   first
   | (exact ⟨AoU, coU, zs, _, _, by rw [hzl], ⟨by omega, hzs⟩, by rw [hzl]; exact oR, ok, b52, X⟩)
   | (exact ⟨AT, cT, zs, _, _, by rw [hzl], ⟨by omega, hzs⟩, by rw [hzl]; exact oR, ok, b52, X⟩)
   | (exact ⟨none, 0, [], _, _, rfl, ⟨Nat.zero_le _, fun x hx => by simp at hx⟩, Own.nil_ _ _ _ _, ok, b52, X⟩)
   | (exact ⟨_, _, ys, _, _, rfl, ⟨by omega, fun z hz => (hyl.2 z hz).2⟩, oT, ok, b52, X⟩)
 refine aA rfl (aD rfl ?_)
 refine aB ?_
 refine aL rfl ?_
 refine aE ?_
 refine aA rfl (dK rfl rfl (fun h59 => ?_) (fun h59 => ?_))
 refine aA rfl (aD rfl ?_)
 refine aB ?_
 refine aR rfl ?_
 refine aM ?_
 refine aA rfl (aC rfl ?_)
 refine aA rfl (aC rfl ?_)
 refine aA rfl (aC rfl ?_)
 obtain ⟨x, hx⟩ : ∃ x, ys[rk.toNat]? = some x := ⟨_, List.getElem?_eq_getElem (by omega)⟩
 have hxs := hyl.2 x (List.mem_of_getElem? hx)
 refine aA rfl (aT (oT).sl NodeI.len rfl jT rfl rfl rfl hx (by omega) ?_)
 refine aA rfl (dY (oT).sl NodeI.len hx jF rfl ?_)
 refine aA rfl (aN jT jF rfl rfl rfl rfl rfl ?_)
 intro g60 w62 eg60 oV bbg60 x61 zg60
 replace oV := Own.low oV X.size
 replace hs := hs.ext x61
 replace oT := oT.ext x61
 replace b16 := b16.ext x61
 replace X := dE X x61
 refine aA rfl (cF (ts := #[]) oT X.size oV.sl (by first | rfl | simp) (by first | exact List.all_eq_true.1 rfl | simp [Value.oneCell']) jT jF rfl rfl rfl rfl (by omega) (by omega) ?_)
 intro AoU coU w65 oU hg63
 replace hs := hs.grown hg63 (fun g hg => Q7l Bhs (Own.lt oT hg).1)
 replace b16 := b16.grown hg63 (fun h => Own.neT oT b16 (by decide) h.symm)
 replace X := cV X hg63 (fun g hg => (Own.lt oT hg).1)
 clear hg63
 obtain ⟨zs, hzl, hzs, oR⟩ : ∃ zs : List NodeI, zs.length = ys.length + 1 ∧ (∀ z ∈ zs, z.name.size ≤ 7) ∧ Own _ w.heap.size 59 4 AoU (ys.length + 1) coU (zs.flatMap NodeI.cells) := ⟨ys ++ [x], by simp, (fun z hz => by
   rcases List.mem_append.1 hz with h | h
   · exact (hyl.2 z h).2
   · obtain rfl : z = x := by simpa using h
     exact hxs.2), oU.to (kG NodeI.cells ys x).symm⟩
 refine aA rfl (aD rfl ?_)
 refine aB ?_
 refine dJ ?_
 refine aP ?_
 refine aE ?_
 refine aA rfl (aC rfl ?_)
 refine aA rfl (aD rfl ?_)
 refine aB ?_
 refine aV ?_
 refine aK rfl rfl ?_
 · skip
   first
   | (exact ⟨AoU, coU, zs, _, _, by rw [hzl], ⟨by omega, hzs⟩, by rw [hzl]; exact oR, ok, b16, X⟩)
   | (exact ⟨AT, cT, zs, _, _, by rw [hzl], ⟨by omega, hzs⟩, by rw [hzl]; exact oR, ok, b16, X⟩)
   | (exact ⟨none, 0, [], _, _, rfl, ⟨Nat.zero_le _, fun x hx => by simp at hx⟩, Own.nil_ _ _ _ _, ok, b16, X⟩)
   | (exact ⟨_, _, ys, _, _, rfl, ⟨by omega, fun z hz => (hyl.2 z hz).2⟩, oT, ok, b16, X⟩)
 refine aA rfl (aD rfl ?_)
 refine aB ?_
 refine aL rfl ?_
 refine aE ?_
 refine aA rfl (dK rfl rfl (fun h66 => ?_) (fun h66 => ?_))
 refine aA rfl (aD rfl ?_)
 refine aB ?_
 refine aR rfl ?_
 refine aM ?_
 refine aA rfl (aD rfl ?_)
 refine aB ?_
 refine dJ ?_
 refine aP ?_
 refine aE ?_
 refine aA rfl (aC rfl ?_)
 refine aA rfl (aD rfl ?_)
 refine aB ?_
 refine aV ?_
 refine aK rfl rfl ?_
 · skip
   first
   | (exact ⟨AoU, coU, zs, _, _, by rw [hzl], ⟨by omega, hzs⟩, by rw [hzl]; exact oR, ok, b16, X⟩)
   | (exact ⟨AT, cT, zs, _, _, by rw [hzl], ⟨by omega, hzs⟩, by rw [hzl]; exact oR, ok, b16, X⟩)
   | (exact ⟨none, 0, [], _, _, rfl, ⟨Nat.zero_le _, fun x hx => by simp at hx⟩, Own.nil_ _ _ _ _, ok, b16, X⟩)
   | (exact ⟨_, _, ys, _, _, rfl, ⟨by omega, fun z hz => (hyl.2 z hz).2⟩, oT, ok, b16, X⟩)
 refine aA rfl (aD rfl ?_)
 refine aB ?_
 refine aL rfl ?_
 refine aU ?_
 refine dJ ?_
 refine aP ?_
 refine aE ?_
 refine aA rfl (aC rfl ?_)
 refine aA rfl (aD rfl ?_)
 refine aB ?_
 refine aV ?_
 refine aK rfl rfl ?_
 · skip
   first
   | (exact ⟨AoU, coU, zs, _, _, by rw [hzl], ⟨by omega, hzs⟩, by rw [hzl]; exact oR, ok, b16, X⟩)
   | (exact ⟨AT, cT, zs, _, _, by rw [hzl], ⟨by omega, hzs⟩, by rw [hzl]; exact oR, ok, b16, X⟩)
   | (exact ⟨none, 0, [], _, _, rfl, ⟨Nat.zero_le _, fun x hx => by simp at hx⟩, Own.nil_ _ _ _ _, ok, b16, X⟩)
   | (exact ⟨_, _, ys, _, _, rfl, ⟨by omega, fun z hz => (hyl.2 z hz).2⟩, oT, ok, b16, X⟩)
end Go.Proofs.YtdoibplhbdkapaaGreatDoor
