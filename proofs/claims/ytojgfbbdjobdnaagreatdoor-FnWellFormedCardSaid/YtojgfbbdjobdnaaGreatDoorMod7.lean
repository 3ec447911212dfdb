/- Looking up in schedules: plain functions, and that the two ways answer alike. No condition. -/
import Derived.Test.YtojgfbbdjobdnaaGreatDoorMod5
import Derived.Test.YtojgfbbdjobdnaaGreatDoorMod6
namespace Go.Proofs.YtojgfbbdjobdnaaGreatDoor
open Go.RowKit
set_option linter.unusedVariables false
set_option linter.unusedSimpArgs false

def isMedl (d : MedlD) : Bool := decide (ffault d = 0)
structure WellF (d : MedlD) : Prop where
  id : inB d.id 1 16777215 = true
  nt : isNT d.ns = true
  mt : isMT d.ms = true
  st : isST d.ss = true
  co : complete d = true
  se : sendersB d = true
  sd : steady d.ss = true
  sh : shortB d = true
  sv : servS (actV d.ns) d.ss 0 d.ms = true
  cd : coldB d.ss = false
theorem isMedl_iff {d : MedlD} : isMedl d = true ↔ WellF d := by
  rw [isMedl, decide_eq_true_eq, ffault]
  constructor
  · intro h
    repeat' split at h
    all_goals first | (exfalso; omega) | skip
    rename_i h1 h2 h3 h4 h5 h6 h7 h8 h9 h10
    exact ⟨by simpa using h1, by simpa using h2, by simpa using h3, by simpa using h4, by simpa using h5, by simpa using h6, by simpa using h7, by simpa using h8, by simpa using h9, by simpa using h10⟩
  · intro h
    simp [h.id, h.nt, h.mt, h.st, h.co, h.se, h.sd, h.sh, h.sv, h.cd]
def modeC (d : MedlD) (mode : Int) : Int := if isMedl d = true then (if inB mode 0 ((d.ms.length : Int) - 1) = true then 0 else 2) else 1
def stateOk (s : StateI) : Bool := inB s.time 0 65535 && inB s.mode 0 15 && inB s.round 0 15 && inB s.slot 0 255 && inB s.members 0 4294967295
def belongsB (d : MedlD) (s : StateI) : Bool := stateOk s && (match d.ms[s.mode.toNat]? with
  | some x => decide (s.round < x.rounds) && decide (s.slot < x.slots) && decide (lackN s.members.toNat (actV d.ns) = 0)
  | none => false)
def lookC (d : MedlD) (s : StateI) : Int := if isMedl d = true then (if belongsB d s = true then 0 else 2) else 1
def descAt (ss : List SlotI) (m r s : Int) : Desc := match ss[(findS (hitS m r s) 0 ss).toNat]? with
  | some x => x.desc
  | none => ⟨0, 0, 0, 0, false⟩
def senderF (d : MedlD) (m r s : Int) : Int × Int := if isMedl d = true then (if findS (hitS m r s) 0 d.ss < 0 then (0, 4) else ((descAt d.ss m r s).node, 0)) else (0, 1)
def cycleF (d : MedlD) (mode : Int) : Int × Int := if modeC d mode = 0 then (cyc d.ss mode, 0) else (0, modeC d mode)
def roundsOf (d : MedlD) (mode : Int) : Int := match d.ms[mode.toNat]? with
  | some x => x.rounds
  | none => 1
def slotsOf (d : MedlD) (mode : Int) : Int := match d.ms[mode.toNat]? with
  | some x => x.slots
  | none => 1
def nextOf (d : MedlD) (mode : Int) : List Int := match d.ms[mode.toNat]? with
  | some x => x.next
  | none => []
def roundF (d : MedlD) (mode : Int) : Int × Int := if modeC d mode = 0 then (cyc d.ss mode / roundsOf d mode, 0) else (0, modeC d mode)
def descF (d : MedlD) (s : StateI) : Desc × Int := if lookC d s = 0 then (descAt d.ss s.mode s.round s.slot, 0) else (⟨0, 0, 0, 0, false⟩, lookC d s)
def advS (s : StateI) (dur slots rounds : Int) : StateI := if s.slot + 1 = slots then ⟨(s.time + dur) % 65536, s.mode, (s.round + 1) % rounds, 0, s.members⟩ else ⟨(s.time + dur) % 65536, s.mode, s.round, s.slot + 1, s.members⟩
def nextS (d : MedlD) (s : StateI) : StateI := advS s (descAt d.ss s.mode s.round s.slot).duration (slotsOf d s.mode) (roundsOf d s.mode)
def zeroS : StateI := ⟨0, 0, 0, 0, 0⟩
def nextF (d : MedlD) (s : StateI) : StateI × Int := if lookC d s = 0 then (nextS d s, 0) else (zeroS, lookC d s)
def beforeB (m r s : Int) (x : SlotI) : Bool := decide (x.mode = m) && (decide (x.round < r) || (decide (x.round = r) && decide (x.slot < s)))
def startD (ss : List SlotI) (m r s : Int) : Int := sumD (ss.filter (beforeB m r s))
def startF (d : MedlD) (s : StateI) : Int × Int := if lookC d s = 0 then (startD d.ss s.mode s.round s.slot, 0) else (0, lookC d s)
def atF (time : Int) : Int → List SlotI → Option SlotI
  | _, [] => none
  | a, x :: r => if time < a + x.desc.duration then some x else atF time (a + x.desc.duration) r
def slotAtF (d : MedlD) (mode time : Int) : Int × Int × Int := if modeC d mode = 0 then (if time < 0 then (0, 0, 4) else match atF time 0 (ofMode mode d.ss) with
  | some x => (x.round, x.slot, 0)
  | none => (0, 0, 4)) else (0, 0, modeC d mode)
def changeF (d : MedlD) (s : StateI) (to : Int) : StateI × Int :=
  if lookC d s = 0 then
    if inB to 0 ((d.ms.length : Int) - 1) = true then
      if hasB (nextOf d s.mode) to = true then (⟨(s.time + (cyc d.ss s.mode - startD d.ss s.mode s.round s.slot)) % 65536, to, 0, 0, s.members⟩, 0) else (zeroS, 5)
    else (zeroS, 2)
  else (zeroS, lookC d s)

/-! ### what a mode and a state bring -/
theorem mode_get {d : MedlD} {mode : Int} (h : inB mode 0 ((d.ms.length : Int) - 1) = true) : ∃ (k : Nat) (x : Mode), mode = (k : Int) ∧ d.ms[k]? = some x := by
  have h1 := inB_iff.1 h
  exact ⟨mode.toNat, d.ms[mode.toNat]'(by omega), by omega, List.getElem?_eq_getElem _⟩
theorem of_get {d : MedlD} {k : Nat} {x : Mode} (h : d.ms[k]? = some x) : roundsOf d (k : Int) = x.rounds ∧ slotsOf d (k : Int) = x.slots ∧ nextOf d (k : Int) = x.next := by
  simp [roundsOf, slotsOf, nextOf, h]
theorem filter_keysM {i : Int} : ∀ (ms : List Mode) (i : Int) (j : Nat) (x : Mode), ms[j]? = some x → (keysM i ms).filter (fun k => decide (k.1 = i + j)) = keyM (i + j) x
  | [], i, j, x, h => by simp at h
  | y :: r, i, 0, x, h => by
    simp at h; subst h
    have e1 : (keyM i y).filter (fun k => decide (k.1 = i + ((0 : Nat) : Int))) = keyM i y := List.filter_eq_self.2 fun k hk => by have := mem_keyM.1 hk; simp [this.1]
    have e2 : (keysM (i + 1) r).filter (fun k => decide (k.1 = i + ((0 : Nat) : Int))) = [] := List.filter_eq_nil_iff.2 fun k hk => by
      obtain ⟨j, z, _, h2⟩ := (mem_keysM r (i + 1)).1 hk
      have := (mem_keyM.1 h2).1
      simp; omega
    rw [keysM, List.filter_append, e1, e2]; simp
  | y :: r, i, j + 1, x, h => by
    have e1 : (keyM i y).filter (fun k => decide (k.1 = i + ((j + 1 : Nat) : Int))) = [] := List.filter_eq_nil_iff.2 fun k hk => by have := (mem_keyM.1 hk).1; simp; omega
    have e2 := filter_keysM (i := i) r (i + 1) j x (by simpa using h)
    rw [keysM, List.filter_append, e1, List.nil_append, show i + ((j + 1 : Nat) : Int) = i + 1 + j by omega]
    exact e2
theorem ofMode_keys {d : MedlD} (hc : complete d = true) {k : Nat} {x : Mode} (hx : d.ms[k]? = some x) : (ofMode (k : Int) d.ss).map SlotI.key = keyM (k : Int) x := by
  simp only [complete, decide_eq_true_eq] at hc
  have h1 := filter_keysM (i := 0) d.ms 0 k x hx
  rw [← hc, List.filter_map] at h1
  rw [show (0 : Int) + k = k by omega] at h1
  exact h1
theorem ofMode_at {d : MedlD} (hc : complete d = true) {k : Nat} {x : Mode} (hx : d.ms[k]? = some x) {j : Nat} {y : SlotI} (hy : (ofMode (k : Int) d.ss)[j]? = some y) :
    y.mode = k ∧ y.round = ((j / x.slots.toNat : Nat) : Int) ∧ y.slot = ((j % x.slots.toNat : Nat) : Int) ∧ j < x.rounds.toNat * x.slots.toNat := by
  have h1 := ofMode_keys hc hx
  have h2 : j < x.rounds.toNat * x.slots.toNat := by
    have := congrArg List.length h1
    rw [List.length_map, keyM_len] at this
    have := (List.getElem?_eq_some_iff.1 hy).1
    omega
  have h3 : ((ofMode (k : Int) d.ss).map SlotI.key)[j]? = some y.key := by simp [hy]
  rw [h1, keyM_at h2] at h3
  injection h3 with h3
  simp only [SlotI.key, Prod.mk.injEq] at h3
  exact ⟨h3.1.symm, h3.2.1.symm, h3.2.2.symm, h2⟩
theorem ofMode_length {d : MedlD} (hc : complete d = true) {k : Nat} {x : Mode} (hx : d.ms[k]? = some x) : (ofMode (k : Int) d.ss).length = x.rounds.toNat * x.slots.toNat := by
  have := congrArg List.length (ofMode_keys hc hx)
  rwa [List.length_map, keyM_len] at this
theorem filter_take {α : Type} {p : α → Bool} : ∀ (l : List α) (n : Nat), (∀ (j : Nat) (x : α), l[j]? = some x → (p x = true ↔ j < n)) → l.filter p = l.take n
  | [], n, _ => by simp
  | x :: r, 0, h => by
    have h1 : p x = false := by have := h 0 x rfl; simpa using this
    rw [List.take_zero, List.filter_cons_of_neg (by simp [h1])]
    have := filter_take (p := p) r 0 (fun j y hy => by have := h (j + 1) y (by simpa using hy); simpa using this)
    simpa using this
  | x :: r, n + 1, h => by
    have h1 : p x = true := (h 0 x rfl).2 (by omega)
    rw [List.take_succ_cons, List.filter_cons_of_pos h1, filter_take r n (fun j y hy => by have := h (j + 1) y (by simpa using hy); rw [this]; omega)]
theorem lex_lt {j n r s : Nat} (hn : 0 < n) (hs : s ≤ n) : (j / n < r ∨ (j / n = r ∧ j % n < s)) ↔ j < r * n + s := by
  have h1 := Nat.div_add_mod j n
  have h2 := Nat.mod_lt j hn
  generalize j / n = a at *
  generalize j % n = b at *
  subst h1
  constructor
  · rintro (h | ⟨h, h3⟩)
    · have : n * (a + 1) ≤ n * r := Nat.mul_le_mul_left _ h
      rw [Nat.mul_add, Nat.mul_comm n r] at this; omega
    · subst h; rw [Nat.mul_comm]; omega
  · intro h
    rcases Nat.lt_trichotomy a r with h3 | h3 | h3
    · exact .inl h3
    · subst h3; rw [Nat.mul_comm] at h; exact .inr ⟨rfl, by omega⟩
    · exfalso
      have : n * (r + 1) ≤ n * a := Nat.mul_le_mul_left _ h3
      rw [Nat.mul_add, Nat.mul_comm n r] at this; omega
theorem start_take {d : MedlD} (hc : complete d = true) {k : Nat} {x : Mode} (hx : d.ms[k]? = some x) (hs1 : 1 ≤ x.slots) {r s : Nat} (hs : (s : Int) ≤ x.slots) :
    startD d.ss k r s = sumD ((ofMode (k : Int) d.ss).take (r * x.slots.toNat + s)) := by
  have e : d.ss.filter (beforeB k r s) = (ofMode (k : Int) d.ss).filter (fun x => decide (x.round < (r : Int)) || (decide (x.round = (r : Int)) && decide (x.slot < (s : Int)))) := by
    rw [ofMode, List.filter_filter]
    congr 1
    funext y
    simp [beforeB, Bool.and_comm]
  unfold startD
  rw [e, filter_take _ (r * x.slots.toNat + s) fun j y hy => ?_]
  obtain ⟨h1, h2, h3, h4⟩ := ofMode_at hc hx hy
  rw [← lex_lt (by omega) (by omega)]
  simp only [Bool.or_eq_true, Bool.and_eq_true, decide_eq_true_eq, h2, h3]
  omega
theorem start_at {d : MedlD} (hc : complete d = true) {k : Nat} {x : Mode} (hx : d.ms[k]? = some x) (hs1 : 1 ≤ x.slots) {j : Nat} {y : SlotI} (hy : (ofMode (k : Int) d.ss)[j]? = some y) :
    startD d.ss k y.round y.slot = sumD ((ofMode (k : Int) d.ss).take j) := by
  obtain ⟨h1, h2, h3, h4⟩ := ofMode_at hc hx hy
  have h5 : j % x.slots.toNat < x.slots.toNat := Nat.mod_lt _ (by omega)
  rw [h2, h3, start_take hc hx hs1 (by omega), Nat.mul_comm, Nat.div_add_mod]
theorem sumD_take (l : List SlotI) (h : ∀ x ∈ l, 0 ≤ x.desc.duration ∧ x.desc.duration ≤ 1000) (n : Nat) : 0 ≤ sumD (l.take n) ∧ sumD (l.take n) ≤ sumD l := by
  have h1 := sumD_in (l.take n) fun x hx => h x (List.mem_of_mem_take hx)
  have h2 := sumD_in (l.drop n) fun x hx => h x (List.mem_of_mem_drop hx)
  have h3 := sumD_app (l.take n) (l.drop n)
  rw [List.take_append_drop] at h3
  omega
theorem atF_find {L : List SlotI} {q : SlotI → Bool} {time : Int} (hq : ∀ (j : Nat) (y : SlotI), L[j]? = some y → q y = decide (time < sumD (L.take j) + y.desc.duration)) :
    ∀ (n : Nat) (k : Nat), L.length - k = n → atF time (sumD (L.take k)) (L.drop k) = (L.drop k).find? q
  | 0, k, h => by rw [List.drop_eq_nil_of_le (by omega)]; rfl
  | n + 1, k, h => by
    have hk : k < L.length := by omega
    have h1 := hq k L[k] (List.getElem?_eq_getElem hk)
    have e : sumD (L.take (k + 1)) = sumD (L.take k) + L[k].desc.duration := by
      rw [List.take_add_one, List.getElem?_eq_getElem hk, sumD_app]; simp [sumD]
    rw [List.drop_eq_getElem_cons hk, atF, List.find?_cons, h1, ← e, atF_find hq n (k + 1) (by omega)]
    split
    · rename_i h2; rw [decide_eq_true (by omega)]
    · rename_i h2; rw [decide_eq_false (by omega)]
/-- the way of the reference -/
def atS (ss : List SlotI) (mode time : Int) : Option SlotI := ss.find? fun x => decide (x.mode = mode) && decide (time < startD ss mode x.round x.slot + x.desc.duration)
theorem atS_eq {d : MedlD} (hc : complete d = true) {k : Nat} {x : Mode} (hx : d.ms[k]? = some x) (hs1 : 1 ≤ x.slots) (time : Int) : atS d.ss k time = atF time 0 (ofMode (k : Int) d.ss) := by
  have h1 := atF_find (L := ofMode (k : Int) d.ss) (q := fun y => decide (time < startD d.ss k y.round y.slot + y.desc.duration)) (time := time) (fun j y hy => by rw [start_at hc hx hs1 hy]) _ 0 rfl
  simp only [List.take_zero, List.drop_zero, sumD] at h1
  rw [h1, atS, ofMode, List.find?_filter]
  congr 1
  funext a
  rw [Bool.eq_iff_iff]
  simp
theorem mask_eq {a b : Nat} : a &&& b = a ↔ lackN a b = 0 := by
  rw [lack_zero]
  constructor
  · intro h i hi
    have h1 := congrArg (fun n => n.testBit i) h
    simp only [Nat.testBit_and, hi, Bool.true_and] at h1
    exact h1
  · intro h
    apply Nat.eq_of_testBit_eq
    intro i
    rw [Nat.testBit_and]
    cases ha : a.testBit i
    · rfl
    · rw [h i ha]; rfl
/-- a slot of a well-formed schedule has its entry -/
theorem slot_find {d : MedlD} (hc : complete d = true) {k : Nat} {x : Mode} (hx : d.ms[k]? = some x) {r s : Int} (hr : 0 ≤ r ∧ r < x.rounds) (hs : 0 ≤ s ∧ s < x.slots) :
    ∃ (j : Nat) (y : SlotI), findS (hitS (k : Int) r s) 0 d.ss = (j : Int) ∧ d.ss[j]? = some y ∧ y.mode = k ∧ y.round = r ∧ y.slot = s ∧ descAt d.ss k r s = y.desc := by
  simp only [complete, decide_eq_true_eq] at hc
  have h5 : (((k : Int), r, s) : Int × Int × Int) ∈ keysM 0 d.ms := (mem_keysM d.ms 0).2 ⟨k, x, hx, mem_keyM.2 ⟨by simp, hr, hs⟩⟩
  rw [← hc] at h5
  have h6 := hitK_iff.2 (List.mem_map.1 h5)
  simp only [hitK, decide_eq_true_eq] at h6
  rcases findS_lt (f := hitS (k : Int) r s) d.ss 0 with h7 | ⟨i, y, h7, h8, h9⟩
  · rw [show ((0 : Nat) : Int) = 0 from rfl] at h7; omega
  · have h10 := (hitS_key (k := ((k : Int), r, s))).1 h9
    simp only [SlotI.key, Prod.mk.injEq] at h10
    have h11 : findS (hitS (k : Int) r s) 0 d.ss = (i : Int) := by rw [show ((0 : Nat) : Int) = 0 from rfl] at h7; rw [h7]; congr 1; omega
    exact ⟨i, y, h11, h8, h10.1, h10.2.1, h10.2.2, by simp [descAt, h11, h8]⟩
theorem stateOk_in {s : StateI} (h : stateOk s = true) : (0 ≤ s.time ∧ s.time ≤ 65535) ∧ (0 ≤ s.mode ∧ s.mode ≤ 15) ∧ (0 ≤ s.round ∧ s.round ≤ 15) ∧ (0 ≤ s.slot ∧ s.slot ≤ 255) ∧ (0 ≤ s.members ∧ s.members ≤ 4294967295) := by
  simp only [stateOk, Bool.and_eq_true] at h
  exact ⟨inB_iff.1 h.1.1.1.1, inB_iff.1 h.1.1.1.2, inB_iff.1 h.1.1.2, inB_iff.1 h.1.2, inB_iff.1 h.2⟩
structure Bel (d : MedlD) (s : StateI) (k : Nat) (x : Mode) : Prop where
  ok : stateOk s = true
  md : s.mode = (k : Int)
  at_ : d.ms[k]? = some x
  rd : 0 ≤ s.round ∧ s.round < x.rounds
  sl : 0 ≤ s.slot ∧ s.slot < x.slots
  mb : lackN s.members.toNat (actV d.ns) = 0
theorem belongs_iff {d : MedlD} {s : StateI} : belongsB d s = true ↔ ∃ k x, Bel d s k x := by
  constructor
  · intro h
    simp only [belongsB, Bool.and_eq_true] at h
    obtain ⟨h1, h2⟩ := h
    have h3 := stateOk_in h1
    split at h2
    · rename_i x hx
      simp only [Bool.and_eq_true, decide_eq_true_eq] at h2
      exact ⟨s.mode.toNat, x, h1, by omega, hx, ⟨by omega, h2.1.1⟩, ⟨by omega, h2.1.2⟩, h2.2⟩
    · cases h2
  · rintro ⟨k, x, h⟩
    have e : s.mode.toNat = k := by have := h.md; omega
    simp only [belongsB, h.ok, e, h.at_, Bool.true_and, Bool.and_eq_true, decide_eq_true_eq]
    exact ⟨⟨h.rd.2, h.sl.2⟩, h.mb⟩
theorem lookC_zero {d : MedlD} {s : StateI} : lookC d s = 0 ↔ isMedl d = true ∧ belongsB d s = true := by
  unfold lookC; split
  · split <;> simp_all
  · simp_all
theorem modeC_zero {d : MedlD} {mode : Int} : modeC d mode = 0 ↔ isMedl d = true ∧ inB mode 0 ((d.ms.length : Int) - 1) = true := by
  unfold modeC; split
  · split <;> simp_all
  · simp_all

/-! ### for the walks -/
theorem modeC_m (m : MedlI) (mode : Int) : modeC m.d mode = if isMedl m.d = true then (if inB mode 0 ((m.ms.length : Int) - 1) = true then 0 else 2) else 1 := by
  unfold modeC
  rw [show m.d.ms.length = m.ms.length from List.length_map ..]
theorem get_I {m : MedlI} {k : Nat} {x : Mode} (h : m.d.ms[k]? = some x) : ∃ y : ModeI, m.ms[k]? = some y ∧ y.m = x := by
  have h1 : (m.ms.map (·.m))[k]? = some x := h
  rw [List.getElem?_map] at h1
  cases h2 : m.ms[k]? with
  | none => rw [h2] at h1; simp at h1
  | some y => rw [h2] at h1; simp at h1; exact ⟨y, rfl, h1⟩
theorem get_D {m : MedlI} {k : Nat} {x : ModeI} (h : m.ms[k]? = some x) : m.d.ms[k]? = some x.m := by
  show (m.ms.map (·.m))[k]? = some x.m
  rw [List.getElem?_map, h]; rfl
theorem mode_atI {xs : List ModeI} {mode : Int} (h : inB mode 0 ((xs.length : Int) - 1) = true) : ∃ (j : Nat) (x : ModeI), mode = (j : Int) ∧ xs[j]? = some x := by
  have h1 := inB_iff.1 h
  exact ⟨mode.toNat, xs[mode.toNat]'(by omega), by omega, List.getElem?_eq_getElem _⟩
theorem find_get {xs : List SlotI} {f : SlotI → Bool} (h : ¬ findS f 0 xs < 0) : ∃ (j : Nat) (x : SlotI), findS f 0 xs = (j : Int) ∧ xs[j]? = some x ∧ f x = true := by
  rcases findS_lt (f := f) xs 0 with h1 | ⟨j, x, h1, h2, h3⟩
  · rw [show ((0 : Nat) : Int) = 0 from rfl] at h1; omega
  · exact ⟨j, x, by rw [show ((0 : Nat) : Int) = 0 from rfl] at h1; rw [h1]; congr 1; omega, h2, h3⟩
theorem mb_and {z : Int} {b : Nat} (h : 0 ≤ z ∧ z ≤ 4294967295) (hb : b < 4294967296) : bitsV .and .i64 z (b : Int) = ((z.toNat &&& b : Nat) : Int) := by
  have e : z = ((z.toNat : Nat) : Int) := by omega
  rw [e, Int.toNat_natCast]
  exact bits_and (by omega) (by omega)
theorem mb_andNot {z : Int} {b : Nat} (h : 0 ≤ z ∧ z ≤ 4294967295) (hb : b < 4294967296) : bitsV .andNot .i64 z (b : Int) = (lackN z.toNat b : Int) := by
  have e : z = ((z.toNat : Nat) : Int) := by omega
  rw [e, Int.toNat_natCast]
  exact bits_andNot (by omega) (by omega)
theorem bel_eq {m : MedlI} {s : StateI} {j : Nat} {x : ModeI} (hk : stateOk s = true) (hj : s.mode = (j : Int)) (hx : m.ms[j]? = some x) (hr : s.round < x.m.rounds) (hs : s.slot < x.m.slots) : belongsB m.d s = decide (lackN s.members.toNat (actV m.ns) = 0) := by
  have e : s.mode.toNat = j := by omega
  simp only [belongsB, hk, e, get_D hx, decide_eq_true hr, decide_eq_true hs, Bool.true_and]; rfl
theorem bel_no1 {m : MedlI} {s : StateI} (hk : stateOk s = false) : belongsB m.d s = false := by simp [belongsB, hk]
theorem bel_no2 {m : MedlI} {s : StateI} (hk : stateOk s = true) (hm : inB s.mode 0 ((m.ms.length : Int) - 1) = false) : belongsB m.d s = false := by
  have h1 := stateOk_in hk
  have h2 : ¬ s.mode.toNat < m.ms.length := fun h => by
    rw [inB_iff.2 ⟨h1.2.1.1, by omega⟩] at hm; cases hm
  have h3 : m.d.ms[s.mode.toNat]? = none := List.getElem?_eq_none (by rw [show m.d.ms.length = m.ms.length from List.length_map ..]; omega)
  simp [belongsB, hk, h3]
theorem bel_no3 {m : MedlI} {s : StateI} {j : Nat} {x : ModeI} (hj : s.mode = (j : Int)) (hx : m.ms[j]? = some x) (h : x.m.rounds ≤ s.round ∨ x.m.slots ≤ s.slot) : belongsB m.d s = false := by
  have e : s.mode.toNat = j := by omega
  cases hb : belongsB m.d s
  · rfl
  · simp only [belongsB, e, get_D hx, Bool.and_eq_true, decide_eq_true_eq] at hb
    omega
theorem mask_dec {z : Int} {b : Nat} (h : 0 ≤ z) : decide (((z.toNat &&& b : Nat) : Int) = z) = decide (lackN z.toNat b = 0) := by
  rw [Bool.eq_iff_iff, decide_eq_true_eq, decide_eq_true_eq, ← mask_eq]
  omega
theorem startD_cons_t {m r s : Int} {x : SlotI} {l : List SlotI} (h : beforeB m r s x = true) : startD (x :: l) m r s = x.desc.duration + startD l m r s := by
  unfold startD; rw [List.filter_cons_of_pos h, sumD]
theorem startD_cons_f {m r s : Int} {x : SlotI} {l : List SlotI} (h : beforeB m r s x = false) : startD (x :: l) m r s = startD l m r s := by
  unfold startD; rw [List.filter_cons_of_neg (by simp [h])]
theorem startD_in {l : List SlotI} (h : ∀ x ∈ l, slotOk x = true) (m r s : Int) : 0 ≤ startD l m r s ∧ startD l m r s ≤ 1000 * l.length := by
  have h1 := sumD_in (l.filter (beforeB m r s)) fun x hx => by have := slotI (h x (List.mem_filter.1 hx).1); omega
  have h2 := List.length_filter_le (beforeB m r s) l
  unfold startD; omega
theorem cyc_in {l : List SlotI} (h : ∀ x ∈ l, slotOk x = true) (mode : Int) : 0 ≤ cyc l mode ∧ cyc l mode ≤ 1000 * l.length := by
  have h1 := sumD_in (ofMode mode l) fun x hx => by have := slotI (h x (ofMode_sub _ _ x hx).1); omega
  have h2 := ofMode_len mode l
  unfold cyc; omega
/-- what a state that belongs to a schedule brings -/
theorem bel_get {m : MedlI} {s : StateI} (hW : WellF m.d) (hB : belongsB m.d s = true) : ∃ (k : Nat) (x : ModeI) (j : Nat) (y : SlotI), Bel m.d s k x.m ∧ m.ms[k]? = some x ∧ ((1 ≤ x.m.rounds ∧ x.m.rounds ≤ 8) ∧ (1 ≤ x.m.slots ∧ x.m.slots ≤ 16)) ∧
    findS (hitS s.mode s.round s.slot) 0 m.ss = (j : Int) ∧ m.ss[j]? = some y ∧ descAt m.ss s.mode s.round s.slot = y.desc ∧ slotsOf m.d s.mode = x.m.slots ∧ roundsOf m.d s.mode = x.m.rounds ∧ nextOf m.d s.mode = x.m.next ∧ (1 ≤ y.desc.duration ∧ y.desc.duration ≤ 1000) := by
  obtain ⟨k, x0, bl⟩ := belongs_iff.1 hB
  obtain ⟨x, hx, rfl⟩ := get_I bl.at_
  obtain ⟨j, y, h1, h2, _, _, _, h3⟩ := slot_find hW.co bl.at_ bl.rd bl.sl
  have h4 := of_get bl.at_
  rw [← bl.md] at h1 h3 h4
  exact ⟨k, x, j, y, bl, hx, isMT_in hW.mt x.m (List.mem_of_getElem? bl.at_), h1, h2, h3, h4.2.1, h4.1, h4.2.2, (slotI (isST_all hW.st y (List.mem_of_getElem? h2))).2.2⟩
theorem start_bel {m : MedlI} {s : StateI} {k : Nat} {x : Mode} (hW : WellF m.d) (bl : Bel m.d s k x) (hs1 : 1 ≤ x.slots ∧ x.slots ≤ 16) :
    startD m.ss s.mode s.round s.slot = sumD ((ofMode s.mode m.ss).take (s.round.toNat * x.slots.toNat + s.slot.toNat)) ∧ s.round.toNat * x.slots.toNat + s.slot.toNat ≤ (ofMode s.mode m.ss).length ∧
    s.round * x.slots + s.slot = ((s.round.toNat * x.slots.toNat + s.slot.toNat : Nat) : Int) := by
  have h1 := bl.rd
  have h2 := bl.sl
  have h3 := start_take hW.co bl.at_ hs1.1 (r := s.round.toNat) (s := s.slot.toNat) (by omega)
  have h4 := ofMode_length hW.co bl.at_
  rw [Int.toNat_of_nonneg h1.1, Int.toNat_of_nonneg h2.1, ← bl.md] at h3
  rw [← bl.md] at h4
  have h5 : (s.round.toNat + 1) * x.slots.toNat ≤ x.rounds.toNat * x.slots.toNat := Nat.mul_le_mul_right _ (by omega)
  rw [Nat.add_mul] at h5
  refine ⟨h3, ?_, ?_⟩
  · show _ ≤ (ofMode s.mode m.d.ss).length
    rw [h4]; omega
  · rw [Int.natCast_add, Int.natCast_mul, Int.toNat_of_nonneg h1.1, Int.toNat_of_nonneg h2.1, Int.toNat_of_nonneg (by omega)]
theorem start_cyc {l : List SlotI} (h : ∀ x ∈ l, slotOk x = true) (m r s : Int) : startD l m r s ≤ cyc l m := by
  have e : l.filter (beforeB m r s) = (ofMode m l).filter (fun x => decide (x.round < r) || (decide (x.round = r) && decide (x.slot < s))) := by
    rw [ofMode, List.filter_filter]
    congr 1
    funext y
    simp [beforeB, Bool.and_comm]
  have h2 : ∀ (l : List SlotI) (p : SlotI → Bool), (∀ x ∈ l, 0 ≤ x.desc.duration) → sumD (l.filter p) ≤ sumD l := by
    intro l p
    induction l with
    | nil => intro _; simp
    | cons x r ih =>
      intro hx
      have h3 := ih fun y hy => hx y (by simp [hy])
      have h4 := hx x (by simp)
      rw [List.filter_cons]
      split
      · rw [sumD, sumD]; omega
      · rw [sumD]; omega
  unfold startD cyc
  rw [e]
  exact h2 _ _ fun x hx => by have := slotI (h x (ofMode_sub _ _ x hx).1); omega
def atP (ss : List SlotI) (mode time : Int) (x : SlotI) : Bool := decide (x.mode = mode) && decide (time < startD ss mode x.round x.slot + x.desc.duration)
theorem atS_def (ss : List SlotI) (mode time : Int) : atS ss mode time = ss.find? (atP ss mode time) := rfl
theorem find_t {p : SlotI → Bool} {x : SlotI} {r : List SlotI} (h : p x = true) : (x :: r).find? p = some x := by rw [List.find?_cons, h]
theorem find_f {p : SlotI → Bool} {x : SlotI} {r : List SlotI} (h : p x = false) : (x :: r).find? p = r.find? p := by rw [List.find?_cons, h]
end Go.Proofs.YtojgfbbdjobdnaaGreatDoor
