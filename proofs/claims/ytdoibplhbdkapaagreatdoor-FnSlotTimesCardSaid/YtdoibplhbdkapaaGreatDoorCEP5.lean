/- Texts of the seat that a law needs, put together. No condition. -/
import Derived.Test.YtdoibplhbdkapaaGreatDoorCEP4
import Derived.Test.YtdoibplhbdkapaaGreatDoorCEP3
namespace Go.Proofs.YtdoibplhbdkapaaGreatDoor
open Go.RowKit
set_option linter.unusedVariables false
set_option linter.unusedSimpArgs false

/-- the lists of a schedule are rows of the call's own -/
structure MOwn (w : World) (lo : Nat) (tN tM tI tS : TypeId) (m : MedlI) : Prop where
  on : Own w lo tN 4 m.An m.ns.length m.cn (m.ns.flatMap NodeI.cells)
  om : Own w lo tM 3 m.Am m.ms.length m.cm (m.ms.flatMap ModeI.cells)
  ox : NOwn w lo tI m.ms
  od : Disj m.ms
  os : Own w lo tS 8 m.As m.ss.length m.cs (m.ss.flatMap SlotI.cells)
section
variable {w w' : World} {lo lo' n c s g : Nat} {tN tM tI tS t' : TypeId} {m : MedlI} {A : Option Addr} {cs : List Value}
theorem MOwn.ext (h : MOwn w lo tN tM tI tS m) (hb : Ext w w') : MOwn w' lo tN tM tI tS m := ⟨h.on.ext hb, h.om.ext hb, h.ox.ext hb, h.od, h.os.ext hb⟩
theorem MOwn.low (h : MOwn w lo tN tM tI tS m) (hl : lo' ≤ lo) : MOwn w lo' tN tM tI tS m := ⟨h.on.low hl, h.om.low hl, h.ox.low hl, h.od, h.os.low hl⟩
theorem MOwn.med (h : MOwn w lo tN tM tI tS m) : Med w.heap.size w m := ⟨Nat.le_refl _, h.on.sl, h.om.sl, h.ox.nexts, h.os.sl, h.on.cap⟩
theorem MOwn.sn (h : MOwn w lo tN tM tI tS m) : Sl w.heap.size w m.An (m.ns.flatMap NodeI.cells) := h.on.sl
theorem MOwn.sm (h : MOwn w lo tN tM tI tS m) : Sl w.heap.size w m.Am (m.ms.flatMap ModeI.cells) := h.om.sl
theorem MOwn.sx (h : MOwn w lo tN tM tI tS m) : Nexts w.heap.size w m.ms := h.ox.nexts
theorem MOwn.ss (h : MOwn w lo tN tM tI tS m) : Sl w.heap.size w m.As (m.ss.flatMap SlotI.cells) := h.os.sl
theorem MOwn.grownB {t' : TypeId} {ds : List Value} (h : MOwn w lo tN tM tI tS m) (k : Blk w g t' ds) (hg : w.grownBy w' (some g)) (ht : tN ≠ t' ∧ tM ≠ t' ∧ tI ≠ t' ∧ tS ≠ t') : MOwn w' lo tN tM tI tS m :=
  ⟨h.on.grownBlk hg (Own.neT h.on k ht.1), h.om.grownBlk hg (Own.neT h.om k ht.2.1), h.ox.grownB k hg ht.2.2.1, h.od, h.os.grownBlk hg (Own.neT h.os k ht.2.2.2)⟩
end
end Go.Proofs.YtdoibplhbdkapaaGreatDoor
namespace Go.Proofs.YtdoibplhbdkapaaGreatDoor
open Go.RowKit
set_option linter.unusedVariables false
set_option linter.unusedSimpArgs false

def isMedl (d : MedlD) : Bool := decide (ffault d = 0)
structure WellF (d : MedlD) : Prop where
  id : inB d.id 1 16777215 = true
  nt : isNT d.ns = true
  mt : isMT d.ms = true
  st : isST d.ss = true
  co : complete d = true
  se : sendersB d = true
  sd : steady d.ss = true
  sh : shortB d = true
  sv : servS (actV d.ns) d.ss 0 d.ms = true
  cd : coldB d.ss = false
theorem isMedl_iff {d : MedlD} : isMedl d = true ↔ WellF d := by
  rw [isMedl, decide_eq_true_eq, ffault]
  constructor
  · intro h
    repeat' split at h
    all_goals first | (exfalso; omega) | skip
    rename_i h1 h2 h3 h4 h5 h6 h7 h8 h9 h10
    exact ⟨by simpa using h1, by simpa using h2, by simpa using h3, by simpa using h4, by simpa using h5, by simpa using h6, by simpa using h7, by simpa using h8, by simpa using h9, by simpa using h10⟩
  · intro h
    simp [h.id, h.nt, h.mt, h.st, h.co, h.se, h.sd, h.sh, h.sv, h.cd]
def modeC (d : MedlD) (mode : Int) : Int := if isMedl d = true then (if inB mode 0 ((d.ms.length : Int) - 1) = true then 0 else 2) else 1
def stateOk (s : StateI) : Bool := inB s.time 0 65535 && inB s.mode 0 15 && inB s.round 0 15 && inB s.slot 0 255 && inB s.members 0 4294967295
def belongsB (d : MedlD) (s : StateI) : Bool := stateOk s && (match d.ms[s.mode.toNat]? with
  | some x => decide (s.round < x.rounds) && decide (s.slot < x.slots) && decide (lackN s.members.toNat (actV d.ns) = 0)
  | none => false)
def lookC (d : MedlD) (s : StateI) : Int := if isMedl d = true then (if belongsB d s = true then 0 else 2) else 1
def descAt (ss : List SlotI) (m r s : Int) : Desc := match ss[(findS (hitS m r s) 0 ss).toNat]? with
  | some x => x.desc
  | none => ⟨0, 0, 0, 0, false⟩
def roundsOf (d : MedlD) (mode : Int) : Int := match d.ms[mode.toNat]? with
  | some x => x.rounds
  | none => 1
def slotsOf (d : MedlD) (mode : Int) : Int := match d.ms[mode.toNat]? with
  | some x => x.slots
  | none => 1
def nextOf (d : MedlD) (mode : Int) : List Int := match d.ms[mode.toNat]? with
  | some x => x.next
  | none => []
def descF (d : MedlD) (s : StateI) : Desc × Int := if lookC d s = 0 then (descAt d.ss s.mode s.round s.slot, 0) else (⟨0, 0, 0, 0, false⟩, lookC d s)
def advS (s : StateI) (dur slots rounds : Int) : StateI := if s.slot + 1 = slots then ⟨(s.time + dur) % 65536, s.mode, (s.round + 1) % rounds, 0, s.members⟩ else ⟨(s.time + dur) % 65536, s.mode, s.round, s.slot + 1, s.members⟩
def nextS (d : MedlD) (s : StateI) : StateI := advS s (descAt d.ss s.mode s.round s.slot).duration (slotsOf d s.mode) (roundsOf d s.mode)
def zeroS : StateI := ⟨0, 0, 0, 0, 0⟩
def nextF (d : MedlD) (s : StateI) : StateI × Int := if lookC d s = 0 then (nextS d s, 0) else (zeroS, lookC d s)
def beforeB (m r s : Int) (x : SlotI) : Bool := decide (x.mode = m) && (decide (x.round < r) || (decide (x.round = r) && decide (x.slot < s)))
def startD (ss : List SlotI) (m r s : Int) : Int := sumD (ss.filter (beforeB m r s))
def startF (d : MedlD) (s : StateI) : Int × Int := if lookC d s = 0 then (startD d.ss s.mode s.round s.slot, 0) else (0, lookC d s)
def atF (time : Int) : Int → List SlotI → Option SlotI
  | _, [] => none
  | a, x :: r => if time < a + x.desc.duration then some x else atF time (a + x.desc.duration) r
def slotAtF (d : MedlD) (mode time : Int) : Int × Int × Int := if modeC d mode = 0 then (if time < 0 then (0, 0, 4) else match atF time 0 (ofMode mode d.ss) with
  | some x => (x.round, x.slot, 0)
  | none => (0, 0, 4)) else (0, 0, modeC d mode)
theorem mode_get {d : MedlD} {mode : Int} (h : inB mode 0 ((d.ms.length : Int) - 1) = true) : ∃ (k : Nat) (x : Mode), mode = (k : Int) ∧ d.ms[k]? = some x := by
  have h1 := inB_iff.1 h
  exact ⟨mode.toNat, d.ms[mode.toNat]'(by omega), by omega, List.getElem?_eq_getElem _⟩
theorem of_get {d : MedlD} {k : Nat} {x : Mode} (h : d.ms[k]? = some x) : roundsOf d (k : Int) = x.rounds ∧ slotsOf d (k : Int) = x.slots ∧ nextOf d (k : Int) = x.next := by
  simp [roundsOf, slotsOf, nextOf, h]
theorem filter_keysM {i : Int} : ∀ (ms : List Mode) (i : Int) (j : Nat) (x : Mode), ms[j]? = some x → (keysM i ms).filter (fun k => decide (k.1 = i + j)) = keyM (i + j) x
  | [], i, j, x, h => by simp at h
  | y :: r, i, 0, x, h => by
    simp at h; subst h
    have e1 : (keyM i y).filter (fun k => decide (k.1 = i + ((0 : Nat) : Int))) = keyM i y := List.filter_eq_self.2 fun k hk => by have := mem_keyM.1 hk; simp [this.1]
    have e2 : (keysM (i + 1) r).filter (fun k => decide (k.1 = i + ((0 : Nat) : Int))) = [] := List.filter_eq_nil_iff.2 fun k hk => by
      obtain ⟨j, z, _, h2⟩ := (mem_keysM r (i + 1)).1 hk
      have := (mem_keyM.1 h2).1
      simp; omega
    rw [keysM, List.filter_append, e1, e2]; simp
  | y :: r, i, j + 1, x, h => by
    have e1 : (keyM i y).filter (fun k => decide (k.1 = i + ((j + 1 : Nat) : Int))) = [] := List.filter_eq_nil_iff.2 fun k hk => by have := (mem_keyM.1 hk).1; simp; omega
    have e2 := filter_keysM (i := i) r (i + 1) j x (by simpa using h)
    rw [keysM, List.filter_append, e1, List.nil_append, show i + ((j + 1 : Nat) : Int) = i + 1 + j by omega]
    exact e2
theorem ofMode_keys {d : MedlD} (hc : complete d = true) {k : Nat} {x : Mode} (hx : d.ms[k]? = some x) : (ofMode (k : Int) d.ss).map SlotI.key = keyM (k : Int) x := by
  simp only [complete, decide_eq_true_eq] at hc
  have h1 := filter_keysM (i := 0) d.ms 0 k x hx
  rw [← hc, List.filter_map] at h1
  rw [show (0 : Int) + k = k by omega] at h1
  exact h1
theorem ofMode_at {d : MedlD} (hc : complete d = true) {k : Nat} {x : Mode} (hx : d.ms[k]? = some x) {j : Nat} {y : SlotI} (hy : (ofMode (k : Int) d.ss)[j]? = some y) :
    y.mode = k ∧ y.round = ((j / x.slots.toNat : Nat) : Int) ∧ y.slot = ((j % x.slots.toNat : Nat) : Int) ∧ j < x.rounds.toNat * x.slots.toNat := by
  have h1 := ofMode_keys hc hx
  have h2 : j < x.rounds.toNat * x.slots.toNat := by
    have := congrArg List.length h1
    rw [List.length_map, keyM_len] at this
    have := (List.getElem?_eq_some_iff.1 hy).1
    omega
  have h3 : ((ofMode (k : Int) d.ss).map SlotI.key)[j]? = some y.key := by simp [hy]
  rw [h1, keyM_at h2] at h3
  injection h3 with h3
  simp only [SlotI.key, Prod.mk.injEq] at h3
  exact ⟨h3.1.symm, h3.2.1.symm, h3.2.2.symm, h2⟩
theorem ofMode_length {d : MedlD} (hc : complete d = true) {k : Nat} {x : Mode} (hx : d.ms[k]? = some x) : (ofMode (k : Int) d.ss).length = x.rounds.toNat * x.slots.toNat := by
  have := congrArg List.length (ofMode_keys hc hx)
  rwa [List.length_map, keyM_len] at this
theorem filter_take {α : Type} {p : α → Bool} : ∀ (l : List α) (n : Nat), (∀ (j : Nat) (x : α), l[j]? = some x → (p x = true ↔ j < n)) → l.filter p = l.take n
  | [], n, _ => by simp
  | x :: r, 0, h => by
    have h1 : p x = false := by have := h 0 x rfl; simpa using this
    rw [List.take_zero, List.filter_cons_of_neg (by simp [h1])]
    have := filter_take (p := p) r 0 (fun j y hy => by have := h (j + 1) y (by simpa using hy); simpa using this)
    simpa using this
  | x :: r, n + 1, h => by
    have h1 : p x = true := (h 0 x rfl).2 (by omega)
    rw [List.take_succ_cons, List.filter_cons_of_pos h1, filter_take r n (fun j y hy => by have := h (j + 1) y (by simpa using hy); rw [this]; omega)]
theorem lex_lt {j n r s : Nat} (hn : 0 < n) (hs : s ≤ n) : (j / n < r ∨ (j / n = r ∧ j % n < s)) ↔ j < r * n + s := by
  have h1 := Nat.div_add_mod j n
  have h2 := Nat.mod_lt j hn
  generalize j / n = a at *
  generalize j % n = b at *
  subst h1
  constructor
  · rintro (h | ⟨h, h3⟩)
    · have : n * (a + 1) ≤ n * r := Nat.mul_le_mul_left _ h
      rw [Nat.mul_add, Nat.mul_comm n r] at this; omega
    · subst h; rw [Nat.mul_comm]; omega
  · intro h
    rcases Nat.lt_trichotomy a r with h3 | h3 | h3
    · exact .inl h3
    · subst h3; rw [Nat.mul_comm] at h; exact .inr ⟨rfl, by omega⟩
    · exfalso
      have : n * (r + 1) ≤ n * a := Nat.mul_le_mul_left _ h3
      rw [Nat.mul_add, Nat.mul_comm n r] at this; omega
theorem start_take {d : MedlD} (hc : complete d = true) {k : Nat} {x : Mode} (hx : d.ms[k]? = some x) (hs1 : 1 ≤ x.slots) {r s : Nat} (hs : (s : Int) ≤ x.slots) :
    startD d.ss k r s = sumD ((ofMode (k : Int) d.ss).take (r * x.slots.toNat + s)) := by
  have e : d.ss.filter (beforeB k r s) = (ofMode (k : Int) d.ss).filter (fun x => decide (x.round < (r : Int)) || (decide (x.round = (r : Int)) && decide (x.slot < (s : Int)))) := by
    rw [ofMode, List.filter_filter]
    congr 1
    funext y
    simp [beforeB, Bool.and_comm]
  unfold startD
  rw [e, filter_take _ (r * x.slots.toNat + s) fun j y hy => ?_]
  obtain ⟨h1, h2, h3, h4⟩ := ofMode_at hc hx hy
  rw [← lex_lt (by omega) (by omega)]
  simp only [Bool.or_eq_true, Bool.and_eq_true, decide_eq_true_eq, h2, h3]
  omega
theorem start_at {d : MedlD} (hc : complete d = true) {k : Nat} {x : Mode} (hx : d.ms[k]? = some x) (hs1 : 1 ≤ x.slots) {j : Nat} {y : SlotI} (hy : (ofMode (k : Int) d.ss)[j]? = some y) :
    startD d.ss k y.round y.slot = sumD ((ofMode (k : Int) d.ss).take j) := by
  obtain ⟨h1, h2, h3, h4⟩ := ofMode_at hc hx hy
  have h5 : j % x.slots.toNat < x.slots.toNat := Nat.mod_lt _ (by omega)
  rw [h2, h3, start_take hc hx hs1 (by omega), Nat.mul_comm, Nat.div_add_mod]
theorem atF_find {L : List SlotI} {q : SlotI → Bool} {time : Int} (hq : ∀ (j : Nat) (y : SlotI), L[j]? = some y → q y = decide (time < sumD (L.take j) + y.desc.duration)) :
    ∀ (n : Nat) (k : Nat), L.length - k = n → atF time (sumD (L.take k)) (L.drop k) = (L.drop k).find? q
  | 0, k, h => by rw [List.drop_eq_nil_of_le (by omega)]; rfl
  | n + 1, k, h => by
    have hk : k < L.length := by omega
    have h1 := hq k L[k] (List.getElem?_eq_getElem hk)
    have e : sumD (L.take (k + 1)) = sumD (L.take k) + L[k].desc.duration := by
      rw [List.take_add_one, List.getElem?_eq_getElem hk, sumD_app]; simp [sumD]
    rw [List.drop_eq_getElem_cons hk, atF, List.find?_cons, h1, ← e, atF_find hq n (k + 1) (by omega)]
    split
    · rename_i h2; rw [decide_eq_true (by omega)]
    · rename_i h2; rw [decide_eq_false (by omega)]
/-- the way of the reference -/
def atS (ss : List SlotI) (mode time : Int) : Option SlotI := ss.find? fun x => decide (x.mode = mode) && decide (time < startD ss mode x.round x.slot + x.desc.duration)
theorem atS_eq {d : MedlD} (hc : complete d = true) {k : Nat} {x : Mode} (hx : d.ms[k]? = some x) (hs1 : 1 ≤ x.slots) (time : Int) : atS d.ss k time = atF time 0 (ofMode (k : Int) d.ss) := by
  have h1 := atF_find (L := ofMode (k : Int) d.ss) (q := fun y => decide (time < startD d.ss k y.round y.slot + y.desc.duration)) (time := time) (fun j y hy => by rw [start_at hc hx hs1 hy]) _ 0 rfl
  simp only [List.take_zero, List.drop_zero, sumD] at h1
  rw [h1, atS, ofMode, List.find?_filter]
  congr 1
  funext a
  rw [Bool.eq_iff_iff]
  simp
theorem mask_eq {a b : Nat} : a &&& b = a ↔ lackN a b = 0 := by
  rw [lack_zero]
  constructor
  · intro h i hi
    have h1 := congrArg (fun n => n.testBit i) h
    simp only [Nat.testBit_and, hi, Bool.true_and] at h1
    exact h1
  · intro h
    apply Nat.eq_of_testBit_eq
    intro i
    rw [Nat.testBit_and]
    cases ha : a.testBit i
    · rfl
    · rw [h i ha]; rfl
/-- a slot of a well-formed schedule has its entry -/
theorem slot_find {d : MedlD} (hc : complete d = true) {k : Nat} {x : Mode} (hx : d.ms[k]? = some x) {r s : Int} (hr : 0 ≤ r ∧ r < x.rounds) (hs : 0 ≤ s ∧ s < x.slots) :
    ∃ (j : Nat) (y : SlotI), findS (hitS (k : Int) r s) 0 d.ss = (j : Int) ∧ d.ss[j]? = some y ∧ y.mode = k ∧ y.round = r ∧ y.slot = s ∧ descAt d.ss k r s = y.desc := by
  simp only [complete, decide_eq_true_eq] at hc
  have h5 : (((k : Int), r, s) : Int × Int × Int) ∈ keysM 0 d.ms := (mem_keysM d.ms 0).2 ⟨k, x, hx, mem_keyM.2 ⟨by simp, hr, hs⟩⟩
  rw [← hc] at h5
  have h6 := hitK_iff.2 (List.mem_map.1 h5)
  simp only [hitK, decide_eq_true_eq] at h6
  rcases findS_lt (f := hitS (k : Int) r s) d.ss 0 with h7 | ⟨i, y, h7, h8, h9⟩
  · rw [show ((0 : Nat) : Int) = 0 from rfl] at h7; omega
  · have h10 := (hitS_key (k := ((k : Int), r, s))).1 h9
    simp only [SlotI.key, Prod.mk.injEq] at h10
    have h11 : findS (hitS (k : Int) r s) 0 d.ss = (i : Int) := by rw [show ((0 : Nat) : Int) = 0 from rfl] at h7; rw [h7]; congr 1; omega
    exact ⟨i, y, h11, h8, h10.1, h10.2.1, h10.2.2, by simp [descAt, h11, h8]⟩
theorem stateOk_in {s : StateI} (h : stateOk s = true) : (0 ≤ s.time ∧ s.time ≤ 65535) ∧ (0 ≤ s.mode ∧ s.mode ≤ 15) ∧ (0 ≤ s.round ∧ s.round ≤ 15) ∧ (0 ≤ s.slot ∧ s.slot ≤ 255) ∧ (0 ≤ s.members ∧ s.members ≤ 4294967295) := by
  simp only [stateOk, Bool.and_eq_true] at h
  exact ⟨inB_iff.1 h.1.1.1.1, inB_iff.1 h.1.1.1.2, inB_iff.1 h.1.1.2, inB_iff.1 h.1.2, inB_iff.1 h.2⟩
structure Bel (d : MedlD) (s : StateI) (k : Nat) (x : Mode) : Prop where
  ok : stateOk s = true
  md : s.mode = (k : Int)
  at_ : d.ms[k]? = some x
  rd : 0 ≤ s.round ∧ s.round < x.rounds
  sl : 0 ≤ s.slot ∧ s.slot < x.slots
  mb : lackN s.members.toNat (actV d.ns) = 0
theorem belongs_iff {d : MedlD} {s : StateI} : belongsB d s = true ↔ ∃ k x, Bel d s k x := by
  constructor
  · intro h
    simp only [belongsB, Bool.and_eq_true] at h
    obtain ⟨h1, h2⟩ := h
    have h3 := stateOk_in h1
    split at h2
    · rename_i x hx
      simp only [Bool.and_eq_true, decide_eq_true_eq] at h2
      exact ⟨s.mode.toNat, x, h1, by omega, hx, ⟨by omega, h2.1.1⟩, ⟨by omega, h2.1.2⟩, h2.2⟩
    · cases h2
  · rintro ⟨k, x, h⟩
    have e : s.mode.toNat = k := by have := h.md; omega
    simp only [belongsB, h.ok, e, h.at_, Bool.true_and, Bool.and_eq_true, decide_eq_true_eq]
    exact ⟨⟨h.rd.2, h.sl.2⟩, h.mb⟩
theorem lookC_zero {d : MedlD} {s : StateI} : lookC d s = 0 ↔ isMedl d = true ∧ belongsB d s = true := by
  unfold lookC; split
  · split <;> simp_all
  · simp_all
theorem modeC_zero {d : MedlD} {mode : Int} : modeC d mode = 0 ↔ isMedl d = true ∧ inB mode 0 ((d.ms.length : Int) - 1) = true := by
  unfold modeC; split
  · split <;> simp_all
  · simp_all

theorem modeC_m (m : MedlI) (mode : Int) : modeC m.d mode = if isMedl m.d = true then (if inB mode 0 ((m.ms.length : Int) - 1) = true then 0 else 2) else 1 := by
  unfold modeC
  rw [show m.d.ms.length = m.ms.length from List.length_map ..]
theorem get_I {m : MedlI} {k : Nat} {x : Mode} (h : m.d.ms[k]? = some x) : ∃ y : ModeI, m.ms[k]? = some y ∧ y.m = x := by
  have h1 : (m.ms.map (·.m))[k]? = some x := h
  rw [List.getElem?_map] at h1
  cases h2 : m.ms[k]? with
  | none => rw [h2] at h1; simp at h1
  | some y => rw [h2] at h1; simp at h1; exact ⟨y, rfl, h1⟩
theorem get_D {m : MedlI} {k : Nat} {x : ModeI} (h : m.ms[k]? = some x) : m.d.ms[k]? = some x.m := by
  show (m.ms.map (·.m))[k]? = some x.m
  rw [List.getElem?_map, h]; rfl
theorem mode_atI {xs : List ModeI} {mode : Int} (h : inB mode 0 ((xs.length : Int) - 1) = true) : ∃ (j : Nat) (x : ModeI), mode = (j : Int) ∧ xs[j]? = some x := by
  have h1 := inB_iff.1 h
  exact ⟨mode.toNat, xs[mode.toNat]'(by omega), by omega, List.getElem?_eq_getElem _⟩
theorem mb_and {z : Int} {b : Nat} (h : 0 ≤ z ∧ z ≤ 4294967295) (hb : b < 4294967296) : bitsV .and .i64 z (b : Int) = ((z.toNat &&& b : Nat) : Int) := by
  have e : z = ((z.toNat : Nat) : Int) := by omega
  rw [e, Int.toNat_natCast]
  exact bits_and (by omega) (by omega)
theorem mb_andNot {z : Int} {b : Nat} (h : 0 ≤ z ∧ z ≤ 4294967295) (hb : b < 4294967296) : bitsV .andNot .i64 z (b : Int) = (lackN z.toNat b : Int) := by
  have e : z = ((z.toNat : Nat) : Int) := by omega
  rw [e, Int.toNat_natCast]
  exact bits_andNot (by omega) (by omega)
theorem bel_eq {m : MedlI} {s : StateI} {j : Nat} {x : ModeI} (hk : stateOk s = true) (hj : s.mode = (j : Int)) (hx : m.ms[j]? = some x) (hr : s.round < x.m.rounds) (hs : s.slot < x.m.slots) : belongsB m.d s = decide (lackN s.members.toNat (actV m.ns) = 0) := by
  have e : s.mode.toNat = j := by omega
  simp only [belongsB, hk, e, get_D hx, decide_eq_true hr, decide_eq_true hs, Bool.true_and]; rfl
theorem bel_no1 {m : MedlI} {s : StateI} (hk : stateOk s = false) : belongsB m.d s = false := by simp [belongsB, hk]
theorem bel_no2 {m : MedlI} {s : StateI} (hk : stateOk s = true) (hm : inB s.mode 0 ((m.ms.length : Int) - 1) = false) : belongsB m.d s = false := by
  have h1 := stateOk_in hk
  have h2 : ¬ s.mode.toNat < m.ms.length := fun h => by
    rw [inB_iff.2 ⟨h1.2.1.1, by omega⟩] at hm; cases hm
  have h3 : m.d.ms[s.mode.toNat]? = none := List.getElem?_eq_none (by rw [show m.d.ms.length = m.ms.length from List.length_map ..]; omega)
  simp [belongsB, hk, h3]
theorem bel_no3 {m : MedlI} {s : StateI} {j : Nat} {x : ModeI} (hj : s.mode = (j : Int)) (hx : m.ms[j]? = some x) (h : x.m.rounds ≤ s.round ∨ x.m.slots ≤ s.slot) : belongsB m.d s = false := by
  have e : s.mode.toNat = j := by omega
  cases hb : belongsB m.d s
  · rfl
  · simp only [belongsB, e, get_D hx, Bool.and_eq_true, decide_eq_true_eq] at hb
    omega
theorem mask_dec {z : Int} {b : Nat} (h : 0 ≤ z) : decide (((z.toNat &&& b : Nat) : Int) = z) = decide (lackN z.toNat b = 0) := by
  rw [Bool.eq_iff_iff, decide_eq_true_eq, decide_eq_true_eq, ← mask_eq]
  omega
theorem startD_cons_t {m r s : Int} {x : SlotI} {l : List SlotI} (h : beforeB m r s x = true) : startD (x :: l) m r s = x.desc.duration + startD l m r s := by
  unfold startD; rw [List.filter_cons_of_pos h, sumD]
theorem startD_cons_f {m r s : Int} {x : SlotI} {l : List SlotI} (h : beforeB m r s x = false) : startD (x :: l) m r s = startD l m r s := by
  unfold startD; rw [List.filter_cons_of_neg (by simp [h])]
theorem startD_in {l : List SlotI} (h : ∀ x ∈ l, slotOk x = true) (m r s : Int) : 0 ≤ startD l m r s ∧ startD l m r s ≤ 1000 * l.length := by
  have h1 := sumD_in (l.filter (beforeB m r s)) fun x hx => by have := slotI (h x (List.mem_filter.1 hx).1); omega
  have h2 := List.length_filter_le (beforeB m r s) l
  unfold startD; omega
/-- what a state that belongs to a schedule brings -/
theorem bel_get {m : MedlI} {s : StateI} (hW : WellF m.d) (hB : belongsB m.d s = true) : ∃ (k : Nat) (x : ModeI) (j : Nat) (y : SlotI), Bel m.d s k x.m ∧ m.ms[k]? = some x ∧ ((1 ≤ x.m.rounds ∧ x.m.rounds ≤ 8) ∧ (1 ≤ x.m.slots ∧ x.m.slots ≤ 16)) ∧
    findS (hitS s.mode s.round s.slot) 0 m.ss = (j : Int) ∧ m.ss[j]? = some y ∧ descAt m.ss s.mode s.round s.slot = y.desc ∧ slotsOf m.d s.mode = x.m.slots ∧ roundsOf m.d s.mode = x.m.rounds ∧ nextOf m.d s.mode = x.m.next ∧ (1 ≤ y.desc.duration ∧ y.desc.duration ≤ 1000) := by
  obtain ⟨k, x0, bl⟩ := belongs_iff.1 hB
  obtain ⟨x, hx, rfl⟩ := get_I bl.at_
  obtain ⟨j, y, h1, h2, _, _, _, h3⟩ := slot_find hW.co bl.at_ bl.rd bl.sl
  have h4 := of_get bl.at_
  rw [← bl.md] at h1 h3 h4
  exact ⟨k, x, j, y, bl, hx, isMT_in hW.mt x.m (List.mem_of_getElem? bl.at_), h1, h2, h3, h4.2.1, h4.1, h4.2.2, (slotI (isST_all hW.st y (List.mem_of_getElem? h2))).2.2⟩
theorem start_bel {m : MedlI} {s : StateI} {k : Nat} {x : Mode} (hW : WellF m.d) (bl : Bel m.d s k x) (hs1 : 1 ≤ x.slots ∧ x.slots ≤ 16) :
    startD m.ss s.mode s.round s.slot = sumD ((ofMode s.mode m.ss).take (s.round.toNat * x.slots.toNat + s.slot.toNat)) ∧ s.round.toNat * x.slots.toNat + s.slot.toNat ≤ (ofMode s.mode m.ss).length ∧
    s.round * x.slots + s.slot = ((s.round.toNat * x.slots.toNat + s.slot.toNat : Nat) : Int) := by
  have h1 := bl.rd
  have h2 := bl.sl
  have h3 := start_take hW.co bl.at_ hs1.1 (r := s.round.toNat) (s := s.slot.toNat) (by omega)
  have h4 := ofMode_length hW.co bl.at_
  rw [Int.toNat_of_nonneg h1.1, Int.toNat_of_nonneg h2.1, ← bl.md] at h3
  rw [← bl.md] at h4
  have h5 : (s.round.toNat + 1) * x.slots.toNat ≤ x.rounds.toNat * x.slots.toNat := Nat.mul_le_mul_right _ (by omega)
  rw [Nat.add_mul] at h5
  refine ⟨h3, ?_, ?_⟩
  · show _ ≤ (ofMode s.mode m.d.ss).length
    rw [h4]; omega
  · rw [Int.natCast_add, Int.natCast_mul, Int.toNat_of_nonneg h1.1, Int.toNat_of_nonneg h2.1, Int.toNat_of_nonneg (by omega)]
theorem start_cyc {l : List SlotI} (h : ∀ x ∈ l, slotOk x = true) (m r s : Int) : startD l m r s ≤ cyc l m := by
  have e : l.filter (beforeB m r s) = (ofMode m l).filter (fun x => decide (x.round < r) || (decide (x.round = r) && decide (x.slot < s))) := by
    rw [ofMode, List.filter_filter]
    congr 1
    funext y
    simp [beforeB, Bool.and_comm]
  have h2 : ∀ (l : List SlotI) (p : SlotI → Bool), (∀ x ∈ l, 0 ≤ x.desc.duration) → sumD (l.filter p) ≤ sumD l := by
    intro l p
    induction l with
    | nil => intro _; simp
    | cons x r ih =>
      intro hx
      have h3 := ih fun y hy => hx y (by simp [hy])
      have h4 := hx x (by simp)
      rw [List.filter_cons]
      split
      · rw [sumD, sumD]; omega
      · rw [sumD]; omega
  unfold startD cyc
  rw [e]
  exact h2 _ _ fun x hx => by have := slotI (h x (ofMode_sub _ _ x hx).1); omega
def atP (ss : List SlotI) (mode time : Int) (x : SlotI) : Bool := decide (x.mode = mode) && decide (time < startD ss mode x.round x.slot + x.desc.duration)
end Go.Proofs.YtdoibplhbdkapaaGreatDoor
namespace Go.Proofs.YtdoibplhbdkapaaGreatDoor
open Go.RowKit
set_option linter.unusedVariables false
set_option linter.unusedSimpArgs false
set_option maxRecDepth 20000
theorem l04Draw_c (A : Option Addr) (B c : Nat) (bs : List UInt8) (gS a : Nat) (sd : Int) (w : World) (q : Blk w gS 148 (srcC A c bs a sd)) (hs : Sl B w A (bs.flatMap eB)) (hB : B ≤ gS) (ok : a ≤ bs.length ∧ 0 ≤ sd ∧ sd < 2147483647) (hbl : bs.length ≤ 1048576) :
    Calls Tryz.prog 251 #[.pointer (some ⟨gS, 0, none⟩)] w (Ret fun v w' => ∃ (s : StateI) (a' : Nat) (sd' : Int), v = .agg s.cells.toArray ∧ True ∧ (a' ≤ bs.length ∧ 0 ≤ sd' ∧ sd' < 2147483647) ∧ Blk w' gS 148 (srcC A c bs a' sd') ∧ w.grownBy w' (some gS)) := by
  have Bhs := hs.1
  have X := gb_refl w (some gS)
  refine calls_of (args := [.pointer (some ⟨gS, 0, none⟩)]) Tryz.func251 Tryz.ntmps251 rfl rfl ?_
  refine c_seqR ?_
  refine ops_cons rfl (ow_alloc ti62 ?_)
  intro g2 w2 eg2 bR x1 zg2
  have lg2 : w.heap.size ≤ g2 := Nat.le_trans X.size (Nat.le_of_eq eg2.symm)
  have ng2q := Nat.lt_of_lt_of_eq q.lt eg2.symm
  have pg2hs := Nat.le_trans hs.1 (Nat.le_of_eq eg2.symm)
  replace q := q.ext x1
  replace hs := hs.ext x1
  replace X := gb_ext X x1; clear x1
  refine ops_nil ?_
  refine c_seqR ?_
  refine ops_cons rfl (ow_move rfl ?_)
  refine ops_cons rfl (ow_call ent65 rfl (ret_mono (l01Next_c _ _ _ _ _ _ _ _ _ q hs hB ok hbl (by omega)) ?_))
  rintro _ w4 ⟨r1, a6, sd7, rfl, hr8, ok, b5, x3⟩
  replace hs := hs.grown x3 (by intro g hg; injection hg; omega)
  replace bR := bR.grown x3 (by intro h; injection h; omega)
  replace X := gb_trans X x3
  clear x3 q
  refine ops_cons rfl (ow_move rfl ?_)
  refine ops_cons rfl (ow_call ent65 rfl (ret_mono (l01Next_c _ _ _ _ _ _ _ _ _ b5 hs hB ok hbl (by omega)) ?_))
  rintro _ w10 ⟨r2, a12, sd13, rfl, hr14, ok, b11, x9⟩
  replace hs := hs.grown x9 (by intro g hg; injection hg; omega)
  replace bR := bR.grown x9 (by intro h; injection h; omega)
  replace X := gb_trans X x9
  clear x9 b5
  refine ops_cons rfl (ow_move rfl ?_)
  refine ops_cons rfl (ow_call ent65 rfl (ret_mono (l01Next_c _ _ _ _ _ _ _ _ _ b11 hs hB ok hbl (by omega)) ?_))
  rintro _ w16 ⟨r3, a18, sd19, rfl, hr20, ok, b17, x15⟩
  replace hs := hs.grown x15 (by intro g hg; injection hg; omega)
  replace bR := bR.grown x15 (by intro h; injection h; omega)
  replace X := gb_trans X x15
  clear x15 b11
  refine ops_cons rfl (ow_move rfl ?_)
  refine ops_cons rfl (ow_call ent65 rfl (ret_mono (l01Next_c _ _ _ _ _ _ _ _ _ b17 hs hB ok hbl (by omega)) ?_))
  rintro _ w22 ⟨r5, a24, sd25, rfl, hr26, ok, b23, x21⟩
  replace hs := hs.grown x21 (by intro g hg; injection hg; omega)
  replace bR := bR.grown x21 (by intro h; injection h; omega)
  replace X := gb_trans X x21
  clear x21 b17
  refine ops_cons rfl (ow_move rfl ?_)
  refine ops_cons rfl (ow_call ent65 rfl (ret_mono (l01Next_c _ _ _ _ _ _ _ _ _ b23 hs hB ok hbl (by omega)) ?_))
  rintro _ w28 ⟨r6, a30, sd31, rfl, hr32, ok, b29, x27⟩
  replace hs := hs.grown x27 (by intro g hg; injection hg; omega)
  replace bR := bR.grown x27 (by intro h; injection h; omega)
  replace X := gb_trans X x27
  clear x27 b23
  refine ops_cons rfl (ow_buildP pl62 ti62 rfl rfl ?_)
  refine ops_cons rfl (ow_alloc ti62 ?_)
  intro gX w34 egX b0 x33 zgX
  have lgX : w.heap.size ≤ gX := Nat.le_trans X.size (Nat.le_of_eq egX.symm)
  have pgXhs := Nat.le_trans hs.1 (Nat.le_of_eq egX.symm)
  have ngXbR := Nat.lt_of_lt_of_eq bR.lt egX.symm
  have ngXb29 := Nat.lt_of_lt_of_eq b29.lt egX.symm
  replace hs := hs.ext x33
  replace bR := bR.ext x33
  replace b29 := b29.ext x33
  replace X := gb_ext X x33; clear x33
  refine ops_cons rfl (ow_storeB b0 ti62 rfl rfl rfl rfl rfl rfl ?_)
  intro w36 bX hg35 z37
  replace hs := hs.grown hg35 (by intro g hg; injection hg; omega)
  replace bR := bR.grown hg35 (by intro h; injection h; omega)
  replace b29 := b29.grown hg35 (by intro h; injection h; omega)
  replace X := gb_new X hg35 (by intro g hg; injection hg; omega)
  clear hg35 b0
  refine ops_nil ?_
  refine c_seq ?_
  refine c_seqR ?_
  refine ops_cons rfl (ow_move rfl ?_)
  refine ops_cons rfl (ow_call ent65 rfl (ret_mono (l01Next_c _ _ _ _ _ _ _ _ _ b29 hs hB ok hbl (by omega)) ?_))
  rintro _ w39 ⟨r7, a41, sd42, rfl, hr43, ok, b40, x38⟩
  replace hs := hs.grown x38 (by intro g hg; injection hg; omega)
  replace bR := bR.grown x38 (by intro h; injection h; omega)
  replace bX := bX.grown x38 (by intro h; injection h; omega)
  replace X := gb_trans X x38
  clear x38 b29
  refine ops_cons rfl (ow_eql2 rfl rfl (fun h2 => ?_) (fun h2 => ?_))
  refine ops_nil ?_
  refine c_true rfl ?_
  refine c_region ?_
  refine ops_cons rfl (ow_move rfl ?_)
  refine ops_cons rfl (ow_call ent65 rfl (ret_mono (l01Next_c _ _ _ _ _ _ _ _ _ b40 hs hB ok hbl (by omega)) ?_))
  rintro _ w45 ⟨k1, a47, sd48, rfl, hr49, ok, b46, x44⟩
  replace hs := hs.grown x44 (by intro g hg; injection hg; omega)
  replace bR := bR.grown x44 (by intro h; injection h; omega)
  replace bX := bX.grown x44 (by intro h; injection h; omega)
  replace X := gb_trans X x44
  clear x44 b40
  refine ops_cons rfl (ow_sub rfl rfl (w64 (by omega)) ?_)
  refine ops_cons rfl (ow_move rfl ?_)
  refine ops_cons rfl (ow_call ent65 rfl (ret_mono (l01Next_c _ _ _ _ _ _ _ _ _ b46 hs hB ok hbl (by omega)) ?_))
  rintro _ w51 ⟨k2, a53, sd54, rfl, hr55, ok, b52, x50⟩
  replace hs := hs.grown x50 (by intro g hg; injection hg; omega)
  replace bR := bR.grown x50 (by intro h; injection h; omega)
  replace bX := bX.grown x50 (by intro h; injection h; omega)
  replace X := gb_trans X x50
  clear x50 b46
  refine ops_cons rfl (ow_move rfl ?_)
  refine ops_cons rfl (ow_call ent65 rfl (ret_mono (l01Next_c _ _ _ _ _ _ _ _ _ b52 hs hB ok hbl (by omega)) ?_))
  rintro _ w57 ⟨k3, a59, sd60, rfl, hr61, ok, b58, x56⟩
  replace hs := hs.grown x56 (by intro g hg; injection hg; omega)
  replace bR := bR.grown x56 (by intro h; injection h; omega)
  replace bX := bX.grown x56 (by intro h; injection h; omega)
  replace X := gb_trans X x56
  clear x56 b52
  refine ops_cons rfl (ow_move rfl ?_)
  refine ops_cons rfl (ow_call ent65 rfl (ret_mono (l01Next_c _ _ _ _ _ _ _ _ _ b58 hs hB ok hbl (by omega)) ?_))
  rintro _ w63 ⟨k5, a65, sd66, rfl, hr67, ok, b64, x62⟩
  replace hs := hs.grown x62 (by intro g hg; injection hg; omega)
  replace bR := bR.grown x62 (by intro h; injection h; omega)
  replace bX := bX.grown x62 (by intro h; injection h; omega)
  replace X := gb_trans X x62
  clear x62 b58
  refine ops_cons rfl (ow_move rfl ?_)
  refine ops_cons rfl (ow_call ent65 rfl (ret_mono (l01Next_c _ _ _ _ _ _ _ _ _ b64 hs hB ok hbl (by omega)) ?_))
  rintro _ w69 ⟨k6, a71, sd72, rfl, hr73, ok, b70, x68⟩
  replace hs := hs.grown x68 (by intro g hg; injection hg; omega)
  replace bR := bR.grown x68 (by intro h; injection h; omega)
  replace bX := bX.grown x68 (by intro h; injection h; omega)
  replace X := gb_trans X x68
  clear x68 b64
  refine ops_cons rfl (ow_sub rfl rfl (w64 (by omega)) ?_)
  refine ops_cons rfl (ow_buildP pl62 ti62 rfl rfl ?_)
  refine ops_cons rfl (ow_storeB bX ti62 rfl rfl rfl rfl rfl rfl ?_)
  intro w75 bY hg74 z76
  replace hs := hs.grown hg74 (by intro g hg; injection hg; omega)
  replace bR := bR.grown hg74 (by intro h; injection h; omega)
  replace b70 := b70.grown hg74 (by intro h; injection h; omega)
  replace X := gb_new X hg74 (by intro g hg; injection hg; omega)
  clear hg74 bX
  refine ops_nil ?_
  refine tq_n ?_
  refine c_seqR ?_
  refine ops_cons rfl (ow_loadAB bY ti62 rfl rfl ?_)
  refine ops_cons rfl (ow_storeB bR ti62 rfl rfl rfl rfl rfl rfl ?_)
  intro w78 bZ hg77 z79
  replace hs := hs.grown hg77 (by intro g hg; injection hg; omega)
  replace b70 := b70.grown hg77 (by intro h; injection h; omega)
  replace bY := bY.grown hg77 (by intro h; injection h; omega)
  replace X := gb_new X hg77 (by intro g hg; injection hg; omega)
  clear hg77 bR
  refine ops_nil ?_
  refine c_ret ?_
  refine fin_cell1 rfl rfl bZ ti62 rfl ?_
  exact ⟨⟨_, _, _, _, _⟩, _, _, rfl, trivial, ok, b70, X⟩
  refine ops_nil ?_
  refine c_false rfl ?_
  refine c_skip ?_
  refine tq_n ?_
  refine c_seqR ?_
  refine ops_cons rfl (ow_loadAB bX ti62 rfl rfl ?_)
  refine ops_cons rfl (ow_storeB bR ti62 rfl rfl rfl rfl rfl rfl ?_)
  intro w81 bZ hg80 z82
  replace hs := hs.grown hg80 (by intro g hg; injection hg; omega)
  replace bX := bX.grown hg80 (by intro h; injection h; omega)
  replace b40 := b40.grown hg80 (by intro h; injection h; omega)
  replace X := gb_new X hg80 (by intro g hg; injection hg; omega)
  clear hg80 bR
  refine ops_nil ?_
  refine c_ret ?_
  refine fin_cell1 rfl rfl bZ ti62 rfl ?_
  exact ⟨⟨_, _, _, _, _⟩, _, _, rfl, trivial, ok, b40, X⟩

theorem l04DrawAny_c (A : Option Addr) (B c : Nat) (bs : List UInt8) (gS a : Nat) (sd : Int) (w : World) (q : Blk w gS 148 (srcC A c bs a sd)) (hs : Sl B w A (bs.flatMap eB)) (hB : B ≤ gS) (ok : a ≤ bs.length ∧ 0 ≤ sd ∧ sd < 2147483647) (hbl : bs.length ≤ 1048576) :
    Calls Tryz.prog 203 #[.pointer (some ⟨gS, 0, none⟩)] w (Ret fun v w' => ∃ (s : StateI) (a' : Nat) (sd' : Int), v = .agg s.cells.toArray ∧ True ∧ (a' ≤ bs.length ∧ 0 ≤ sd' ∧ sd' < 2147483647) ∧ Blk w' gS 148 (srcC A c bs a' sd') ∧ w.grownBy w' (some gS)) := by
  have Bhs := hs.1
  have X := gb_refl w (some gS)
  refine calls_of (args := [.pointer (some ⟨gS, 0, none⟩)]) Tryz.func203 Tryz.ntmps203 rfl rfl ?_
  refine c_seqR ?_
  refine ops_cons rfl (ow_alloc ti62 ?_)
  intro g2 w2 eg2 bR x1 zg2
  have lg2 : w.heap.size ≤ g2 := Nat.le_trans X.size (Nat.le_of_eq eg2.symm)
  have ng2q := Nat.lt_of_lt_of_eq q.lt eg2.symm
  have pg2hs := Nat.le_trans hs.1 (Nat.le_of_eq eg2.symm)
  replace q := q.ext x1
  replace hs := hs.ext x1
  replace X := gb_ext X x1; clear x1
  refine ops_nil ?_
  refine c_seqR ?_
  refine ops_cons rfl (ow_move rfl ?_)
  refine ops_cons rfl (ow_call ent251 rfl (ret_mono (l04Draw_c _ _ _ _ _ _ _ _ q hs hB ok hbl) ?_))
  rintro _ w4 ⟨s0, a6, sd7, rfl, h_, ok, b5, x3⟩
  replace hs := hs.grown x3 (by intro g hg; injection hg; omega)
  replace bR := bR.grown x3 (by intro h; injection h; omega)
  replace X := gb_trans X x3
  clear x3 q
  refine ops_cons rfl (ow_alloc ti62 ?_)
  intro gX w9 egX b0 x8 zgX
  have lgX : w.heap.size ≤ gX := Nat.le_trans X.size (Nat.le_of_eq egX.symm)
  have pgXhs := Nat.le_trans hs.1 (Nat.le_of_eq egX.symm)
  have ngXbR := Nat.lt_of_lt_of_eq bR.lt egX.symm
  have ngXb5 := Nat.lt_of_lt_of_eq b5.lt egX.symm
  replace hs := hs.ext x8
  replace bR := bR.ext x8
  replace b5 := b5.ext x8
  replace X := gb_ext X x8; clear x8
  refine ops_cons rfl (ow_storeB b0 ti62 rfl rfl rfl rfl rfl rfl ?_)
  intro w11 bX hg10 z12
  replace hs := hs.grown hg10 (by intro g hg; injection hg; omega)
  replace bR := bR.grown hg10 (by intro h; injection h; omega)
  replace b5 := b5.grown hg10 (by intro h; injection h; omega)
  replace X := gb_new X hg10 (by intro g hg; injection hg; omega)
  clear hg10 b0
  replace bX : Blk _ gX 62 s0.cells := bX
  refine ops_nil ?_
  refine c_seq ?_
  refine c_seqR ?_
  refine ops_cons rfl (ow_move rfl ?_)
  refine ops_cons rfl (ow_call ent65 rfl (ret_mono (l01Next_c _ _ _ _ _ _ _ _ _ b5 hs hB ok hbl (by omega)) ?_))
  rintro _ w14 ⟨r30, a16, sd17, rfl, hr18, ok, b15, x13⟩
  replace hs := hs.grown x13 (by intro g hg; injection hg; omega)
  replace bR := bR.grown x13 (by intro h; injection h; omega)
  replace bX := bX.grown x13 (by intro h; injection h; omega)
  replace X := gb_trans X x13
  clear x13 b5
  refine ops_nil ?_
  refine c_block ?_
  refine c_seqR ?_
  refine ops_cons rfl (ow_eql2 rfl rfl (fun h19 => ?_) (fun h19 => ?_))
  refine ops_cons rfl (ow_assign rfl ?_)
  refine ops_nil ?_
  refine c_true rfl ?_
  refine c_region ?_
  refine ops_cons rfl (ow_buildSlice el30 ti2 rfl rfl rfl rfl rfl ?_)
  intro g20 w22 eg20 oL bbg20 x21 zg20
  replace oL := Own.low oL X.size
  replace hs := hs.ext x21
  replace bR := bR.ext x21
  replace bX := bX.ext x21
  replace b15 := b15.ext x21
  replace X := gb_ext X x21; clear x21
  replace oL := oL.to (cs' := ([-1, 65535, 65536] : List Int).flatMap eI) rfl
  refine ops_cons rfl (ow_move rfl ?_)
  refine ops_cons rfl (ow_call ent65 rfl (ret_mono (l01Next_c _ _ _ _ _ _ _ _ _ b15 hs hB ok hbl (by omega)) ?_))
  rintro _ w24 ⟨rr, a26, sd27, rfl, hr28, ok, b25, x23⟩
  replace hs := hs.grown x23 (by intro g hg; injection hg; omega)
  replace bR := bR.grown x23 (by intro h; injection h; omega)
  replace bX := bX.grown x23 (by intro h; injection h; omega)
  replace oL := oL.grownBlk x23 (Own.neT oL b15 (by decide))
  replace X := gb_trans X x23
  clear x23 b15
  obtain ⟨y, hy⟩ : ∃ y, ([-1, 65535, 65536] : List Int)[rr.toNat]? = some y := ⟨_, List.getElem?_eq_getElem (by simp; omega)⟩
  refine ops_cons rfl (ow_indexT (oL).sl eI_len rfl el30 rfl rfl rfl hy (by omega) ?_)
  refine ops_cons rfl (ow_loadT (oL).sl eI_len hy ti2 rfl rfl rfl ?_)
  refine ops_cons rfl (ow_fieldAddrB off62_0 rfl rfl ?_)
  refine ops_cons rfl (ow_storeB bX ti2 rfl rfl rfl rfl rfl rfl ?_)
  intro w30 bY hg29 z31
  replace hs := hs.grown hg29 (by intro g hg; injection hg; omega)
  replace bR := bR.grown hg29 (by intro h; injection h; omega)
  replace oL := oL.grownBlk hg29 (Own.neT oL bX (by decide))
  replace b25 := b25.grown hg29 (by intro h; injection h; omega)
  replace X := gb_new X hg29 (by intro g hg; injection hg; omega)
  clear hg29 bX
  refine ops_nil ?_
  refine bq_n ?_
  refine tq_n ?_
  refine c_seqR ?_
  refine ops_cons rfl (ow_loadAB bY ti62 rfl rfl ?_)
  refine ops_cons rfl (ow_storeB bR ti62 rfl rfl rfl rfl rfl rfl ?_)
  intro w33 bZ hg32 z34
  replace hs := hs.grown hg32 (by intro g hg; injection hg; omega)
  replace oL := oL.grownBlk hg32 (Own.neT oL bR (by decide))
  replace b25 := b25.grown hg32 (by intro h; injection h; omega)
  replace bY := bY.grown hg32 (by intro h; injection h; omega)
  replace X := gb_new X hg32 (by intro g hg; injection hg; omega)
  clear hg32 bR
  refine ops_nil ?_
  refine c_ret ?_
  refine fin_cell1 rfl rfl bZ ti62 rfl ?_
  · skip
    first
    | exact ⟨s0, _, _, rfl, trivial, ok, b25, X⟩
    | exact ⟨⟨y, s0.mode, s0.round, s0.slot, s0.members⟩, _, _, rfl, trivial, ok, b25, X⟩
    | exact ⟨⟨s0.time, y, s0.round, s0.slot, s0.members⟩, _, _, rfl, trivial, ok, b25, X⟩
    | exact ⟨⟨s0.time, s0.mode, y, s0.slot, s0.members⟩, _, _, rfl, trivial, ok, b25, X⟩
    | exact ⟨⟨s0.time, s0.mode, s0.round, y, s0.members⟩, _, _, rfl, trivial, ok, b25, X⟩
    | exact ⟨⟨s0.time, s0.mode, s0.round, s0.slot, y⟩, _, _, rfl, trivial, ok, b25, X⟩
  refine ops_cons rfl (ow_assign rfl ?_)
  refine ops_nil ?_
  refine c_false rfl ?_
  refine c_seqR ?_
  refine ops_cons rfl (ow_eql2 rfl rfl (fun h35 => ?_) (fun h35 => ?_))
  refine ops_cons rfl (ow_assign rfl ?_)
  refine ops_nil ?_
  refine c_true rfl ?_
  refine c_region ?_
  refine ops_cons rfl (ow_buildSlice el30 ti2 rfl rfl rfl rfl rfl ?_)
  intro g36 w38 eg36 oL bbg36 x37 zg36
  replace oL := Own.low oL X.size
  replace hs := hs.ext x37
  replace bR := bR.ext x37
  replace bX := bX.ext x37
  replace b15 := b15.ext x37
  replace X := gb_ext X x37; clear x37
  replace oL := oL.to (cs' := ([-1, 16] : List Int).flatMap eI) rfl
  refine ops_cons rfl (ow_move rfl ?_)
  refine ops_cons rfl (ow_call ent65 rfl (ret_mono (l01Next_c _ _ _ _ _ _ _ _ _ b15 hs hB ok hbl (by omega)) ?_))
  rintro _ w40 ⟨rr, a42, sd43, rfl, hr44, ok, b41, x39⟩
  replace hs := hs.grown x39 (by intro g hg; injection hg; omega)
  replace bR := bR.grown x39 (by intro h; injection h; omega)
  replace bX := bX.grown x39 (by intro h; injection h; omega)
  replace oL := oL.grownBlk x39 (Own.neT oL b15 (by decide))
  replace X := gb_trans X x39
  clear x39 b15
  obtain ⟨y, hy⟩ : ∃ y, ([-1, 16] : List Int)[rr.toNat]? = some y := ⟨_, List.getElem?_eq_getElem (by simp; omega)⟩
  refine ops_cons rfl (ow_indexT (oL).sl eI_len rfl el30 rfl rfl rfl hy (by omega) ?_)
  refine ops_cons rfl (ow_loadT (oL).sl eI_len hy ti2 rfl rfl rfl ?_)
  refine ops_cons rfl (ow_fieldAddrB off62_1 rfl rfl ?_)
  refine ops_cons rfl (ow_storeB bX ti2 rfl rfl rfl rfl rfl rfl ?_)
  intro w46 bY hg45 z47
  replace hs := hs.grown hg45 (by intro g hg; injection hg; omega)
  replace bR := bR.grown hg45 (by intro h; injection h; omega)
  replace oL := oL.grownBlk hg45 (Own.neT oL bX (by decide))
  replace b41 := b41.grown hg45 (by intro h; injection h; omega)
  replace X := gb_new X hg45 (by intro g hg; injection hg; omega)
  clear hg45 bX
  refine ops_nil ?_
  refine bq_n ?_
  refine tq_n ?_
  refine c_seqR ?_
  refine ops_cons rfl (ow_loadAB bY ti62 rfl rfl ?_)
  refine ops_cons rfl (ow_storeB bR ti62 rfl rfl rfl rfl rfl rfl ?_)
  intro w49 bZ hg48 z50
  replace hs := hs.grown hg48 (by intro g hg; injection hg; omega)
  replace oL := oL.grownBlk hg48 (Own.neT oL bR (by decide))
  replace b41 := b41.grown hg48 (by intro h; injection h; omega)
  replace bY := bY.grown hg48 (by intro h; injection h; omega)
  replace X := gb_new X hg48 (by intro g hg; injection hg; omega)
  clear hg48 bR
  refine ops_nil ?_
  refine c_ret ?_
  refine fin_cell1 rfl rfl bZ ti62 rfl ?_
  · skip
    first
    | exact ⟨s0, _, _, rfl, trivial, ok, b41, X⟩
    | exact ⟨⟨y, s0.mode, s0.round, s0.slot, s0.members⟩, _, _, rfl, trivial, ok, b41, X⟩
    | exact ⟨⟨s0.time, y, s0.round, s0.slot, s0.members⟩, _, _, rfl, trivial, ok, b41, X⟩
    | exact ⟨⟨s0.time, s0.mode, y, s0.slot, s0.members⟩, _, _, rfl, trivial, ok, b41, X⟩
    | exact ⟨⟨s0.time, s0.mode, s0.round, y, s0.members⟩, _, _, rfl, trivial, ok, b41, X⟩
    | exact ⟨⟨s0.time, s0.mode, s0.round, s0.slot, y⟩, _, _, rfl, trivial, ok, b41, X⟩
  refine ops_cons rfl (ow_assign rfl ?_)
  refine ops_nil ?_
  refine c_false rfl ?_
  refine c_seqR ?_
  refine ops_cons rfl (ow_eql2 rfl rfl (fun h51 => ?_) (fun h51 => ?_))
  refine ops_cons rfl (ow_assign rfl ?_)
  refine ops_nil ?_
  refine c_true rfl ?_
  refine c_region ?_
  refine ops_cons rfl (ow_buildSlice el30 ti2 rfl rfl rfl rfl rfl ?_)
  intro g52 w54 eg52 oL bbg52 x53 zg52
  replace oL := Own.low oL X.size
  replace hs := hs.ext x53
  replace bR := bR.ext x53
  replace bX := bX.ext x53
  replace b15 := b15.ext x53
  replace X := gb_ext X x53; clear x53
  replace oL := oL.to (cs' := ([-1, 16] : List Int).flatMap eI) rfl
  refine ops_cons rfl (ow_move rfl ?_)
  refine ops_cons rfl (ow_call ent65 rfl (ret_mono (l01Next_c _ _ _ _ _ _ _ _ _ b15 hs hB ok hbl (by omega)) ?_))
  rintro _ w56 ⟨rr, a58, sd59, rfl, hr60, ok, b57, x55⟩
  replace hs := hs.grown x55 (by intro g hg; injection hg; omega)
  replace bR := bR.grown x55 (by intro h; injection h; omega)
  replace bX := bX.grown x55 (by intro h; injection h; omega)
  replace oL := oL.grownBlk x55 (Own.neT oL b15 (by decide))
  replace X := gb_trans X x55
  clear x55 b15
  obtain ⟨y, hy⟩ : ∃ y, ([-1, 16] : List Int)[rr.toNat]? = some y := ⟨_, List.getElem?_eq_getElem (by simp; omega)⟩
  refine ops_cons rfl (ow_indexT (oL).sl eI_len rfl el30 rfl rfl rfl hy (by omega) ?_)
  refine ops_cons rfl (ow_loadT (oL).sl eI_len hy ti2 rfl rfl rfl ?_)
  refine ops_cons rfl (ow_fieldAddrB off62_2 rfl rfl ?_)
  refine ops_cons rfl (ow_storeB bX ti2 rfl rfl rfl rfl rfl rfl ?_)
  intro w62 bY hg61 z63
  replace hs := hs.grown hg61 (by intro g hg; injection hg; omega)
  replace bR := bR.grown hg61 (by intro h; injection h; omega)
  replace oL := oL.grownBlk hg61 (Own.neT oL bX (by decide))
  replace b57 := b57.grown hg61 (by intro h; injection h; omega)
  replace X := gb_new X hg61 (by intro g hg; injection hg; omega)
  clear hg61 bX
  refine ops_nil ?_
  refine bq_n ?_
  refine tq_n ?_
  refine c_seqR ?_
  refine ops_cons rfl (ow_loadAB bY ti62 rfl rfl ?_)
  refine ops_cons rfl (ow_storeB bR ti62 rfl rfl rfl rfl rfl rfl ?_)
  intro w65 bZ hg64 z66
  replace hs := hs.grown hg64 (by intro g hg; injection hg; omega)
  replace oL := oL.grownBlk hg64 (Own.neT oL bR (by decide))
  replace b57 := b57.grown hg64 (by intro h; injection h; omega)
  replace bY := bY.grown hg64 (by intro h; injection h; omega)
  replace X := gb_new X hg64 (by intro g hg; injection hg; omega)
  clear hg64 bR
  refine ops_nil ?_
  refine c_ret ?_
  refine fin_cell1 rfl rfl bZ ti62 rfl ?_
  · skip
    first
    | exact ⟨s0, _, _, rfl, trivial, ok, b57, X⟩
    | exact ⟨⟨y, s0.mode, s0.round, s0.slot, s0.members⟩, _, _, rfl, trivial, ok, b57, X⟩
    | exact ⟨⟨s0.time, y, s0.round, s0.slot, s0.members⟩, _, _, rfl, trivial, ok, b57, X⟩
    | exact ⟨⟨s0.time, s0.mode, y, s0.slot, s0.members⟩, _, _, rfl, trivial, ok, b57, X⟩
    | exact ⟨⟨s0.time, s0.mode, s0.round, y, s0.members⟩, _, _, rfl, trivial, ok, b57, X⟩
    | exact ⟨⟨s0.time, s0.mode, s0.round, s0.slot, y⟩, _, _, rfl, trivial, ok, b57, X⟩
  refine ops_cons rfl (ow_assign rfl ?_)
  refine ops_nil ?_
  refine c_false rfl ?_
  refine c_seqR ?_
  refine ops_cons rfl (ow_eql2 rfl rfl (fun h67 => ?_) (fun h67 => ?_))
  refine ops_cons rfl (ow_assign rfl ?_)
  refine ops_nil ?_
  refine c_true rfl ?_
  refine c_region ?_
  refine ops_cons rfl (ow_buildSlice el30 ti2 rfl rfl rfl rfl rfl ?_)
  intro g68 w70 eg68 oL bbg68 x69 zg68
  replace oL := Own.low oL X.size
  replace hs := hs.ext x69
  replace bR := bR.ext x69
  replace bX := bX.ext x69
  replace b15 := b15.ext x69
  replace X := gb_ext X x69; clear x69
  replace oL := oL.to (cs' := ([-1, 256] : List Int).flatMap eI) rfl
  refine ops_cons rfl (ow_move rfl ?_)
  refine ops_cons rfl (ow_call ent65 rfl (ret_mono (l01Next_c _ _ _ _ _ _ _ _ _ b15 hs hB ok hbl (by omega)) ?_))
  rintro _ w72 ⟨rr, a74, sd75, rfl, hr76, ok, b73, x71⟩
  replace hs := hs.grown x71 (by intro g hg; injection hg; omega)
  replace bR := bR.grown x71 (by intro h; injection h; omega)
  replace bX := bX.grown x71 (by intro h; injection h; omega)
  replace oL := oL.grownBlk x71 (Own.neT oL b15 (by decide))
  replace X := gb_trans X x71
  clear x71 b15
  obtain ⟨y, hy⟩ : ∃ y, ([-1, 256] : List Int)[rr.toNat]? = some y := ⟨_, List.getElem?_eq_getElem (by simp; omega)⟩
  refine ops_cons rfl (ow_indexT (oL).sl eI_len rfl el30 rfl rfl rfl hy (by omega) ?_)
  refine ops_cons rfl (ow_loadT (oL).sl eI_len hy ti2 rfl rfl rfl ?_)
  refine ops_cons rfl (ow_fieldAddrB off62_3 rfl rfl ?_)
  refine ops_cons rfl (ow_storeB bX ti2 rfl rfl rfl rfl rfl rfl ?_)
  intro w78 bY hg77 z79
  replace hs := hs.grown hg77 (by intro g hg; injection hg; omega)
  replace bR := bR.grown hg77 (by intro h; injection h; omega)
  replace oL := oL.grownBlk hg77 (Own.neT oL bX (by decide))
  replace b73 := b73.grown hg77 (by intro h; injection h; omega)
  replace X := gb_new X hg77 (by intro g hg; injection hg; omega)
  clear hg77 bX
  refine ops_nil ?_
  refine bq_n ?_
  refine tq_n ?_
  refine c_seqR ?_
  refine ops_cons rfl (ow_loadAB bY ti62 rfl rfl ?_)
  refine ops_cons rfl (ow_storeB bR ti62 rfl rfl rfl rfl rfl rfl ?_)
  intro w81 bZ hg80 z82
  replace hs := hs.grown hg80 (by intro g hg; injection hg; omega)
  replace oL := oL.grownBlk hg80 (Own.neT oL bR (by decide))
  replace b73 := b73.grown hg80 (by intro h; injection h; omega)
  replace bY := bY.grown hg80 (by intro h; injection h; omega)
  replace X := gb_new X hg80 (by intro g hg; injection hg; omega)
  clear hg80 bR
  refine ops_nil ?_
  refine c_ret ?_
  refine fin_cell1 rfl rfl bZ ti62 rfl ?_
  · skip
    first
    | exact ⟨s0, _, _, rfl, trivial, ok, b73, X⟩
    | exact ⟨⟨y, s0.mode, s0.round, s0.slot, s0.members⟩, _, _, rfl, trivial, ok, b73, X⟩
    | exact ⟨⟨s0.time, y, s0.round, s0.slot, s0.members⟩, _, _, rfl, trivial, ok, b73, X⟩
    | exact ⟨⟨s0.time, s0.mode, y, s0.slot, s0.members⟩, _, _, rfl, trivial, ok, b73, X⟩
    | exact ⟨⟨s0.time, s0.mode, s0.round, y, s0.members⟩, _, _, rfl, trivial, ok, b73, X⟩
    | exact ⟨⟨s0.time, s0.mode, s0.round, s0.slot, y⟩, _, _, rfl, trivial, ok, b73, X⟩
  refine ops_cons rfl (ow_assign rfl ?_)
  refine ops_nil ?_
  refine c_false rfl ?_
  refine c_seqR ?_
  refine ops_cons rfl (ow_eql2 rfl rfl (fun h83 => ?_) (fun h83 => ?_))
  refine ops_cons rfl (ow_assign rfl ?_)
  refine ops_nil ?_
  refine c_true rfl ?_
  refine c_region ?_
  refine ops_cons rfl (ow_buildSlice el30 ti2 rfl rfl rfl rfl rfl ?_)
  intro g84 w86 eg84 oL bbg84 x85 zg84
  replace oL := Own.low oL X.size
  replace hs := hs.ext x85
  replace bR := bR.ext x85
  replace bX := bX.ext x85
  replace b15 := b15.ext x85
  replace X := gb_ext X x85; clear x85
  replace oL := oL.to (cs' := ([-1, 4294967296] : List Int).flatMap eI) rfl
  refine ops_cons rfl (ow_move rfl ?_)
  refine ops_cons rfl (ow_call ent65 rfl (ret_mono (l01Next_c _ _ _ _ _ _ _ _ _ b15 hs hB ok hbl (by omega)) ?_))
  rintro _ w88 ⟨rr, a90, sd91, rfl, hr92, ok, b89, x87⟩
  replace hs := hs.grown x87 (by intro g hg; injection hg; omega)
  replace bR := bR.grown x87 (by intro h; injection h; omega)
  replace bX := bX.grown x87 (by intro h; injection h; omega)
  replace oL := oL.grownBlk x87 (Own.neT oL b15 (by decide))
  replace X := gb_trans X x87
  clear x87 b15
  obtain ⟨y, hy⟩ : ∃ y, ([-1, 4294967296] : List Int)[rr.toNat]? = some y := ⟨_, List.getElem?_eq_getElem (by simp; omega)⟩
  refine ops_cons rfl (ow_indexT (oL).sl eI_len rfl el30 rfl rfl rfl hy (by omega) ?_)
  refine ops_cons rfl (ow_loadT (oL).sl eI_len hy ti2 rfl rfl rfl ?_)
  refine ops_cons rfl (ow_fieldAddrB off62_4 rfl rfl ?_)
  refine ops_cons rfl (ow_storeB bX ti2 rfl rfl rfl rfl rfl rfl ?_)
  intro w94 bY hg93 z95
  replace hs := hs.grown hg93 (by intro g hg; injection hg; omega)
  replace bR := bR.grown hg93 (by intro h; injection h; omega)
  replace oL := oL.grownBlk hg93 (Own.neT oL bX (by decide))
  replace b89 := b89.grown hg93 (by intro h; injection h; omega)
  replace X := gb_new X hg93 (by intro g hg; injection hg; omega)
  clear hg93 bX
  refine ops_nil ?_
  refine bq_n ?_
  refine tq_n ?_
  refine c_seqR ?_
  refine ops_cons rfl (ow_loadAB bY ti62 rfl rfl ?_)
  refine ops_cons rfl (ow_storeB bR ti62 rfl rfl rfl rfl rfl rfl ?_)
  intro w97 bZ hg96 z98
  replace hs := hs.grown hg96 (by intro g hg; injection hg; omega)
  replace oL := oL.grownBlk hg96 (Own.neT oL bR (by decide))
  replace b89 := b89.grown hg96 (by intro h; injection h; omega)
  replace bY := bY.grown hg96 (by intro h; injection h; omega)
  replace X := gb_new X hg96 (by intro g hg; injection hg; omega)
  clear hg96 bR
  refine ops_nil ?_
  refine c_ret ?_
  refine fin_cell1 rfl rfl bZ ti62 rfl ?_
  · skip
    first
    | exact ⟨s0, _, _, rfl, trivial, ok, b89, X⟩
    | exact ⟨⟨y, s0.mode, s0.round, s0.slot, s0.members⟩, _, _, rfl, trivial, ok, b89, X⟩
    | exact ⟨⟨s0.time, y, s0.round, s0.slot, s0.members⟩, _, _, rfl, trivial, ok, b89, X⟩
    | exact ⟨⟨s0.time, s0.mode, y, s0.slot, s0.members⟩, _, _, rfl, trivial, ok, b89, X⟩
    | exact ⟨⟨s0.time, s0.mode, s0.round, y, s0.members⟩, _, _, rfl, trivial, ok, b89, X⟩
    | exact ⟨⟨s0.time, s0.mode, s0.round, s0.slot, y⟩, _, _, rfl, trivial, ok, b89, X⟩
  refine ops_cons rfl (ow_assign rfl ?_)
  refine ops_nil ?_
  refine c_false rfl ?_
  refine c_skip ?_
  refine bq_n ?_
  refine tq_n ?_
  refine c_seqR ?_
  refine ops_cons rfl (ow_loadAB bX ti62 rfl rfl ?_)
  refine ops_cons rfl (ow_storeB bR ti62 rfl rfl rfl rfl rfl rfl ?_)
  intro w100 bZ hg99 z101
  replace hs := hs.grown hg99 (by intro g hg; injection hg; omega)
  replace bX := bX.grown hg99 (by intro h; injection h; omega)
  replace b15 := b15.grown hg99 (by intro h; injection h; omega)
  replace X := gb_new X hg99 (by intro g hg; injection hg; omega)
  clear hg99 bR
  refine ops_nil ?_
  refine c_ret ?_
  refine fin_cell1 rfl rfl bZ ti62 rfl ?_
  · skip
    first
    | exact ⟨s0, _, _, rfl, trivial, ok, b15, X⟩
    | exact ⟨⟨y, s0.mode, s0.round, s0.slot, s0.members⟩, _, _, rfl, trivial, ok, b15, X⟩
    | exact ⟨⟨s0.time, y, s0.round, s0.slot, s0.members⟩, _, _, rfl, trivial, ok, b15, X⟩
    | exact ⟨⟨s0.time, s0.mode, y, s0.slot, s0.members⟩, _, _, rfl, trivial, ok, b15, X⟩
    | exact ⟨⟨s0.time, s0.mode, s0.round, y, s0.members⟩, _, _, rfl, trivial, ok, b15, X⟩
    | exact ⟨⟨s0.time, s0.mode, s0.round, s0.slot, y⟩, _, _, rfl, trivial, ok, b15, X⟩
end Go.Proofs.YtdoibplhbdkapaaGreatDoor
namespace Go.Proofs.YtdoibplhbdkapaaGreatDoor
open Go.RowKit
set_option linter.unusedVariables false
set_option linter.unusedSimpArgs false

theorem u8dig {k : Nat} : ((UInt8.ofNat (48 + k % 10)).toNat : Int) = 48 + (k : Int) % 10 := by
  have : k % 10 < 10 := Nat.mod_lt _ (by omega)
  rw [UInt8.toNat_ofNat']
  omega
theorem wu8 {n : Int} (h : 0 ≤ n ∧ n ≤ 255) : IntKind.u8.wrap n = n := by
  simp only [IntKind.wrap, IntKind.bits, IntKind.signed]
  simp
  omega

theorem Win.trans {lo hi : Nat} {a b c : World} (h : Win lo hi a b) (k : Win lo hi b c) : Win lo hi a c :=
  ⟨k.os.trans h.os, k.tape.trans h.tape, k.output.trans h.output, Nat.le_trans h.size k.size, fun i hi' ho => (k.block i (Nat.lt_of_lt_of_le hi' h.size) ho).trans (h.block i hi' ho)⟩
theorem NOwn.grownX {w w' : World} {lo : Nat} {t : TypeId} {xs : List ModeI} {row : Option Nat} (h : NOwn w lo t xs) (hg : w.grownBy w' row) (hr : ∀ x ∈ xs, ∀ g, row = some g → x.blk ≠ some g) : NOwn w' lo t xs :=
  fun x hx => ⟨(h x hx).1.grown hg (hr x hx), (h x hx).2⟩
theorem Disj.not {xs : List ModeI} (h : Disj xs) {i k : Nat} {x y : ModeI} (hx : xs[i]? = some x) (hy : xs[k]? = some y) (hik : i ≠ k) (g : Nat) (hg : y.blk = some g) : x.blk ≠ some g := fun e => h k i y x hy hx (fun e => hik e.symm) g hg e
def Kep (ts : List TypeId) (w w' : World) : Prop := w.heap.size ≤ w'.heap.size ∧ ∀ (k : Nat) (cur : Array Value) (t : TypeId) (e : Nat × Nat), w.heap[k]? = some (Obj.cells cur t e) → t ∉ ts → w'.heap[k]? = some (Obj.cells cur t e)
section
variable {ts : List TypeId} {w w' w'' : World} {lo hi lo' n c s g : Nat} {t : TypeId} {A : Option Addr} {cs : List Value} {xs : List ModeI}
theorem Kep.refl : Kep ts w w := ⟨Nat.le_refl _, fun _ _ _ _ h _ => h⟩
theorem Kep.trans (h : Kep ts w w') (k : Kep ts w' w'') : Kep ts w w'' := ⟨Nat.le_trans h.1 k.1, fun i cur t e hi ht => k.2 i cur t e (h.2 i cur t e hi ht) ht⟩
theorem Own.kep (h : Own w lo t s A n c cs) (k : Kep ts w w') (ht : t ∉ ts) : Own w' lo t s A n c cs := by
  refine ⟨h.1, ?_⟩
  rcases h.2 with h2 | ⟨g, cap, cur, hv, hlo, hh, r⟩
  · exact .inl h2
  · exact .inr ⟨g, cap, cur, hv, hlo, k.2 _ _ _ _ hh ht, r⟩
theorem Blk.kep (h : Blk w g t cs) (k : Kep ts w w') (ht : t ∉ ts) : Blk w' g t cs := k.2 _ _ _ _ h ht
theorem NOwn.kep (h : NOwn w lo t xs) (k : Kep ts w w') (ht : t ∉ ts) : NOwn w' lo t xs := fun x hx => ⟨(h x hx).1.kep k ht, (h x hx).2⟩
structure WinK (lo hi : Nat) (ts : List TypeId) (w w' : World) : Prop where
  win : Win lo hi w w'
  kep : Kep ts w w'
theorem WinK.refl (lo hi : Nat) (ts : List TypeId) (w : World) : WinK lo hi ts w w := ⟨Win.refl lo hi w, Kep.refl⟩
end
end Go.Proofs.YtdoibplhbdkapaaGreatDoor
namespace Go.Proofs.YtdoibplhbdkapaaGreatDoor
open Go.RowKit
set_option linter.unusedVariables false
set_option linter.unusedSimpArgs false
section
variable {P : Program} {e : List (Nat × Value)} {ty : TypeId} {w : World} {K : Value → World → Prop} {x y lo hi : Operand} {t : TypeId} {s : ByteArray} {k : IntKind} {m : Int}
end
def eS (s : ByteArray) : List Value := [.string s]
theorem eS_len (s : ByteArray) : (eS s).length = 1 := rfl
end Go.Proofs.YtdoibplhbdkapaaGreatDoor
