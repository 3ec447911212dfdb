/- Starts of the slots in which a node sends: plain functions, and that the two ways answer alike. No condition. -/
import Derived.Test.YtojgfbbdjobdnaaGreatDoorMod7
namespace Go.Proofs.YtojgfbbdjobdnaaGreatDoor
open Go.RowKit
set_option linter.unusedVariables false
set_option linter.unusedSimpArgs false

def hitN (z : Int) (x : NodeI) : Bool := decide (x.id = z)
/-- the place of the node, counted from k on; -1 if none -/
def findN (z k : Int) : List NodeI → Int
  | [] => -1
  | x :: r => if hitN z x = true then k else findN z (k + 1) r
def idIn (ns : List NodeI) (z : Int) : Bool := ns.any (hitN z)
theorem findN_has (z : Int) : ∀ (xs : List NodeI) (k : Int), 0 ≤ k → decide (0 ≤ findN z k xs) = idIn xs z
  | [], k, h => by simp [findN, idIn]
  | x :: r, k, h => by
    rw [findN]
    by_cases e : hitN z x = true
    · rw [if_pos e]; simp [idIn, e, h]
    · rw [if_neg e, findN_has z r (k + 1) (by omega)]; simp [idIn, e]
theorem findN_lt {z : Int} {xs : List NodeI} : findN z 0 xs < 0 ↔ idIn xs z = false := by
  have := findN_has z xs 0 (by omega)
  rw [← this]; simp
def sendC (d : MedlD) (mode node : Int) : Int := if modeC d mode = 0 then (if idIn d.ns node = true then 0 else 2) else modeC d mode
def sendS (ss : List SlotI) (mode node : Int) : List SlotI → List Int
  | [] => []
  | x :: r => if x.mode = mode ∧ x.desc.node = node then startD ss mode x.round x.slot :: sendS ss mode node r else sendS ss mode node r
def sendG (node : Int) : Int → List SlotI → List Int
  | _, [] => []
  | a, x :: r => if x.desc.node = node then a :: sendG node (a + x.desc.duration) r else sendG node (a + x.desc.duration) r
def sendT (d : MedlD) (mode node : Int) : List Int × Int := if sendC d mode node = 0 then (sendS d.ss mode node d.ss, 0) else ([], sendC d mode node)
theorem sendS_len (ss : List SlotI) (mode node : Int) : ∀ (l : List SlotI), (sendS ss mode node l).length ≤ l.length
  | [] => by simp [sendS]
  | x :: r => by
    have := sendS_len ss mode node r
    rw [sendS]; split <;> simp <;> omega
theorem sendS_map (ss : List SlotI) (mode node : Int) : ∀ (l : List SlotI), sendS ss mode node l = ((ofMode mode l).filter fun x => decide (x.desc.node = node)).map fun x => startD ss mode x.round x.slot
  | [] => by simp [sendS, ofMode]
  | x :: r => by
    have ih := sendS_map ss mode node r
    rw [sendS]
    by_cases e1 : x.mode = mode
    · rw [ofMode_cons_t e1, List.filter_cons]
      by_cases e2 : x.desc.node = node
      · rw [if_pos ⟨e1, e2⟩, if_pos (by simpa using e2), List.map_cons, ih]
      · rw [if_neg (fun h => e2 h.2), if_neg (by simpa using e2), ih]
    · rw [ofMode_cons_f e1, if_neg (fun h => e1 h.1), ih]
theorem sendG_map {L : List SlotI} {f : SlotI → Int} {node : Int} (hf : ∀ (j : Nat) (y : SlotI), L[j]? = some y → f y = sumD (L.take j)) :
    ∀ (n : Nat) (k : Nat), L.length - k = n → sendG node (sumD (L.take k)) (L.drop k) = ((L.drop k).filter fun x => decide (x.desc.node = node)).map f
  | 0, k, h => by rw [List.drop_eq_nil_of_le (by omega)]; rfl
  | n + 1, k, h => by
    have hk : k < L.length := by omega
    have h1 := hf k L[k] (List.getElem?_eq_getElem hk)
    have e : sumD (L.take (k + 1)) = sumD (L.take k) + L[k].desc.duration := by
      rw [List.take_add_one, List.getElem?_eq_getElem hk, sumD_app]; simp [sumD]
    have ih := sendG_map (node := node) hf n (k + 1) (by omega)
    rw [List.drop_eq_getElem_cons hk, sendG, ← e, ih, List.filter_cons]
    by_cases e2 : L[k].desc.node = node
    · rw [if_pos e2, if_pos (by simpa using e2), List.map_cons, h1]
    · rw [if_neg e2, if_neg (by simpa using e2)]
theorem send_eq {d : MedlD} (hc : complete d = true) {k : Nat} {x : Mode} (hx : d.ms[k]? = some x) (hs1 : 1 ≤ x.slots) (node : Int) : sendS d.ss k node d.ss = sendG node 0 (ofMode (k : Int) d.ss) := by
  have h1 := sendG_map (L := ofMode (k : Int) d.ss) (f := fun y => startD d.ss k y.round y.slot) (node := node) (fun j y hy => start_at hc hx hs1 hy) _ 0 rfl
  simp only [List.take_zero, List.drop_zero, sumD] at h1
  rw [h1, sendS_map]
theorem sendC_zero {d : MedlD} {mode node : Int} : sendC d mode node = 0 ↔ modeC d mode = 0 ∧ idIn d.ns node = true := by
  unfold sendC; split
  · split <;> simp_all
  · simp_all
theorem sendT_len (m : MedlI) (mode node : Int) : (sendT m.d mode node).1.length ≤ 1048576 := by
  unfold sendT
  split
  · rename_i h
    have h1 := modeC_zero.1 (sendC_zero.1 h).1
    have h2 := isST_len (isMedl_iff.1 h1.1).st
    have h3 := sendS_len m.d.ss mode node m.d.ss
    simp only; omega
  · simp
theorem sendT_c {d : MedlD} {mode node : Int} (h : ¬ modeC d mode = 0) : sendT d mode node = ([], modeC d mode) := by
  have e : sendC d mode node = modeC d mode := by rw [sendC, if_neg h]
  rw [sendT, e, if_neg h]
theorem sendT_2 {d : MedlD} {mode node : Int} (h : modeC d mode = 0) (hk : idIn d.ns node = false) : sendT d mode node = ([], 2) := by
  have e : sendC d mode node = 2 := by rw [sendC, if_pos h, if_neg (by rw [hk]; simp)]
  rw [sendT, e, if_neg (by omega)]
theorem sendT_0 {d : MedlD} {mode node : Int} (h : modeC d mode = 0) (hk : idIn d.ns node = true) : sendT d mode node = (sendS d.ss mode node d.ss, 0) := by
  rw [sendT, if_pos (sendC_zero.2 ⟨h, hk⟩)]
def nodesC (d : MedlD) (mode : Int) (zs : List Int) : Int := if modeC d mode = 0 then (if zs.all (idIn d.ns) = true then 0 else 2) else modeC d mode
theorem nodesC_one (d : MedlD) (mode node : Int) : nodesC d mode [node] = sendC d mode node := by simp [nodesC, sendC]
theorem sendT_n {d : MedlD} {mode node : Int} (h : ¬ nodesC d mode [node] = 0) : sendT d mode node = ([], nodesC d mode [node]) := by
  rw [nodesC_one] at *
  rw [sendT, if_neg h]
def zeroN : NodeI := ⟨0, ByteArray.empty, 0, false⟩
def fnodeF (xs : List NodeI) (z : Int) : NodeI × Int := if isNT xs = true then (match xs.find? (hitN z) with
  | some x => (x, 0)
  | none => (zeroN, 4)) else (zeroN, 1)
theorem known_eq (xs : List NodeI) (z : Int) : decide ((fnodeF xs z).2 = 0) = (isNT xs && idIn xs z) := by
  unfold fnodeF idIn
  cases h : isNT xs
  · simp
  · rw [if_pos rfl, Bool.true_and]
    cases h2 : xs.find? (hitN z) with
    | none =>
      simp only [List.find?_eq_none] at h2
      rw [show xs.any (hitN z) = false from by rw [List.any_eq_false]; exact fun x hx => by simpa using h2 x hx]
      simp
    | some x =>
      rw [show xs.any (hitN z) = true from List.any_eq_true.2 ⟨x, List.mem_of_find?_eq_some h2, List.find?_some h2⟩]
      simp
end Go.Proofs.YtojgfbbdjobdnaaGreatDoor
