/- Texts of the seat that a law needs, put together. No condition. -/
import Derived.Test.YtdoibplhbdkapaaGreatDoorCKP2
import Derived.Laws.BytesArg
import Derived.Lib.SlTrimSet
namespace Go.Proofs.YtdoibplhbdkapaaGreatDoor
open Go.RowKit
set_option linter.unusedVariables false

section
variable {P : Program} {e : List (Nat × Value)} {w : World} {K : Value → World → Prop} {ty : TypeId} {m : Bool}
theorem ow_callB {f : FuncId} {args : Array Operand} {ts : Array TypeId} {vs : List Value} (hf : Enters P f) (hx : argsO e args.toList = some vs)
    (hc : Calls P f vs.toArray w (Ret fun v w' => v = .bool m ∧ Ext w w')) (h1 : ∀ w', m = true → Ext w w' → K (.bool true) w') (h2 : ∀ w', m = false → Ext w w' → K (.bool false) w') : OpWp P e (.call ⟨.value (.func f), args, ts⟩) ty w K :=
  ow_call hf hx (ret_mono hc fun v w' h => by
    obtain ⟨rfl, hx⟩ := h
    cases hm : m
    · exact h2 w' hm hx
    · exact h1 w' hm hx)
end

section
variable {P : Program} {n : Nat} {ops : Array Oper} {K : List (Nat × Value) → World → Prop} {l : List Oper} {fl : List Bool} {e : List (Nat × Value)} {S : World → Prop} {dst : Option Tmp} {op : Op} {ty : TypeId} {pos : String} {af : Array Edge} {m : Bool}
theorem f_qB (hd : dstOk n dst = true) (hy : ∀ w, S w → OpWp P e op ty w fun u w' => u = .bool m ∧ Ext w w')
    (h1 : m = true → FOps P n ops K l fl (updO e dst (.bool true)) S) (h2 : m = false → FOps P n ops K l fl (updO e dst (.bool false)) S) : FOps P n ops K (⟨dst, op, ty, pos, af, none⟩ :: l) (false :: fl) e S := by
  refine f_q hd hy ?_
  cases hm : m
  · exact h2 hm
  · exact h1 hm
end

theorem drop_at {α : Type} {xs : List α} {k : Nat} (h : k < xs.length) : ∃ x, xs[k]? = some x ∧ xs.drop k = x :: xs.drop (k + 1) :=
  ⟨xs[k], List.getElem?_eq_getElem h, List.drop_eq_getElem_cons h⟩
theorem drop_end {α : Type} {xs : List α} {k : Nat} (h : ¬ (k : Int) < (xs.length : Int)) : xs.drop k = [] :=
  List.drop_eq_nil_of_le (by omega)
theorem drop_at' {α : Type} {xs : List α} {k : Nat} (h : (k : Int) < (xs.length : Int)) : ∃ x, xs[k]? = some x ∧ xs.drop k = x :: xs.drop (k + 1) := drop_at (by omega)

theorem repL_flat {α : Type} {enc : α → List Value} (y : α) : ∀ n, repL n (enc y) = (List.replicate n y).flatMap enc
  | 0 => rfl
  | n + 1 => by rw [List.replicate_succ, List.flatMap_cons, ← repL_flat y n]; rfl
/-- a store into one place of a row of typed elements -/
theorem set_flat {α : Type} {enc : α → List Value} {s : Nat} (he : ∀ x, (enc x).length = s) (x : α) : ∀ (xs : List α) (k : Nat), k < xs.length →
    (xs.flatMap enc).take (k * s) ++ enc x ++ (xs.flatMap enc).drop (k * s + s) = (xs.set k x).flatMap enc
  | [], k, h => by simp at h
  | y :: ys, 0, h => by
    simp only [Nat.zero_mul, List.take_zero, List.nil_append, Nat.zero_add, List.flatMap_cons, List.set_cons_zero]
    rw [List.drop_append, List.drop_of_length_le (by rw [he]; omega), he]; simp
  | y :: ys, k + 1, h => by
    have ih := set_flat he x ys k (by simp at h; omega)
    have e1 : (k + 1) * s = s + k * s := by rw [Nat.add_mul, Nat.one_mul, Nat.add_comm]
    simp only [List.flatMap_cons, List.set_cons_succ, e1, ← ih]
    rw [List.take_append, List.take_of_length_le (by rw [he]; omega), List.drop_append, List.drop_of_length_le (by rw [he]; omega), he,
      show s + k * s - s = k * s by omega, show s + k * s + s - s = k * s + s by omega]
    simp
theorem set_fill {α : Type} {xs : List α} {k : Nat} {x y : α} (h : xs[k]? = some x) : (xs.take k ++ List.replicate (xs.length - k) y).set k x = xs.take (k + 1) ++ List.replicate (xs.length - (k + 1)) y := by
  obtain ⟨hk, hx⟩ := List.getElem?_eq_some_iff.1 h
  have e1 : (xs.take k).length = k := by simp; omega
  rw [List.set_append, if_neg (by omega), e1, Nat.sub_self, show xs.length - k = (xs.length - (k + 1)) + 1 by omega, List.replicate_succ, List.set_cons_zero, List.take_add_one, h]
  simp
theorem at_fill {α : Type} {xs : List α} {k : Nat} {y : α} (hk : k < xs.length) : (xs.take k ++ List.replicate (xs.length - k) y)[k]? = some y := by
  have e1 : (xs.take k).length = k := by simp; omega
  rw [List.getElem?_append_right (by omega), e1, Nat.sub_self, List.getElem?_replicate, if_pos (by omega)]
theorem end_fill {α : Type} {xs : List α} {k : Nat} {y : α} (hk : ¬ (k : Int) < (xs.length : Int)) : xs.take k ++ List.replicate (xs.length - k) y = xs := by
  rw [List.take_of_length_le (by omega), show xs.length - k = 0 by omega]; simp
theorem Own.to {w : World} {lo : Nat} {t : TypeId} {s n c : Nat} {A : Option Addr} {cs cs' : List Value} (h : Own w lo t s A n c cs) (e : cs = cs') : Own w lo t s A n c cs' := e ▸ h
end Go.Proofs.YtdoibplhbdkapaaGreatDoor
namespace Go.Proofs.YtdoibplhbdkapaaGreatDoor
open Go.RowKit
set_option linter.unusedVariables false

theorem snoc {α : Type} (enc : α → List Value) (xs : List α) (x : α) : (xs ++ [x]).flatMap enc = xs.flatMap enc ++ enc x := by simp
def strOf (bs : List UInt8) : ByteArray := ⟨bs.toArray⟩
theorem flat_eB (bs : List UInt8) : bs.flatMap eB = (bs.map (fun b => (b.toNat : Int))).map (Value.int .u8) := by
  induction bs with
  | nil => rfl
  | cons b bs ih => simp [List.flatMap_cons, ih, eB]

section
variable {P : Program} {e : List (Nat × Value)} {w : World} {K : Value → World → Prop} {ty : TypeId} {x : Operand}
theorem ow_convBS {src dst el : TypeId} {A : Option Addr} {B n c : Nat} {bs : List UInt8} (hs : P.underlying src = some (.slice el)) (he : P.underlying el = some (.int .u8)) (hd : P.underlying dst = some .string)
    (hr : Sl B w A (bs.flatMap eB)) (hx : evO e x = some (.slice A n c)) (hn : n = bs.length) (h : K (.string (strOf bs)) w) : OpWp P e (.convert src dst x) ty w K := fun ρ d p a g hρ => by
  have h1 := hρ _ _ hx
  have hrun : (convert src dst (.slice A n c)).run P w = .ok (.string (strOf bs)) w := by
    match A with
    | none =>
      have hb : bs = [] := by
        cases bs with
        | nil => rfl
        | cons b bs =>
          have := (hr.2 0 _ (by rw [List.flatMap_cons]; rfl)).1
          simp at this
      subst hb
      exact run_convert_bytes_nil w src el hs he _ _ dst hd
    | some ad =>
      have hl : (loadCells ad n).run P w = .ok ((bs.map (fun b => (b.toNat : Int))).map (Value.int .u8)).toArray w := by
        have := run_loadCells_list (P := P) w ad (bs.flatMap eB) (fun j v hj => hr.at_ hj)
        rw [flat_len eB_len, Nat.mul_one, ← hn] at this
        rw [this, flat_eB]
      rw [run_convert_bytes_string w src dst el _ n c hs he hd, run_bytesToString w _ n c _ hl, foldl_push_bytes]
      have e1 : (bs.map (fun b => (b.toNat : Int))).map (fun n => UInt8.ofNat n.toNat) = bs := by
        rw [List.map_map]
        conv => rhs; rw [← List.map_id bs]
        apply List.map_congr_left
        intro b _
        simp
      rw [e1]
      simp [strOf, ByteArray.empty, ByteArray.emptyWithCapacity]
      rfl
  simp only [execOp, h1, hrun, upto, Sem.run_bind, Result.andThen_ok, Sem.run_pure]
  exact h
end

def seqG {α : Type} (g : Nat → α) (n : Nat) : List α := (List.range n).map g
theorem seqG_len {α : Type} (g : Nat → α) (n : Nat) : (seqG g n).length = n := by simp [seqG]
theorem seqG_set {α : Type} {g : Nat → α} {k : Nat} {xs : List α} (hk : k < xs.length) : (seqG g k ++ xs.drop k).set k (g k) = seqG g (k + 1) ++ xs.drop (k + 1) := by
  rw [List.set_append, if_neg (by simp [seqG_len]), seqG_len, Nat.sub_self, List.drop_eq_getElem_cons hk, List.set_cons_zero]
  simp [seqG, List.range_succ]
theorem seqG_at' {α : Type} {g : Nat → α} {k : Nat} {xs : List α} {x : α} (hx : xs[k]? = some x) : (seqG g k ++ xs.drop k)[k]? = some x := by
  rw [List.getElem?_append_right (by simp [seqG_len]), seqG_len, Nat.sub_self, List.getElem?_drop, Nat.add_zero, hx]
theorem seqG_end {α : Type} {g : Nat → α} {k : Nat} {xs : List α} (h0 : k ≤ xs.length) (hk : ¬ (k : Int) < (xs.length : Int)) : seqG g k ++ xs.drop k = seqG g xs.length := by
  rw [drop_end hk, List.append_nil, show k = xs.length by omega]
theorem seqG_all {α : Type} {g : Nat → α} {k : Nat} {xs : List α} (hk : k ≤ xs.length) : (seqG g k ++ xs.drop k).length = xs.length := by simp [seqG_len]; omega
theorem set_at {α : Type} {l : List α} {k : Nat} {x : α} (h : k < l.length) : (l.set k x)[k]? = some x := by simp [h]

theorem set_field {α : Type} {enc : α → List Value} {s f s' : Nat} (he : ∀ x, (enc x).length = s) {x x' : α} {vs : List Value} (hv : enc x' = (enc x).take f ++ vs ++ (enc x).drop (f + s')) (hf : f + s' ≤ s) : ∀ (xs : List α) (k : Nat), xs[k]? = some x →
    (xs.flatMap enc).take (k * s + f) ++ vs ++ (xs.flatMap enc).drop (k * s + f + s') = (xs.set k x').flatMap enc
  | [], k, h => by simp at h
  | y :: ys, 0, h => by
    simp only [List.getElem?_cons_zero, Option.some.injEq] at h
    subst h
    simp only [Nat.zero_mul, Nat.zero_add, List.flatMap_cons, List.set_cons_zero, hv]
    rw [List.take_append_of_le_length (by rw [he]; omega), List.drop_append_of_le_length (by rw [he]; omega)]
    simp
  | y :: ys, k + 1, h => by
    have ih := set_field he hv hf ys k (by simpa using h)
    have e1 : (k + 1) * s + f = s + (k * s + f) := by rw [Nat.add_mul, Nat.one_mul]; omega
    simp only [List.flatMap_cons, List.set_cons_succ, e1, ← ih]
    rw [List.take_append, List.take_of_length_le (by rw [he]; omega), List.drop_append, List.drop_of_length_le (by rw [he]; omega), he,
      show s + (k * s + f) - s = k * s + f by omega, show s + (k * s + f) + s' - s = k * s + f + s' by omega]
    simp
section
variable {P : Program} {e : List (Nat × Value)} {w : World} {K : Value → World → Prop} {ty t el : TypeId} {x y : Operand} {s b : Nat} {a : Bool} {z : List Value}
theorem ow_storeRF {lo n c j f s' : Nat} {A : Option Addr} {cs vs : List Value} {v : Value} (hown : Own w lo el s A n c cs) (ht : tiO P t = some (a, s', b, z)) (hx : evO e x = some (.pointer (some (((base A).add j).add f)))) (hv : evO e y = some v) (hc : v.cells = vs.toArray) (hl : vs.length = s') (hj : j + f + s' ≤ n * s) (h0 : 0 < n * s)
    (h1 : vs.all (·.oneCell') = true) (h : ∀ w', Own w' lo el s A n c (cs.take (j + f) ++ vs ++ cs.drop (j + f + s')) → w.grownBy w' ((Value.slice A n c).ownBlock) → w'.heap.size = w.heap.size → K undef w') : OpWp P e (.store t x y) ty w K :=
  ow_storeR hown ht (by rw [hx, add_add']) hv hc hl hj h0 h1 h
theorem ow_storeRFF {lo n c j f g s' : Nat} {A : Option Addr} {cs vs : List Value} {v : Value} (hown : Own w lo el s A n c cs) (ht : tiO P t = some (a, s', b, z)) (hx : evO e x = some (.pointer (some ((((base A).add j).add f).add g)))) (hv : evO e y = some v) (hc : v.cells = vs.toArray) (hl : vs.length = s') (hj : j + (f + g) + s' ≤ n * s) (h0 : 0 < n * s)
    (h1 : vs.all (·.oneCell') = true) (h : ∀ w', Own w' lo el s A n c (cs.take (j + (f + g)) ++ vs ++ cs.drop (j + (f + g) + s')) → w.grownBy w' ((Value.slice A n c).ownBlock) → w'.heap.size = w.heap.size → K undef w') : OpWp P e (.store t x y) ty w K :=
  ow_storeR hown ht (by rw [hx, add_add', add_add']) hv hc hl hj h0 h1 h
end
section
variable {P : Program} {e : List (Nat × Value)} {w : World} {K : Value → World → Prop} {ty t t' : TypeId} {x y : Operand} {b c : Bool}
theorem ow_eqlBd (ht : P.underlying t = some .bool) (hx : evO e x = some (.bool b)) (hy : evO e y = some (.bool c)) (h : K (.bool (decide (b = c))) w) : OpWp P e (.binOp .eql t x y t') ty w K :=
  ow_eqlB ht hx hy (by have e1 : (b == c) = decide (b = c) := by cases b <;> cases c <;> rfl
                       rw [e1]; exact h)
theorem ow_neqBd (ht : P.underlying t = some .bool) (hx : evO e x = some (.bool b)) (hy : evO e y = some (.bool c)) (h : K (.bool (decide (b ≠ c))) w) : OpWp P e (.binOp .neq t x y t') ty w K :=
  ow_neqB ht hx hy (by have e1 : (!(b == c)) = decide (b ≠ c) := by cases b <;> cases c <;> rfl
                       rw [e1]; exact h)
theorem ow_eqlBd2 (ht : P.underlying t = some .bool) (hx : evO e x = some (.bool b)) (hy : evO e y = some (.bool c)) (h1 : b = c → K (.bool true) w) (h2 : ¬ (b = c) → K (.bool false) w) : OpWp P e (.binOp .eql t x y t') ty w K :=
  ow_eqlBd ht hx hy (bsp (R := fun b => K (.bool b) w) h1 h2)
theorem ow_neqBd2 (ht : P.underlying t = some .bool) (hx : evO e x = some (.bool b)) (hy : evO e y = some (.bool c)) (h1 : b ≠ c → K (.bool true) w) (h2 : ¬ (b ≠ c) → K (.bool false) w) : OpWp P e (.binOp .neq t x y t') ty w K :=
  ow_neqBd ht hx hy (bsp (R := fun b => K (.bool b) w) h1 h2)
end
section
variable {P : Program} {e : List (Nat × Value)} {w : World} {K : Value → World → Prop} {ty : TypeId} {m : Bool}
theorem ow_callVL {f : FuncId} {x : Operand} {cs : List Value} {args : Array Operand} {ts : Array TypeId} {vs : List Value} (hf : Enters P f) (hv : evO e x = some (.func (.func f) #[] cs.toArray)) (hx : argsO e args.toList = some vs)
    (hc : Calls P f (vs ++ cs).toArray w (Ret K)) : OpWp P e (.call ⟨.value x, args, ts⟩) ty w K :=
  ow_callV hf hv hx (by
    have e1 : (#[] ++ vs.toArray ++ cs.toArray : Array Value) = (vs ++ cs).toArray := by simp
    rw [e1]; exact hc)
theorem ow_callVLB {f : FuncId} {x : Operand} {cs : List Value} {args : Array Operand} {ts : Array TypeId} {vs : List Value} (hf : Enters P f) (hv : evO e x = some (.func (.func f) #[] cs.toArray)) (hx : argsO e args.toList = some vs)
    (hc : Calls P f (vs ++ cs).toArray w (Ret fun v w' => v = .bool m ∧ Ext w w')) (h1 : ∀ w', m = true → Ext w w' → K (.bool true) w') (h2 : ∀ w', m = false → Ext w w' → K (.bool false) w') : OpWp P e (.call ⟨.value x, args, ts⟩) ty w K :=
  ow_callVL hf hv hx (ret_mono hc fun v w' h => by
    obtain ⟨rfl, hx⟩ := h
    cases hm : m
    · exact h2 w' hm hx
    · exact h1 w' hm hx)
end
theorem gb_refl (w : World) (row : Option Nat) : w.grownBy w row := ⟨rfl, rfl, rfl, Nat.le_refl _, fun _ _ _ => rfl⟩
theorem gb_trans {w a b : World} {row : Option Nat} (h : w.grownBy a row) (k : a.grownBy b row) : w.grownBy b row :=
  ⟨k.os.trans h.os, k.tape.trans h.tape, k.output.trans h.output, Nat.le_trans h.size k.size, fun i hi hr => (k.block i (Nat.lt_of_lt_of_le hi h.size) hr).trans (h.block i hi hr)⟩
section
variable {w w' : World} {lo lo' n c s n' c' s' g : Nat} {t t' : TypeId} {A A' : Option Addr} {cs cs' ds : List Value}
theorem Own.grown {row : Option Nat} (h : Own w lo t s A n c cs) (hg : w.grownBy w' row) (hr : ∀ g, row = some g → (Value.slice A n c).ownBlock ≠ some g) : Own w' lo t s A n c cs := by
  refine ⟨h.1, ?_⟩
  rcases h.2 with h2 | ⟨g, cap, cur, hv, hlo, hh, r⟩
  · exact .inl h2
  · exact .inr ⟨g, cap, cur, hv, hlo, (hg.block g (Array.getElem?_eq_some_iff.1 hh).1 (fun e => hr g e.symm (by rw [hv]; rfl))).trans hh, r⟩
theorem Own.grownBlk (h : Own w lo t s A n c cs) (hg : w.grownBy w' (some g)) (hr : (Value.slice A n c).ownBlock ≠ some g) : Own w' lo t s A n c cs :=
  h.grown hg fun g' e => by injection e with e; rw [← e]; exact hr
theorem Own.at_ (h : Own w lo t s A n c cs) (hg : (Value.slice A n c).ownBlock = some g) : ∃ cur, w.heap[g]? = some (.cells cur t (0, 0)) := by
  rcases h.2 with ⟨h1, h2⟩ | ⟨g', cap, cur, hv, hlo, hh, r⟩
  · rw [h1] at hg; simp [Value.ownBlock] at hg
  · rw [hv] at hg
    have e : g' = g := by simpa [Value.ownBlock] using hg
    subst e; exact ⟨cur, hh⟩
/-- rows and blocks of different types are different blocks -/
theorem Own.neT (h : Own w lo t s A n c cs) (hb : Blk w g t' ds) (ht : t ≠ t') : (Value.slice A n c).ownBlock ≠ some g := fun e => by
  obtain ⟨cur, h1⟩ := h.at_ e
  unfold Blk at hb
  rw [h1] at hb
  injection hb with hb; injection hb with _ h2; exact ht h2
theorem Own.neO (h : Own w lo t s A n c cs) (k : Own w lo' t' s' A' n' c' ds) (ht : t ≠ t') : ∀ g, (Value.slice A' n' c').ownBlock = some g → (Value.slice A n c).ownBlock ≠ some g := fun g hg e => by
  obtain ⟨cur, h1⟩ := h.at_ e
  obtain ⟨cur', h2⟩ := k.at_ hg
  rw [h1] at h2
  injection h2 with h2; injection h2 with _ h3; exact ht h3
end
end Go.Proofs.YtdoibplhbdkapaaGreatDoor
namespace Go.Proofs.YtdoibplhbdkapaaGreatDoor
open Go.RowKit
set_option linter.unusedVariables false
set_option linter.unusedSimpArgs false

def inB (a b c : Int) : Bool := decide (b ≤ a) && decide (a ≤ c)
theorem inB_iff {a b c : Int} : inB a b c = true ↔ b ≤ a ∧ a ≤ c := by simp [inB]

def dataOk (k z : Int) : Bool := if k = 0 then inB z 0 32 else if k = 2 then inB z 1 32 else decide (z = 0)
def bodyS (k z : Int) : Int := 1 + (if k = 0 then 0 else 8) + (if k = 0 ∨ k = 2 then 1 + z else 0)
def cellsS (k z : Int) : Int := 11 + 10 * (bodyS k z + 3)
def descOk (d : Desc) : Bool := inB d.node 0 31 && inB d.kind 0 3 && dataOk d.kind d.size && !(d.change && decide (d.kind = 3)) && inB d.duration (cellsS d.kind d.size + 20) 1000
def slotOk (x : SlotI) : Bool := inB x.mode 0 15 && inB x.round 0 7 && inB x.slot 0 15 && descOk x.desc
def okFrom : Option SlotI → List SlotI → Bool
  | _, [] => true
  | none, x :: r => slotOk x && okFrom (some x) r
  | some y, x :: r => slotOk x && decide (cmpS y x < 0) && okFrom (some x) r
def isST (xs : List SlotI) : Bool := okFrom none xs && decide (xs.length ≤ 120)
def prevO (xs : List SlotI) (k : Nat) : Option SlotI := if k = 0 then none else xs[k - 1]?
theorem prevO_succ {xs : List SlotI} {k : Nat} {x : SlotI} (h : xs[k]? = some x) : prevO xs (k + 1) = some x := by simp [prevO, h]
theorem prevO_pos {xs : List SlotI} {k : Nat} {y : SlotI} (hk : 0 < k) (h : xs[k - 1]? = some y) : prevO xs k = some y := by rw [prevO, if_neg (by omega)]; exact h
theorem prevO_zero {xs : List SlotI} {k : Nat} (hk : ¬ 0 < (k : Int)) : prevO xs k = none := by rw [prevO, if_pos (by omega)]
theorem okFrom_all : ∀ (xs : List SlotI) (p : Option SlotI), okFrom p xs = true → ∀ x ∈ xs, slotOk x = true
  | [], _, _, x, hx => by simp at hx
  | y :: r, p, h, x, hx => by
    have h1 : slotOk y = true ∧ okFrom (some y) r = true := by
      cases p <;> simp [okFrom] at h
      · exact h
      · exact ⟨h.1.1, h.2⟩
    rcases List.mem_cons.1 hx with rfl | hx
    · exact h1.1
    · exact okFrom_all r _ h1.2 x hx
theorem isST_at {xs : List SlotI} {k : Nat} {x : SlotI} (h : isST xs = true) (hx : xs[k]? = some x) : slotOk x = true := by
  simp only [isST, Bool.and_eq_true] at h
  exact okFrom_all _ _ h.1 x (List.mem_of_getElem? hx)
theorem isST_len {xs : List SlotI} (h : isST xs = true) : xs.length ≤ 120 := by
  simp only [isST, Bool.and_eq_true, decide_eq_true_eq] at h; exact h.2
def hitS (m r s : Int) (x : SlotI) : Bool := decide (x.mode = m) && decide (x.round = r) && decide (x.slot = s)
/-- the place of the first one that fits, counted from k on; -1 if none -/
def findS (f : SlotI → Bool) (k : Int) : List SlotI → Int
  | [] => -1
  | x :: r => if f x = true then k else findS f (k + 1) r
theorem findS_lt {f : SlotI → Bool} : ∀ (xs : List SlotI) (k : Nat), findS f k xs = -1 ∨ ∃ j x, findS f k xs = ((k + j : Nat) : Int) ∧ xs[j]? = some x ∧ f x = true
  | [], k => .inl rfl
  | x :: r, k => by
    rw [findS]
    split
    · exact .inr ⟨0, x, rfl, rfl, by assumption⟩
    · rcases findS_lt r (k + 1) with h | ⟨j, y, h, h1, h2⟩
      · exact .inl h
      · refine .inr ⟨j + 1, y, ?_, by simpa using h1, h2⟩
        rw [show ((k : Int) + 1) = ((k + 1 : Nat) : Int) by omega, h]; congr 1; omega
end Go.Proofs.YtdoibplhbdkapaaGreatDoor
namespace Go.Proofs.YtdoibplhbdkapaaGreatDoor
open Go.RowKit
set_option linter.unusedVariables false
set_option linter.unusedSimpArgs false

def WI (P : Program) (ops : Array Oper) (I : World → Prop) (K : Act → World → Prop) : Nat → Array Bool → Act → World → Prop
  | 0, listed, a, w => listed = finOf ops ops.size ∧ I w ∧ K a w
  | fuel + 1, listed, a, w => I w ∧ rdy ops ops.size listed ≠ [] ∧ ∀ i ∈ rdy ops ops.size listed, ∀ o, ops[i]? = some o →
      OpX P ops o a w fun u w' => WI P ops I K fuel (listed.setIfInBounds i true) (a.put o.dst u) w'

section
variable {P : Program} {ops : Array Oper} {I : World → Prop} {K : Act → World → Prop}
theorem WI.inv : ∀ {fuel : Nat} {listed : Array Bool} {a : Act} {w : World}, WI P ops I K fuel listed a w → I w
  | 0, _, _, _, h => h.2.1
  | _ + 1, _, _, _, h => h.1

theorem WI_first {i : Nat} {oi : Oper} {v : Value} (hi : ops[i]? = some oi) (hsel : ∀ (j : Nat) (o : Oper) cs b, ops[j]? = some o → o.op ≠ .select cs b) :
    ∀ (fuel : Nat) (listed : Array Bool) (a : Act) (w : World),
      (∀ j oj, ops[j]? = some oj → j ≠ i → listed.getD j true = false → (∀ e ∈ oj.after, Region.binds .any e = true → e.on ≠ i) → oi.apart ops oj = true) →
      i ∈ rdy ops ops.size listed → (∀ w, I w → OpX P ops oi a w fun u w' => u = v ∧ w' = w) →
      WI P ops I K fuel (listed.setIfInBounds i true) (a.put oi.dst v) w → WI P ops I K (fuel + 1) listed a w := by
  have here : ∀ (fuel : Nat) (listed : Array Bool) (a : Act) (w : World), (∀ w, I w → OpX P ops oi a w fun u w' => u = v ∧ w' = w) →
      WI P ops I K fuel (listed.setIfInBounds i true) (a.put oi.dst v) w →
      OpX P ops oi a w fun u w' => WI P ops I K fuel (listed.setIfInBounds i true) (a.put oi.dst u) w' := by
    intro fuel listed a w hy H
    refine OpX.mono (hy w H.inv) fun u w' ⟨h1, h2⟩ => ?_
    subst h1; subst h2; exact H
  intro fuel
  induction fuel with
  | zero =>
    intro listed a w _ hr hy H
    refine ⟨H.inv, fun h => (by rw [h] at hr; cases hr), fun j hj o ho => ?_⟩
    by_cases hji : j = i
    · subst hji
      obtain rfl : o = oi := by rw [hi] at ho; injection ho with ho; exact ho.symm
      exact here 0 listed a w hy H
    · exfalso
      obtain ⟨hj1, hj2⟩ := mem_rdy.1 hj
      have h1 := (mem_ready.1 (ready_mono hj1 hji)).1
      rw [H.1, finOf_spec j hj2] at h1
      cases h1
  | succ fuel ih =>
    intro listed a w hfree hr hy H
    refine ⟨H.inv, fun h => (by rw [h] at hr; cases hr), fun j hj oj hoj => ?_⟩
    by_cases hji : j = i
    · subst hji
      obtain rfl : oj = oi := by rw [hi] at hoj; injection hoj with ho; exact ho.symm
      exact here _ listed a w hy H
    · obtain ⟨hj1, hj2⟩ := mem_rdy.1 hj
      obtain ⟨hi1, hi2⟩ := mem_rdy.1 hr
      have hex := H.2.2 j (mem_rdy.2 ⟨ready_mono hj1 hji, hj2⟩) oj hoj
      obtain ⟨hjun, oj', hoj', hall⟩ := mem_ready.1 hj1
      obtain rfl : oj' = oj := by rw [hoj] at hoj'; injection hoj' with ho; exact ho.symm
      have hnot : ∀ e ∈ oj'.after, Region.binds .any e = true → e.on ≠ i := fun e he hb heq => by
        have h1 := hall e he hb
        have h0 := (mem_ready.1 hi1).1
        rw [heq] at h1
        rcases Nat.lt_or_ge i listed.size with h' | h'
        · simp [h'] at h0 h1; rw [h0] at h1; cases h1
        · simp [Array.getElem?_eq_none h'] at h1
      have hap := hfree j oj' hoj hji hjun hnot
      obtain ⟨ha1, ha2, ha3⟩ := Oper.apart_spec hap
      refine OpX.mono ((OpX.put (fun cs b => hsel j oj' cs b hoj) ha1).1 hex) fun u w' hu => ?_
      refine ih _ _ _ ?_ (mem_rdy.2 ⟨ready_mono hi1 (Ne.symm hji), hi2⟩) (fun w hw => (OpX.put (fun cs b => hsel i oi cs b hi) ha3).2 (hy w hw)) ?_
      · intro k ok hk hki hun hno
        refine hfree k ok hk hki ?_ hno
        by_cases hjk : j = k
        · subst hjk; exact hjun
        · rw [getD_set_ne true hjk] at hun; exact hun
      · rw [Array.setIfInBounds_comm _ _ hji, ← Act.put_comm a v u ha2]
        exact hu

theorem WI_any {Q : Exit → Act → World → Prop} (hK : ∀ a w, K a w → wpAny P .any ops Q 0 (finOf ops ops.size) a w) :
    ∀ (fuel : Nat) (listed : Array Bool) (a : Act) (w : World), WI P ops I K fuel listed a w → wpAny P .any ops Q fuel listed a w := by
  intro fuel
  induction fuel with
  | zero => intro listed a w h; obtain ⟨rfl, _, h2⟩ := h; exact hK _ _ h2
  | succ fuel ih =>
    intro listed a w h
    obtain ⟨_, hne, hall⟩ := h
    obtain ⟨k, hk⟩ := List.exists_mem_of_ne_nil _ hne
    refine ⟨fun h0 => (by have := (mem_rdy.1 hk).1; rw [h0] at this; cases this), fun i hi => ?_⟩
    obtain ⟨hiun, oi, hoi, hedge⟩ := mem_ready.1 hi
    have him : i < ops.size := (Array.getElem?_eq_some_iff.1 hoi).1
    exact OpX.wpOp hoi (hall i (mem_rdy.2 ⟨hi, him⟩) oi hoi) fun v w' hv => ih _ _ _ hv
end

theorem ready_fin (ops : Array Oper) : Region.ready .any ops (finOf ops ops.size) = [] := by
  apply List.eq_nil_iff_forall_not_mem.2
  intro i hi
  obtain ⟨h1, o, ho, _⟩ := mem_ready.1 hi
  have hlt : i < ops.size := (Array.getElem?_eq_some_iff.1 ho).1
  rw [finOf_spec i hlt] at h1
  cases h1
def WE (P : Program) (n : Nat) (ops : Array Oper) (I : World → Prop) (K : Act → World → Prop) (fuel : Nat) (listed : Array Bool) (e : List (Nat × Value)) (w : World) : Prop :=
  ∀ a, Fits n e a → WI P ops I K fuel listed a w

section
variable {P : Program} {n : Nat} {ops : Array Oper} {I : World → Prop} {K : Act → World → Prop} {fuel : Nat} {listed listed' : Array Bool} {e : List (Nat × Value)} {w : World}
/-- a quiet one is taken first -/
theorem wi_take (i : Nat) {dst : Option Tmp} {op : Op} {ty : TypeId} {pos : String} {af : Array Edge} {v : Value} (hi : ops[i]? = some ⟨dst, op, ty, pos, af, none⟩) (hs : Region.noSelect ops = true) (hd : dstOk n dst = true)
    (ht : takeB ops ops.size listed i = true) (hl : listed.setIfInBounds i true = listed') (hy : ∀ w, I w → OpWp P e op ty w fun u w' => u = v ∧ w' = w)
    (h : WE P n ops I K fuel listed' (updO e dst v) w) : WE P n ops I K (fuel + 1) listed e w := fun a ha => by
  simp only [takeB, Bool.and_eq_true] at ht
  refine WI_first hi (Region.noSelect_spec hs) fuel listed a w (Region.free_spec hi ht.1) (by simpa using ht.2) (fun w hw => (hy w hw).opX ha) ?_
  rw [hl]
  exact h _ (ha.put dst v hd)
/-- number i alone may come up -/
theorem wi_one (i : Nat) {dst : Option Tmp} {op : Op} {ty : TypeId} {pos : String} {af : Array Edge} (hi : ops[i]? = some ⟨dst, op, ty, pos, af, none⟩) (hd : dstOk n dst = true)
    (hr : rdy ops ops.size listed = [i]) (hl : listed.setIfInBounds i true = listed') (hI : I w) (hy : OpWp P e op ty w fun u w' => WE P n ops I K fuel listed' (updO e dst u) w') : WE P n ops I K (fuel + 1) listed e w := fun a ha => by
  refine ⟨hI, by rw [hr]; simp, fun j hj o ho => ?_⟩
  rw [hr] at hj
  obtain rfl : j = i := by simpa using hj
  obtain rfl : ⟨dst, op, ty, pos, af, none⟩ = o := by rw [hi] at ho; injection ho
  refine OpX.mono (OpWp.opX ha hy) fun u w' hu => ?_
  rw [hl]
  exact hu _ (ha.put dst u hd)
/-- numbers i and k alone may come up -/
theorem wi_two (i k : Nat) {listed'' : Array Bool} {dst : Option Tmp} {op : Op} {ty : TypeId} {pos : String} {af : Array Edge} {dst2 : Option Tmp} {op2 : Op} {ty2 : TypeId} {pos2 : String} {af2 : Array Edge} (hi : ops[i]? = some ⟨dst, op, ty, pos, af, none⟩) (hk : ops[k]? = some ⟨dst2, op2, ty2, pos2, af2, none⟩) (hd : dstOk n dst = true) (hd2 : dstOk n dst2 = true)
    (hr : rdy ops ops.size listed = [i, k]) (hl : listed.setIfInBounds i true = listed') (hl2 : listed.setIfInBounds k true = listed'') (hI : I w) (hy : OpWp P e op ty w fun u w' => WE P n ops I K fuel listed' (updO e dst u) w')
    (hy2 : OpWp P e op2 ty2 w fun u w' => WE P n ops I K fuel listed'' (updO e dst2 u) w') : WE P n ops I K (fuel + 1) listed e w := fun a ha => by
  refine ⟨hI, by rw [hr]; simp, fun j hj o ho => ?_⟩
  rw [hr] at hj
  simp only [List.mem_cons, List.not_mem_nil, or_false] at hj
  rcases hj with rfl | rfl
  · obtain rfl : ⟨dst, op, ty, pos, af, none⟩ = o := by rw [hi] at ho; injection ho
    refine OpX.mono (OpWp.opX ha hy) fun u w' hu => ?_
    rw [hl]
    exact hu _ (ha.put dst u hd)
  · obtain rfl : ⟨dst2, op2, ty2, pos2, af2, none⟩ = o := by rw [hk] at ho; injection ho
    refine OpX.mono (OpWp.opX ha hy2) fun u w' hu => ?_
    rw [hl2]
    exact hu _ (ha.put dst2 u hd2)
/-- all are done -/
theorem wi_done (hl : listed = finOf ops ops.size) (hI : I w) (h : ∀ a, Fits n e a → K a w) : WE P n ops I K 0 listed e w := fun a ha => ⟨hl, hI, h a ha⟩
end

theorem c_seqI {P : Program} {n : Nat} {id : Nat} {l : List Oper} {e : List (Nat × Value)} {w : World} {Q : Exit → List (Nat × Value) → World → Prop} {y : Code} (I : World → Prop)
    (hx : P.follows .mixedOrders = true)
    (h : WE P n l.toArray I (fun a w => ∃ e', Fits n e' a ∧ CWp P n y e' w Q) l.toArray.size (Array.replicate l.toArray.size false) e w.drew) : CWp P n (.seq (.region id l.toArray true) y) e w Q := c_seq fun a ha => by
  refine wp_region_any hx ?_
  exact WI_any (K := fun a w => ∃ e', Fits n e' a ∧ CWp P n y e' w Q) (Q := fun x a' w' => ∃ e', Fits n e' a' ∧ thenQ (fun e' w' => CWp P n y e' w' Q) Q x e' w') (fun a w ⟨e', hf, hk⟩ => ⟨ready_fin _, e', hf, hk⟩) _ _ _ _ (h a ha)
theorem c_regI {P : Program} {n : Nat} {id : Nat} {l : List Oper} {e : List (Nat × Value)} {w : World} {Q : Exit → List (Nat × Value) → World → Prop} (I : World → Prop)
    (hx : P.follows .mixedOrders = true)
    (h : WE P n l.toArray I (fun a w => ∃ e', Fits n e' a ∧ Q .normal e' w) l.toArray.size (Array.replicate l.toArray.size false) e w.drew) : CWp P n (.region id l.toArray true) e w Q := fun a ha => by
  refine wp_region_any hx ?_
  exact WI_any (K := fun a w => ∃ e', Fits n e' a ∧ Q .normal e' w) (Q := fun x a' w' => ∃ e', Fits n e' a' ∧ Q x e' w') (fun a w ⟨e', hf, hk⟩ => ⟨ready_fin _, e', hf, hk⟩) _ _ _ _ (h a ha)

theorem gb_ext {w a b : World} {row : Option Nat} (h : w.grownBy a row) (k : Ext a b) : w.grownBy b row :=
  ⟨k.os.trans h.os, k.tape.trans h.tape, k.output.trans h.output, Nat.le_trans h.size k.size, fun i hi hr => (k.block i (Nat.lt_of_lt_of_le hi h.size)).trans (h.block i hi hr)⟩
theorem gb_new {w a b : World} {row row' : Option Nat} (h : w.grownBy a row) (k : a.grownBy b row') (hr : ∀ g, row' = some g → w.heap.size ≤ g) : w.grownBy b row :=
  ⟨k.os.trans h.os, k.tape.trans h.tape, k.output.trans h.output, Nat.le_trans h.size k.size, fun i hi hn => (k.block i (Nat.lt_of_lt_of_le hi h.size) (fun e => by have := hr i e.symm; omega)).trans (h.block i hi hn)⟩
end Go.Proofs.YtdoibplhbdkapaaGreatDoor
namespace Go.Proofs.YtdoibplhbdkapaaGreatDoor
open Go.RowKit
set_option linter.unusedVariables false
set_option linter.unusedSimpArgs false

structure Mode where
  rounds : Int
  slots : Int
  next : List Int
structure ModeI where
  m : Mode
  A : Option Addr
  c : Nat
def ModeI.cells (x : ModeI) : List Value := [.int .i64 x.m.rounds, .int .i64 x.m.slots, .slice x.A x.m.next.length x.c]
theorem ModeI.len (x : ModeI) : x.cells.length = 3 := rfl

/-- the list of each entry can be read -/
def Nexts (B : Nat) (w : World) (xs : List ModeI) : Prop := B ≤ w.heap.size ∧ ∀ x ∈ xs, Sl B w x.A (x.m.next.flatMap eI) ∧ x.m.next.length ≤ 9223372036854775807
section
variable {B B' : Nat} {w w' : World} {xs ys : List ModeI}
theorem Nexts.at_ {k : Nat} {x : ModeI} (h : Nexts B w xs) (hx : xs[k]? = some x) : Sl B w x.A (x.m.next.flatMap eI) := (h.2 x (List.mem_of_getElem? hx)).1
theorem Nexts.len {k : Nat} {x : ModeI} (h : Nexts B w xs) (hx : xs[k]? = some x) : x.m.next.length ≤ 9223372036854775807 := (h.2 x (List.mem_of_getElem? hx)).2
theorem Nexts.below (h : Nexts B w xs) (hb : Below B w w') : Nexts B w' xs := ⟨Nat.le_trans h.1 hb.size, fun x hx => ⟨(h.2 x hx).1.below hb, (h.2 x hx).2⟩⟩
theorem Nexts.ext (h : Nexts B w xs) (hb : Ext w w') : Nexts B w' xs := h.below (Below.mono hb h.1)
theorem Nexts.grown {row : Option Nat} (h : Nexts B w xs) (hg : w.grownBy w' row) (hr : ∀ g, row = some g → B ≤ g) : Nexts B w' xs := ⟨Nat.le_trans h.1 hg.size, fun x hx => ⟨(h.2 x hx).1.grown hg hr, (h.2 x hx).2⟩⟩
theorem Nexts.nil_ (hB : B ≤ w.heap.size) : Nexts B w [] := ⟨hB, fun x hx => by simp at hx⟩
theorem Nexts.snoc {x : ModeI} (h : Nexts B w xs) (hx : Sl B w x.A (x.m.next.flatMap eI)) (hl : x.m.next.length ≤ 9223372036854775807) : Nexts B w (xs ++ [x]) := ⟨h.1, fun y hy => by
  rcases List.mem_append.1 hy with h1 | h1
  · exact h.2 y h1
  · obtain rfl : y = x := by simpa using h1
    exact ⟨hx, hl⟩⟩
end

/-- the list of each entry is a row of the call's own -/
def NOwn (w : World) (lo : Nat) (t : TypeId) (xs : List ModeI) : Prop := ∀ x ∈ xs, Own w lo t 1 x.A x.m.next.length x.c (x.m.next.flatMap eI) ∧ x.m.next.length ≤ 9223372036854775807
section
variable {w w' : World} {lo lo' n c s g : Nat} {t t' : TypeId} {A : Option Addr} {cs : List Value} {xs : List ModeI}
theorem NOwn.nil_ : NOwn w lo t [] := fun x hx => by simp at hx
theorem NOwn.ext (h : NOwn w lo t xs) (hb : Ext w w') : NOwn w' lo t xs := fun x hx => ⟨(h x hx).1.ext hb, (h x hx).2⟩
theorem NOwn.low (h : NOwn w lo t xs) (hl : lo' ≤ lo) : NOwn w lo' t xs := fun x hx => ⟨(h x hx).1.low hl, (h x hx).2⟩
theorem NOwn.grownO (h : NOwn w lo t xs) (k : Own w lo' t' s A n c cs) (hg : w.grownBy w' (Value.slice A n c).ownBlock) (ht : t ≠ t') : NOwn w' lo t xs := fun x hx => ⟨(h x hx).1.grown hg (Own.neO (h x hx).1 k ht), (h x hx).2⟩
theorem NOwn.grownB (h : NOwn w lo t xs) (k : Blk w g t' cs) (hg : w.grownBy w' (some g)) (ht : t ≠ t') : NOwn w' lo t xs := fun x hx => ⟨(h x hx).1.grownBlk hg (Own.neT (h x hx).1 k ht), (h x hx).2⟩
theorem NOwn.nexts (h : NOwn w lo t xs) : Nexts w.heap.size w xs := ⟨Nat.le_refl _, fun x hx => ⟨(h x hx).1.sl, (h x hx).2⟩⟩
theorem NOwn.snoc {x : ModeI} (h : NOwn w lo t xs) (hx : Own w lo t 1 x.A x.m.next.length x.c (x.m.next.flatMap eI)) (hl : x.m.next.length ≤ 9223372036854775807) : NOwn w lo t (xs ++ [x]) := fun y hy => by
  rcases List.mem_append.1 hy with h1 | h1
  · exact h y h1
  · obtain rfl : y = x := by simpa using h1
    exact ⟨hx, hl⟩
end

theorem fill2_at {α : Type} {ys : List α} {k n : Nat} {z : α} (hy : ys.length = k) (hk : k < n) : (ys ++ List.replicate (n - k) z)[k]? = some z := by
  rw [List.getElem?_append_right (by omega), hy, Nat.sub_self, List.getElem?_replicate, if_pos (by omega)]
theorem fill2_set {α : Type} {ys : List α} {k n : Nat} {x z : α} (hy : ys.length = k) (hk : k < n) : (ys ++ List.replicate (n - k) z).set k x = (ys ++ [x]) ++ List.replicate (n - (k + 1)) z := by
  rw [List.set_append, if_neg (by omega), hy, Nat.sub_self, show n - k = (n - (k + 1)) + 1 by omega, List.replicate_succ, List.set_cons_zero]; simp
theorem fill2_end {α : Type} {ys : List α} {k n : Nat} {z : α} (hk : n ≤ k) : ys ++ List.replicate (n - k) z = ys := by rw [show n - k = 0 by omega]; simp
def prevG {α : Type} (xs : List α) (k : Nat) : Option α := if k = 0 then none else xs[k - 1]?
theorem prevG_succ {α : Type} {xs : List α} {k : Nat} {x : α} (h : xs[k]? = some x) : prevG xs (k + 1) = some x := by simp [prevG, h]
theorem prevG_pos {α : Type} {xs : List α} {k : Nat} {y : α} (hk : 0 < (k : Int)) (h : xs[k - 1]? = some y) : prevG xs k = some y := by rw [prevG, if_neg (by omega)]; exact h
theorem prevG_zero {α : Type} {xs : List α} {k : Nat} (hk : ¬ 0 < (k : Int)) : prevG xs k = none := by rw [prevG, if_pos (by omega)]
theorem map_at {α β : Type} {f : α → β} {xs : List α} {k : Nat} {x : α} (h : xs[k]? = some x) : (xs.map f)[k]? = some (f x) := by simp [h]

/-- rising, from below up, all in 0 .. n-1 -/
def risesFrom (n : Int) : Option Int → List Int → Bool
  | _, [] => true
  | none, x :: r => inB x 0 (n - 1) && risesFrom n (some x) r
  | some y, x :: r => inB x 0 (n - 1) && decide (y < x) && risesFrom n (some x) r
theorem rises_ok0 {n x : Int} {r : List Int} (h : inB x 0 (n - 1) = true) : risesFrom n none (x :: r) = risesFrom n (some x) r := by simp [risesFrom, h]
theorem rises_ok1 {n x y : Int} {r : List Int} (h : inB x 0 (n - 1) = true) (h2 : y < x) : risesFrom n (some y) (x :: r) = risesFrom n (some x) r := by simp [risesFrom, h, h2]
theorem rises_bad0 {n x : Int} {p : Option Int} {r : List Int} (h : inB x 0 (n - 1) = false) : risesFrom n p (x :: r) = false := by cases p <;> simp [risesFrom, h]
theorem rises_bad1 {n x y : Int} {r : List Int} (h2 : ¬ y < x) : risesFrom n (some y) (x :: r) = false := by simp [risesFrom, h2]
theorem rises_nil {n : Int} {p : Option Int} : risesFrom n p [] = true := by cases p <;> rfl
def risesB (xs : List Int) (n : Int) : Bool := risesFrom n none xs
def hasB (xs : List Int) (v : Int) : Bool := xs.any fun x => decide (x = v)
def idxI (v : Int) (k : Int) : List Int → Int
  | [] => -1
  | x :: r => if x = v then k else idxI v (k + 1) r
theorem idxI_has (v : Int) : ∀ (xs : List Int) (k : Int), 0 ≤ k → decide (0 ≤ idxI v k xs) = hasB xs v
  | [], k, h => by simp [idxI, hasB]
  | x :: r, k, h => by
    rw [idxI]
    by_cases e : x = v
    · rw [if_pos e]; simp [hasB, e, h]
    · rw [if_neg e, idxI_has v r (k + 1) (by omega)]; simp [hasB, e]
def modeOk (n i : Int) (x : Mode) : Bool := inB x.rounds 1 8 && inB x.slots 1 16 && risesB x.next n && !(hasB x.next i)
def modesFrom (n : Int) (i : Int) : List Mode → Bool
  | [] => true
  | x :: r => modeOk n i x && modesFrom n (i + 1) r
theorem modesFrom_at : ∀ (ms : List Mode) (n i : Int) (k : Nat) (x : Mode), modesFrom n i ms = true → ms[k]? = some x → modeOk n (i + k) x = true
  | [], n, i, k, x, h, hx => by simp at hx
  | y :: r, n, i, 0, x, h, hx => by
    simp only [modesFrom, Bool.and_eq_true] at h
    simp at hx; subst hx; simpa using h.1
  | y :: r, n, i, k + 1, x, h, hx => by
    simp only [modesFrom, Bool.and_eq_true] at h
    have := modesFrom_at r n (i + 1) k x h.2 (by simpa using hx)
    rwa [show i + 1 + (k : Int) = i + ((k + 1 : Nat) : Int) by omega] at this
def isMT (ms : List Mode) : Bool := inB ms.length 1 16 && modesFrom ms.length 0 ms
theorem isMT_at {ms : List Mode} {k : Nat} {x : Mode} (h : isMT ms = true) (hx : ms[k]? = some x) : modeOk ms.length k x = true := by
  simp only [isMT, Bool.and_eq_true] at h
  have := modesFrom_at ms _ _ k x h.2 hx
  simpa using this
theorem isMT_len {ms : List Mode} (h : isMT ms = true) : 1 ≤ ms.length ∧ ms.length ≤ 16 := by
  simp only [isMT, Bool.and_eq_true] at h
  have := inB_iff.1 h.1; omega
theorem modeOk_in {n i : Int} {x : Mode} (h : modeOk n i x = true) : (1 ≤ x.rounds ∧ x.rounds ≤ 8) ∧ (1 ≤ x.slots ∧ x.slots ≤ 16) ∧ risesB x.next n = true := by
  simp only [modeOk, Bool.and_eq_true] at h
  exact ⟨inB_iff.1 h.1.1.1, inB_iff.1 h.1.1.2, h.1.2⟩
/-- what the laws' size functions give -/
def szInt (n : Nat) (left : Int) : Int := if left - n < 0 then -1 else left - n
def szMs : List ModeI → Int → Int
  | [], left => left
  | x :: r, left => if szInt x.m.next.length left < 0 then -1 else szMs r (szInt x.m.next.length left)
def szM (xs : List ModeI) (left : Int) : Int := if left - xs.length < 0 then -1 else szMs xs (left - xs.length)
theorem szMs_le : ∀ (xs : List ModeI) (left : Int), ¬ szMs xs left < 0 → ∀ x ∈ xs, (x.m.next.length : Int) ≤ left
  | [], left, h, x, hx => by simp at hx
  | y :: r, left, h, x, hx => by
    rw [szMs] at h
    split at h
    · omega
    · rename_i h1
      have h2 : szInt y.m.next.length left = left - y.m.next.length := by
        unfold szInt at *; split
        · rename_i h3; rw [if_pos h3] at h1; omega
        · rfl
      have h3 : ¬ left - (y.m.next.length : Int) < 0 := by rw [h2] at h1; exact h1
      rcases List.mem_cons.1 hx with rfl | hx
      · omega
      · rw [h2] at h
        have := szMs_le r _ h x hx
        omega
end Go.Proofs.YtdoibplhbdkapaaGreatDoor
namespace Go.Proofs.YtdoibplhbdkapaaGreatDoor
open Go.RowKit
set_option linter.unusedVariables false
set_option linter.unusedSimpArgs false

structure Win (lo hi : Nat) (w w' : World) : Prop where
  os : w'.os = w.os
  tape : w'.tape = w.tape
  output : w'.output = w.output
  size : w.heap.size ≤ w'.heap.size
  block : ∀ k, k < w.heap.size → (k < lo ∨ hi ≤ k) → w'.heap[k]? = w.heap[k]?
section
variable {lo hi lo' n c s : Nat} {w w' w'' : World} {t : TypeId} {A : Option Addr} {cs : List Value} {xs : List ModeI}
theorem Win.refl (lo hi : Nat) (w : World) : Win lo hi w w := ⟨rfl, rfl, rfl, Nat.le_refl _, fun _ _ _ => rfl⟩
theorem Win.grown {row : Option Nat} (h : Win lo hi w w') (hg : w'.grownBy w'' row) (hr : ∀ g, row = some g → lo ≤ g ∧ g < hi) : Win lo hi w w'' :=
  ⟨hg.os.trans h.os, hg.tape.trans h.tape, hg.output.trans h.output, Nat.le_trans h.size hg.size, fun k hk ho => (hg.block k (Nat.lt_of_lt_of_le hk h.size) (fun e => by have := hr k e.symm; omega)).trans (h.block k hk ho)⟩
theorem Win.below (h : Win lo hi w w') (hlo : lo ≤ w.heap.size) : Below lo w w' := ⟨h.os, h.tape, h.output, h.size, fun k hk => h.block k (Nat.lt_of_lt_of_le hk hlo) (.inl hk)⟩
theorem Own.win (h : Own w lo' t s A n c cs) (x : Win lo hi w w') (hl : hi ≤ lo') : Own w' lo' t s A n c cs := by
  refine ⟨h.1, ?_⟩
  rcases h.2 with h2 | ⟨g, cap, cur, hv, hlo, hh, r⟩
  · exact .inl h2
  · exact .inr ⟨g, cap, cur, hv, hlo, (x.block g (Array.getElem?_eq_some_iff.1 hh).1 (.inr (by omega))).trans hh, r⟩

/-- the block of an entry's list -/
def ModeI.blk (x : ModeI) : Option Nat := (Value.slice x.A x.m.next.length x.c).ownBlock
/-- the lists of the entries lie in different blocks -/
def Disj (xs : List ModeI) : Prop := ∀ (i j : Nat) (x y : ModeI), xs[i]? = some x → xs[j]? = some y → i ≠ j → ∀ g, x.blk = some g → y.blk ≠ some g
theorem Disj.nil_ : Disj [] := fun i j x y h => by simp at h
theorem Disj.snoc {x : ModeI} (h : Disj xs) (hb : ∀ y ∈ xs, ∀ g, y.blk = some g → x.blk ≠ some g) : Disj (xs ++ [x]) := fun i j a b hi hj hij g ha hb' => by
  rw [List.getElem?_append] at hi hj
  split at hi <;> split at hj
  · exact h i j a b hi hj hij g ha hb'
  · rename_i h1 h2
    have h3 : j - xs.length = 0 := by
      rcases Nat.eq_zero_or_pos (j - xs.length) with h | h
      · exact h
      · rw [List.getElem?_eq_none (by simp only [List.length_cons, List.length_nil]; omega)] at hj; cases hj
    rw [h3] at hj; simp at hj; subst hj
    exact hb a (List.mem_of_getElem? hi) g ha hb'
  · rename_i h1 h2
    have h3 : i - xs.length = 0 := by
      rcases Nat.eq_zero_or_pos (i - xs.length) with h | h
      · exact h
      · rw [List.getElem?_eq_none (by simp only [List.length_cons, List.length_nil]; omega)] at hi; cases hi
    rw [h3] at hi; simp at hi; subst hi
    exact hb b (List.mem_of_getElem? hj) g hb' ha
  · rename_i h1 h2
    have h3 : i - xs.length = 0 := by
      rcases Nat.eq_zero_or_pos (i - xs.length) with h | h
      · exact h
      · rw [List.getElem?_eq_none (by simp only [List.length_cons, List.length_nil]; omega)] at hi; cases hi
    have h4 : j - xs.length = 0 := by
      rcases Nat.eq_zero_or_pos (j - xs.length) with h | h
      · exact h
      · rw [List.getElem?_eq_none (by simp only [List.length_cons, List.length_nil]; omega)] at hj; cases hj
    omega

/-- the lists from place k on are rows of the call's own, those before have been given away -/
def NFrom (w : World) (lo : Nat) (t : TypeId) (k : Nat) (xs : List ModeI) : Prop := ∀ i x, k ≤ i → xs[i]? = some x → Own w lo t 1 x.A x.m.next.length x.c (x.m.next.flatMap eI)
theorem NFrom.of (h : NOwn w lo t xs) (k : Nat) : NFrom w lo t k xs := fun i x _ hx => (h x (List.mem_of_getElem? hx)).1
theorem NFrom.grownO {t' : TypeId} {k : Nat} (h : NFrom w lo t k xs) (o : Own w lo' t' s A n c cs) (hg : w.grownBy w' (Value.slice A n c).ownBlock) (ht : t ≠ t') : NFrom w' lo t k xs := fun i x hi hx => (h i x hi hx).grown hg (Own.neO (h i x hi hx) o ht)
theorem NFrom.next {k : Nat} {x : ModeI} (h : NFrom w lo t k xs) (hd : Disj xs) (hx : xs[k]? = some x) (hg : w.grownBy w' x.blk) : NFrom w' lo t (k + 1) xs := fun i y hi hy =>
  (h i y (by omega) hy).grown hg fun g hgx hgy => hd k i x y hx hy (by omega) g hgx hgy
end
end Go.Proofs.YtdoibplhbdkapaaGreatDoor
namespace Go.Proofs.YtdoibplhbdkapaaGreatDoor
open Go.RowKit
set_option linter.unusedVariables false
set_option linter.unusedSimpArgs false

structure NodeI where
  id : Int
  name : ByteArray
  drift : Int
  passive : Bool
def NodeI.cells (n : NodeI) : List Value := [.int .i64 n.id, .string n.name, .int .i64 n.drift, .bool n.passive]
theorem NodeI.len (n : NodeI) : n.cells.length = 4 := rfl
structure StateI where
  time : Int
  mode : Int
  round : Int
  slot : Int
  members : Int
def StateI.cells (s : StateI) : List Value := [.int .i64 s.time, .int .i64 s.mode, .int .i64 s.round, .int .i64 s.slot, .int .i64 s.members]
theorem StateI.len (s : StateI) : s.cells.length = 5 := rfl
structure MedlD where
  id : Int
  ns : List NodeI
  ms : List Mode
  ss : List SlotI
structure MedlI where
  id : Int
  An : Option Addr
  ns : List NodeI
  cn : Nat
  Am : Option Addr
  ms : List ModeI
  cm : Nat
  As : Option Addr
  ss : List SlotI
  cs : Nat
def MedlI.d (m : MedlI) : MedlD := ⟨m.id, m.ns, m.ms.map (·.m), m.ss⟩
def MedlI.cells (m : MedlI) : List Value := [.int .i64 m.id, .slice m.An m.ns.length m.cn, .slice m.Am m.ms.length m.cm, .slice m.As m.ss.length m.cs]
theorem MedlI.len (m : MedlI) : m.cells.length = 4 := rfl
/-- it can be read -/
structure Med (B : Nat) (w : World) (m : MedlI) : Prop where
  hB : B ≤ w.heap.size
  sn : Sl B w m.An (m.ns.flatMap NodeI.cells)
  sm : Sl B w m.Am (m.ms.flatMap ModeI.cells)
  sx : Nexts B w m.ms
  ss : Sl B w m.As (m.ss.flatMap SlotI.cells)
  kn : m.ns.length ≤ m.cn
section
variable {B B' : Nat} {w w' : World} {m : MedlI}
theorem Med.below (h : Med B w m) (hb : Below B w w') : Med B w' m := ⟨Nat.le_trans h.1 hb.size, h.sn.below hb, h.sm.below hb, h.sx.below hb, h.ss.below hb, h.kn⟩
theorem Med.ext (h : Med B w m) (hb : Ext w w') : Med B w' m := h.below (Below.mono hb h.1)
theorem Med.grown {row : Option Nat} (h : Med B w m) (hg : w.grownBy w' row) (hr : ∀ g, row = some g → B ≤ g) : Med B w' m := ⟨Nat.le_trans h.1 hg.size, h.sn.grown hg hr, h.sm.grown hg hr, h.sx.grown hg hr, h.ss.grown hg hr, h.kn⟩
end
/-- its lists are not too long -/
structure MedlI.small (m : MedlI) : Prop where
  ln : m.ns.length ≤ 1048576
  lm : m.ms.length ≤ 1048576
  lx : ∀ x ∈ m.ms, x.m.next.length ≤ 1048576
  ls : m.ss.length ≤ 1048576
  lz : ∀ x ∈ m.ns, x.name.size ≤ 1048576
theorem MedlI.small_of {m m' : MedlI} (e : m'.d = m.d) (h : m.small) : m'.small := by
  obtain ⟨id, An, ns, cn, Am, ms, cm, As, ss, cs⟩ := m
  obtain ⟨id', An', ns', cn', Am', ms', cm', As', ss', cs'⟩ := m'
  simp only [MedlI.d, MedlD.mk.injEq] at e
  obtain ⟨e1, e2, e3, e4⟩ := e
  obtain ⟨h1, h2, h3, h4, h5⟩ := h
  simp only at h1 h2 h3 h4 h5
  refine ⟨by simp only; rw [e2]; exact h1, ?_, ?_, by simp only; rw [e4]; exact h4, by simp only; rw [e2]; exact h5⟩
  · have := congrArg List.length e3; simp at this; simp only; omega
  · intro x hx
    have : x.m ∈ ms'.map (·.m) := List.mem_map.2 ⟨x, hx, rfl⟩
    rw [e3] at this
    obtain ⟨y, hy, e5⟩ := List.mem_map.1 this
    have := h3 y hy
    rw [e5] at this; exact this

theorem ofInt_nat (n : Nat) : BitVec.ofInt 64 (n : Int) = BitVec.ofNat 64 n := by simp
theorem bits_or {a b : Nat} (ha : a < 9223372036854775808) (hb : b < 9223372036854775808) : bitsV .or .i64 (a : Int) (b : Int) = ((a ||| b : Nat) : Int) := by
  have h1 : a ||| b < 2 ^ 63 := Nat.or_lt_two_pow (by omega) (by omega)
  have h2 : a ||| b < 2 ^ 64 := Nat.or_lt_two_pow (by omega) (by omega)
  show IntKind.i64.wrap ((BitVec.ofInt 64 (a : Int) ||| BitVec.ofInt 64 (b : Int)).toNat : Int) = _
  rw [ofInt_nat, ofInt_nat, BitVec.toNat_or, BitVec.toNat_ofNat, BitVec.toNat_ofNat, Nat.mod_eq_of_lt (by omega), Nat.mod_eq_of_lt (by omega)]
  exact w64 (by omega)
theorem bits_and {a b : Nat} (ha : a < 9223372036854775808) (hb : b < 9223372036854775808) : bitsV .and .i64 (a : Int) (b : Int) = ((a &&& b : Nat) : Int) := by
  have h1 : a &&& b ≤ a := Nat.and_le_left
  show IntKind.i64.wrap ((BitVec.ofInt 64 (a : Int) &&& BitVec.ofInt 64 (b : Int)).toNat : Int) = _
  rw [ofInt_nat, ofInt_nat, BitVec.toNat_and, BitVec.toNat_ofNat, BitVec.toNat_ofNat, Nat.mod_eq_of_lt (by omega), Nat.mod_eq_of_lt (by omega)]
  exact w64 (by omega)
theorem bits_xor {a b : Nat} (ha : a < 9223372036854775808) (hb : b < 9223372036854775808) : bitsV .xor .i64 (a : Int) (b : Int) = ((a ^^^ b : Nat) : Int) := by
  have h1 : a ^^^ b < 2 ^ 63 := Nat.xor_lt_two_pow (by omega) (by omega)
  show IntKind.i64.wrap ((BitVec.ofInt 64 (a : Int) ^^^ BitVec.ofInt 64 (b : Int)).toNat : Int) = _
  rw [ofInt_nat, ofInt_nat, BitVec.toNat_xor, BitVec.toNat_ofNat, BitVec.toNat_ofNat, Nat.mod_eq_of_lt (by omega), Nat.mod_eq_of_lt (by omega)]
  exact w64 (by omega)
/-- the bits of a that b lacks -/
def lackN (a b : Nat) : Nat := a ^^^ (a &&& b)
theorem lack_bit (a b i : Nat) : (lackN a b).testBit i = (a.testBit i && !b.testBit i) := by
  unfold lackN
  rw [Nat.testBit_xor, Nat.testBit_and]
  cases a.testBit i <;> cases b.testBit i <;> rfl
theorem bits_andNot {a b : Nat} (ha : a < 9223372036854775808) (hb : b < 9223372036854775808) : bitsV .andNot .i64 (a : Int) (b : Int) = (lackN a b : Int) := by
  have h1 : lackN a b < 2 ^ 63 := Nat.xor_lt_two_pow (by omega) (Nat.lt_of_le_of_lt Nat.and_le_left (by omega))
  show IntKind.i64.wrap ((BitVec.ofInt 64 (a : Int) &&& ~~~BitVec.ofInt 64 (b : Int)).toNat : Int) = _
  have e : (BitVec.ofInt 64 (a : Int) &&& ~~~BitVec.ofInt 64 (b : Int)).toNat = lackN a b := by
    rw [ofInt_nat, ofInt_nat]
    apply Nat.eq_of_testBit_eq
    intro i
    rw [lack_bit, BitVec.testBit_toNat]
    by_cases hi : i < 64
    · rw [BitVec.getLsbD_and, BitVec.getLsbD_not, BitVec.getLsbD_ofNat, BitVec.getLsbD_ofNat]; simp [hi]
    · have : a.testBit i = false := Nat.testBit_lt_two_pow (Nat.lt_of_lt_of_le (by omega : a < 2 ^ 64) (Nat.pow_le_pow_right (by omega) (by omega)))
      rw [this]; simp [hi]
  rw [e]
  exact w64 (by omega)
/-- node n is a member of a -/
def hasN (a : Nat) (n : Int) : Bool := a.testBit n.toNat
theorem bit_get {a : Nat} {n : Int} (ha : a < 9223372036854775808) (hn : 0 ≤ n ∧ n ≤ 31) : bitsV .and .i64 ((a : Int).fdiv (2 ^ (min n.toNat 64))) 1 = if hasN a n = true then 1 else 0 := by
  have e1 : min n.toNat 64 = n.toNat := by omega
  have e2 : (a : Int).fdiv (2 ^ n.toNat) = ((a / 2 ^ n.toNat : Nat) : Int) := by
    rw [Int.fdiv_eq_ediv_of_nonneg _ (Int.pow_nonneg (by omega))]; simp
  have h3 : a / 2 ^ n.toNat ≤ a := Nat.div_le_self _ _
  rw [e1, e2, show (1 : Int) = ((1 : Nat) : Int) from rfl, bits_and (by omega) (by omega)]
  unfold hasN
  rw [Nat.testBit, Nat.shiftRight_eq_div_pow, Nat.one_and_eq_mod_two, Nat.and_one_is_mod]
  rcases Nat.mod_two_eq_zero_or_one (a / 2 ^ n.toNat) with h | h <;> rw [h] <;> rfl
theorem bit_has {a : Nat} {n : Int} (ha : a < 9223372036854775808) (hn : 0 ≤ n ∧ n ≤ 31) : decide (bitsV .and .i64 ((a : Int).fdiv (2 ^ (min n.toNat 64))) 1 = 1) = hasN a n := by
  rw [bit_get ha hn]
  cases hasN a n <;> rfl
theorem shl_bit {n : Int} (hn : 0 ≤ n ∧ n ≤ 31) : IntKind.i64.wrap ((1 : Int) * 2 ^ (min n.toNat 64)) = ((2 ^ n.toNat : Nat) : Int) := by
  have e1 : min n.toNat 64 = n.toNat := by omega
  have h2 : 2 ^ n.toNat ≤ 2 ^ 31 := Nat.pow_le_pow_right (by omega) (by omega)
  rw [e1, Int.one_mul, show (2 : Int) ^ n.toNat = ((2 ^ n.toNat : Nat) : Int) by simp]
  generalize 2 ^ n.toNat = z at h2
  exact w64 (by omega)
theorem pow_lt {n : Int} (hn : 0 ≤ n ∧ n ≤ 31) : 2 ^ n.toNat < 4294967296 := by
  have h2 : 2 ^ n.toNat ≤ 2 ^ 31 := Nat.pow_le_pow_right (by omega) (by omega)
  omega
/-- a with node n -/
def withN (a : Nat) (n : Int) : Nat := a ||| 2 ^ n.toNat
theorem withN_lt {a : Nat} {n : Int} (ha : a < 4294967296) (hn : 0 ≤ n ∧ n ≤ 31) : withN a n < 4294967296 :=
  Nat.or_lt_two_pow (n := 32) ha (pow_lt hn)
theorem withN_bit (a : Nat) (n : Int) (i : Nat) : (withN a n).testBit i = (a.testBit i || decide (i = n.toNat)) := by
  unfold withN
  rw [Nat.testBit_or, Nat.testBit_two_pow]
  congr 1
  by_cases h : i = n.toNat
  · subst h; simp
  · rw [decide_eq_false h, decide_eq_false (fun e => h e.symm)]
theorem bits_with {a : Nat} {n : Int} (ha : a < 4294967296) (hn : 0 ≤ n ∧ n ≤ 31) : bitsV .or .i64 (a : Int) (IntKind.i64.wrap ((1 : Int) * 2 ^ (min n.toNat 64))) = (withN a n : Int) := by
  have := pow_lt hn
  rw [shl_bit hn, bits_or (by omega) (by omega)]; rfl
theorem with_has {a : Nat} {n : Int} (h : hasN a n = true) : withN a n = a := by
  apply Nat.eq_of_testBit_eq
  intro i
  rw [withN_bit]
  by_cases e : i = n.toNat
  · subst e; unfold hasN at h; rw [h]; rfl
  · simp [e]
theorem with_xor {a : Nat} {n : Int} (h : hasN a n = false) : a ^^^ 2 ^ n.toNat = withN a n := by
  apply Nat.eq_of_testBit_eq
  intro i
  rw [withN_bit, Nat.testBit_xor, Nat.testBit_two_pow]
  by_cases e : i = n.toNat
  · subst e; unfold hasN at h; rw [h]; simp
  · rw [decide_eq_false e, decide_eq_false (fun e' => e e'.symm)]; simp
theorem lack_zero {a b : Nat} : lackN a b = 0 ↔ ∀ i, a.testBit i = true → b.testBit i = true := by
  constructor
  · intro h i hi
    have := lack_bit a b i
    rw [h, hi] at this
    cases hb : b.testBit i
    · rw [hb] at this; simp at this
    · rfl
  · intro h
    apply Nat.eq_of_testBit_eq
    intro i
    rw [lack_bit, Nat.zero_testBit]
    cases ha : a.testBit i
    · rfl
    · rw [h i ha]; rfl
/-- the vector of nodes that pass, joined to a -/
def vecF {α : Type} (p : α → Bool) (f : α → Int) : Nat → List α → Nat
  | a, [] => a
  | a, x :: r => if p x = true then vecF p f (withN a (f x)) r else vecF p f a r
theorem vecF_lt {α : Type} {p : α → Bool} {f : α → Int} : ∀ (l : List α) (a : Nat), a < 4294967296 → (∀ x ∈ l, 0 ≤ f x ∧ f x ≤ 31) → vecF p f a l < 4294967296
  | [], a, h, _ => h
  | x :: r, a, h, hf => by
    rw [vecF]
    split
    · exact vecF_lt r _ (withN_lt h (hf x (by simp))) (fun y hy => hf y (by simp [hy]))
    · exact vecF_lt r _ h (fun y hy => hf y (by simp [hy]))
theorem vecF_bit {α : Type} {p : α → Bool} {f : α → Int} (i : Nat) : ∀ (l : List α) (a : Nat), (vecF p f a l).testBit i = (a.testBit i || l.any fun x => p x && decide (i = (f x).toNat))
  | [], a => by simp [vecF]
  | x :: r, a => by
    rw [vecF]
    split
    · rename_i h
      rw [vecF_bit i r, withN_bit, List.any_cons, h]; simp [Bool.or_assoc]
    · rename_i h
      rw [vecF_bit i r, List.any_cons]; simp [h]

def nameB (b : UInt8) : Bool := (decide (97 ≤ b.toNat) && decide (b.toNat ≤ 122)) || (decide (48 ≤ b.toNat) && decide (b.toNat ≤ 57))
def nameOk (s : ByteArray) : Bool := (s.data.toList.all nameB) && decide (1 ≤ s.size) && decide (s.size ≤ 6)
def nodeOk (n : NodeI) : Bool := inB n.id 0 31 && nameOk n.name && inB n.drift 0 1000
def nameIn (s : ByteArray) (l : List NodeI) : Bool := l.any fun y => decide (y.name = s)
def ntFrom : Option NodeI → List NodeI → List NodeI → Bool
  | _, _, [] => true
  | none, q, x :: r => nodeOk x && !(nameIn x.name q) && ntFrom (some x) (q ++ [x]) r
  | some y, q, x :: r => nodeOk x && decide (y.id < x.id) && !(nameIn x.name q) && ntFrom (some x) (q ++ [x]) r
def isNT (l : List NodeI) : Bool := inB l.length 1 32 && ntFrom none [] l
theorem ntFrom_all : ∀ (l : List NodeI) (p : Option NodeI) (q : List NodeI), ntFrom p q l = true → ∀ x ∈ l, nodeOk x = true
  | [], _, _, _, x, hx => by simp at hx
  | y :: r, p, q, h, x, hx => by
    have h1 : nodeOk y = true ∧ ntFrom (some y) (q ++ [y]) r = true := by
      cases p <;> simp only [ntFrom, Bool.and_eq_true] at h
      · exact ⟨h.1.1, h.2⟩
      · exact ⟨h.1.1.1, h.2⟩
    rcases List.mem_cons.1 hx with rfl | hx
    · exact h1.1
    · exact ntFrom_all r _ _ h1.2 x hx
theorem isNT_all {l : List NodeI} (h : isNT l = true) : ∀ x ∈ l, nodeOk x = true := by
  simp only [isNT, Bool.and_eq_true] at h
  exact ntFrom_all l _ _ h.2
theorem isNT_len {l : List NodeI} (h : isNT l = true) : 1 ≤ l.length ∧ l.length ≤ 32 := by
  simp only [isNT, Bool.and_eq_true] at h
  have := inB_iff.1 h.1; omega
theorem nodeOk_in {x : NodeI} (h : nodeOk x = true) : (0 ≤ x.id ∧ x.id ≤ 31) ∧ (0 ≤ x.drift ∧ x.drift ≤ 1000) ∧ nameOk x.name = true := by
  simp only [nodeOk, Bool.and_eq_true] at h
  exact ⟨inB_iff.1 h.1.1, inB_iff.1 h.2, h.1.2⟩
def actV (l : List NodeI) : Nat := vecF (fun x => !x.passive) (·.id) 0 l
theorem actV_lt {l : List NodeI} (h : isNT l = true) : actV l < 4294967296 := vecF_lt l 0 (by omega) fun x hx => (nodeOk_in (isNT_all h x hx)).1
def setOf : List UInt8 := [97, 98, 99, 100, 101, 102, 103, 104, 105, 106, 107, 108, 109, 110, 111, 112, 113, 114, 115, 116, 117, 118, 119, 120, 121, 122, 48, 49, 50, 51, 52, 53, 54, 55, 56, 57]
theorem set_name : ∀ b : UInt8, setOf.contains b = nameB b := by
  intro b
  have h : ∀ k : Fin 256, setOf.contains (UInt8.ofNat k.val) = nameB (UInt8.ofNat k.val) := by decide +kernel
  have := h ⟨b.toNat, b.toNat_lt⟩
  simpa using this
theorem dropWhile_nil {α : Type} {p : α → Bool} : ∀ (l : List α), l.dropWhile p = [] ↔ l.all p = true
  | [] => by simp
  | x :: r => by
    rw [List.dropWhile_cons]
    split
    · rename_i h; rw [dropWhile_nil r]; simp [h]
    · rename_i h; simp [h]
theorem trim_nil (l : List UInt8) : Go.Lib.trimS l setOf = [] ↔ l.all nameB = true := by
  have e : (fun x => setOf.contains x) = nameB := funext set_name
  unfold Go.Lib.trimS Go.Lib.trimLeftS Go.Lib.trimRightS
  rw [dropWhile_nil]
  show ((l.reverse.dropWhile fun x => setOf.contains x).reverse.all fun x => setOf.contains x) = true ↔ _
  rw [e]
  constructor
  · intro h
    have h2 : (l.reverse.dropWhile nameB) = [] := by
      cases h3 : l.reverse.dropWhile nameB with
      | nil => rfl
      | cons x r =>
        have h4 : nameB x = false := by
          have := List.head?_dropWhile_not nameB l.reverse
          rw [h3] at this; simpa using this
        rw [h3] at h
        simp [h4] at h
    rw [dropWhile_nil] at h2
    simpa using h2
  · intro h
    have h2 : l.reverse.dropWhile nameB = [] := (dropWhile_nil _).2 (by simpa using h)
    rw [h2]; rfl
def trimV (s : ByteArray) : ByteArray := ⟨(Go.Lib.trimS s.data.toList setOf).toArray⟩
theorem trimV_nil (s : ByteArray) : trimV s = ⟨#[]⟩ ↔ s.data.toList.all nameB = true := by
  rw [← trim_nil]
  unfold trimV
  constructor
  · intro h
    have h1 := congrArg (fun b : ByteArray => b.data.toList) h
    simpa using h1
  · intro h; rw [h]
theorem wu64 {n : Int} (h : 0 ≤ n ∧ n ≤ 18446744073709551615) : IntKind.u64.wrap n = n := by
  simp only [IntKind.wrap, IntKind.bits, IntKind.signed]
  simp
  omega
theorem nameIn_take {l : List NodeI} {s : ByteArray} {j : Nat} {y : NodeI} (hy : l[j]? = some y) (h : y.name = s) : nameIn s l = true := by
  simp only [nameIn, List.any_eq_true, decide_eq_true_eq]
  exact ⟨y, List.mem_of_getElem? hy, h⟩
theorem nt_ok0 {q r : List NodeI} {x : NodeI} (h : nodeOk x = true) (hn : nameIn x.name q = false) : ntFrom none q (x :: r) = ntFrom (some x) (q ++ [x]) r := by simp [ntFrom, h, hn]
theorem nt_ok1 {q r : List NodeI} {x y : NodeI} (h : nodeOk x = true) (ho : y.id < x.id) (hn : nameIn x.name q = false) : ntFrom (some y) q (x :: r) = ntFrom (some x) (q ++ [x]) r := by simp [ntFrom, h, hn, ho]
theorem nt_badx {p : Option NodeI} {q r : List NodeI} {x : NodeI} (h : nodeOk x = false) : ntFrom p q (x :: r) = false := by cases p <;> simp [ntFrom, h]
theorem nt_badn {p : Option NodeI} {q r : List NodeI} {x : NodeI} (h : nameIn x.name q = true) : ntFrom p q (x :: r) = false := by cases p <;> simp [ntFrom, h]
theorem nt_bado {q r : List NodeI} {x y : NodeI} (h : ¬ y.id < x.id) : ntFrom (some y) q (x :: r) = false := by simp [ntFrom, h]
theorem nt_nil {p : Option NodeI} {q : List NodeI} : ntFrom p q [] = true := by cases p <;> rfl
end Go.Proofs.YtdoibplhbdkapaaGreatDoor
namespace Go.Proofs.YtdoibplhbdkapaaGreatDoor
open Go.RowKit
set_option linter.unusedVariables false
set_option linter.unusedSimpArgs false
theorem shrP {z n : Int} (p : Int) (h : 0 ≤ z) (hp : 0 ≤ p) (e : (2 : Int) ^ (min n.toNat IntKind.i64.bits) = p) : z.fdiv (2 ^ (min n.toNat IntKind.i64.bits)) = z / p := by
  rw [e, Int.fdiv_eq_ediv_of_nonneg _ hp]
theorem and1 {z : Int} (h : 0 ≤ z ∧ z ≤ 1099511627776) : bitsV .and .i64 z 1 = z % 2 := by
  obtain ⟨n, rfl⟩ : ∃ n : Nat, z = (n : Int) := ⟨z.toNat, by omega⟩
  have h1 := bits_and (a := n) (b := 1) (by omega) (by omega)
  rw [show ((1 : Nat) : Int) = 1 from rfl] at h1
  rw [h1, show n &&& 1 = n % 2 from Nat.and_one_is_mod n]; omega
theorem and24 {z : Int} (h : 0 ≤ z ∧ z ≤ 1099511627776) : bitsV .and .i64 z 16777215 = z % 16777216 := by
  obtain ⟨n, rfl⟩ : ∃ n : Nat, z = (n : Int) := ⟨z.toNat, by omega⟩
  have h1 := bits_and (a := n) (b := 16777215) (by omega) (by omega)
  rw [show ((16777215 : Nat) : Int) = 16777215 from rfl] at h1
  rw [h1, show n &&& 16777215 = n % 16777216 from Nat.and_two_pow_sub_one_eq_mod n 24]; omega
theorem xor01 {a b : Int} (ha : 0 ≤ a ∧ a ≤ 1) (hb : 0 ≤ b ∧ b ≤ 1) : bitsV .xor .i64 a b = (a + b) % 2 := by
  obtain ⟨n, rfl⟩ : ∃ n : Nat, a = (n : Int) := ⟨a.toNat, by omega⟩
  obtain ⟨k, rfl⟩ : ∃ k : Nat, b = (k : Int) := ⟨b.toNat, by omega⟩
  rw [bits_xor (by omega) (by omega)]
  have h1 : n = 0 ∨ n = 1 := by omega
  have h2 : k = 0 ∨ k = 1 := by omega
  rcases h1 with rfl | rfl <;> rcases h2 with rfl | rfl <;> rfl
def xorC (r : Int) : Int := ((r.toNat ^^^ 6122955 : Nat) : Int)
def crcS (r b : Int) : Int := if (r / 8388608 + b) % 2 = 1 then xorC (r % 8388608 * 2) else r % 8388608 * 2
def crcF (r : Int) (l : List Int) : Int := l.foldl crcS r
theorem xorC_in {r : Int} (h : 0 ≤ r ∧ r < 16777216) : 0 ≤ xorC r ∧ xorC r < 16777216 := by
  unfold xorC
  have := Nat.xor_lt_two_pow (n := 24) (x := r.toNat) (y := 6122955) (by omega) (by decide)
  omega
theorem xorC_eq {r : Int} (h : 0 ≤ r ∧ r < 16777216) : bitsV .xor .i64 r 6122955 = xorC r := by
  obtain ⟨n, rfl⟩ : ∃ n : Nat, r = (n : Int) := ⟨r.toNat, by omega⟩
  rw [show (6122955 : Int) = ((6122955 : Nat) : Int) from rfl, bits_xor (by omega) (by decide)]; rfl
theorem crcS_in {r b : Int} (h : 0 ≤ r ∧ r < 16777216) : 0 ≤ crcS r b ∧ crcS r b < 16777216 := by
  unfold crcS
  split
  · exact xorC_in (by omega)
  · omega
theorem crcF_in : ∀ (l : List Int) {r : Int}, (0 ≤ r ∧ r < 16777216) → 0 ≤ crcF r l ∧ crcF r l < 16777216
  | [], _, h => h
  | _ :: l, _, h => crcF_in l (crcS_in h)
theorem crcF_step {l : List Int} {k : Nat} {x r : Int} (h : l[k]? = some x) : crcF r (l.take (k + 1)) = crcS (crcF r (l.take k)) x := by
  rw [List.take_add_one, h]; simp [crcF, List.foldl_append]
def bitI (x : Int) (j : Nat) : Int := x / 2 ^ j % 2
def bitP (x : Int) (k : Nat) : List Int := (List.range k).map fun i => bitI x (7 - i)
def bitsL (xs : List Int) : List Int := xs.flatMap fun x => bitP x 8
theorem bitP_step (x : Int) (k : Nat) : bitP x (k + 1) = bitP x k ++ [bitI x (7 - k)] := by simp [bitP, List.range_succ]
theorem bitP_len (x : Int) (k : Nat) : (bitP x k).length = k := by simp [bitP]
theorem bitI_in (x : Int) (j : Nat) : 0 ≤ bitI x j ∧ bitI x j ≤ 1 := by unfold bitI; omega
theorem bitsL_len : ∀ (xs : List Int), (bitsL xs).length = 8 * xs.length
  | [] => rfl
  | x :: r => by
    have := bitsL_len r
    unfold bitsL at this ⊢
    rw [List.flatMap_cons, List.length_append, bitP_len, this, List.length_cons]; omega
theorem bitsL_in {xs : List Int} : ∀ b ∈ bitsL xs, 0 ≤ b ∧ b ≤ 1 := fun b hb => by
  obtain ⟨x, _, h2⟩ := List.mem_flatMap.1 hb
  obtain ⟨i, _, rfl⟩ := List.mem_map.1 h2
  exact bitI_in _ _
theorem bitsL_step {xs : List Int} {k : Nat} {x : Int} (h : xs[k]? = some x) : bitsL (xs.take (k + 1)) = bitsL (xs.take k) ++ bitP x 8 := by
  unfold bitsL
  rw [List.take_add_one, h]; simp [List.flatMap_append]
/-- a bit by shifting -/
theorem bit_shr {x : Int} {j : Nat} (h : 0 ≤ x ∧ x ≤ 1099511627776) (hj : j ≤ 63) : bitsV .and .i64 (x / 2 ^ j) 1 = bitI x j := by
  have h1 : 0 ≤ x / 2 ^ j := Int.ediv_nonneg h.1 (Int.pow_nonneg (by omega))
  have h2 : x / 2 ^ j ≤ x := Int.ediv_le_self _ h.1
  rw [and1 (by omega)]; rfl
theorem shr_pow {z : Int} {j : Nat} (h : 0 ≤ z) (hj : j ≤ 63) : z.fdiv (2 ^ (min ((j : Int).toNat) IntKind.i64.bits)) = z / 2 ^ j := by
  rw [Int.toNat_natCast, show min j IntKind.i64.bits = j by show min j 64 = j; omega, Int.fdiv_eq_ediv_of_nonneg _ (Int.pow_nonneg (by omega))]
def id3 (z : Int) : List Int := [z / 65536, z / 256 % 256, z % 256]
def crcK (k : Nat) (b : List Int) : Int := crcF ((k : Int) + 1) (bitsL b)
def chkB (k : Nat) (b : List Int) : List Int := id3 (crcK k b)
theorem crcK_in {k : Nat} (b : List Int) (h : k < 16777215) : 0 ≤ crcK k b ∧ crcK k b < 16777216 := crcF_in _ (by omega)
def part28 (xs : List Int) (k : Nat) : List Int := (xs.drop (28 * k)).take 28
def lastB (xs : List Int) (k : Nat) : Int := if xs.length ≤ 28 * (k + 1) then 128 else 0
def blkH (xs : List Int) (k : Nat) : List Int := (k : Int) :: (((part28 xs k).length : Int) + lastB xs k) :: part28 xs k
def blkE (xs : List Int) (k : Nat) : List Int := blkH xs k ++ chkB k (blkH xs k)
def imgP (xs : List Int) (k : Nat) : List Int := (List.range k).flatMap (blkE xs)
def nB (n : Nat) : Nat := if n = 0 then 1 else (n + 27) / 28
def img (xs : List Int) : List Int := imgP xs (nB xs.length)
theorem imgP_step (xs : List Int) (k : Nat) : imgP xs (k + 1) = imgP xs k ++ blkE xs k := by
  simp [imgP, List.range_succ, List.flatMap_append]
theorem part28_len (xs : List Int) (k : Nat) : (part28 xs k).length = min 28 (xs.length - 28 * k) := by simp [part28]
theorem blkE_len (xs : List Int) (k : Nat) : (blkE xs k).length = min 28 (xs.length - 28 * k) + 5 := by
  rw [blkE, List.length_append, blkH, List.length_cons, List.length_cons, part28_len]; rfl
theorem imgP_len (xs : List Int) : ∀ k : Nat, 28 * k ≤ xs.length → (imgP xs k).length = 33 * k
  | 0, _ => rfl
  | k + 1, h => by
    rw [imgP_step, List.length_append, blkE_len, imgP_len xs k (by omega)]; omega
theorem nB_pos (n : Nat) : 1 ≤ nB n := by unfold nB; split <;> omega
theorem nB_le (n : Nat) : 28 * nB n ≤ n + 28 := by unfold nB; split <;> omega
/-- the loop over blocks goes on while .. -/
theorem nB_on {n k : Nat} : k < nB n ↔ (k = 0 ∨ 28 * k < n) := by unfold nB; split <;> omega
theorem nB_last {n k : Nat} (h : k < nB n) : (n ≤ 28 * (k + 1)) ↔ k + 1 = nB n := by
  unfold nB at h ⊢; split <;> (split at h <;> omega)
theorem img_len (xs : List Int) : (img xs).length = xs.length + 5 * nB xs.length := by
  have h1 : nB xs.length = nB xs.length - 1 + 1 := by have := nB_pos xs.length; omega
  have h2 := nB_le xs.length
  have h3 := (nB_last (n := xs.length) (k := nB xs.length - 1) (by omega)).2 h1.symm
  unfold img
  rw [h1, imgP_step, List.length_append, blkE_len, imgP_len xs _ (by omega)]; omega
end Go.Proofs.YtdoibplhbdkapaaGreatDoor
