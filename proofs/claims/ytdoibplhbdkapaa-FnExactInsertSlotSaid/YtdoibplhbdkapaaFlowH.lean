/- Flow, part H: bytes and strings. No condition. -/
import Derived.Test.YtdoibplhbdkapaaFlowG
import Derived.Laws.BytesArg
namespace Go.Proofs.Ytdoibplhbdkapaa
open Go.RowKit
set_option linter.unusedVariables false

theorem snoc {α : Type} (enc : α → List Value) (xs : List α) (x : α) : (xs ++ [x]).flatMap enc = xs.flatMap enc ++ enc x := by simp
def strOf (bs : List UInt8) : ByteArray := ⟨bs.toArray⟩
theorem flat_eB (bs : List UInt8) : bs.flatMap eB = (bs.map (fun b => (b.toNat : Int))).map (Value.int .u8) := by
  induction bs with
  | nil => rfl
  | cons b bs ih => simp [List.flatMap_cons, ih, eB]

section
variable {P : Program} {e : List (Nat × Value)} {w : World} {K : Value → World → Prop} {ty : TypeId} {x : Operand}
theorem ow_convBS {src dst el : TypeId} {A : Option Addr} {B n c : Nat} {bs : List UInt8} (hs : P.underlying src = some (.slice el)) (he : P.underlying el = some (.int .u8)) (hd : P.underlying dst = some .string)
    (hr : Sl B w A (bs.flatMap eB)) (hx : evO e x = some (.slice A n c)) (hn : n = bs.length) (h : K (.string (strOf bs)) w) : OpWp P e (.convert src dst x) ty w K := fun ρ d p a g hρ => by
  have h1 := hρ _ _ hx
  have hrun : (convert src dst (.slice A n c)).run P w = .ok (.string (strOf bs)) w := by
    match A with
    | none =>
      have hb : bs = [] := by
        cases bs with
        | nil => rfl
        | cons b bs =>
          have := (hr.2 0 _ (by rw [List.flatMap_cons]; rfl)).1
          simp at this
      subst hb
      exact run_convert_bytes_nil w src el hs he _ _ dst hd
    | some ad =>
      have hl : (loadCells ad n).run P w = .ok ((bs.map (fun b => (b.toNat : Int))).map (Value.int .u8)).toArray w := by
        have := run_loadCells_list (P := P) w ad (bs.flatMap eB) (fun j v hj => hr.at_ hj)
        rw [flat_len eB_len, Nat.mul_one, ← hn] at this
        rw [this, flat_eB]
      rw [run_convert_bytes_string w src dst el _ n c hs he hd, run_bytesToString w _ n c _ hl, foldl_push_bytes]
      have e1 : (bs.map (fun b => (b.toNat : Int))).map (fun n => UInt8.ofNat n.toNat) = bs := by
        rw [List.map_map]
        conv => rhs; rw [← List.map_id bs]
        apply List.map_congr_left
        intro b _
        simp
      rw [e1]
      simp [strOf, ByteArray.empty, ByteArray.emptyWithCapacity]
      rfl
  simp only [execOp, h1, hrun, upto, Sem.run_bind, Result.andThen_ok, Sem.run_pure]
  exact h
end

/-! ### rows that are filled by a rule -/
def seqG {α : Type} (g : Nat → α) (n : Nat) : List α := (List.range n).map g
theorem seqG_len {α : Type} (g : Nat → α) (n : Nat) : (seqG g n).length = n := by simp [seqG]
theorem seqG_set {α : Type} {g : Nat → α} {k : Nat} {xs : List α} (hk : k < xs.length) : (seqG g k ++ xs.drop k).set k (g k) = seqG g (k + 1) ++ xs.drop (k + 1) := by
  rw [List.set_append, if_neg (by simp [seqG_len]), seqG_len, Nat.sub_self, List.drop_eq_getElem_cons hk, List.set_cons_zero]
  simp [seqG, List.range_succ]
theorem seqG_at {α : Type} {g : Nat → α} {k n : Nat} (h : k < n) : (seqG g n)[k]? = some (g k) := by simp [seqG, h]
theorem seqG_at' {α : Type} {g : Nat → α} {k : Nat} {xs : List α} {x : α} (hx : xs[k]? = some x) : (seqG g k ++ xs.drop k)[k]? = some x := by
  rw [List.getElem?_append_right (by simp [seqG_len]), seqG_len, Nat.sub_self, List.getElem?_drop, Nat.add_zero, hx]
theorem seqG_end {α : Type} {g : Nat → α} {k : Nat} {xs : List α} (h0 : k ≤ xs.length) (hk : ¬ (k : Int) < (xs.length : Int)) : seqG g k ++ xs.drop k = seqG g xs.length := by
  rw [drop_end hk, List.append_nil, show k = xs.length by omega]
theorem seqG_lt {α : Type} {g : Nat → α} {k : Nat} {xs : List α} (hk : k < xs.length) : k < (seqG g k ++ xs.drop k).length := by simp [seqG_len]; omega
theorem seqG_all {α : Type} {g : Nat → α} {k : Nat} {xs : List α} (hk : k ≤ xs.length) : (seqG g k ++ xs.drop k).length = xs.length := by simp [seqG_len]; omega
theorem set_at {α : Type} {l : List α} {k : Nat} {x : α} (h : k < l.length) : (l.set k x)[k]? = some x := by simp [h]

/-! ### stores into fields of elements; owned rows beside a foreign write -/
theorem set_field {α : Type} {enc : α → List Value} {s f s' : Nat} (he : ∀ x, (enc x).length = s) {x x' : α} {vs : List Value} (hv : enc x' = (enc x).take f ++ vs ++ (enc x).drop (f + s')) (hf : f + s' ≤ s) : ∀ (xs : List α) (k : Nat), xs[k]? = some x →
    (xs.flatMap enc).take (k * s + f) ++ vs ++ (xs.flatMap enc).drop (k * s + f + s') = (xs.set k x').flatMap enc
  | [], k, h => by simp at h
  | y :: ys, 0, h => by
    simp only [List.getElem?_cons_zero, Option.some.injEq] at h
    subst h
    simp only [Nat.zero_mul, Nat.zero_add, List.flatMap_cons, List.set_cons_zero, hv]
    rw [List.take_append_of_le_length (by rw [he]; omega), List.drop_append_of_le_length (by rw [he]; omega)]
    simp
  | y :: ys, k + 1, h => by
    have ih := set_field he hv hf ys k (by simpa using h)
    have e1 : (k + 1) * s + f = s + (k * s + f) := by rw [Nat.add_mul, Nat.one_mul]; omega
    simp only [List.flatMap_cons, List.set_cons_succ, e1, ← ih]
    rw [List.take_append, List.take_of_length_le (by rw [he]; omega), List.drop_append, List.drop_of_length_le (by rw [he]; omega), he,
      show s + (k * s + f) - s = k * s + f by omega, show s + (k * s + f) + s' - s = k * s + f + s' by omega]
    simp
section
variable {P : Program} {e : List (Nat × Value)} {w : World} {K : Value → World → Prop} {ty t el : TypeId} {x y : Operand} {s b : Nat} {a : Bool} {z : List Value}
theorem ow_storeRF {lo n c j f s' : Nat} {A : Option Addr} {cs vs : List Value} {v : Value} (hown : Own w lo el s A n c cs) (ht : tiO P t = some (a, s', b, z)) (hx : evO e x = some (.pointer (some (((base A).add j).add f)))) (hv : evO e y = some v) (hc : v.cells = vs.toArray) (hl : vs.length = s') (hj : j + f + s' ≤ n * s) (h0 : 0 < n * s)
    (h1 : vs.all (·.oneCell') = true) (h : ∀ w', Own w' lo el s A n c (cs.take (j + f) ++ vs ++ cs.drop (j + f + s')) → w.grownBy w' ((Value.slice A n c).ownBlock) → w'.heap.size = w.heap.size → K undef w') : OpWp P e (.store t x y) ty w K :=
  ow_storeR hown ht (by rw [hx, add_add']) hv hc hl hj h0 h1 h
theorem ow_storeRFF {lo n c j f g s' : Nat} {A : Option Addr} {cs vs : List Value} {v : Value} (hown : Own w lo el s A n c cs) (ht : tiO P t = some (a, s', b, z)) (hx : evO e x = some (.pointer (some ((((base A).add j).add f).add g)))) (hv : evO e y = some v) (hc : v.cells = vs.toArray) (hl : vs.length = s') (hj : j + (f + g) + s' ≤ n * s) (h0 : 0 < n * s)
    (h1 : vs.all (·.oneCell') = true) (h : ∀ w', Own w' lo el s A n c (cs.take (j + (f + g)) ++ vs ++ cs.drop (j + (f + g) + s')) → w.grownBy w' ((Value.slice A n c).ownBlock) → w'.heap.size = w.heap.size → K undef w') : OpWp P e (.store t x y) ty w K :=
  ow_storeR hown ht (by rw [hx, add_add', add_add']) hv hc hl hj h0 h1 h
end
section
variable {P : Program} {e : List (Nat × Value)} {w : World} {K : Value → World → Prop} {ty t t' : TypeId} {x y : Operand} {b c : Bool}
theorem ow_eqlBd (ht : P.underlying t = some .bool) (hx : evO e x = some (.bool b)) (hy : evO e y = some (.bool c)) (h : K (.bool (decide (b = c))) w) : OpWp P e (.binOp .eql t x y t') ty w K :=
  ow_eqlB ht hx hy (by have e1 : (b == c) = decide (b = c) := by cases b <;> cases c <;> rfl
                       rw [e1]; exact h)
theorem ow_neqBd (ht : P.underlying t = some .bool) (hx : evO e x = some (.bool b)) (hy : evO e y = some (.bool c)) (h : K (.bool (decide (b ≠ c))) w) : OpWp P e (.binOp .neq t x y t') ty w K :=
  ow_neqB ht hx hy (by have e1 : (!(b == c)) = decide (b ≠ c) := by cases b <;> cases c <;> rfl
                       rw [e1]; exact h)
theorem ow_eqlBd2 (ht : P.underlying t = some .bool) (hx : evO e x = some (.bool b)) (hy : evO e y = some (.bool c)) (h1 : b = c → K (.bool true) w) (h2 : ¬ (b = c) → K (.bool false) w) : OpWp P e (.binOp .eql t x y t') ty w K :=
  ow_eqlBd ht hx hy (bsp (R := fun b => K (.bool b) w) h1 h2)
theorem ow_neqBd2 (ht : P.underlying t = some .bool) (hx : evO e x = some (.bool b)) (hy : evO e y = some (.bool c)) (h1 : b ≠ c → K (.bool true) w) (h2 : ¬ (b ≠ c) → K (.bool false) w) : OpWp P e (.binOp .neq t x y t') ty w K :=
  ow_neqBd ht hx hy (bsp (R := fun b => K (.bool b) w) h1 h2)
end
section
variable {P : Program} {e : List (Nat × Value)} {w : World} {K : Value → World → Prop} {ty : TypeId} {m : Bool}
theorem ow_callVL {f : FuncId} {x : Operand} {cs : List Value} {args : Array Operand} {ts : Array TypeId} {vs : List Value} (hf : Enters P f) (hv : evO e x = some (.func (.func f) #[] cs.toArray)) (hx : argsO e args.toList = some vs)
    (hc : Calls P f (vs ++ cs).toArray w (Ret K)) : OpWp P e (.call ⟨.value x, args, ts⟩) ty w K :=
  ow_callV hf hv hx (by
    have e1 : (#[] ++ vs.toArray ++ cs.toArray : Array Value) = (vs ++ cs).toArray := by simp
    rw [e1]; exact hc)
theorem ow_callVLB {f : FuncId} {x : Operand} {cs : List Value} {args : Array Operand} {ts : Array TypeId} {vs : List Value} (hf : Enters P f) (hv : evO e x = some (.func (.func f) #[] cs.toArray)) (hx : argsO e args.toList = some vs)
    (hc : Calls P f (vs ++ cs).toArray w (Ret fun v w' => v = .bool m ∧ Ext w w')) (h1 : ∀ w', m = true → Ext w w' → K (.bool true) w') (h2 : ∀ w', m = false → Ext w w' → K (.bool false) w') : OpWp P e (.call ⟨.value x, args, ts⟩) ty w K :=
  ow_callVL hf hv hx (ret_mono hc fun v w' h => by
    obtain ⟨rfl, hx⟩ := h
    cases hm : m
    · exact h2 w' hm hx
    · exact h1 w' hm hx)
end
theorem gb_refl (w : World) (row : Option Nat) : w.grownBy w row := ⟨rfl, rfl, rfl, Nat.le_refl _, fun _ _ _ => rfl⟩
theorem gb_trans {w a b : World} {row : Option Nat} (h : w.grownBy a row) (k : a.grownBy b row) : w.grownBy b row :=
  ⟨k.os.trans h.os, k.tape.trans h.tape, k.output.trans h.output, Nat.le_trans h.size k.size, fun i hi hr => (k.block i (Nat.lt_of_lt_of_le hi h.size) hr).trans (h.block i hi hr)⟩
section
variable {w w' : World} {lo lo' n c s n' c' s' g : Nat} {t t' : TypeId} {A A' : Option Addr} {cs cs' ds : List Value}
theorem Own.grown {row : Option Nat} (h : Own w lo t s A n c cs) (hg : w.grownBy w' row) (hr : ∀ g, row = some g → (Value.slice A n c).ownBlock ≠ some g) : Own w' lo t s A n c cs := by
  refine ⟨h.1, ?_⟩
  rcases h.2 with h2 | ⟨g, cap, cur, hv, hlo, hh, r⟩
  · exact .inl h2
  · exact .inr ⟨g, cap, cur, hv, hlo, (hg.block g (Array.getElem?_eq_some_iff.1 hh).1 (fun e => hr g e.symm (by rw [hv]; rfl))).trans hh, r⟩
theorem Own.grownBlk (h : Own w lo t s A n c cs) (hg : w.grownBy w' (some g)) (hr : (Value.slice A n c).ownBlock ≠ some g) : Own w' lo t s A n c cs :=
  h.grown hg fun g' e => by injection e with e; rw [← e]; exact hr
theorem Own.at_ (h : Own w lo t s A n c cs) (hg : (Value.slice A n c).ownBlock = some g) : ∃ cur, w.heap[g]? = some (.cells cur t (0, 0)) := by
  rcases h.2 with ⟨h1, h2⟩ | ⟨g', cap, cur, hv, hlo, hh, r⟩
  · rw [h1] at hg; simp [Value.ownBlock] at hg
  · rw [hv] at hg
    have e : g' = g := by simpa [Value.ownBlock] using hg
    subst e; exact ⟨cur, hh⟩
/-- rows and blocks of different types are different blocks -/
theorem Own.neT (h : Own w lo t s A n c cs) (hb : Blk w g t' ds) (ht : t ≠ t') : (Value.slice A n c).ownBlock ≠ some g := fun e => by
  obtain ⟨cur, h1⟩ := h.at_ e
  unfold Blk at hb
  rw [h1] at hb
  injection hb with hb; injection hb with _ h2; exact ht h2
theorem Own.neO (h : Own w lo t s A n c cs) (k : Own w lo' t' s' A' n' c' ds) (ht : t ≠ t') : ∀ g, (Value.slice A' n' c').ownBlock = some g → (Value.slice A n c).ownBlock ≠ some g := fun g hg e => by
  obtain ⟨cur, h1⟩ := h.at_ e
  obtain ⟨cur', h2⟩ := k.at_ hg
  rw [h1] at h2
  injection h2 with h2; injection h2 with _ h3; exact ht h3
end
end Go.Proofs.Ytdoibplhbdkapaa
