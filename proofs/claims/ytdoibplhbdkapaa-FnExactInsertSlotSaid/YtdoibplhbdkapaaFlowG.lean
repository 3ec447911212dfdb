/- Flow, part G: calls that answer a truth value, taken two ways; lists walked from the front. No condition. -/
import Derived.Test.YtdoibplhbdkapaaFlowE
namespace Go.Proofs.Ytdoibplhbdkapaa
open Go.RowKit
set_option linter.unusedVariables false

section
variable {P : Program} {e : List (Nat × Value)} {w : World} {K : Value → World → Prop} {ty : TypeId} {m : Bool}
theorem ow_callB {f : FuncId} {args : Array Operand} {ts : Array TypeId} {vs : List Value} (hf : Enters P f) (hx : argsO e args.toList = some vs)
    (hc : Calls P f vs.toArray w (Ret fun v w' => v = .bool m ∧ Ext w w')) (h1 : ∀ w', m = true → Ext w w' → K (.bool true) w') (h2 : ∀ w', m = false → Ext w w' → K (.bool false) w') : OpWp P e (.call ⟨.value (.func f), args, ts⟩) ty w K :=
  ow_call hf hx (ret_mono hc fun v w' h => by
    obtain ⟨rfl, hx⟩ := h
    cases hm : m
    · exact h2 w' hm hx
    · exact h1 w' hm hx)
end

section
variable {P : Program} {n : Nat} {ops : Array Oper} {K : List (Nat × Value) → World → Prop} {l : List Oper} {fl : List Bool} {e : List (Nat × Value)} {S : World → Prop} {dst : Option Tmp} {op : Op} {ty : TypeId} {pos : String} {af : Array Edge} {m : Bool}
theorem f_qB (hd : dstOk n dst = true) (hy : ∀ w, S w → OpWp P e op ty w fun u w' => u = .bool m ∧ Ext w w')
    (h1 : m = true → FOps P n ops K l fl (updO e dst (.bool true)) S) (h2 : m = false → FOps P n ops K l fl (updO e dst (.bool false)) S) : FOps P n ops K (⟨dst, op, ty, pos, af, none⟩ :: l) (false :: fl) e S := by
  refine f_q hd hy ?_
  cases hm : m
  · exact h2 hm
  · exact h1 hm
theorem f_qwB {j : Nat} {b : Bool} {d : Nat} (hj : (ops[j]?).bind (·.dst) = some d) (hb : lk e d = some (.bool b)) (hd : dstOk n dst = true) (hy : ∀ w, S w → OpWp P e op ty w fun u w' => u = .bool m ∧ Ext w w')
    (h1 : m = true → FOps P n ops K l fl (updO e dst (.bool true)) S) (h2 : m = false → FOps P n ops K l fl (updO e dst (.bool false)) S) : FOps P n ops K (⟨dst, op, ty, pos, af, some (j, b)⟩ :: l) (false :: fl) e S := by
  refine f_qw hj hb hd hy ?_
  cases hm : m
  · exact h2 hm
  · exact h1 hm
end

/-! ### lists from the front -/
theorem drop_at {α : Type} {xs : List α} {k : Nat} (h : k < xs.length) : ∃ x, xs[k]? = some x ∧ xs.drop k = x :: xs.drop (k + 1) :=
  ⟨xs[k], List.getElem?_eq_getElem h, List.drop_eq_getElem_cons h⟩
theorem drop_end {α : Type} {xs : List α} {k : Nat} (h : ¬ (k : Int) < (xs.length : Int)) : xs.drop k = [] :=
  List.drop_eq_nil_of_le (by omega)
theorem drop_at' {α : Type} {xs : List α} {k : Nat} (h : (k : Int) < (xs.length : Int)) : ∃ x, xs[k]? = some x ∧ xs.drop k = x :: xs.drop (k + 1) := drop_at (by omega)

theorem repL_flat {α : Type} {enc : α → List Value} (y : α) : ∀ n, repL n (enc y) = (List.replicate n y).flatMap enc
  | 0 => rfl
  | n + 1 => by rw [List.replicate_succ, List.flatMap_cons, ← repL_flat y n]; rfl
/-- a store into one place of a row of typed elements -/
theorem set_flat {α : Type} {enc : α → List Value} {s : Nat} (he : ∀ x, (enc x).length = s) (x : α) : ∀ (xs : List α) (k : Nat), k < xs.length →
    (xs.flatMap enc).take (k * s) ++ enc x ++ (xs.flatMap enc).drop (k * s + s) = (xs.set k x).flatMap enc
  | [], k, h => by simp at h
  | y :: ys, 0, h => by
    simp only [Nat.zero_mul, List.take_zero, List.nil_append, Nat.zero_add, List.flatMap_cons, List.set_cons_zero]
    rw [List.drop_append, List.drop_of_length_le (by rw [he]; omega), he]; simp
  | y :: ys, k + 1, h => by
    have ih := set_flat he x ys k (by simp at h; omega)
    have e1 : (k + 1) * s = s + k * s := by rw [Nat.add_mul, Nat.one_mul, Nat.add_comm]
    simp only [List.flatMap_cons, List.set_cons_succ, e1, ← ih]
    rw [List.take_append, List.take_of_length_le (by rw [he]; omega), List.drop_append, List.drop_of_length_le (by rw [he]; omega), he,
      show s + k * s - s = k * s by omega, show s + k * s + s - s = k * s + s by omega]
    simp
theorem set_fill {α : Type} {xs : List α} {k : Nat} {x y : α} (h : xs[k]? = some x) : (xs.take k ++ List.replicate (xs.length - k) y).set k x = xs.take (k + 1) ++ List.replicate (xs.length - (k + 1)) y := by
  obtain ⟨hk, hx⟩ := List.getElem?_eq_some_iff.1 h
  have e1 : (xs.take k).length = k := by simp; omega
  rw [List.set_append, if_neg (by omega), e1, Nat.sub_self, show xs.length - k = (xs.length - (k + 1)) + 1 by omega, List.replicate_succ, List.set_cons_zero, List.take_add_one, h]
  simp
theorem at_fill {α : Type} {xs : List α} {k : Nat} {y : α} (hk : k < xs.length) : (xs.take k ++ List.replicate (xs.length - k) y)[k]? = some y := by
  have e1 : (xs.take k).length = k := by simp; omega
  rw [List.getElem?_append_right (by omega), e1, Nat.sub_self, List.getElem?_replicate, if_pos (by omega)]
theorem end_fill {α : Type} {xs : List α} {k : Nat} {y : α} (hk : ¬ (k : Int) < (xs.length : Int)) : xs.take k ++ List.replicate (xs.length - k) y = xs := by
  rw [List.take_of_length_le (by omega), show xs.length - k = 0 by omega]; simp
theorem Own.to {w : World} {lo : Nat} {t : TypeId} {s n c : Nat} {A : Option Addr} {cs cs' : List Value} (h : Own w lo t s A n c cs) (e : cs = cs') : Own w lo t s A n c cs' := e ▸ h
theorem inj_agg : ∀ p q : List Value, Value.agg p.toArray = Value.agg q.toArray → p = q := fun p q h => by
  injection h with h
  have := congrArg Array.toList h
  simpa using this
end Go.Proofs.Ytdoibplhbdkapaa
