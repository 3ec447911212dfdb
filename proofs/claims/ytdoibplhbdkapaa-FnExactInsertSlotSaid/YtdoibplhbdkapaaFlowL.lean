/- Flow, part L: slices held against nil; the fore part of an own row. No condition. -/
import Derived.Test.YtdoibplhbdkapaaFlowK
import Derived.Laws.StructEq
namespace Go.Proofs.Ytdoibplhbdkapaa
open Go.RowKit
set_option linter.unusedVariables false
set_option linter.unusedSimpArgs false
theorem run_equalN {P : Program} {t el : TypeId} {w : World} {A : Option Addr} {n c : Nat} (ht : P.underlying t = some (.slice el)) : (Op.equal t (.slice A n c) (.slice none 0 0)).run P w = .ok A.isNone w := by
  unfold Op.equal
  rw [show Op.maxDepth = 9999 + 1 from rfl, Op.equalIn]
  cases A <;> simp [run_underlying ht]
section
variable {P : Program} {e : List (Nat × Value)} {ty t t' el : TypeId} {w : World} {K : Value → World → Prop} {x y : Operand} {A : Option Addr} {n c : Nat}
theorem ow_eqlN2 (ht : P.underlying t = some (.slice el)) (hx : evO e x = some (.slice A n c)) (hy : evO e y = some (.slice none 0 0)) (h1 : A = none → K (.bool true) w) (h2 : A ≠ none → K (.bool false) w) : OpWp P e (.binOp .eql t x y t') ty w K := fun ρ d p a g hρ => by
  have g1 := hρ _ _ hx; have g2 := hρ _ _ hy
  have h3 := run_equalN (P := P) (w := w) (A := A) (n := n) (c := c) ht
  simp only [execOp, g1, g2, eqGuard, binOp]
  cases A with
  | none => simp [h3, upto]; exact h1 rfl
  | some a => simp [h3, upto]; exact h2 (by simp)
theorem ow_neqN2 (ht : P.underlying t = some (.slice el)) (hx : evO e x = some (.slice A n c)) (hy : evO e y = some (.slice none 0 0)) (h1 : A ≠ none → K (.bool true) w) (h2 : A = none → K (.bool false) w) : OpWp P e (.binOp .neq t x y t') ty w K := fun ρ d p a g hρ => by
  have g1 := hρ _ _ hx; have g2 := hρ _ _ hy
  have h3 := run_equalN (P := P) (w := w) (A := A) (n := n) (c := c) ht
  simp only [execOp, g1, g2, eqGuard, binOp]
  cases A with
  | none => simp [h3, upto]; exact h2 rfl
  | some a => simp [h3, upto]; exact h1 (by simp)
end
/-- a row at no address has no elements -/
theorem Sl.none_nil {α : Type} {enc : α → List Value} {s B : Nat} {w : World} {xs : List α} (h : Sl B w none (xs.flatMap enc)) (he : ∀ x, (enc x).length = s) (h0 : 0 < s) : xs = [] := by
  cases xs with
  | nil => rfl
  | cons x r =>
    exfalso
    have h1 := he x
    cases hx : enc x with
    | nil => rw [hx] at h1; simp at h1; omega
    | cons v vs =>
      have h2 := (h.2 0 v (by simp [hx])).1
      simp at h2
theorem Own.pre {w : World} {lo n c s h : Nat} {t : TypeId} {A : Option Addr} {cs : List Value} (o : Own w lo t s A n c cs) (hh : h ≤ n) : Own w lo t s A h c (cs.take (h * s)) := by
  have hl : (cs.take (h * s)).length = h * s := by
    rw [List.length_take, o.1]
    exact Nat.min_eq_left (Nat.mul_le_mul_right s hh)
  refine ⟨hl, ?_⟩
  rcases o.2 with ⟨h1, h2⟩ | ⟨g, cap, cur, hv, hlo, hg, hnc, hm, hs, hc⟩
  · simp only [Value.slice.injEq] at h1
    obtain ⟨rfl, h3, rfl⟩ := h1
    left
    have h4 : h = 0 := by omega
    subst h4
    exact ⟨rfl, rfl⟩
  · simp only [Value.slice.injEq] at hv
    obtain ⟨rfl, _, rfl⟩ := hv
    right
    refine ⟨g, c, cur, rfl, hlo, hg, by omega, hm, hs, ?_⟩
    rw [← hc, List.take_take, Nat.min_eq_left (Nat.mul_le_mul_right s hh)]
section
variable {P : Program} {n : Nat} {fn : Func} {R : Value → World → Prop} {e : List (Nat × Value)} {w : World}
theorem fin_ret4 {t u s r : Tmp} {v x y z : Value} (hr : fn.results = #[.tmp t, .tmp u, .tmp s, .tmp r]) (hv : lk e t = some v) (hx : lk e u = some x) (hy : lk e s = some y) (hz : lk e r = some z) (h : R (.tuple #[v, x, y, z]) w) : fin P n fn R .ret e w :=
  fun a ha => ⟨.tuple #[v, x, y, z], by
    have h1 := ha.2.2 t v hv
    have h2 := ha.2.2 u x hx
    have h3 := ha.2.2 s y hy
    have h4 := ha.2.2 r z hz
    simp only [Array.getD_eq_getD_getElem?] at h1 h2 h3 h4
    simp [results, hr, h1, h2, h3, h4], h⟩
end
section
variable {P : Program} {e : List (Nat × Value)} {ty t t' : TypeId} {w : World} {K : Value → World → Prop} {x y : Operand} {a : Array Value}
theorem ow_neqA (hx : evO e x = some (.agg a)) (hy : evO e y = some (.agg a)) (hm : P.eqGuardType P.depth t = false) (he : ∀ w, (Op.equalIn 10000 t (.agg a) (.agg a)).run P w = .ok true w) (h : K (.bool false) w) : OpWp P e (.binOp .neq t x y t') ty w K := fun ρ d p af g hρ => by
  have g1 := hρ _ _ hx; have g2 := hρ _ _ hy
  have h3 := run_eqGuard_agg (P := P) w .neq t x y a a hm
  have h4 := run_neq_struct (P := P) w t a a
  rw [he] at h4
  simp only [execOp, g1, g2, Sem.run_bind, h3, Result.andThen_ok, h4, Bool.not_true]
  simpa [upto] using h
theorem ow_eqlA (hx : evO e x = some (.agg a)) (hy : evO e y = some (.agg a)) (hm : P.eqGuardType P.depth t = false) (he : ∀ w, (Op.equalIn 10000 t (.agg a) (.agg a)).run P w = .ok true w) (h : K (.bool true) w) : OpWp P e (.binOp .eql t x y t') ty w K := fun ρ d p af g hρ => by
  have g1 := hρ _ _ hx; have g2 := hρ _ _ hy
  have h3 := run_eqGuard_agg (P := P) w .eql t x y a a hm
  have h4 := run_eql_struct (P := P) w t a a
  rw [he] at h4
  simp only [execOp, g1, g2, Sem.run_bind, h3, Result.andThen_ok, h4]
  simpa [upto] using h
end
section
variable {P : Program} {e : List (Nat × Value)} {w : World} {K : Value → World → Prop} {ty t el : TypeId} {x hi : Operand} {s n c h : Nat} {A : Option Addr} {k2 : IntKind} {m2 : Int}
theorem ow_sliceHO (ht : elO P t = some (el, s)) (hx : evO e x = some (.slice A n c)) (h2 : evO e hi = some (.int k2 m2)) (e2 : m2 = (h : Int))
    (hc : h ≤ c) (hK : K (.slice A h c) w) : OpWp P e (.slice t x none (some hi) none) ty w K := fun ρ d p a g hρ => by
  have g0 := hρ _ _ hx; have g2 := hρ _ _ h2
  obtain ⟨hu, hsz⟩ := elem_of ht
  subst e2
  have hr := run_slice_h (P := P) (w := w) t A n c hu k2 (h : Int) (by omega) (by omega)
  simp only [execOp, g0, Option.map_some, Option.map_none, g2, Sem.run_bind, run_sliceAt_slice w t _ _ _ _ hu, hr, hsz, Result.andThen_ok, Sem.run_pure, upto, sliced, Int.toNat_natCast]
  have e1 : (if c = 0 then A else A.map (·.add (0 * s))) = A := by split <;> simp [map_add0]
  simpa [map_add0] using hK
end
end Go.Proofs.Ytdoibplhbdkapaa
