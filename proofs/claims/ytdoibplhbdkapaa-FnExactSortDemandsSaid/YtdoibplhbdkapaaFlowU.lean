/- Flow, part U: as part N; what yields one value in every world and changes nothing may be taken first at any time; addresses of elements without a look at memory. No condition. -/
import Derived.Test.YtdoibplhbdkapaaFlowN
namespace Go.Proofs.Ytdoibplhbdkapaa
open Go.RowKit
set_option linter.unusedVariables false
set_option linter.unusedSimpArgs false
section
variable {P : Program} {ops : Array Oper} {z : Nat} {I : World → Prop} {K : Act → World → Prop}
theorem WZ_firstT {i : Nat} {oi : Oper} {v : Value} (hi : ops[i]? = some oi) (hsel : ∀ (j : Nat) (o : Oper) cs b, ops[j]? = some o → o.op ≠ .select cs b) (hiz : i ≠ z) :
    ∀ (fuel : Nat) (listed : Array Bool) (a : Act) (w : World),
      (∀ j oj, ops[j]? = some oj → j ≠ i → listed.getD j true = false → (∀ e ∈ oj.after, Region.binds .any e = true → e.on ≠ i) → oi.apart ops oj = true) →
      i ∈ rdy ops ops.size listed → (∀ w, OpX P ops oi a w fun u w' => u = v ∧ w' = w) →
      WZ P ops z I K fuel (listed.setIfInBounds i true) (a.put oi.dst v) w → WZ P ops z I K (fuel + 1) listed a w := by
  have here : ∀ (fuel : Nat) (listed : Array Bool) (a : Act) (w : World), (∀ w, OpX P ops oi a w fun u w' => u = v ∧ w' = w) →
      WZ P ops z I K fuel (listed.setIfInBounds i true) (a.put oi.dst v) w →
      OpX P ops oi a w fun u w' => WZ P ops z I K fuel (listed.setIfInBounds i true) (a.put oi.dst u) w' := by
    intro fuel listed a w hy H
    refine OpX.mono (hy w) fun u w' ⟨h1, h2⟩ => ?_
    subst h1; subst h2; exact H
  have inv : ∀ (fuel : Nat) (listed : Array Bool) (a : Act) (w : World), WZ P ops z I K fuel (listed.setIfInBounds i true) a w → listed.getD z true = false → I w := by
    intro fuel listed a w H hz
    exact H.inv (by rw [getD_set_ne true hiz]; exact hz)
  intro fuel
  induction fuel with
  | zero =>
    intro listed a w _ hr hy H
    refine ⟨inv _ _ _ _ H, fun h => (by rw [h] at hr; cases hr), fun j hj o ho => ?_⟩
    by_cases hji : j = i
    · subst hji
      obtain rfl : o = oi := by rw [hi] at ho; injection ho with ho; exact ho.symm
      exact here 0 listed a w hy H
    · exfalso
      obtain ⟨hj1, hj2⟩ := mem_rdy.1 hj
      have h1 := (mem_ready.1 (ready_mono hj1 hji)).1
      rw [H.1, finOf_spec j hj2] at h1
      cases h1
  | succ fuel ih =>
    intro listed a w hfree hr hy H
    refine ⟨inv _ _ _ _ H, fun h => (by rw [h] at hr; cases hr), fun j hj oj hoj => ?_⟩
    by_cases hji : j = i
    · subst hji
      obtain rfl : oj = oi := by rw [hi] at hoj; injection hoj with ho; exact ho.symm
      exact here _ listed a w hy H
    · obtain ⟨hj1, hj2⟩ := mem_rdy.1 hj
      obtain ⟨hi1, hi2⟩ := mem_rdy.1 hr
      have hex := H.2.2 j (mem_rdy.2 ⟨ready_mono hj1 hji, hj2⟩) oj hoj
      obtain ⟨hjun, oj', hoj', hall⟩ := mem_ready.1 hj1
      obtain rfl : oj' = oj := by rw [hoj] at hoj'; injection hoj' with ho; exact ho.symm
      have hnot : ∀ e ∈ oj'.after, Region.binds .any e = true → e.on ≠ i := fun e he hb heq => by
        have h1 := hall e he hb
        have h0 := (mem_ready.1 hi1).1
        rw [heq] at h1
        rcases Nat.lt_or_ge i listed.size with h' | h'
        · simp [h'] at h0 h1; rw [h0] at h1; cases h1
        · simp [Array.getElem?_eq_none h'] at h1
      have hap := hfree j oj' hoj hji hjun hnot
      obtain ⟨ha1, ha2, ha3⟩ := Oper.apart_spec hap
      refine OpX.mono ((OpX.put (fun cs b => hsel j oj' cs b hoj) ha1).1 hex) fun u w' hu => ?_
      refine ih _ _ _ ?_ (mem_rdy.2 ⟨ready_mono hi1 (Ne.symm hji), hi2⟩) (fun w => (OpX.put (fun cs b => hsel i oi cs b hi) ha3).2 (hy w)) ?_
      · intro k ok hk hki hun hno
        refine hfree k ok hk hki ?_ hno
        by_cases hjk : j = k
        · subst hjk; exact hjun
        · rw [getD_set_ne true hjk] at hun; exact hun
      · rw [Array.setIfInBounds_comm _ _ hji, ← Act.put_comm a v u ha2]
        exact hu
end
section
variable {P : Program} {n : Nat} {ops : Array Oper} {z : Nat} {I : World → Prop} {K : Act → World → Prop} {fuel : Nat} {listed listed' : Array Bool} {e : List (Nat × Value)} {w : World}
/-- one that needs no memory is taken first -/
theorem wz_takeT (i : Nat) {dst : Option Tmp} {op : Op} {ty : TypeId} {pos : String} {af : Array Edge} {v : Value} (hi : ops[i]? = some ⟨dst, op, ty, pos, af, none⟩) (hs : Region.noSelect ops = true) (hd : dstOk n dst = true)
    (ht : takeB ops ops.size listed i = true) (hz : i ≠ z) (hl : listed.setIfInBounds i true = listed') (hy : ∀ w, True → OpWp P e op ty w fun u w' => u = v ∧ w' = w)
    (h : WEZ P n ops z I K fuel listed' (updO e dst v) w) : WEZ P n ops z I K (fuel + 1) listed e w := fun a ha => by
  simp only [takeB, Bool.and_eq_true] at ht
  refine WZ_firstT hi (Region.noSelect_spec hs) hz fuel listed a w (Region.free_spec hi ht.1) (by simpa using ht.2) (fun w => (hy w trivial).opX ha) ?_
  rw [hl]
  exact h _ (ha.put dst v hd)
end
/-- an element's address, memory unseen -/
theorem ow_indexA {P : Program} {e : List (Nat × Value)} {ty : TypeId} {w : World} {K : Value → World → Prop} {x y : Operand} {t el : TypeId} {s : Nat} {A : Option Addr} {n c j : Nat} {k : IntKind} {m : Int} (hA : A.isSome = true) (ht : elO P t = some (el, s)) (hx : evO e x = some (.slice A n c)) (hy : evO e y = some (.int k m))
    (hm : m = (j : Int)) (hj : j < n) (h : K (.pointer (some ((base A).add (j * s)))) w) : OpWp P e (.indexAddr t x y) ty w K := by
  subst hm
  exact ow_index ht hx hy hA (by omega) (by omega) (by simpa using h)
theorem own_some {w : World} {lo n c s : Nat} {t : TypeId} {A : Option Addr} {cs : List Value} (h : Own w lo t s A n c cs) (hn : 0 < n) : A.isSome = true := by
  obtain ⟨g, cur, h1, _⟩ := h.form hn
  rw [h1]; rfl
end Go.Proofs.Ytdoibplhbdkapaa
