/- Flow, part N: a region that draws its order and writes in the middle, as in part I, but the invariant need hold only as long as operation number z has not been done. No condition. -/
import Derived.Test.YtdoibplhbdkapaaFlowK
namespace Go.Proofs.Ytdoibplhbdkapaa
open Go.RowKit
set_option linter.unusedVariables false
set_option linter.unusedSimpArgs false

def WZ (P : Program) (ops : Array Oper) (z : Nat) (I : World → Prop) (K : Act → World → Prop) : Nat → Array Bool → Act → World → Prop
  | 0, listed, a, w => listed = finOf ops ops.size ∧ (listed.getD z true = false → I w) ∧ K a w
  | fuel + 1, listed, a, w => (listed.getD z true = false → I w) ∧ rdy ops ops.size listed ≠ [] ∧ ∀ i ∈ rdy ops ops.size listed, ∀ o, ops[i]? = some o →
      OpX P ops o a w fun u w' => WZ P ops z I K fuel (listed.setIfInBounds i true) (a.put o.dst u) w'
def takeZ (ops : Array Oper) (z : Nat) (listed : Array Bool) (i : Nat) : Bool := takeB ops ops.size listed i && (!(listed.getD z true) && edgeB ops z i)

section
variable {P : Program} {ops : Array Oper} {z : Nat} {I : World → Prop} {K : Act → World → Prop}
theorem WZ.inv : ∀ {fuel : Nat} {listed : Array Bool} {a : Act} {w : World}, WZ P ops z I K fuel listed a w → listed.getD z true = false → I w
  | 0, _, _, _, h => h.2.1
  | _ + 1, _, _, _, h => h.1

theorem WZ_first {i : Nat} {oi : Oper} {v : Value} (hi : ops[i]? = some oi) (hsel : ∀ (j : Nat) (o : Oper) cs b, ops[j]? = some o → o.op ≠ .select cs b) :
    ∀ (fuel : Nat) (listed : Array Bool) (a : Act) (w : World),
      (∀ j oj, ops[j]? = some oj → j ≠ i → listed.getD j true = false → (∀ e ∈ oj.after, Region.binds .any e = true → e.on ≠ i) → oi.apart ops oj = true) →
      i ∈ rdy ops ops.size listed → listed.getD z true = false → edgeB ops z i = true → (∀ w, I w → OpX P ops oi a w fun u w' => u = v ∧ w' = w) →
      WZ P ops z I K fuel (listed.setIfInBounds i true) (a.put oi.dst v) w → WZ P ops z I K (fuel + 1) listed a w := by
  have here : ∀ (fuel : Nat) (listed : Array Bool) (a : Act) (w : World), listed.getD z true = false → z ≠ i → (∀ w, I w → OpX P ops oi a w fun u w' => u = v ∧ w' = w) →
      WZ P ops z I K fuel (listed.setIfInBounds i true) (a.put oi.dst v) w →
      OpX P ops oi a w fun u w' => WZ P ops z I K fuel (listed.setIfInBounds i true) (a.put oi.dst u) w' := by
    intro fuel listed a w hz hzi hy H
    refine OpX.mono (hy w (H.inv (by rw [getD_set_ne true (Ne.symm hzi)]; exact hz))) fun u w' ⟨h1, h2⟩ => ?_
    subst h1; subst h2; exact H
  have zne : ∀ (listed : Array Bool), i ∈ rdy ops ops.size listed → edgeB ops z i = true → z ≠ i := by
    intro listed hr he h6
    subst h6
    obtain ⟨ok, g1, e, g2, g3, g4⟩ := edgeB_spec he
    obtain ⟨h1, o, h2, h3⟩ := mem_ready.1 (mem_rdy.1 hr).1
    rw [h2] at g1; injection g1 with g1; subst g1
    have h7 := h3 e g2 g3
    rw [g4] at h7
    rcases Nat.lt_or_ge z listed.size with h' | h'
    · simp [h'] at h1 h7; rw [h1] at h7; cases h7
    · simp [Array.getElem?_eq_none h'] at h7
  intro fuel
  induction fuel with
  | zero =>
    intro listed a w _ hr hz he hy H
    exfalso
    have hzi : z ≠ i := zne listed hr he
    have hzs : z < ops.size := by
      obtain ⟨ok, g1, _⟩ := edgeB_spec he
      exact (Array.getElem?_eq_some_iff.1 g1).1
    have h2 : (listed.setIfInBounds i true).getD z true = listed.getD z true := getD_set_ne true (Ne.symm hzi)
    rw [H.1, finOf_spec z hzs, hz] at h2
    cases h2
  | succ fuel ih =>
    intro listed a w hfree hr hz he hy H
    have hzi : z ≠ i := zne listed hr he
    refine ⟨fun _ => H.inv (by rw [getD_set_ne true (Ne.symm hzi)]; exact hz), fun h => (by rw [h] at hr; cases hr), fun j hj oj hoj => ?_⟩
    by_cases hji : j = i
    · subst hji
      obtain rfl : oj = oi := by rw [hi] at hoj; injection hoj with ho; exact ho.symm
      exact here _ listed a w hz hzi hy H
    · obtain ⟨hj1, hj2⟩ := mem_rdy.1 hj
      obtain ⟨hi1, hi2⟩ := mem_rdy.1 hr
      have hex := H.2.2 j (mem_rdy.2 ⟨ready_mono hj1 hji, hj2⟩) oj hoj
      obtain ⟨hjun, oj', hoj', hall⟩ := mem_ready.1 hj1
      obtain rfl : oj' = oj := by rw [hoj] at hoj'; injection hoj' with ho; exact ho.symm
      have hnot : ∀ e ∈ oj'.after, Region.binds .any e = true → e.on ≠ i := fun e he hb heq => by
        have h1 := hall e he hb
        have h0 := (mem_ready.1 hi1).1
        rw [heq] at h1
        rcases Nat.lt_or_ge i listed.size with h' | h'
        · simp [h'] at h0 h1; rw [h0] at h1; cases h1
        · simp [Array.getElem?_eq_none h'] at h1
      have hjz : j ≠ z := by
        intro e
        subst e
        obtain ⟨ok, g1, e, g2, g3, g4⟩ := edgeB_spec he
        rw [hoj] at g1; injection g1 with g1; subst g1
        exact hnot e g2 g3 g4
      have hap := hfree j oj' hoj hji hjun hnot
      obtain ⟨ha1, ha2, ha3⟩ := Oper.apart_spec hap
      refine OpX.mono ((OpX.put (fun cs b => hsel j oj' cs b hoj) ha1).1 hex) fun u w' hu => ?_
      refine ih _ _ _ ?_ (mem_rdy.2 ⟨ready_mono hi1 (Ne.symm hji), hi2⟩) (by rw [getD_set_ne true hjz]; exact hz) he (fun w hw => (OpX.put (fun cs b => hsel i oi cs b hi) ha3).2 (hy w hw)) ?_
      · intro k ok hk hki hun hno
        refine hfree k ok hk hki ?_ hno
        by_cases hjk : j = k
        · subst hjk; exact hjun
        · rw [getD_set_ne true hjk] at hun; exact hun
      · rw [Array.setIfInBounds_comm _ _ hji, ← Act.put_comm a v u ha2]
        exact hu

theorem WZ_any {Q : Exit → Act → World → Prop} (hK : ∀ a w, K a w → wpAny P .any ops Q 0 (finOf ops ops.size) a w) :
    ∀ (fuel : Nat) (listed : Array Bool) (a : Act) (w : World), WZ P ops z I K fuel listed a w → wpAny P .any ops Q fuel listed a w := by
  intro fuel
  induction fuel with
  | zero => intro listed a w h; obtain ⟨rfl, _, h2⟩ := h; exact hK _ _ h2
  | succ fuel ih =>
    intro listed a w h
    obtain ⟨_, hne, hall⟩ := h
    obtain ⟨k, hk⟩ := List.exists_mem_of_ne_nil _ hne
    refine ⟨fun h0 => (by have := (mem_rdy.1 hk).1; rw [h0] at this; cases this), fun i hi => ?_⟩
    obtain ⟨hiun, oi, hoi, hedge⟩ := mem_ready.1 hi
    have him : i < ops.size := (Array.getElem?_eq_some_iff.1 hoi).1
    exact OpX.wpOp hoi (hall i (mem_rdy.2 ⟨hi, him⟩) oi hoi) fun v w' hv => ih _ _ _ hv
end

def WEZ (P : Program) (n : Nat) (ops : Array Oper) (z : Nat) (I : World → Prop) (K : Act → World → Prop) (fuel : Nat) (listed : Array Bool) (e : List (Nat × Value)) (w : World) : Prop :=
  ∀ a, Fits n e a → WZ P ops z I K fuel listed a w

section
variable {P : Program} {n : Nat} {ops : Array Oper} {z : Nat} {I : World → Prop} {K : Act → World → Prop} {fuel : Nat} {listed listed' : Array Bool} {e : List (Nat × Value)} {w : World}
/-- a quiet one is taken first -/
theorem wz_take (i : Nat) {dst : Option Tmp} {op : Op} {ty : TypeId} {pos : String} {af : Array Edge} {v : Value} (hi : ops[i]? = some ⟨dst, op, ty, pos, af, none⟩) (hs : Region.noSelect ops = true) (hd : dstOk n dst = true)
    (ht : takeZ ops z listed i = true) (hl : listed.setIfInBounds i true = listed') (hy : ∀ w, I w → OpWp P e op ty w fun u w' => u = v ∧ w' = w)
    (h : WEZ P n ops z I K fuel listed' (updO e dst v) w) : WEZ P n ops z I K (fuel + 1) listed e w := fun a ha => by
  simp only [takeZ, takeB, Bool.and_eq_true, Bool.not_eq_true'] at ht
  refine WZ_first hi (Region.noSelect_spec hs) fuel listed a w (Region.free_spec hi ht.1.1) (by simpa using ht.1.2) ht.2.1 ht.2.2 (fun w hw => (hy w hw).opX ha) ?_
  rw [hl]
  exact h _ (ha.put dst v hd)
/-- number i alone may come up -/
theorem wz_one (i : Nat) {dst : Option Tmp} {op : Op} {ty : TypeId} {pos : String} {af : Array Edge} (hi : ops[i]? = some ⟨dst, op, ty, pos, af, none⟩) (hd : dstOk n dst = true)
    (hr : rdy ops ops.size listed = [i]) (hl : listed.setIfInBounds i true = listed') (hI : listed.getD z true = false → I w) (hy : OpWp P e op ty w fun u w' => WEZ P n ops z I K fuel listed' (updO e dst u) w') : WEZ P n ops z I K (fuel + 1) listed e w := fun a ha => by
  refine ⟨hI, by rw [hr]; simp, fun j hj o ho => ?_⟩
  rw [hr] at hj
  obtain rfl : j = i := by simpa using hj
  obtain rfl : ⟨dst, op, ty, pos, af, none⟩ = o := by rw [hi] at ho; injection ho
  refine OpX.mono (OpWp.opX ha hy) fun u w' hu => ?_
  rw [hl]
  exact hu _ (ha.put dst u hd)
/-- numbers i and k alone may come up -/
theorem wz_two (i k : Nat) {listed'' : Array Bool} {dst : Option Tmp} {op : Op} {ty : TypeId} {pos : String} {af : Array Edge} {dst2 : Option Tmp} {op2 : Op} {ty2 : TypeId} {pos2 : String} {af2 : Array Edge} (hi : ops[i]? = some ⟨dst, op, ty, pos, af, none⟩) (hk : ops[k]? = some ⟨dst2, op2, ty2, pos2, af2, none⟩) (hd : dstOk n dst = true) (hd2 : dstOk n dst2 = true)
    (hr : rdy ops ops.size listed = [i, k]) (hl : listed.setIfInBounds i true = listed') (hl2 : listed.setIfInBounds k true = listed'') (hI : listed.getD z true = false → I w) (hy : OpWp P e op ty w fun u w' => WEZ P n ops z I K fuel listed' (updO e dst u) w')
    (hy2 : OpWp P e op2 ty2 w fun u w' => WEZ P n ops z I K fuel listed'' (updO e dst2 u) w') : WEZ P n ops z I K (fuel + 1) listed e w := fun a ha => by
  refine ⟨hI, by rw [hr]; simp, fun j hj o ho => ?_⟩
  rw [hr] at hj
  simp only [List.mem_cons, List.not_mem_nil, or_false] at hj
  rcases hj with rfl | rfl
  · obtain rfl : ⟨dst, op, ty, pos, af, none⟩ = o := by rw [hi] at ho; injection ho
    refine OpX.mono (OpWp.opX ha hy) fun u w' hu => ?_
    rw [hl]
    exact hu _ (ha.put dst u hd)
  · obtain rfl : ⟨dst2, op2, ty2, pos2, af2, none⟩ = o := by rw [hk] at ho; injection ho
    refine OpX.mono (OpWp.opX ha hy2) fun u w' hu => ?_
    rw [hl2]
    exact hu _ (ha.put dst2 u hd2)
/-- all are done -/
theorem wz_done (hl : listed = finOf ops ops.size) (hI : listed.getD z true = false → I w) (h : ∀ a, Fits n e a → K a w) : WEZ P n ops z I K 0 listed e w := fun a ha => ⟨hl, hI, h a ha⟩
end

theorem c_seqZ {P : Program} {n : Nat} {id : Nat} {l : List Oper} {e : List (Nat × Value)} {w : World} {Q : Exit → List (Nat × Value) → World → Prop} {y : Code} (z : Nat) (I : World → Prop)
    (hx : P.follows .mixedOrders = true)
    (h : WEZ P n l.toArray z I (fun a w => ∃ e', Fits n e' a ∧ CWp P n y e' w Q) l.toArray.size (Array.replicate l.toArray.size false) e w.drew) : CWp P n (.seq (.region id l.toArray true) y) e w Q := c_seq fun a ha => by
  refine wp_region_any hx ?_
  exact WZ_any (K := fun a w => ∃ e', Fits n e' a ∧ CWp P n y e' w Q) (Q := fun x a' w' => ∃ e', Fits n e' a' ∧ thenQ (fun e' w' => CWp P n y e' w' Q) Q x e' w') (fun a w ⟨e', hf, hk⟩ => ⟨ready_fin _, e', hf, hk⟩) _ _ _ _ (h a ha)
theorem c_regZ {P : Program} {n : Nat} {id : Nat} {l : List Oper} {e : List (Nat × Value)} {w : World} {Q : Exit → List (Nat × Value) → World → Prop} (z : Nat) (I : World → Prop)
    (hx : P.follows .mixedOrders = true)
    (h : WEZ P n l.toArray z I (fun a w => ∃ e', Fits n e' a ∧ Q .normal e' w) l.toArray.size (Array.replicate l.toArray.size false) e w.drew) : CWp P n (.region id l.toArray true) e w Q := fun a ha => by
  refine wp_region_any hx ?_
  exact WZ_any (K := fun a w => ∃ e', Fits n e' a ∧ Q .normal e' w) (Q := fun x a' w' => ∃ e', Fits n e' a' ∧ Q x e' w') (fun a w ⟨e', hf, hk⟩ => ⟨ready_fin _, e', hf, hk⟩) _ _ _ _ (h a ha)

section
variable {P : Program} {n : Nat} {ops : Array Oper} {z : Nat} {I : World → Prop} {K : Act → World → Prop} {fuel : Nat} {listed listed' : Array Bool} {e : List (Nat × Value)} {w : World}
/-- a quiet one that is guarded and wanted is taken first -/
theorem wz_takeW (i : Nat) {dst : Option Tmp} {op : Op} {ty : TypeId} {pos : String} {af : Array Edge} {v : Value} {j d : Nat} {b : Bool} (hi : ops[i]? = some ⟨dst, op, ty, pos, af, some (j, b)⟩) (hs : Region.noSelect ops = true) (hd : dstOk n dst = true)
    (ht : takeZ ops z listed i = true) (hl : listed.setIfInBounds i true = listed') (hj : (ops[j]?).bind (·.dst) = some d) (hb : lk e d = some (.bool b)) (hy : ∀ w, I w → OpWp P e op ty w fun u w' => u = v ∧ w' = w)
    (h : WEZ P n ops z I K fuel listed' (updO e dst v) w) : WEZ P n ops z I K (fuel + 1) listed e w := fun a ha => by
  simp only [takeZ, takeB, Bool.and_eq_true, Bool.not_eq_true'] at ht
  refine WZ_first hi (Region.noSelect_spec hs) fuel listed a w (Region.free_spec hi ht.1.1) (by simpa using ht.1.2) ht.2.1 ht.2.2 (fun w hw => OpG.opX ha (by simp only [OpG, hj, hb]; rw [if_pos (by cases b <;> rfl)]; exact hy w hw)) ?_
  rw [hl]
  exact h _ (ha.put dst v hd)
/-- one that is guarded and not wanted is taken first -/
theorem wz_takeS (i : Nat) {dst : Option Tmp} {op : Op} {ty : TypeId} {pos : String} {af : Array Edge} {j d : Nat} {b : Bool} {u0 : Value} (hi : ops[i]? = some ⟨dst, op, ty, pos, af, some (j, b)⟩) (hs : Region.noSelect ops = true) (hd : dstOk n dst = true)
    (ht : takeZ ops z listed i = true) (hl : listed.setIfInBounds i true = listed') (hj : (ops[j]?).bind (·.dst) = some d) (hb : lk e d = some u0) (hu : saysB u0 b = false)
    (h : WEZ P n ops z I K fuel listed' (updO e dst undef) w) : WEZ P n ops z I K (fuel + 1) listed e w := fun a ha => by
  simp only [takeZ, takeB, Bool.and_eq_true, Bool.not_eq_true'] at ht
  refine WZ_first (v := undef) hi (Region.noSelect_spec hs) fuel listed a w (Region.free_spec hi ht.1.1) (by simpa using ht.1.2) ht.2.1 ht.2.2 (fun w hw => OpG.opX ha (by simp only [OpG, hj, hb]; rw [if_neg (by rw [hu]; simp)]; first | trivial | exact ⟨rfl, rfl⟩ | simp)) ?_
  rw [hl]
  exact h _ (ha.put dst undef hd)
/-- number i alone may come up; it is guarded and wanted -/
theorem wz_oneW (i : Nat) {dst : Option Tmp} {op : Op} {ty : TypeId} {pos : String} {af : Array Edge} {j d : Nat} {b : Bool} (hi : ops[i]? = some ⟨dst, op, ty, pos, af, some (j, b)⟩) (hd : dstOk n dst = true)
    (hr : rdy ops ops.size listed = [i]) (hl : listed.setIfInBounds i true = listed') (hj : (ops[j]?).bind (·.dst) = some d) (hb : lk e d = some (.bool b)) (hI : listed.getD z true = false → I w) (hy : OpWp P e op ty w fun u w' => WEZ P n ops z I K fuel listed' (updO e dst u) w') : WEZ P n ops z I K (fuel + 1) listed e w := fun a ha => by
  refine ⟨hI, by rw [hr]; simp, fun k hk o ho => ?_⟩
  rw [hr] at hk
  obtain rfl : k = i := by simpa using hk
  obtain rfl : ⟨dst, op, ty, pos, af, some (j, b)⟩ = o := by rw [hi] at ho; injection ho
  refine OpX.mono (OpG.opX (R := fun u w' => WEZ P n ops z I K fuel listed' (updO e dst u) w') ha (by simp only [OpG, hj, hb]; rw [if_pos (by cases b <;> rfl)]; exact hy)) fun u w' hu => ?_
  rw [hl]
  exact hu _ (ha.put dst u hd)
end
end Go.Proofs.Ytdoibplhbdkapaa
