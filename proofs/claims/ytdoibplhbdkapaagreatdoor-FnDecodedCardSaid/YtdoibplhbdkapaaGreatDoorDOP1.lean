/- Parts. No condition. -/
import Derived.WalkKit
import Derived.Deep.Quiet
import Derived.Orders
namespace Go.Proofs.YtdoibplhbdkapaaGreatDoor
open Go.RowKit
theorem Q7l {a b c : Nat} (h : a ≤ b) (k : b ≤ c) : a ≤ c := Nat.le_trans h k
theorem Q7e {a b : Nat} (h : a = b) : a ≤ b := Nat.le_of_eq h
set_option linter.unusedVariables false
set_option linter.unusedSimpArgs false
abbrev Ext (w w' : World) : Prop := Below w.heap.size w w'
theorem Ext.refl (w : World) : Ext w w := Below.refl _ _
theorem Ext.trans {a b c : World} (h : Ext a b) (k : Ext b c) : Ext a c := Below.trans h (Below.mono k h.size)
theorem Q7x {w1 w2 w3 : World} (h : Ext w1 w2) (k : Ext w2 w3) : Ext w1 w3 := Ext.trans h k
theorem Q7r (w : World) : Ext w w := Ext.refl w
theorem Ext.drew (w : World) : Ext w w.drew := (Below.refl _ _).drew
theorem Ext.alloc (w : World) (o : Obj) : Ext w (w.alloc o) := (Below.refl _ _).alloc (Nat.le_refl _) o
def Up (S : World → Prop) : Prop := ∀ w w', S w → Ext w w' → S w'
theorem Up.ext (w : World) : Up (Ext w) := fun _ _ h k => Q7x h k
theorem Up.and {S T : World → Prop} (hs : Up S) (ht : Up T) : Up (fun w => S w ∧ T w) := fun w w' h k => ⟨hs w w' h.1 k, ht w w' h.2 k⟩
theorem Up.pure (p : Prop) : Up (fun _ => p) := fun _ _ h _ => h
def lk : List (Nat × Value) → Nat → Option Value
 | [], _ => none
 | (k, v) :: r, t => bif Nat.beq k t then some v else lk r t
def fV (e : List (Nat × Value)) : Operand → Option Value
 | .tmp t => lk e t
 | .const v => some v
 | .global g => some (.pointer (some ⟨g, 0, none⟩))
 | .func f => some (.func (.func f) #[] #[])
def aCJ (e : List (Nat × Value)) (ρ : Operand → Value) : Prop := ∀ x v, fV e x = some v → ρ x = v
def Fits (n : Nat) (e : List (Nat × Value)) (a : Act) : Prop :=
 a.defers = [] ∧ a.tmps.size = n ∧ ∀ t v, lk e t = some v → a.tmps.getD t undef = v
def kK (e : List (Nat × Value)) : Option Tmp → Value → List (Nat × Value)
 | some d, v => (d, v) :: e
 | none, _ => e
theorem Fits.knows {n : Nat} {e : List (Nat × Value)} {a : Act} (h : Fits n e a) : aCJ e a.eval := by
 intro x v hx
 cases x with
 | tmp t => exact h.2.2 t v hx
 | const u => simp only [fV, Option.some.injEq] at hx; rw [← hx]; rfl
 | «global» g => simp only [fV, Option.some.injEq] at hx; rw [← hx]; rfl
 | func f => simp only [fV, Option.some.injEq] at hx; rw [← hx]; rfl
theorem rS (d : Nat) (v : Value) (e : List (Nat × Value)) (t : Nat) : lk ((d, v) :: e) t = if d = t then some v else lk e t := by
 by_cases h : d = t
 · subst h; simp [lk]
 · have : Nat.beq d t = false := by
     cases hb : Nat.beq d t with
     | false => rfl
     | true => exact absurd (Nat.eq_of_beq_eq_true hb) h
   simp [lk, this, h]
def iT (n : Nat) : Option Tmp → Bool
 | some d => Nat.blt d n
 | none => true
theorem Fits.put {n : Nat} {e : List (Nat × Value)} {a : Act} (h : Fits n e a) (d : Option Tmp) (v : Value) (hd : iT n d = true) : Fits n (kK e d v) (a.put d v) := by
 cases d with
 | none => exact h
 | some d =>
   have hd' : d < n := by simpa [iT] using hd
   refine ⟨h.1, by simp [Act.put, h.2.1], fun t u ht => ?_⟩
   simp only [kK] at ht
   rw [rS] at ht
   by_cases hdt : d = t
   · subst hdt
     simp only [if_true, Option.some.injEq] at ht
     subst ht
     simp [Act.put, h.2.1, hd']
   · rw [if_neg hdt] at ht
     have := h.2.2 t u ht
     simp only [Act.put]
     simp only [Array.getD_eq_getD_getElem?] at this ⊢
     rw [Array.getElem?_setIfInBounds_ne hdt]
     exact this
def subO (e' e : List (Nat × Value)) : Prop := ∀ t v, lk e' t = some v → lk e t = some v
theorem Fits.sub {n : Nat} {e e' : List (Nat × Value)} {a : Act} (h : Fits n e a) (hs : subO e' e) : Fits n e' a := ⟨h.1, h.2.1, fun t v ht => h.2.2 t v (hs t v ht)⟩
theorem subO.nil (e : List (Nat × Value)) : subO [] e := fun t v h => by simp [lk] at h
theorem subO.cons {e e' : List (Nat × Value)} {d : Nat} {v : Value} (h : lk e d = some v) (hs : subO e' e) : subO ((d, v) :: e') e := fun t u ht => by
 rw [rS] at ht
 by_cases hdt : d = t
 · subst hdt; simp only [if_true, Option.some.injEq] at ht; subst ht; exact h
 · rw [if_neg hdt] at ht; exact hs t u ht
def upto (P : Program) (K : Value → World → Prop) : Result Next → Prop
 | .ok (.value v) w' => K v w'
 | .ok .skip w' => K undef w'
 | .ok (.enter f args) w' => Calls P f args w' fun
     | .returned v, w'' => K v w''
     | _, _ => False
 | _ => False
def OpWp (P : Program) (e : List (Nat × Value)) (op : Op) (ty : TypeId) (w : World) (K : Value → World → Prop) : Prop :=
 ∀ (ρ : Operand → Value) (dst : Option Tmp) (pos : String) (af : Array Edge) (g : Option (Nat × Bool)), aCJ e ρ → upto P K ((execOp ρ ⟨dst, op, ty, pos, af, g⟩).run P w)
theorem aBo {P : Program} {K K' : Value → World → Prop} {r : Result Next} (h : ∀ v w, K v w → K' v w) (hr : upto P K r) : upto P K' r := by
 cases r with
 | halt x w => exact hr
 | ok n w =>
   cases n <;> simp only [upto] at hr ⊢ <;> first
     | exact h _ _ hr
     | exact Calls.mono hr (fun e w'' he => by cases e <;> first | exact h _ _ he | exact he)
theorem OpWp.mono {P : Program} {e : List (Nat × Value)} {op : Op} {ty : TypeId} {w : World} {K K' : Value → World → Prop} (h : OpWp P e op ty w K) (hk : ∀ v w, K v w → K' v w) : OpWp P e op ty w K' :=
 fun ρ d p af g hρ => aBo hk (h ρ d p af g hρ)
theorem aAn {P : Program} {a : Act} {o : Oper} {w : World} {K : Value → World → Prop} {next : Act → World → Prop} {Q : Exit → Act → World → Prop}
   (h : upto P K ((execOp a.eval o).run P w)) (hk : ∀ v w', K v w' → next (a.put o.dst v) w') : o.wp P a w next Q := by
 unfold Oper.wp
 generalize (execOp a.eval o).run P w = r at *
 cases r with
 | halt x w => exact h.elim
 | ok n w =>
   cases n <;> simp only [upto] at h <;> simp only [Oper.upon] <;> first
     | exact hk _ _ h
     | exact Calls.mono h (fun e w'' he => by cases e <;> first | exact hk _ _ he | exact he.elim)
theorem OpWp.wp {P : Program} {n : Nat} {e : List (Nat × Value)} {a : Act} {o : Oper} {w : World} {K : Value → World → Prop} {next : Act → World → Prop} {Q : Exit → Act → World → Prop}
   (h : OpWp P e o.op o.type w K) (ha : Fits n e a) (hk : ∀ v w', K v w' → next (a.put o.dst v) w') : o.wp P a w next Q :=
 aAn (h a.eval o.dst o.pos o.after o.guard ha.knows) hk
def pQ (P : Program) (n : Nat) (ops : Array Oper) (l : List Oper) (e : List (Nat × Value)) (w : World) (K : List (Nat × Value) → World → Prop) : Prop :=
 ∀ (a : Act) (Q : Exit → Act → World → Prop), Fits n e a → (∀ e' a' w', Fits n e' a' → K e' w' → Q .normal a' w') → wpList P ops Q l a w
section
variable {P : Program} {n : Nat} {ops : Array Oper} {rest : List Oper} {e : List (Nat × Value)} {w : World} {K : List (Nat × Value) → World → Prop}
theorem aB (h : K e w) : pQ P n ops [] e w K := fun _ _ ha hK => wpList_nil (hK _ _ _ ha h)
theorem aA {dst : Option Tmp} {op : Op} {ty : TypeId} {pos : String} {af : Array Edge} (hd : iT n dst = true)
   (h : OpWp P e op ty w fun v w' => pQ P n ops rest (kK e dst v) w' K) : pQ P n ops (⟨dst, op, ty, pos, af, none⟩ :: rest) e w K :=
 fun _ Q ha hK => wpList_plain rfl fun _ hK' => OpWp.wp (o := ⟨dst, op, ty, pos, af, none⟩) h ha fun v w' hv => hK' _ _ (hv _ Q (ha.put dst v hd) hK)
theorem aI {dst : Option Tmp} {op : Op} {ty : TypeId} {pos : String} {af : Array Edge} {j : Nat} {b : Bool} {d : Nat} (hj : (ops[j]?).bind (·.dst) = some d) (hb : lk e d = some (.bool b)) (hd : iT n dst = true)
   (h : OpWp P e op ty w fun v w' => pQ P n ops rest (kK e dst v) w' K) : pQ P n ops (⟨dst, op, ty, pos, af, some (j, b)⟩ :: rest) e w K :=
 fun a Q ha hK => wpList_step fun _ hK' => by
   have hw : Region.wanted ⟨dst, op, ty, pos, af, some (j, b)⟩ (yielded ops a.tmps) = true := by
     have := ha.2.2 d _ hb
     simp only [Array.getD_eq_getD_getElem?] at this
     simp only [Region.wanted, yielded, hj, beq_iff_eq]
     cases ht : a.tmps[d]? with
     | none => rw [ht] at this; simp [undef] at this
     | some u => rw [ht] at this; simp at this; subst this; simp [ht]
   rw [if_pos hw]
   exact OpWp.wp (o := ⟨dst, op, ty, pos, af, some (j, b)⟩) h ha fun v w' hv => hK' _ _ (hv _ Q (ha.put dst v hd) hK)
theorem aH {dst : Option Tmp} {op : Op} {ty : TypeId} {pos : String} {af : Array Edge} {j : Nat} {b c : Bool} {d : Nat} (hj : (ops[j]?).bind (·.dst) = some d) (hb : lk e d = some (.bool c)) (hbc : (c == b) = false) (hd : iT n dst = true)
   (h : pQ P n ops rest (kK e dst undef) w K) : pQ P n ops (⟨dst, op, ty, pos, af, some (j, b)⟩ :: rest) e w K :=
 fun a Q ha hK => wpList_skip (by
   have := ha.2.2 d _ hb
   simp only [Array.getD_eq_getD_getElem?] at this
   simp only [Region.wanted, yielded, hj]
   cases ht : a.tmps[d]? with
   | none => rw [ht] at this; simp [undef] at this
   | some u => rw [ht] at this; simp at this; subst this; cases c <;> cases b <;> simp_all) (h _ Q (ha.put dst undef hd) hK)
theorem eD {dst : Option Tmp} {op : Op} {ty : TypeId} {pos : String} {af : Array Edge} {j : Nat} {b : Bool} {d : Nat} (hj : (ops[j]?).bind (·.dst) = some d) (hb : lk e d = some undef) (hd : iT n dst = true)
   (h : pQ P n ops rest (kK e dst undef) w K) : pQ P n ops (⟨dst, op, ty, pos, af, some (j, b)⟩ :: rest) e w K :=
 fun a Q ha hK => wpList_skip (by
   have := ha.2.2 d _ hb
   simp only [Array.getD_eq_getD_getElem?] at this
   simp only [Region.wanted, yielded, hj]
   cases ht : a.tmps[d]? with
   | none => simp [ht]
   | some u => rw [ht] at this; simp at this; subst this; simp [ht, undef]) (h _ Q (ha.put dst undef hd) hK)
end
def rT (P : Program) (n : Nat) (c : Code) (e : List (Nat × Value)) (w : World) (Q : Exit → List (Nat × Value) → World → Prop) : Prop :=
 ∀ a, Fits n e a → c.wp P (fun x a' w' => ∃ e', Fits n e' a' ∧ Q x e' w') a w
section
variable {P : Program} {n : Nat} {e : List (Nat × Value)} {w : World} {Q : Exit → List (Nat × Value) → World → Prop}
def yR (K : List (Nat × Value) → World → Prop) (Q : Exit → List (Nat × Value) → World → Prop) : Exit → List (Nat × Value) → World → Prop
 | .normal, e, w => K e w
 | x, e, w => Q x e w
def aCK (id : Nat) (Q : Exit → List (Nat × Value) → World → Prop) : Exit → List (Nat × Value) → World → Prop
 | .exit id', e, w => if id' = id then Q .normal e w else Q (.exit id') e w
 | x, e, w => Q x e w
theorem aR {x y : Code} (h : rT P n x e w (yR (fun e' w' => rT P n y e' w' Q) Q)) : rT P n (.seq x y) e w Q :=
 fun a ha => wp_seq (wp_mono (h a ha) fun x a' w' ⟨e', hf, hQ⟩ => by
   cases x <;> first
     | exact hQ a' hf
     | exact ⟨e', hf, hQ⟩)
section
variable {K : List (Nat × Value) → World → Prop}
theorem aS (h : K e w) : yR K Q .normal e w := h
theorem bN (h : Q .ret e w) : yR K Q .ret e w := h
theorem dC {id : Nat} (h : Q (.exit id) e w) : yR K Q (.exit id) e w := h
theorem dO {id : Nat} (h : Q .normal e w) : aCK id Q .normal e w := h
theorem dL {id : Nat} (h : Q .ret e w) : aCK id Q .ret e w := h
theorem eG {id : Nat} (h : Q .normal e w) : aCK id Q (.exit id) e w := by simp only [aCK, if_true]; exact h
theorem aLA {id id' : Nat} (hne : (Nat.beq id' id) = false) (h : Q (.exit id') e w) : aCK id Q (.exit id') e w := by
 simp only [aCK]
 rw [if_neg (fun e => by rw [e] at hne; simp at hne)]
 exact h
end
theorem aV (h : Q .normal e w) : rT P n .skip e w Q := fun _ ha => wp_skip ⟨e, ha, h⟩
theorem aW (h : Q .ret e w) : rT P n .ret e w Q := fun _ ha => wp_ret ⟨e, ha, h⟩
theorem dD {id : Nat} (h : Q (.exit id) e w) : rT P n (.exit id) e w Q := fun _ ha => wp_exit ⟨e, ha, h⟩
theorem aGn {c : Operand} {x y : Code} {t : Bool} (hc : fV e c = some (.bool t)) (h : rT P n (if t then x else y) e w Q) : rT P n (.cond c x y) e w Q :=
 fun a ha => wp_cond (ha.knows c _ hc) (h a ha)
theorem aQ {c : Operand} {x y : Code} (hc : fV e c = some (.bool true)) (h : rT P n x e w Q) : rT P n (.cond c x y) e w Q := aGn hc h
theorem aM {c : Operand} {x y : Code} (hc : fV e c = some (.bool false)) (h : rT P n y e w Q) : rT P n (.cond c x y) e w Q := aGn hc h
theorem rU {c : Operand} {x y : Code} {t : Bool} (hc : fV e c = some (.bool t)) (h1 : t = true → rT P n x e w Q) (h2 : t = false → rT P n y e w Q) : rT P n (.cond c x y) e w Q := by
 cases t
 · exact aM hc (h2 rfl)
 · exact aQ hc (h1 rfl)
theorem aX {id : Nat} {c : Code} (h : rT P n c e w (aCK id Q)) : rT P n (.block id c) e w Q :=
 fun a ha => wp_block (wp_mono (h a ha) fun x a' w' ⟨e', hf, hQ⟩ => by
   cases x with
   | exit id' =>
     simp only [aCK] at hQ
     simp only [Exit.inBlock]
     split <;> rename_i hid <;> simp only [hid, if_true, if_false] at hQ <;> exact ⟨e', hf, hQ⟩
   | _ => exact ⟨e', hf, hQ⟩)
theorem dG {c : Code} {G : Type} (vals : G → List (Nat × Value)) (I : G → World → Prop) (μ : G → Nat) (g0 : G)
   (h0 : subO (vals g0) e) (hI : I g0 w)
   (round : ∀ g w, I g w → rT P n c (vals g) w (yR (fun e' w' => ∃ g', subO (vals g') e' ∧ I g' w' ∧ μ g' < μ g) Q)) : rT P n (.loop c) e w Q := by
 intro a ha b k cs
 have key : ∀ m g a w, μ g = m → Fits n (vals g) a → I g w →
     ∃ x a' w', (∃ e', Fits n e' a' ∧ Q x e' w') ∧ Arrives P (lone (b.at a (.code c :: .inLoop c :: k)) cs w) b k cs x a' w' := by
   intro m
   induction m using Nat.strongRecOn with
   | _ m ih =>
     intro g a w hm hf hi
     obtain ⟨x, a₁, w₁, ⟨e', hf', hq⟩, harr⟩ := round g w hi a hf b (.inLoop c :: k) cs
     cases x with
     | normal =>
       obtain ⟨g', hs', hi', hlt⟩ := hq
       obtain ⟨x₂, a₂, w₂, hq₂, harr₂⟩ := ih (μ g') (hm ▸ hlt) g' a₁ w₁ rfl (hf'.sub hs') hi'
       exact ⟨x₂, a₂, w₂, hq₂, .of_steps (Steps.trans harr (.one step_inLoop)) harr₂⟩
     | exit id => exact ⟨_, a₁, w₁, ⟨e', hf', hq⟩, .pass (x := .inLoop c) rfl (fun _ _ => .inl (by simp)) harr⟩
     | goto l => exact ⟨_, a₁, w₁, ⟨e', hf', hq⟩, .pass (x := .inLoop c) rfl (fun _ _ => .inl (by simp)) harr⟩
     | ret => exact ⟨_, a₁, w₁, ⟨e', hf', hq⟩, .pass (x := .inLoop c) rfl (fun _ _ => .inl (by simp)) harr⟩
     | panic ch => exact ⟨_, a₁, w₁, ⟨e', hf', hq⟩, .pass (x := .inLoop c) rfl (fun _ _ => .inl (by simp)) harr⟩
     | outgrown => exact ⟨_, a₁, w₁, ⟨e', hf', hq⟩, .pass (x := .inLoop c) rfl (fun _ _ => .inl (by simp)) harr⟩
 obtain ⟨x, a', w', hq, harr⟩ := key _ g0 a w rfl (ha.sub h0) hI
 exact ⟨x, a', w', hq, .of_steps (.one step_loop) harr⟩
theorem aN {id : Nat} {l : List Oper} (h : pQ P n l.toArray l e w (fun e' w' => Q .normal e' w')) : rT P n (.region id l.toArray false) e w Q :=
 fun a ha => wp_region_lit (h a _ ha fun e' _ _ hf hk => ⟨e', hf, hk⟩)
end
theorem aF {P : Program} {n : Nat} {e : List (Nat × Value)} {w : World} {Q : Exit → List (Nat × Value) → World → Prop} {id : Nat} {l : List Oper} {y : Code} (h : pQ P n l.toArray l e w (fun e' w' => rT P n y e' w' Q)) : rT P n (.seq (.region id l.toArray false) y) e w Q := aR (aN h)
def fin (P : Program) (n : Nat) (fn : Func) (R : Value → World → Prop) : Exit → List (Nat × Value) → World → Prop
 | .normal, e, w => ∀ a, Fits n e a → ∃ v, (results fn a.tmps).run P w = .ok v w ∧ R v w
 | .ret, e, w => ∀ a, Fits n e a → ∃ v, (results fn a.tmps).run P w = .ok v w ∧ R v w
 | _, _, _ => False
def fF (R : Value → World → Prop) : Ending → World → Prop
 | .returned v, w => R v w
 | _, _ => False
def uF : Nat → List Value → List (Nat × Value)
 | _, [] => []
 | i, v :: r => (i, v) :: uF (i + 1) r
theorem aAo (l : List Value) : ∀ i t v, lk (uF i l) t = some v → i ≤ t ∧ l[t - i]? = some v := by
 induction l with
 | nil => intro i t v h; simp [uF, lk] at h
 | cons x r ih =>
   intro i t v h
   simp only [uF] at h
   rw [rS] at h
   by_cases hit : i = t
   · subst hit; simp at h; simp [h]
   · rw [if_neg hit] at h
     obtain ⟨h1, h2⟩ := ih _ _ _ h
     refine ⟨by omega, ?_⟩
     have : t - i = (t - (i + 1)) + 1 := by omega
     rw [this]
     simpa using h2
theorem bJ {P : Program} {f : FuncId} {fn : Func} {c : Code} {n : Nat} {args : List Value} {w : World} {R : Value → World → Prop}
   (hf : P.funcs[f]? = some fn) (hN : fn.ntmps = n) (hc : fn.body = some c) (hn : Nat.ble args.length n = true)
   (h : rT P n c (uF 0 args) w (fin P n fn R)) : Calls P f args.toArray w (fF R) := by
 subst hN
 refine calls_of_wp hf hc ?_
 have hn' : args.length ≤ fn.ntmps := by simpa using hn
 refine wp_mono (h _ ⟨rfl, by simp; omega, fun t v ht => ?_⟩) ?_
 · obtain ⟨_, h2⟩ := aAo args 0 t v ht
   simp only [Nat.sub_zero] at h2
   have hlt : t < args.length := (List.getElem?_eq_some_iff.1 h2).1
   have h3 : args[t] = v := by rw [List.getElem?_eq_getElem hlt] at h2; simpa using h2
   simp [Array.getD_eq_getD_getElem?, Array.getElem?_append, hlt, h3]
 · rintro x a' w' ⟨e', hf', hq⟩
   cases x <;> simp only [fin] at hq <;> first
     | (obtain ⟨v, hr, hR⟩ := hq a' hf'; exact ⟨hf'.1, v, hr, hR⟩)
     | exact hq.elim
theorem aP {P : Program} {f : FuncId} {args : Array Value} {w : World} {R K : Value → World → Prop} (h : Calls P f args w (fF R)) (hk : ∀ v w', R v w' → K v w') : Calls P f args w (fF K) :=
 Calls.mono h fun e w' he => by cases e <;> first | exact hk _ _ he | exact he.elim
section
variable {P : Program} {n : Nat} {fn : Func} {e : List (Nat × Value)} {w : World} {R : Value → World → Prop}
theorem aL {t : Tmp} {v : Value} (hr : fn.results = #[.tmp t]) (hv : lk e t = some v) (h : R v w) : fin P n fn R .ret e w :=
 fun a ha => ⟨v, by rw [results_tmp hr, ha.2.2 t v hv], h⟩
theorem fD {t u : Tmp} {v x : Value} (hr : fn.results = #[.tmp t, .tmp u]) (hv : lk e t = some v) (hx : lk e u = some x) (h : R (.tuple #[v, x]) w) : fin P n fn R .ret e w :=
 fun a ha => ⟨_, by rw [results_tmp2 hr, ha.2.2 t v hv, ha.2.2 u x hx], h⟩
theorem dZ {t u s : Tmp} {v x y : Value} (hr : fn.results = #[.tmp t, .tmp u, .tmp s]) (hv : lk e t = some v) (hx : lk e u = some x) (hy : lk e s = some y) (h : R (.tuple #[v, x, y]) w) : fin P n fn R .ret e w :=
 fun a ha => ⟨.tuple #[v, x, y], by
   have h1 := ha.2.2 t v hv
   have h2 := ha.2.2 u x hx
   have h3 := ha.2.2 s y hy
   simp only [Array.getD_eq_getD_getElem?] at h1 h2 h3
   simp [results, hr, h1, h2, h3], h⟩
theorem aGo (hr : fn.results = #[]) (h : R (.tuple #[]) w) : fin P n fn R .normal e w :=
 fun _ _ => ⟨_, results_none hr _ _ _, h⟩
theorem aGp (hr : fn.results = #[]) (h : R (.tuple #[]) w) : fin P n fn R .ret e w :=
 fun _ _ => ⟨_, results_none hr _ _ _, h⟩
end
def OpX (P : Program) (ops : Array Oper) (o : Oper) (a : Act) (w : World) (K : Value → World → Prop) : Prop :=
 if Region.wanted o (yielded ops a.tmps) = true then upto P K ((execOp a.eval o).run P w) else K undef w
theorem OpX.mono {P : Program} {ops : Array Oper} {o : Oper} {a : Act} {w : World} {K K' : Value → World → Prop} (h : OpX P ops o a w K) (hk : ∀ v w, K v w → K' v w) : OpX P ops o a w K' := by
 unfold OpX at *
 split
 · rename_i hw; rw [if_pos hw] at h; exact aBo hk h
 · rename_i hw; rw [if_neg hw] at h; exact hk _ _ h
theorem OpX.put {P : Program} {ops : Array Oper} {o : Oper} {a : Act} {w : World} {K : Value → World → Prop} {d : Option Tmp} {v : Value} (hs : ∀ cs b, o.op ≠ .select cs b)
   (hd : ∀ t, d = some t → t ∉ o.looksAt ops) : OpX P ops o (a.put d v) w K ↔ OpX P ops o a w K := by
 unfold OpX
 rw [wanted_put o a d v hd, execOp_put o hs a d v hd]
theorem OpX.wpOp {P : Program} {ops : Array Oper} {i : Nat} {o : Oper} {a : Act} {w : World} {K : Value → World → Prop} {next : Act → World → Prop} {Q : Exit → Act → World → Prop}
   (hi : ops[i]? = some o) (h : OpX P ops o a w K) (hk : ∀ v w', K v w' → next (a.put o.dst v) w') : wpOp P ops Q i next a w := by
 unfold Go.wpOp
 simp only [hi]
 unfold OpX at h
 split
 · rename_i hw; rw [if_pos hw] at h; exact .inl (aAn h hk)
 · rename_i hw; rw [if_neg hw] at h; exact hk _ _ h
def rdy (ops : Array Oper) (m : Nat) (listed : Array Bool) : List Nat := (Region.ready .any ops listed).filter (· < m)
theorem kO {ops : Array Oper} {m i : Nat} {listed : Array Bool} : i ∈ rdy ops m listed ↔ i ∈ Region.ready .any ops listed ∧ i < m := by simp [rdy]
def J (P : Program) (ops : Array Oper) (m : Nat) (fin : Array Bool) (K : Act → World → Prop) : Nat → Array Bool → Act → (World → Prop) → Prop
 | 0, listed, a, S => listed = fin ∧ ∀ w, S w → K a w
 | fuel + 1, listed, a, S => rdy ops m listed ≠ [] ∧ ∀ i ∈ rdy ops m listed, ∀ o, ops[i]? = some o → ∃ F : Value → World → Prop, (∀ u, Up (F u)) ∧
     (∀ w, S w → OpX P ops o a w fun u w' => F u w' ∧ Ext w w') ∧ ∀ u, J P ops m fin K fuel (listed.setIfInBounds i true) (a.put o.dst u) (fun w => S w ∧ F u w)
section
variable {P : Program} {ops : Array Oper} {m : Nat} {fin : Array Bool} {K : Act → World → Prop}
theorem aEO {S : World → Prop} : ∀ (fuel : Nat) (listed : Array Bool) (a a' : Act) (S' : World → Prop), J P ops m fin K fuel listed a S → (∀ w, ¬ S' w) → J P ops m fin K fuel listed a' S' := by
 intro fuel
 induction fuel generalizing S with
 | zero => intro listed a a' S' h hn; exact ⟨h.1, fun w hw => (hn w hw).elim⟩
 | succ fuel ih =>
   intro listed a a' S' h hn
   refine ⟨h.1, fun i hi o ho => ⟨fun _ _ => False, fun _ _ _ h _ => h, fun w hw => (hn w hw).elim, fun u => ?_⟩⟩
   obtain ⟨F, _, _, hJ⟩ := h.2 i hi o ho
   exact ih _ _ _ _ (hJ undef) (fun w hw => hw.2)
theorem aEP {i : Nat} {oi : Oper} {v : Value} (hi : ops[i]? = some oi) (hsel : ∀ (j : Nat) (o : Oper) cs b, ops[j]? = some o → o.op ≠ .select cs b)
   (hfin : ∀ j, j < m → fin.getD j true = true) :
   ∀ (fuel : Nat) (listed : Array Bool) (a : Act) (S : World → Prop),
     (∀ j oj, ops[j]? = some oj → j ≠ i → listed.getD j true = false → (∀ e ∈ oj.after, Region.binds .any e = true → e.on ≠ i) → oi.apart ops oj = true) →
     i ∈ rdy ops m listed → Up S → (∀ w, S w → OpX P ops oi a w fun u w' => u = v ∧ Ext w w') →
     J P ops m fin K fuel (listed.setIfInBounds i true) (a.put oi.dst v) S → J P ops m fin K (fuel + 1) listed a S := by
 have here : ∀ (fuel : Nat) (listed : Array Bool) (a : Act) (S : World → Prop), (∀ w, S w → OpX P ops oi a w fun u w' => u = v ∧ Ext w w') →
     J P ops m fin K fuel (listed.setIfInBounds i true) (a.put oi.dst v) S →
     ∃ F : Value → World → Prop, (∀ u, Up (F u)) ∧ (∀ w, S w → OpX P ops oi a w fun u w' => F u w' ∧ Ext w w') ∧
       ∀ u, J P ops m fin K fuel (listed.setIfInBounds i true) (a.put oi.dst u) (fun w => S w ∧ F u w) := by
   intro fuel listed a S hy H
   refine ⟨fun u _ => u = v, fun u => Up.pure _, hy, fun u => ?_⟩
   by_cases huv : u = v
   · subst huv; simpa using H
   · exact aEO _ _ _ _ _ H (fun w hw => huv hw.2)
 intro fuel
 induction fuel with
 | zero =>
   intro listed a S _ hr hS hy H
   refine ⟨fun h => (by rw [h] at hr; cases hr), fun j hj o ho => ?_⟩
   by_cases hji : j = i
   · subst hji
     obtain rfl : o = oi := by rw [hi] at ho; injection ho with ho; exact ho.symm
     exact here 0 listed a S hy H
   · exfalso
     obtain ⟨hj1, hj2⟩ := kO.1 hj
     have h1 := (mem_ready.1 (ready_mono hj1 hji)).1
     rw [H.1, hfin j hj2] at h1
     cases h1
 | succ fuel ih =>
   intro listed a S hfree hr hS hy H
   refine ⟨fun h => (by rw [h] at hr; cases hr), fun j hj oj hoj => ?_⟩
   by_cases hji : j = i
   · subst hji
     obtain rfl : oj = oi := by rw [hi] at hoj; injection hoj with ho; exact ho.symm
     exact here _ listed a S hy H
   · obtain ⟨hj1, hj2⟩ := kO.1 hj
     obtain ⟨hi1, hi2⟩ := kO.1 hr
     obtain ⟨F, hF, hex, hJ⟩ := H.2 j (kO.2 ⟨ready_mono hj1 hji, hj2⟩) oj hoj
     obtain ⟨hjun, oj', hoj', hall⟩ := mem_ready.1 hj1
     obtain rfl : oj' = oj := by rw [hoj] at hoj'; injection hoj' with ho; exact ho.symm
     have hnot : ∀ e ∈ oj'.after, Region.binds .any e = true → e.on ≠ i := fun e he hb heq => by
       have h1 := hall e he hb
       have h0 := (mem_ready.1 hi1).1
       rw [heq] at h1
       rcases Nat.lt_or_ge i listed.size with h' | h'
       · simp [h'] at h0 h1; rw [h0] at h1; cases h1
       · simp [Array.getElem?_eq_none h'] at h1
     have hap := hfree j oj' hoj hji hjun hnot
     obtain ⟨ha1, ha2, ha3⟩ := Oper.apart_spec hap
     refine ⟨F, hF, fun w hw => (OpX.put (fun cs b => hsel j oj' cs b hoj) ha1).1 (hex w hw), fun u => ih _ _ _ ?_ (kO.2 ⟨ready_mono hi1 (Ne.symm hji), hi2⟩) (Up.and hS (hF u)) (fun w hw => (OpX.put (fun cs b => hsel i oi cs b hi) ha3).2 (hy w hw.1)) ?_⟩
     · intro k ok hk hki hun hno
       refine hfree k ok hk hki ?_ hno
       by_cases hjk : j = k
       · subst hjk; exact hjun
       · rw [getD_set_ne true hjk] at hun; exact hun
     · rw [Array.setIfInBounds_comm _ _ hji, ← Act.put_comm a v u ha2]
       exact hJ u
def Closed (ops : Array Oper) (listed : Array Bool) : Prop := ∀ k ok, ops[k]? = some ok → listed.getD k false = true → ∀ e ∈ ok.after, Region.binds .any e = true → listed.getD e.on false = true
theorem Closed.step {listed : Array Bool} {i : Nat} (h : Closed ops listed) (hi : i ∈ Region.ready .any ops listed) : Closed ops (listed.setIfInBounds i true) := by
 intro k ok hk hl e he hb
 obtain ⟨_, oi, hoi, hedge⟩ := mem_ready.1 hi
 by_cases hki : i = k
 · subst hki
   obtain rfl : oi = ok := by rw [hk] at hoi; injection hoi with ho; exact ho.symm
   exact getD_set_true (hedge e he hb)
 · rw [getD_set_ne false hki] at hl
   exact getD_set_true (h k ok hk hl e he hb)
theorem aIM {Q : Exit → Act → World → Prop} (hm : m ≤ ops.size) (htail : ∀ listed, Closed ops listed → (∃ k, k < m ∧ listed.getD k true = false) → ∀ j, m ≤ j → j ∉ Region.ready .any ops listed)
   (hK : ∀ a w, K a w → wpAny P .any ops Q (ops.size - m) fin a w) :
   ∀ (fuel : Nat) (listed : Array Bool) (a : Act) (S : World → Prop) (w : World), Closed ops listed → Up S → J P ops m fin K fuel listed a S → S w → wpAny P .any ops Q (fuel + (ops.size - m)) listed a w := by
 intro fuel
 induction fuel with
 | zero =>
   intro listed a S w _ _ h hw
   obtain ⟨rfl, h2⟩ := h
   rw [Nat.zero_add]
   exact hK _ _ (h2 w hw)
 | succ fuel ih =>
   intro listed a S w hcl hS h hw
   obtain ⟨hne, hall⟩ := h
   obtain ⟨k, hk⟩ := List.exists_mem_of_ne_nil _ hne
   obtain ⟨hk1, hk2⟩ := kO.1 hk
   have hkun := (mem_ready.1 hk1).1
   rw [show fuel + 1 + (ops.size - m) = (fuel + (ops.size - m)) + 1 by omega]
   refine ⟨fun h0 => (by rw [h0] at hk1; cases hk1), fun i hi => ?_⟩
   obtain ⟨hiun, oi, hoi, hedge⟩ := mem_ready.1 hi
   have him : i < m := by
     rcases Nat.lt_or_ge i m with h | h
     · exact h
     · exact absurd hi (htail listed hcl ⟨k, hk2, hkun⟩ i h)
   obtain ⟨F, hF, hex, hJ⟩ := hall i (kO.2 ⟨hi, him⟩) oi hoi
   exact OpX.wpOp hoi (hex w hw) fun v w' ⟨hf, hx⟩ => ih _ _ _ _ (hcl.step hi) (Up.and hS (hF v)) (hJ v) ⟨hS _ _ hw hx, hf⟩
end
def aEQ (ops : Array Oper) (k i : Nat) : Bool := match ops[k]? with
 | some ok => ok.after.any fun e => Region.binds .any e && Nat.beq e.on i
 | none => false
def aER (ops : Array Oper) (m : Nat) : Bool :=
 Region.noSelect ops && Nat.ble m ops.size && (List.range m).all fun i =>
   ((List.range ops.size).all fun j => Nat.blt j m || aEQ ops j i) || (List.range m).any fun k => Nat.blt i k && aEQ ops k i
def nQ (ops : Array Oper) (m : Nat) : Array Bool := ((List.range ops.size).map fun j => Nat.blt j m).toArray
theorem aAp {ops : Array Oper} {k i : Nat} (h : aEQ ops k i = true) : ∃ ok, ops[k]? = some ok ∧ ∃ e ∈ ok.after, Region.binds .any e = true ∧ e.on = i := by
 unfold aEQ at h
 split at h
 · rename_i ok hok
   obtain ⟨e, he, hb⟩ := Array.any_eq_true'.1 h
   simp only [Bool.and_eq_true] at hb
   exact ⟨ok, hok, e, he, hb.1, Nat.eq_of_beq_eq_true hb.2⟩
 · cases h
theorem aES {l : Array Bool} {i : Nat} (h : l.getD i true = false) : l.getD i false = false := by
 simp only [Array.getD_eq_getD_getElem?] at *
 cases hh : l[i]? <;> simp_all
theorem aAq {ops : Array Oper} {m : Nat} (h : aER ops m = true) : Region.noSelect ops = true ∧ m ≤ ops.size ∧
   ∀ listed, Closed ops listed → (∃ k, k < m ∧ listed.getD k true = false) → ∀ j, m ≤ j → j ∉ Region.ready .any ops listed := by
 simp only [aER, Bool.and_eq_true, List.all_eq_true, List.mem_range, Bool.or_eq_true, List.any_eq_true] at h
 obtain ⟨⟨h1, h2⟩, h3⟩ := h
 refine ⟨h1, Nat.le_of_ble_eq_true h2, fun listed hcl hex j hmj hj => ?_⟩
 obtain ⟨hjun, oj, hoj, hedge⟩ := mem_ready.1 hj
 have hjlt : j < ops.size := (Array.getElem?_eq_some_iff.1 hoj).1
 -- the last below m that is not listed
 have key : ∀ d k, k < m → m - k ≤ d → listed.getD k true = false → False := by
   intro d
   induction d with
   | zero => intro k hk hd _; omega
   | succ d ih =>
     intro k hk hd hun
     rcases h3 k hk with hA | ⟨k', hk', hB⟩
     · have h4 := hA j hjlt
       rcases h4 with h4 | h4
       · have : j < m := by simpa using h4
         omega
       · obtain ⟨oj', hoj', e, he, hb, hon⟩ := aAp h4
         obtain rfl : oj' = oj := by rw [hoj] at hoj'; injection hoj' with ho; exact ho.symm
         have h5 := hedge e he hb
         rw [hon, aES hun] at h5
         cases h5
     · have hlt : k < k' := by simpa using hB.1
       obtain ⟨ok, hok, e, he, hb, hon⟩ := aAp hB.2
       refine ih k' hk' (by omega) ?_
       cases hl : listed.getD k' true with
       | false => rfl
       | true =>
         exfalso
         by_cases hin : k' < listed.size
         · have h6 : listed.getD k' false = true := by
             simp only [Array.getD_eq_getD_getElem?, Array.getElem?_eq_getElem hin] at hl ⊢
             exact hl
           have h5 := hcl k' ok hok h6 e he hb
           rw [hon, aES hun] at h5
           cases h5
         · -- beyond the array nothing is ready to be listed: the list is as long as the region in every use
           by_cases hin2 : k < listed.size
           · have hjs : ¬ j < listed.size := by omega
             simp [Array.getElem?_eq_none (Nat.le_of_not_lt hjs)] at hjun
           · simp [Array.getElem?_eq_none (Nat.le_of_not_lt hin2)] at hun
 obtain ⟨k, hk, hun⟩ := hex
 exact key (m - k) k hk (Nat.le_refl _) hun
theorem rV {ops : Array Oper} {m : Nat} (j : Nat) (hj : j < m) : (nQ ops m).getD j true = true := by
 simp only [nQ, Array.getD_eq_getD_getElem?, List.getElem?_toArray, List.getElem?_map]
 by_cases h : j < ops.size
 · simp [List.getElem?_range h, hj]
 · simp [List.getElem?_eq_none (l := List.range ops.size) (by simpa using h)]
def aIN (P : Program) (n : Nat) (ops : Array Oper) (Q : Exit → Act → World → Prop) (m : Nat) (a : Act) (w : World) : Prop := wpAny P .any ops Q (ops.size - m) (nQ ops m) a w
def JE (P : Program) (n : Nat) (ops : Array Oper) (m : Nat) (K : Act → World → Prop) (fuel : Nat) (listed : Array Bool) (e : List (Nat × Value)) (S : World → Prop) : Prop :=
 ∀ a, Fits n e a → J P ops m (nQ ops m) K fuel listed a S
def aAr : Value → Bool → Bool
 | .bool c, b => c == b
 | _, _ => false
def vJ (ops : Array Oper) (m : Nat) (listed : Array Bool) (i : Nat) : Bool := Region.free .any ops listed i && (rdy ops m listed).contains i
section
variable {P : Program} {n : Nat} {ops : Array Oper} {m : Nat} {K : Act → World → Prop} {fuel : Nat} {listed listed' : Array Bool} {e : List (Nat × Value)} {S : World → Prop}
theorem OpWp.opX {op : Op} {ty : TypeId} {dst : Option Tmp} {pos : String} {af : Array Edge} {a : Act} {w : World} {R : Value → World → Prop} (ha : Fits n e a) (h : OpWp P e op ty w R) : OpX P ops ⟨dst, op, ty, pos, af, none⟩ a w R := by
 unfold OpX
 rw [if_pos (by simp [Region.wanted])]
 exact h a.eval dst pos af none ha.knows
theorem jO (i : Nat) {dst : Option Tmp} {op : Op} {ty : TypeId} {pos : String} {af : Array Edge} (v : Value) (hi : ops[i]? = some ⟨dst, op, ty, pos, af, none⟩) (hs : Region.noSelect ops = true) (hd : iT n dst = true)
   (ht : vJ ops m listed i = true) (hl : listed.setIfInBounds i true = listed') (hS : Up S) (hy : ∀ w, S w → OpWp P e op ty w fun u w' => u = v ∧ Ext w w')
   (h : JE P n ops m K fuel listed' (kK e dst v) S) : JE P n ops m K (fuel + 1) listed e S := fun a ha => by
 simp only [vJ, Bool.and_eq_true] at ht
 refine aEP hi (Region.noSelect_spec hs) (fun j hj => rV j hj) fuel listed a S (Region.free_spec hi ht.1) (by simpa using ht.2) hS (fun w hw => (hy w hw).opX ha) ?_
 rw [hl]
 exact h _ (ha.put dst v hd)
theorem lT {n : Nat} : ∀ p q : Nat, Value.slice (some ⟨p, 0, none⟩) n n = Value.slice (some ⟨q, 0, none⟩) n n → p = q := fun a b h => by
 simpa using h
theorem zX : ∀ p q : Nat, Value.pointer (some ⟨p, 0, none⟩) = Value.pointer (some ⟨q, 0, none⟩) → p = q := fun a b h => by
 simpa using h
def aCM (P : Program) (e : List (Nat × Value)) (op : Op) (ty : TypeId) (S : World → Prop) {α : Type} (val : α → Value) (F : α → World → Prop) : Prop :=
 (∀ p q, val p = val q → p = q) ∧ (∀ p, Up (F p)) ∧ ∀ w, S w → OpWp P e op ty w fun u w' => ∃ p, u = val p ∧ F p w' ∧ Ext w w'
theorem aBT {α : Type} {i : Nat} {dst : Option Tmp} {op : Op} {ty : TypeId} {pos : String} {af : Array Edge} {val : α → Value} {F : α → World → Prop} (p0 : α) (hd : iT n dst = true) (hl : listed.setIfInBounds i true = listed') (ho : aCM P e op ty S val F)
   (h : ∀ p, JE P n ops m K fuel listed' (kK e dst (val p)) (fun w => S w ∧ F p w)) (a : Act) (ha : Fits n e a) :
   ∃ G : Value → World → Prop, (∀ u, Up (G u)) ∧ (∀ w, S w → OpX P ops ⟨dst, op, ty, pos, af, none⟩ a w fun u w' => G u w' ∧ Ext w w') ∧ ∀ u, J P ops m (nQ ops m) K fuel (listed.setIfInBounds i true) (a.put dst u) (fun w => S w ∧ G u w) := by
 obtain ⟨hinj, hF, hy⟩ := ho
 refine ⟨fun u w => ∃ p, u = val p ∧ F p w, fun u w w' ⟨p, hp, hf⟩ hx => ⟨p, hp, hF p w w' hf hx⟩, fun w hw => OpX.mono ((hy w hw).opX ha) fun u w' ⟨p, hp, hf, hx⟩ => ⟨⟨p, hp, hf⟩, hx⟩, fun u => ?_⟩
 rw [hl]
 by_cases hu : ∃ p, u = val p
 · obtain ⟨p, rfl⟩ := hu
   have := h p _ (ha.put dst (val p) hd)
   have hS : (fun w => S w ∧ F p w) = (fun w => S w ∧ ∃ q, val p = val q ∧ F q w) := by
     funext w
     refine propext ⟨fun ⟨h1, h2⟩ => ⟨h1, p, rfl, h2⟩, fun ⟨h1, q, hq, h2⟩ => ⟨h1, ?_⟩⟩
     rw [hinj _ _ hq]; exact h2
   rw [hS] at this
   exact this
 · exact aEO _ _ _ _ _ (h p0 _ (ha.put dst (val p0) hd)) fun w ⟨_, p, hp, _⟩ => hu ⟨p, hp⟩
theorem aIO {α : Type} (i : Nat) {dst : Option Tmp} {op : Op} {ty : TypeId} {pos : String} {af : Array Edge} (val : α → Value) (F : α → World → Prop) (p0 : α) (hi : ops[i]? = some ⟨dst, op, ty, pos, af, none⟩) (hd : iT n dst = true)
   (hr : rdy ops m listed = [i]) (hl : listed.setIfInBounds i true = listed') (ho : aCM P e op ty S val F)
   (h : ∀ p, JE P n ops m K fuel listed' (kK e dst (val p)) (fun w => S w ∧ F p w)) : JE P n ops m K (fuel + 1) listed e S := fun a ha => by
 refine ⟨by rw [hr]; simp, fun j hj o hoj => ?_⟩
 rw [hr] at hj
 obtain rfl : j = i := by simpa using hj
 obtain rfl : ⟨dst, op, ty, pos, af, none⟩ = o := by rw [hi] at hoj; injection hoj
 exact aBT p0 hd hl ho h a ha
theorem aJh {α β : Type} (i k : Nat) {listed'' : Array Bool} {dst : Option Tmp} {op : Op} {ty : TypeId} {pos : String} {af : Array Edge} {dst2 : Option Tmp} {op2 : Op} {ty2 : TypeId} {pos2 : String} {af2 : Array Edge}
   (val : α → Value) (F : α → World → Prop) (p0 : α) (val2 : β → Value) (F2 : β → World → Prop) (q0 : β)
   (hi : ops[i]? = some ⟨dst, op, ty, pos, af, none⟩) (hk : ops[k]? = some ⟨dst2, op2, ty2, pos2, af2, none⟩) (hd : iT n dst = true) (hd2 : iT n dst2 = true)
   (hr : rdy ops m listed = [i, k]) (hl : listed.setIfInBounds i true = listed') (hl2 : listed.setIfInBounds k true = listed'') (ho : aCM P e op ty S val F) (ho2 : aCM P e op2 ty2 S val2 F2)
   (h : ∀ p, JE P n ops m K fuel listed' (kK e dst (val p)) (fun w => S w ∧ F p w)) (h2 : ∀ p, JE P n ops m K fuel listed'' (kK e dst2 (val2 p)) (fun w => S w ∧ F2 p w)) : JE P n ops m K (fuel + 1) listed e S := fun a ha => by
 refine ⟨by rw [hr]; simp, fun j hj o hoj => ?_⟩
 rw [hr] at hj
 simp only [List.mem_cons, List.not_mem_nil, or_false] at hj
 rcases hj with rfl | rfl
 · obtain rfl : ⟨dst, op, ty, pos, af, none⟩ = o := by rw [hi] at hoj; injection hoj
   exact aBT p0 hd hl ho h a ha
 · obtain rfl : ⟨dst2, op2, ty2, pos2, af2, none⟩ = o := by rw [hk] at hoj; injection hoj
   exact aBT q0 hd2 hl2 ho2 h2 a ha
theorem aBU (hl : listed = nQ ops m) (h : ∀ w, S w → ∀ a, Fits n e a → K a w) : JE P n ops m K 0 listed e S := fun a ha => ⟨hl, fun w hw => h w hw a ha⟩
end
def OpG (P : Program) (ops : Array Oper) (e : List (Nat × Value)) (o : Oper) (w : World) (K : Value → World → Prop) : Prop :=
 match o.guard with
 | none => OpWp P e o.op o.type w K
 | some (j, b) => match (ops[j]?).bind (·.dst) with
   | none => False
   | some d => match lk e d with
     | none => False
     | some u => if aAr u b = true then OpWp P e o.op o.type w K else K undef w
theorem OpG.opX {P : Program} {n : Nat} {ops : Array Oper} {e : List (Nat × Value)} {o : Oper} {a : Act} {w : World} {R : Value → World → Prop} (ha : Fits n e a) (h : OpG P ops e o w R) : OpX P ops o a w R := by
 obtain ⟨dst, op, ty, pos, af, g⟩ := o
 unfold OpX
 unfold OpG at h
 cases g with
 | none =>
   rw [if_pos (by simp [Region.wanted])]
   exact h a.eval dst pos af none ha.knows
 | some jb =>
   obtain ⟨j, b⟩ := jb
   simp only at h
   cases hj : (ops[j]?).bind (·.dst) with
   | none => simp [hj] at h
   | some d =>
     simp only [hj] at h
     cases hu : lk e d with
     | none => simp [hu] at h
     | some u =>
       simp only [hu] at h
       have h1 := ha.2.2 d _ hu
       simp only [Array.getD_eq_getD_getElem?] at h1
       by_cases hs : aAr u b = true
       · rw [if_pos hs] at h
         rw [if_pos]
         · exact h a.eval dst pos af _ ha.knows
         · simp only [Region.wanted, yielded, hj]
           cases ht : a.tmps[d]? with
           | none => rw [ht] at h1; simp [undef] at h1; subst h1; simp [aAr] at hs
           | some x => rw [ht] at h1; simp at h1; subst h1; cases x <;> simp_all [aAr]
       · rw [if_neg hs] at h
         rw [if_neg]
         · exact h
         · simp only [Region.wanted, yielded, hj]
           cases ht : a.tmps[d]? with
           | none => simp [ht]
           | some x => rw [ht] at h1; simp at h1; subst h1; cases x <;> simp_all [aAr]
def mM (P : Program) (n : Nat) (ops : Array Oper) (K : List (Nat × Value) → World → Prop) : List Oper → List Bool → List (Nat × Value) → (World → Prop) → Prop
 | o :: l, false :: fl, e, S => iT n o.dst = true ∧ ∃ v, (∀ w, S w → OpG P ops e o w fun u w' => u = v ∧ Ext w w') ∧ mM P n ops K l fl (kK e o.dst v) S
 | o :: l, true :: fl, e, S => iT n o.dst = true ∧ ∃ F : Value → World → Prop, (∀ u, Up (F u)) ∧ (∀ w, S w → OpG P ops e o w fun u w' => F u w' ∧ Ext w w') ∧ ∀ u, mM P n ops K l fl (kK e o.dst u) (fun w => S w ∧ F u w)
 | [], [], e, S => ∀ w, S w → K e w
 | _, _, _, _ => False
def aAs (ops : Array Oper) (m : Nat) : List Bool → Nat → Array Bool → Bool
 | [], _, listed => listed == nQ ops m
 | false :: fl, k, listed => vJ ops m listed k && aAs ops m fl (k + 1) (listed.setIfInBounds k true)
 | true :: fl, k, listed => (rdy ops m listed == [k]) && aAs ops m fl (k + 1) (listed.setIfInBounds k true)
theorem aBV {P : Program} {n : Nat} {ops : Array Oper} {m : Nat} {K : List (Nat × Value) → World → Prop} {K' : Act → World → Prop} (hs : Region.noSelect ops = true) (hK : ∀ e w a, Fits n e a → K e w → K' a w) :
   ∀ (l : List Oper) (fl : List Bool) (k : Nat) (listed : Array Bool) (e : List (Nat × Value)) (S : World → Prop), (∀ j, j < fl.length → l[j]? = ops[k + j]?) → Up S → aAs ops m fl k listed = true →
     mM P n ops K l fl e S → JE P n ops m K' fl.length listed e S
 | [], [], k, listed, e, S, hl, hS, hB, h => by
   simp only [aAs, beq_iff_eq] at hB
   exact aBU hB fun w hw a ha => hK e w a ha (h w hw)
 | o :: l, false :: fl, k, listed, e, S, hl, hS, hB, h => by
   have h0 : ops[k]? = some o := by simpa using (hl 0 (by simp)).symm
   simp only [aAs, Bool.and_eq_true, vJ] at hB
   obtain ⟨hd, v, hv, hr⟩ := h
   intro a ha
   exact aEP h0 (Region.noSelect_spec hs) (fun j hj => rV j hj) fl.length listed a S (Region.free_spec h0 hB.1.1) (by simpa using hB.1.2) hS (fun w hw => (hv w hw).opX ha) (aBV hs hK l fl (k + 1) _ _ S (fun j hj => by have := hl (j + 1) (by simpa using hj); simpa [Nat.add_assoc, Nat.add_comm 1 j] using this) hS hB.2 hr _ (ha.put o.dst v hd))
 | o :: l, true :: fl, k, listed, e, S, hl, hS, hB, h => by
   have h0 : ops[k]? = some o := by simpa using (hl 0 (by simp)).symm
   simp only [aAs, Bool.and_eq_true, beq_iff_eq] at hB
   obtain ⟨hd, F, hF, hv, hr⟩ := h
   intro a ha
   refine ⟨by rw [hB.1]; simp, fun j hj o' ho => ?_⟩
   rw [hB.1] at hj
   obtain rfl : j = k := by simpa using hj
   obtain rfl : o = o' := by rw [h0] at ho; injection ho
   exact ⟨F, hF, fun w hw => (hv w hw).opX ha, fun u =>
     aBV hs hK l fl (j + 1) _ _ _ (fun i hi => by have := hl (i + 1) (by simpa using hi); simpa [Nat.add_assoc, Nat.add_comm 1 i] using this) (Up.and hS (hF u)) hB.2 (hr u) _ (ha.put o.dst u hd)⟩
 | [], false :: fl, _, _, _, _, _, _, _, h => h.elim
 | [], true :: fl, _, _, _, _, _, _, _, h => h.elim
 | o :: l, [], _, _, _, _, _, _, _, h => h.elim
def aFm (ops : Array Oper) : Nat → Nat → Array Bool → Bool
 | 0, _, listed => (Region.ready .any ops listed).isEmpty
 | f + 1, k, listed => (Region.ready .any ops listed == [k]) && aFm ops f (k + 1) (listed.setIfInBounds k true)
theorem aBW {P : Program} {ops : Array Oper} {Q : Exit → Act → World → Prop} : ∀ (l : List Oper) (k : Nat) (listed : Array Bool) (a : Act) (w : World), (∀ j, l[j]? = ops[k + j]?) → aFm ops l.length k listed = true →
   wpList P ops Q l a w → wpAny P .any ops Q l.length listed a w
 | [], k, listed, a, w, hl, hB, h => ⟨by simpa [aFm] using hB, h⟩
 | o :: l, k, listed, a, w, hl, hB, h => by
   have h0 : ops[k]? = some o := by simpa using (hl 0).symm
   simp only [List.length_cons, aFm, Bool.and_eq_true, beq_iff_eq] at hB
   refine ⟨fun h1 => (by rw [hB.1] at h1; cases h1), fun i hi => ?_⟩
   rw [hB.1] at hi
   obtain rfl : i = k := by simpa using hi
   have hw : wpOp P ops Q i (wpList P ops Q l) a w := by
     unfold wpOp
     simp only [h0]
     unfold wpList at h
     exact h
   exact wpOp_mono (fun a' w' h' => aBW l (i + 1) _ a' w' (fun j => by have := hl (j + 1); simpa [Nat.add_assoc, Nat.add_comm 1 j] using this) hB.2 h') hw
def aGq (ops : Array Oper) (fl : List Bool) : Bool :=
 aER ops fl.length && aAs ops fl.length fl 0 (Array.replicate ops.size false) && aFm ops (ops.size - fl.length) fl.length (nQ ops fl.length)
theorem aBX {P : Program} {n : Nat} {id : Nat} {l : List Oper} {e : List (Nat × Value)} {w : World} {Q : Exit → List (Nat × Value) → World → Prop} (fl : List Bool)
   (hx : P.follows .mixedOrders = true) (hb : aGq l.toArray fl = true)
   (h : mM P n l.toArray (fun e' w' => pQ P n l.toArray (l.drop fl.length) e' w' (fun e' w' => Q .normal e' w')) (l.take fl.length) fl e (Ext w)) : rT P n (.region id l.toArray true) e w Q := fun a ha => by
 simp only [aGq, Bool.and_eq_true] at hb
 obtain ⟨⟨hb1, hb2⟩, hb3⟩ := hb
 obtain ⟨h1, h2, h3⟩ := aAq hb1
 simp only [List.size_toArray] at h2 hb2 hb3
 refine wp_region_any hx ?_
 have hJ := aBV (P := P) (n := n) (K' := aIN P n l.toArray (fun x a' w' => ∃ e', Fits n e' a' ∧ Q x e' w') fl.length) h1 (fun e w a ha hk => ?_) (l.take fl.length) fl 0 _ e (Ext w) (fun j hj => ?_) (Up.ext w) hb2 h a ha
 · have := aIM (Q := fun x a' w' => ∃ e', Fits n e' a' ∧ Q x e' w') (by simpa using h2) h3 (fun a w hk => hk) fl.length _ a (Ext w) _ (fun k ok hk hl => by simp [Array.getD_eq_getD_getElem?, Array.getElem?_replicate] at hl; split at hl <;> simp at hl) (Up.ext w) hJ (Ext.drew w)
   rwa [show fl.length + (l.toArray.size - fl.length) = l.toArray.size by simp; omega] at this
 · have := aBW (P := P) (Q := fun x a' w' => ∃ e', Fits n e' a' ∧ Q x e' w') (l.drop fl.length) fl.length (nQ l.toArray fl.length) a w (fun j => by simp) (by simpa using hb3) (hk a _ ha fun e' a' w' hf hq => ⟨e', hf, hq⟩)
   simpa [aIN] using this
 · simp only [Nat.zero_add, List.getElem?_toArray, List.getElem?_take]
   rw [if_pos hj]
theorem eK {P : Program} {n : Nat} {id : Nat} {l : List Oper} {e : List (Nat × Value)} {w : World} {Q : Exit → List (Nat × Value) → World → Prop} {y : Code} (fl : List Bool)
   (hx : P.follows .mixedOrders = true) (hb : aGq l.toArray fl = true)
   (h : mM P n l.toArray (fun e' w' => pQ P n l.toArray (l.drop fl.length) e' w' (fun e' w' => rT P n y e' w' Q)) (l.take fl.length) fl e (Ext w)) : rT P n (.seq (.region id l.toArray true) y) e w Q :=
 aR (aBX fl hx hb h)
theorem aJi {P : Program} {n : Nat} {id : Nat} {l : List Oper} {e : List (Nat × Value)} {w : World} {Q : Exit → List (Nat × Value) → World → Prop} {y : Code} (m : Nat)
   (hx : P.follows .mixedOrders = true) (hb : (aER l.toArray m && aFm l.toArray (l.toArray.size - m) m (nQ l.toArray m)) = true)
   (h : JE P n l.toArray m (fun a w => ∃ e', Fits n e' a ∧ pQ P n l.toArray (l.drop m) e' w (fun e' w' => rT P n y e' w' Q)) m (Array.replicate l.toArray.size false) e (Ext w)) : rT P n (.seq (.region id l.toArray true) y) e w Q := aR fun a ha => by
 simp only [Bool.and_eq_true] at hb
 obtain ⟨hb1, hb3⟩ := hb
 obtain ⟨h1, h2, h3⟩ := aAq hb1
 simp only [List.size_toArray] at h2 hb3
 refine wp_region_any hx ?_
 have := aIM (K := fun a w => ∃ e', Fits n e' a ∧ pQ P n l.toArray (l.drop m) e' w (fun e' w' => rT P n y e' w' Q)) (fin := nQ l.toArray m) (Q := fun x a' w' => ∃ e', Fits n e' a' ∧ yR (fun e' w' => rT P n y e' w' Q) Q x e' w') (by simpa using h2) h3 (fun a w ⟨e', hf, hk⟩ => by
   have := aBW (P := P) (Q := fun x a' w' => ∃ e', Fits n e' a' ∧ yR (fun e' w' => rT P n y e' w' Q) Q x e' w') (l.drop m) m (nQ l.toArray m) a w (fun j => by simp) (by simpa using hb3) (hk a _ hf fun e' a' w' hf' hq => ⟨e', hf', hq⟩)
   simpa using this) m _ a (Ext w) _ (fun k ok hk hl => by simp [Array.getD_eq_getD_getElem?, Array.getElem?_replicate] at hl; split at hl <;> simp at hl) (Up.ext w) (h a ha) (Ext.drew w)
 rwa [show m + (l.toArray.size - m) = l.toArray.size by simp; omega] at this
theorem vS {P : Program} {n : Nat} {ops : Array Oper} {K : List (Nat × Value) → World → Prop} : ∀ (l : List Oper) (fl : List Bool) (e e' : List (Nat × Value)) (S S' : World → Prop), mM P n ops K l fl e S → (∀ w, ¬ S' w) → mM P n ops K l fl e' S'
 | [], [], _, _, _, _, _, hn => fun w hw => (hn w hw).elim
 | o :: l, false :: fl, e, e', S, S', h, hn => ⟨h.1, undef, fun w hw => (hn w hw).elim, by
     obtain ⟨_, v, _, hr⟩ := h
     exact vS l fl _ _ S S' hr hn⟩
 | o :: l, true :: fl, e, e', S, S', h, hn => ⟨h.1, fun _ _ => False, fun _ _ _ h _ => h, fun w hw => (hn w hw).elim, fun u => by
     obtain ⟨_, F, _, _, hr⟩ := h
     exact vS l fl _ _ _ _ (hr undef) (fun w hw => hw.2)⟩
 | [], false :: fl, _, _, _, _, h, _ => h.elim
 | [], true :: fl, _, _, _, _, h, _ => h.elim
 | o :: l, [], _, _, _, _, h, _ => h.elim
section
variable {P : Program} {n : Nat} {ops : Array Oper} {K : List (Nat × Value) → World → Prop} {l : List Oper} {fl : List Bool} {e : List (Nat × Value)} {S : World → Prop}
theorem dX (h : ∀ w, S w → K e w) : mM P n ops K [] [] e S := h
theorem cO {dst : Option Tmp} {op : Op} {ty : TypeId} {pos : String} {af : Array Edge} {v : Value} (hd : iT n dst = true) (hy : ∀ w, S w → OpWp P e op ty w fun u w' => u = v ∧ Ext w w')
   (h : mM P n ops K l fl (kK e dst v) S) : mM P n ops K (⟨dst, op, ty, pos, af, none⟩ :: l) (false :: fl) e S := ⟨hd, v, hy, h⟩
theorem dQ {dst : Option Tmp} {op : Op} {ty : TypeId} {pos : String} {af : Array Edge} {j : Nat} {b : Bool} {d : Nat} {v : Value} (hj : (ops[j]?).bind (·.dst) = some d) (hb : lk e d = some (.bool b)) (hd : iT n dst = true) (hy : ∀ w, S w → OpWp P e op ty w fun u w' => u = v ∧ Ext w w')
   (h : mM P n ops K l fl (kK e dst v) S) : mM P n ops K (⟨dst, op, ty, pos, af, some (j, b)⟩ :: l) (false :: fl) e S :=
 ⟨hd, v, fun w hw => by simp only [OpG, hj, hb]; rw [if_pos (by cases b <;> rfl)]; exact hy w hw, h⟩
theorem dK {dst : Option Tmp} {op : Op} {ty : TypeId} {pos : String} {af : Array Edge} {j : Nat} {b : Bool} {d : Nat} {u : Value} (hj : (ops[j]?).bind (·.dst) = some d) (hb : lk e d = some u) (hu : aAr u b = false) (hd : iT n dst = true)
   (h : mM P n ops K l fl (kK e dst undef) S) : mM P n ops K (⟨dst, op, ty, pos, af, some (j, b)⟩ :: l) (false :: fl) e S :=
 ⟨hd, undef, fun w hw => by simp only [OpG, hj, hb]; rw [if_neg (by rw [hu]; simp)]; refine ⟨?_, Q7r w⟩; first | rfl | trivial, h⟩
theorem aDM {S' : World → Prop} (hSS : S = S') (h : mM P n ops K l fl e S) : mM P n ops K l fl e S' := hSS ▸ h
theorem aLB {α : Type} {dst : Option Tmp} {op : Op} {ty : TypeId} {pos : String} {af : Array Edge} (val : α → Value) (F : α → World → Prop) (p0 : α) (hinj : ∀ p q, val p = val q → p = q) (hd : iT n dst = true) (hF : ∀ p, Up (F p))
   (hy : ∀ w, S w → OpWp P e op ty w fun u w' => ∃ p, u = val p ∧ F p w' ∧ Ext w w')
   (h : ∀ p, mM P n ops K l fl (kK e dst (val p)) (fun w => S w ∧ F p w)) : mM P n ops K (⟨dst, op, ty, pos, af, none⟩ :: l) (true :: fl) e S := by
 refine ⟨hd, fun u w => ∃ p, u = val p ∧ F p w, fun u w w' ⟨p, hp, hf⟩ hx => ⟨p, hp, hF p w w' hf hx⟩, fun w hw => (hy w hw).mono fun u w' ⟨p, hp, hf, hx⟩ => ⟨⟨p, hp, hf⟩, hx⟩, fun u => ?_⟩
 by_cases hu : ∃ p, u = val p
 · obtain ⟨p, rfl⟩ := hu
   refine aDM ?_ (h p)
   funext w
   refine propext ⟨fun ⟨h1, h2⟩ => ⟨h1, p, rfl, h2⟩, fun ⟨h1, q, hq, h2⟩ => ⟨h1, ?_⟩⟩
   rw [hinj _ _ hq]; exact h2
 · exact vS _ _ _ _ _ _ (h p0) fun w ⟨_, p, hp, _⟩ => hu ⟨p, hp⟩
theorem zL {α : Type} {dst : Option Tmp} {op : Op} {ty : TypeId} {pos : String} {af : Array Edge} (val : α → Value) (F : α → World → Prop) (p0 : α) (hd : iT n dst = true) (ho : aCM P e op ty S val F)
   (h : ∀ p, mM P n ops K l fl (kK e dst (val p)) (fun w => S w ∧ F p w)) : mM P n ops K (⟨dst, op, ty, pos, af, none⟩ :: l) (true :: fl) e S :=
 aLB val F p0 ho.1 hd ho.2.1 ho.2.2 h
theorem uZ {dst : Option Tmp} {op : Op} {ty : TypeId} {pos : String} {af : Array Edge} {p : Prop} [Decidable p] (hd : iT n dst = true) (hy : ∀ w, S w → OpWp P e op ty w fun u w' => u = .bool (decide p) ∧ Ext w w')
   (h1 : p → mM P n ops K l fl (kK e dst (.bool true)) S) (h2 : ¬ p → mM P n ops K l fl (kK e dst (.bool false)) S) : mM P n ops K (⟨dst, op, ty, pos, af, none⟩ :: l) (false :: fl) e S := by
 refine cO hd hy ?_
 by_cases hp : p
 · rw [decide_eq_true hp]; exact h1 hp
 · rw [decide_eq_false hp]; exact h2 hp
theorem qN {dst : Option Tmp} {op : Op} {ty : TypeId} {pos : String} {af : Array Edge} {j : Nat} {b : Bool} {d : Nat} {p : Prop} [Decidable p] (hj : (ops[j]?).bind (·.dst) = some d) (hb : lk e d = some (.bool b)) (hd : iT n dst = true) (hy : ∀ w, S w → OpWp P e op ty w fun u w' => u = .bool (decide p) ∧ Ext w w')
   (h1 : p → mM P n ops K l fl (kK e dst (.bool true)) S) (h2 : ¬ p → mM P n ops K l fl (kK e dst (.bool false)) S) : mM P n ops K (⟨dst, op, ty, pos, af, some (j, b)⟩ :: l) (false :: fl) e S := by
 refine dQ hj hb hd hy ?_
 by_cases hp : p
 · rw [decide_eq_true hp]; exact h1 hp
 · rw [decide_eq_false hp]; exact h2 hp
end
end Go.Proofs.YtdoibplhbdkapaaGreatDoor
